/- Trees and their texts, as a walk goes through them: plain Lean. -/
import Derived.Test.YtlebgjcpidpgnaaPx0
import Derived.Test.YtlebgjcpidpgnaaHTree
import Derived.Test.YtlebgjcpidpgnaaHWalk
import Derived.Test.YtlebgjcpidpgnaaHLeaves
import Derived.Test.YtlebgjcpidpgnaaUTools
namespace Go.Proofs.Ytlebgjcpidpgnaa.Pure
open Go.RowKit Go.Proofs.Ytlebgjcpidpgnaa.P Go.Proofs.YtlebgjcpidpgnaaW.PrintWords Go.Proofs.YtlebgjcpidpgnaaW.PrintLast Go.Proofs.YtlebgjcpidpgnaaW.PrintMore
set_option linter.unusedVariables false
set_option linter.unusedSimpArgs false

def tl (r : ByteArray) : List UInt8 := r.data.toList
theorem tl_size (r : ByteArray) : r.size = (tl r).length := by cases r; rfl
theorem tl_inj {a b : ByteArray} (h : tl a = tl b) : a = b := by
  cases a; cases b
  simp [tl] at h
  rw [h]
theorem tl_drop (r : ByteArray) (n : Nat) : tl (r.extract n r.size) = (tl r).drop n := by
  simp only [tl, ByteArray.data_extract, Array.toList_extract, List.extract]
  rw [List.take_of_length_le]
  have := tl_size r
  rw [List.length_drop]
  unfold tl at this
  omega
theorem bt_zero {r : ByteArray} {c : UInt8} {t : List UInt8} (h : tl r = c :: t) : bt r 0 = c.toNat := by
  have hs : r.size = t.length + 1 := by rw [tl_size, h]; rfl
  have h0 : (0 : Int).toNat < r.size := by rw [hs]; simp
  have := (bt_at r 0 h0).symm
  rw [this]
  congr 2
  have e : r[(0:Int).toNat] = r.data.toList[0]'(by change 0 < (tl r).length; rw [h]; simp) := rfl
  rw [e]
  simp [show r.data.toList = c :: t from h]
theorem u8_eq {c : UInt8} {n : Nat} (hn : n < 256) : ((c.toNat : Int) = (n : Int)) ↔ c = UInt8.ofNat n := by
  constructor
  · intro h
    have : c.toNat = n := by omega
    rw [← this]
    simp
  · rintro rfl
    simp; omega
/-- A tree's shape. -/
inductive Sh where
  | leaf : Sh
  | two : Sh → Sh → Sh
def leavesT : Int → Sh → List Int
  | z, .leaf => [z]
  | z, .two a b => leavesT (z / 2) a ++ leavesT (z / 2) b
/-- The tree at a text's beginning. -/
def rdT : Nat → Int → List UInt8 → Option (Sh × List UInt8)
  | 0, z, t => some (.leaf, t)
  | n + 1, z, t => if mayT z ((n : Int) + 1) = true then (match t with
      | [] => none
      | c :: t => if c = 48 then some (.leaf, t) else if c = 49 then (rdT n (z / 2) t).bind fun a => (rdT n (z / 2) a.2).bind fun b => some (.two a.1 b.1, b.2) else none)
    else some (.leaf, t)
def encT : Nat → Int → Sh → List UInt8
  | 0, z, _ => []
  | n + 1, z, .leaf => if mayT z ((n : Int) + 1) = true then [48] else []
  | n + 1, z, .two a b => 49 :: (encT n (z / 2) a ++ encT n (z / 2) b)
def okT : Nat → Int → Sh → Prop
  | _, _, .leaf => True
  | 0, _, .two _ _ => False
  | n + 1, z, .two a b => mayT z ((n : Int) + 1) = true ∧ okT n (z / 2) a ∧ okT n (z / 2) b
theorem twoB_nil {r : ByteArray} {b : Bool} (h : tl r = []) : twoB r b = (false, { data := #[] }, true) := by
  unfold twoB
  rw [if_pos (.inl (by rw [tl_size, h]; rfl))]
theorem twoB_0 {r : ByteArray} {b : Bool} {t : List UInt8} (h : tl r = 48 :: t) : twoB r b = (false, r.extract 1 r.size, b) := by
  unfold twoB
  have e := bt_zero h
  rw [if_neg (by rw [e, tl_size, h]; simp), e]
  rfl
theorem twoB_1 {r : ByteArray} {b : Bool} {t : List UInt8} (h : tl r = 49 :: t) : twoB r b = (true, r.extract 1 r.size, b) := by
  unfold twoB
  have e := bt_zero h
  rw [if_neg (by rw [e, tl_size, h]; simp), e]
  rfl
theorem twoB_no {r : ByteArray} {b : Bool} {c : UInt8} {t : List UInt8} (h : tl r = c :: t) (h0 : c ≠ 48) (h1 : c ≠ 49) : twoB r b = (false, { data := #[] }, true) := by
  unfold twoB
  have e := bt_zero h
  have hh : bt r 0 ≠ 48 ∧ bt r 0 ≠ 49 := by
    rw [e]
    exact ⟨fun x => h0 ((u8_eq (n := 48) (by omega)).mp x), fun x => h1 ((u8_eq (n := 49) (by omega)).mp x)⟩
  rw [if_pos (.inr hh)]
theorem walkP_succ {σ : Type} (two leaf : ByteArray → Int → σ → Bool × σ) (n : Nat) (p : ByteArray) (z : Int) (s : σ) : walkP two leaf (n + 1) p z s = if mayT z ((n : Int) + 1) = true then
      (if (two p z s).1 = true then
        (if (walkP two leaf n (p ++ { data := #[48] }) (z / 2) (two p z s).2).1 = true then walkP two leaf n (p ++ { data := #[49] }) (z / 2) (walkP two leaf n (p ++ { data := #[48] }) (z / 2) (two p z s).2).2
        else (false, (walkP two leaf n (p ++ { data := #[48] }) (z / 2) (two p z s).2).2))
      else leaf p z (two p z s).2)
    else leaf p z s := rfl
/-- Once bad, bad. -/
theorem walk_bad : ∀ (n : Nat) (p : ByteArray) (z : Int) (l : List Int), ∃ l', walkP twoS leafS n p z ({ data := #[] }, true, l) = (true, { data := #[] }, true, l') := by
  intro n
  induction n with
  | zero => exact fun p z l => ⟨_, rfl⟩
  | succ n ih =>
    intro p z l
    rw [walkP_succ]
    have e : twoS p z ({ data := #[] }, true, l) = (false, { data := #[] }, true, l) := by
      unfold twoS
      simp only
      rw [twoB_nil rfl]
    rw [e]
    split
    · simp only
      rw [if_neg (by simp)]
      exact ⟨_, rfl⟩
    · exact ⟨_, rfl⟩
theorem walk_text : ∀ (n : Nat) (p : ByteArray) (z : Int) (r : ByteArray) (l : List Int),
    (∃ τ t r', rdT n z (tl r) = some (τ, t) ∧ tl r' = t ∧ walkP twoS leafS n p z (r, false, l) = (true, r', false, l ++ leavesT z τ)) ∨
    (rdT n z (tl r) = none ∧ ∃ l', walkP twoS leafS n p z (r, false, l) = (true, { data := #[] }, true, l')) := by
  intro n
  induction n with
  | zero => exact fun p z r l => .inl ⟨_, _, _, rfl, rfl, rfl⟩
  | succ n ih =>
    intro p z r l
    rw [walkP_succ]
    unfold rdT
    by_cases hm : mayT z ((n : Int) + 1) = true
    · rw [if_pos hm, if_pos hm, show twoS p z (r, false, l) = ((twoB r false).1, (twoB r false).2.1, (twoB r false).2.2, l) from rfl]
      simp only
      rcases ht : tl r with _ | ⟨c, t⟩
      · rw [twoB_nil ht]
        exact .inr ⟨rfl, _, rfl⟩
      · simp only
        have hd := tl_drop r 1
        rw [ht, List.drop_one, List.tail_cons] at hd
        by_cases h0 : c = 48
        · subst h0
          rw [twoB_0 ht, if_pos rfl]
          exact .inl ⟨_, _, _, rfl, hd, rfl⟩
        · by_cases h1 : c = 49
          · subst h1
            rw [twoB_1 ht, if_neg h0, if_pos rfl, if_pos rfl]
            generalize r.extract 1 r.size = r1 at hd
            simp only
            rw [← hd]
            rcases ih (p ++ { data := #[48] }) (z / 2) r1 l with ⟨τ1, t1, r2, e1, e2, e3⟩ | ⟨e1, l1, e3⟩
            · rw [e1, e3, if_pos rfl]
              subst e2
              simp only [Option.bind_some]
              rcases ih (p ++ { data := #[49] }) (z / 2) r2 (l ++ leavesT (z / 2) τ1) with ⟨τ2, t2, r3, f1, f2, f3⟩ | ⟨f1, l2, f3⟩
              · rw [f1, f3]
                exact .inl ⟨_, _, _, rfl, f2, by rw [leavesT, List.append_assoc]⟩
              · rw [f1, f3]
                exact .inr ⟨rfl, _, rfl⟩
            · rw [e1, e3, if_pos rfl]
              obtain ⟨l2, e4⟩ := walk_bad n (p ++ { data := #[49] }) (z / 2) l1
              rw [e4]
              exact .inr ⟨rfl, _, rfl⟩
          · rw [twoB_no ht h0 h1, if_neg h0, if_neg h1]
            exact .inr ⟨rfl, _, rfl⟩
    · rw [if_neg hm, if_neg hm]
      exact .inl ⟨_, _, _, rfl, rfl, rfl⟩
theorem mayT_pos {z n : Int} (h : mayT z n = true) : 32 ≤ z := by
  unfold mayT at h
  simp at h
  omega
/-- What is read is a tree's text and what is behind. -/
theorem rdT_enc : ∀ (n : Nat) (z : Int) (t t' : List UInt8) (τ : Sh), rdT n z t = some (τ, t') → t = encT n z τ ++ t' ∧ okT n z τ := by
  intro n
  induction n with
  | zero =>
    intro z t t' τ h
    obtain ⟨rfl, rfl⟩ : Sh.leaf = τ ∧ t = t' := by simpa [rdT] using h
    exact ⟨rfl, trivial⟩
  | succ n ih =>
    intro z t t' τ h
    unfold rdT at h
    by_cases hm : mayT z ((n : Int) + 1) = true
    · rw [if_pos hm] at h
      rcases t with _ | ⟨c, t⟩
      · cases h
      · simp only at h
        by_cases h0 : c = 48
        · rw [if_pos h0] at h
          obtain ⟨rfl, rfl⟩ : Sh.leaf = τ ∧ t = t' := by simpa using h
          rw [h0]
          exact ⟨by simp [encT, hm], trivial⟩
        · rw [if_neg h0] at h
          by_cases h1 : c = 49
          · rw [if_pos h1] at h
            obtain ⟨⟨a, t1⟩, ha, h⟩ := Option.bind_eq_some_iff.mp h
            obtain ⟨⟨b, t2⟩, hb, h⟩ := Option.bind_eq_some_iff.mp h
            have hb : rdT n (z / 2) t1 = some (b, t2) := hb
            obtain ⟨rfl, rfl⟩ : Sh.two a b = τ ∧ t2 = t' := by simpa using h
            obtain ⟨e1, k1⟩ := ih _ _ _ _ ha
            obtain ⟨e2, k2⟩ := ih _ _ _ _ hb
            rw [h1, e1, e2]
            exact ⟨by simp [encT], hm, k1, k2⟩
          · rw [if_neg h1] at h
            cases h
    · rw [if_neg hm] at h
      obtain ⟨rfl, rfl⟩ : Sh.leaf = τ ∧ t = t' := by simpa using h
      exact ⟨by simp [encT, hm], trivial⟩
theorem leavesT_ne : ∀ (τ : Sh) (z : Int), ∃ x l, leavesT z τ = x :: l := by
  intro τ
  induction τ with
  | leaf => exact fun z => ⟨_, _, rfl⟩
  | two a b iha _ =>
    intro z
    obtain ⟨x, l, e⟩ := iha (z / 2)
    exact ⟨x, l ++ leavesT (z / 2) b, by rw [leavesT, e]; rfl⟩
theorem leavesT_length : ∀ (n : Nat) (τ : Sh) (z : Int), okT n z τ → (leavesT z τ).length ≤ 2 ^ n := by
  intro n
  induction n with
  | zero =>
    intro τ z h
    cases τ with
    | leaf => simp [leavesT]
    | two a b => cases h
  | succ n ih =>
    intro τ z h
    cases τ with
    | leaf => simp [leavesT]; exact Nat.pow_pos (by omega)
    | two a b =>
      have h1 := ih a _ h.2.1
      have h2 := ih b _ h.2.2
      rw [leavesT, List.length_append, Nat.pow_succ]
      omega
theorem leavesT_head : ∀ (n : Nat) (τ : Sh) (z : Int), okT n z τ → 0 < z → ∀ x l, leavesT z τ = x :: l → 0 < x ∧ x ≤ z ∧ (x = z → τ = .leaf) := by
  intro n
  induction n with
  | zero =>
    intro τ z h hz x l e
    cases τ with
    | leaf =>
      obtain ⟨rfl, rfl⟩ : z = x ∧ [] = l := by simpa [leavesT] using e
      exact ⟨hz, Int.le_refl _, fun _ => rfl⟩
    | two a b => cases h
  | succ n ih =>
    intro τ z h hz x l e
    cases τ with
    | leaf =>
      obtain ⟨rfl, rfl⟩ : z = x ∧ [] = l := by simpa [leavesT] using e
      exact ⟨hz, Int.le_refl _, fun _ => rfl⟩
    | two a b =>
      have hp := mayT_pos h.1
      obtain ⟨y, m, ey⟩ := leavesT_ne a (z / 2)
      obtain ⟨g1, g2, _⟩ := ih a (z / 2) h.2.1 (by omega) y m ey
      rw [leavesT, ey, List.cons_append] at e
      obtain ⟨rfl, _⟩ := List.cons.inj e
      exact ⟨g1, by omega, by omega⟩
/-- Leaves tell their tree. -/
theorem leavesT_inj : ∀ (n : Nat) (τ σ : Sh) (z : Int) (l m : List Int), okT n z τ → okT n z σ → 0 < z → leavesT z τ ++ l = leavesT z σ ++ m → τ = σ ∧ l = m := by
  intro n
  induction n with
  | zero =>
    intro τ σ z l m h k hz e
    cases τ with
    | two a b => cases h
    | leaf =>
      cases σ with
      | two a b => cases k
      | leaf => exact ⟨rfl, (List.cons.inj e).2⟩
  | succ n ih =>
    intro τ σ z l m h k hz e
    cases τ with
    | leaf =>
      cases σ with
      | leaf => exact ⟨rfl, (List.cons.inj e).2⟩
      | two a b =>
        obtain ⟨y, q, ey⟩ := leavesT_ne (.two a b) z
        have g := leavesT_head _ _ _ k hz y q ey
        rw [ey] at e
        have : z = y := (List.cons.inj e).1
        cases g.2.2 this.symm
    | two a b =>
      cases σ with
      | leaf =>
        obtain ⟨y, q, ey⟩ := leavesT_ne (.two a b) z
        have g := leavesT_head _ _ _ h hz y q ey
        rw [ey] at e
        have : y = z := (List.cons.inj e).1
        cases g.2.2 this
      | two c d =>
        have hp := mayT_pos h.1
        simp only [leavesT, List.append_assoc] at e
        obtain ⟨rfl, e2⟩ := ih a c (z / 2) _ _ h.2.1 k.2.1 (by omega) e
        obtain ⟨rfl, e3⟩ := ih b d (z / 2) _ _ h.2.2 k.2.2 (by omega) e2
        exact ⟨rfl, e3⟩
/-- What 'Leaves' answers. -/
theorem leaves_ok (t : ByteArray) {z : Int} (h0 : 1 ≤ z) (h1 : z ≤ 1024) :
    (∃ τ, rdT 4 z (tl t) = some (τ, []) ∧ tree_Leaves.f t z = some (leavesT z τ, 0)) ∨ ((∀ τ, rdT 4 z (tl t) ≠ some (τ, [])) ∧ tree_Leaves.f t z = some ([], 10)) := by
  unfold tree_Leaves.f
  rw [if_neg (by omega)]
  unfold leavesW
  rcases walk_text 4 { data := #[] } z t [] with ⟨τ, u, r, e1, e2, e3⟩ | ⟨e1, l, e3⟩
  · rw [e1, e3]
    simp only [List.nil_append]
    by_cases hr : r.size = 0
    · rw [if_neg (by simp [hr])]
      obtain rfl : u = [] := by
        rw [← e2]
        exact List.length_eq_zero_iff.mp (by rw [← tl_size]; exact hr)
      exact .inl ⟨τ, rfl, rfl⟩
    · rw [if_pos (.inr hr)]
      refine .inr ⟨?_, rfl⟩
      intro σ e
      injection e with e
      injection e with _ e
      rw [tl_size, e2, e] at hr
      exact hr rfl
  · rw [e1, e3]
    exact .inr ⟨(fun _ h => by cases h), rfl⟩
end Go.Proofs.Ytlebgjcpidpgnaa.Pure
