/- How far a tree's ways are gone through: plain Lean. -/
import Derived.Test.YtlebgjcpidpgnaaPx0
import Derived.Test.YtlebgjcpidpgnaaHTPaths2
import Derived.Test.YtlebgjcpidpgnaaHTRPaths
import Derived.Test.YtlebgjcpidpgnaaUTree
namespace Go.Proofs.Ytlebgjcpidpgnaa.Pure
open Go.RowKit Go.Proofs.Ytlebgjcpidpgnaa.P Go.Proofs.YtlebgjcpidpgnaaW.PrintWords Go.Proofs.YtlebgjcpidpgnaaW.PrintLast Go.Proofs.YtlebgjcpidpgnaaW.PrintMore
set_option linter.unusedVariables false
set_option linter.unusedSimpArgs false

theorem drop_at {α : Type} {l r : List α} {k : Nat} {x d : α} (h : l.drop k = x :: r) : k < l.length ∧ l.getD k d = x ∧ l.drop (k + 1) = r := by
  have hk : k < l.length := by
    apply Classical.byContradiction
    intro hn
    rw [List.drop_of_length_le (by omega)] at h
    cases h
  rw [List.drop_eq_getElem_cons hk] at h
  injection h with h1 h2
  refine ⟨hk, ?_, h2⟩
  rw [List.getD_eq_getElem?_getD, List.getElem?_eq_getElem hk]
  exact h1
theorem mayT_evenP {z n : Int} (h : mayT z n = true) : z / 2 + z / 2 = z := by
  unfold mayT at h
  simp at h
  omega
theorem pathsT_leaves : ∀ (τ : Sh) (p : ByteArray) (z : Int), (pathsT p τ).length = (leavesT z τ).length
  | .leaf, _, _ => rfl
  | .two a b, p, z => by simp only [pathsT, leavesT, List.length_append]; rw [pathsT_leaves a _ (z / 2), pathsT_leaves b _ (z / 2)]
theorem pathsT_pos : ∀ (τ : Sh) (p : ByteArray), 1 ≤ (pathsT p τ).length
  | .leaf, _ => Nat.le_refl _
  | .two a b, p => by simp only [pathsT, List.length_append]; have := pathsT_pos a (p ++ { data := #[48] }); omega
theorem leafY_ok {W : List ByteArray} {L : List Int} {size m : Int} {p : ByteArray} {z : Int} {r : ByteArray} {b : Bool} {k : Nat} {W' : List ByteArray} {L' : List Int} (hw : W.drop k = p :: W') (hl : L.drop k = z :: L') (hs : wrap64 (z * 2 ^ p.size) = size) :
    leafY W L size m p z (r, b, k, true) = (decide (((k + 1 : Nat) : Int) < m), r, b, k + 1, true) := by
  obtain ⟨h1, h2, _⟩ := drop_at (d := ({ data := #[] } : ByteArray)) hw
  obtain ⟨_, h3, _⟩ := drop_at (d := (0 : Int)) hl
  have e : wellP W L size p z true k = true := by
    unfold wellP
    rw [decide_eq_true h1, decide_eq_true h2, decide_eq_true h3, decide_eq_true hs]
    rfl
  unfold leafY
  simp only
  rw [e]
  simp
theorem walk_paths (W : List ByteArray) (L : List Int) (size m : Int) (hs0 : 0 ≤ size) (hs1 : size ≤ 1024) : ∀ (n : Nat) (τ : Sh) (p : ByteArray) (z : Int) (r : ByteArray) (k : Nat) (u : List UInt8) (W' : List ByteArray) (L' : List Int),
    rdT n z (tl r) = some (τ, u) → W.drop k = pathsT p τ ++ W' → L.drop k = leavesT z τ ++ L' → z * 2 ^ p.size = size →
    ∃ (r' : ByteArray) (b' : Bool) (N : Nat), walkP twoY (leafY W L size m) n p z (r, false, k, true) = (decide ((N : Int) < m), r', b', N, true) ∧ (N : Int) = min ((k : Int) + (pathsT p τ).length) (max m ((k : Int) + 1)) ∧ ((N : Int) < m → tl r' = u ∧ b' = false) := by
  intro n
  induction n with
  | zero =>
    intro τ p z r k u W' L' hr hw hl hs
    obtain ⟨rfl, rfl⟩ : Sh.leaf = τ ∧ tl r = u := by simpa [rdT] using hr
    have e := leafY_ok (size := size) (m := m) (r := r) (b := false) hw hl (by rw [hs]; exact w64 (by omega) (by omega))
    refine ⟨r, false, k + 1, e, ?_, fun _ => ⟨rfl, rfl⟩⟩
    simp only [pathsT, List.length_cons, List.length_nil]
    omega
  | succ n ih =>
    intro τ p z r k u W' L' hr hw hl hs
    rw [walkP_succ]
    unfold rdT at hr
    by_cases hm : mayT z ((n : Int) + 1) = true
    · rw [if_pos hm] at hr ⊢
      rcases ht : tl r with _ | ⟨c, t⟩
      · rw [ht] at hr
        cases hr
      · rw [ht] at hr
        simp only at hr
        have hd := tl_drop r 1
        rw [ht, List.drop_one, List.tail_cons] at hd
        by_cases h0 : c = 48
        · subst h0
          rw [if_pos rfl] at hr
          obtain ⟨rfl, rfl⟩ : Sh.leaf = τ ∧ t = u := by simpa using hr
          have e2 : twoY p z (r, false, k, true) = (false, r.extract 1 r.size, false, k, true) := by
            unfold twoY
            simp only
            rw [twoB_0 ht]
          rw [e2, if_neg (by simp)]
          have e := leafY_ok (size := size) (m := m) (r := r.extract 1 r.size) (b := false) hw hl (by rw [hs]; exact w64 (by omega) (by omega))
          refine ⟨_, false, k + 1, e, ?_, fun _ => ⟨hd, rfl⟩⟩
          simp only [pathsT, List.length_cons, List.length_nil]
          omega
        · rw [if_neg h0] at hr
          by_cases h1 : c = 49
          · subst h1
            rw [if_pos rfl] at hr
            obtain ⟨⟨a, ta⟩, ha, hr⟩ := Option.bind_eq_some_iff.mp hr
            obtain ⟨⟨b, tb⟩, hb, hr⟩ := Option.bind_eq_some_iff.mp hr
            obtain ⟨rfl, rfl⟩ : Sh.two a b = τ ∧ tb = u := by simpa using hr
            have e2 : twoY p z (r, false, k, true) = (true, r.extract 1 r.size, false, k, true) := by
              unfold twoY
              simp only
              rw [twoB_1 ht]
            rw [e2, if_pos rfl]
            generalize r.extract 1 r.size = r1 at hd
            simp only at ha hb
            rw [← hd] at ha
            simp only [pathsT, leavesT] at hw hl
            have hev := mayT_evenP hm
            have hsz : ∀ c : UInt8, z / 2 * 2 ^ (p ++ ({ data := #[c] } : ByteArray)).size = size := by
              intro c
              rw [size_one, Int.pow_succ, ← hs]
              have : z = 2 * (z / 2) := by omega
              conv => rhs; rw [this]
              rw [Int.mul_comm (2 ^ p.size) 2, ← Int.mul_assoc, Int.mul_comm (z / 2) 2]
            obtain ⟨r2, b2, N1, w1, n1, f1⟩ := ih a (p ++ { data := #[48] }) (z / 2) r1 k ta (pathsT (p ++ { data := #[49] }) b ++ W') (leavesT (z / 2) b ++ L') ha (by rw [hw, List.append_assoc]) (by rw [hl, List.append_assoc]) (hsz 48)
            have hp1 := pathsT_pos a (p ++ { data := #[48] })
            have hp2 := pathsT_pos b (p ++ { data := #[49] })
            simp only
            rw [w1]
            simp only
            by_cases hlt : (N1 : Int) < m
            · rw [if_pos (decide_eq_true hlt)]
              obtain ⟨f2, rfl⟩ := f1 hlt
              have hN : N1 = k + (pathsT (p ++ { data := #[48] }) a).length := by omega
              have hpl := pathsT_leaves a (p ++ { data := #[48] }) (z / 2)
              have hw2 : W.drop N1 = pathsT (p ++ { data := #[49] }) b ++ W' := by
                rw [hN, ← List.drop_drop, hw, List.append_assoc, List.drop_left' rfl]
              have hl2 : L.drop N1 = leavesT (z / 2) b ++ L' := by
                rw [hN, ← List.drop_drop, hl, List.append_assoc, List.drop_left' hpl.symm]
              obtain ⟨r3, b3, N2, w2, n2, g1⟩ := ih b (p ++ { data := #[49] }) (z / 2) r2 N1 tb W' L' (by rw [f2]; exact hb) hw2 hl2 (hsz 49)
              rw [w2]
              refine ⟨r3, b3, N2, rfl, ?_, g1⟩
              simp only [pathsT, List.length_append]
              omega
            · rw [if_neg (by simp; omega)]
              refine ⟨r2, b2, N1, by rw [decide_eq_false hlt], ?_, fun h => absurd h hlt⟩
              simp only [pathsT, List.length_append]
              omega
          · rw [if_neg h1] at hr
            cases hr
    · rw [if_neg hm] at hr ⊢
      obtain ⟨rfl, rfl⟩ : Sh.leaf = τ ∧ tl r = u := by simpa using hr
      have e := leafY_ok (size := size) (m := m) (r := r) (b := false) hw hl (by rw [hs]; exact w64 (by omega) (by omega))
      refine ⟨r, false, k + 1, e, ?_, fun _ => ⟨rfl, rfl⟩⟩
      simp only [pathsT, List.length_cons, List.length_nil]
      omega
/-- What the law's run ends with. -/
theorem paths_res {t : ByteArray} {z m : Int} {τ : Sh} (h : rdT 4 z (tl t) = some (τ, [])) (h0 : 0 ≤ z) (h1 : z ≤ 1024) :
    ∃ N : Nat, pathsRes (pathsT { data := #[] } τ) (leavesT z τ) z m t z 0 = (N, true) ∧ (N : Int) = min ((pathsT { data := #[] } τ).length : Int) (max m 1) := by
  obtain ⟨r', b', N, w1, n1, _⟩ := walk_paths (pathsT { data := #[] } τ) (leavesT z τ) z m h0 h1 4 τ { data := #[] } z t 0 [] [] [] h (by simp) (by simp) (by show z * 2 ^ 0 = z; simp)
  refine ⟨N, ?_, by simpa using n1⟩
  unfold pathsRes pathsW
  rw [if_pos rfl, w1]
end Go.Proofs.Ytlebgjcpidpgnaa.Pure
