/- What a tree's text, put as bits, is taken as: plain Lean. -/
import Derived.Test.YtlebgjcpidpgnaaPx0
import Derived.Test.YtlebgjcpidpgnaaHTTake
import Derived.Test.YtlebgjcpidpgnaaHTRead
import Derived.Test.YtlebgjcpidpgnaaHLen
import Derived.Test.YtlebgjcpidpgnaaPx4
import Derived.Test.YtlebgjcpidpgnaaPx1
import Derived.Test.YtlebgjcpidpgnaaUReader
import Derived.Test.YtlebgjcpidpgnaaUAlign2
import Derived.Test.YtlebgjcpidpgnaaUTree
import Derived.Test.YtlebgjcpidpgnaaUTTake
namespace Go.Proofs.Ytlebgjcpidpgnaa.Pure
open Go.RowKit Go.Proofs.Ytlebgjcpidpgnaa.P Go.Proofs.YtlebgjcpidpgnaaW.PrintWords Go.Proofs.YtlebgjcpidpgnaaW.PrintLast Go.Proofs.YtlebgjcpidpgnaaW.PrintMore
set_option linter.unusedVariables false
set_option linter.unusedSimpArgs false

theorem readF_okP : ∀ (n : Nat) (t : ByteArray) (z : Int), (∃ τ u r, rdT n z (tl t) = some (τ, u) ∧ tl r = u ∧ readF n t z = (leavesT z τ, r, true)) ∨ (rdT n z (tl t) = none ∧ (readF n t z).2.2 = false) := by
  intro n
  induction n with
  | zero => exact fun t z => .inl ⟨_, _, _, rfl, rfl, rfl⟩
  | succ n ih =>
    intro t z
    unfold rdT readF
    by_cases hm : mayT z ((n : Int) + 1) = true
    · rw [if_pos hm, if_pos hm]
      rcases ht : tl t with _ | ⟨c, u⟩
      · rw [if_pos (.inl (by rw [tl_size, ht]; rfl))]
        exact .inr ⟨rfl, rfl⟩
      · have hb := bt_zero ht
        have hs : t.size ≠ 0 := by rw [tl_size, ht]; simp
        have hd := tl_drop t 1
        rw [ht, List.drop_one, List.tail_cons] at hd
        simp only
        by_cases h0 : c = 48
        · subst h0
          rw [if_pos rfl, if_neg (show ¬ (t.size = 0 ∨ (bt t 0 ≠ 48 ∧ bt t 0 ≠ 49)) by rw [hb]; simp [hs]), if_pos (show bt t 0 = 48 by rw [hb]; rfl)]
          exact .inl ⟨_, _, _, rfl, hd, rfl⟩
        · have hb0 : bt t 0 ≠ 48 := by rw [hb]; exact fun x => h0 ((u8_eq (n := 48) (by omega)).mp x)
          by_cases h1 : c = 49
          · subst h1
            rw [if_neg h0, if_pos rfl, if_neg (show ¬ (t.size = 0 ∨ (bt t 0 ≠ 48 ∧ bt t 0 ≠ 49)) by rw [hb]; simp [hs]), if_neg hb0]
            generalize t.extract 1 t.size = t1 at hd
            rw [← hd]
            rcases ih t1 (z / 2) with ⟨τ1, u1, r1, e1, e2, e3⟩ | ⟨e1, e3⟩
            · rw [e1, e3]
              subst e2
              simp only [Option.bind_some]
              rw [if_neg (by simp)]
              rcases ih r1 (z / 2) with ⟨τ2, u2, r2, f1, f2, f3⟩ | ⟨f1, f3⟩
              · rw [f1, f3]
                exact .inl ⟨_, _, _, rfl, f2, rfl⟩
              · rw [f1]
                exact .inr ⟨rfl, f3⟩
            · rw [e1, if_pos e3]
              exact .inr ⟨rfl, rfl⟩
          · have hb1 : bt t 0 ≠ 49 := by rw [hb]; exact fun x => h1 ((u8_eq (n := 49) (by omega)).mp x)
            rw [if_neg h0, if_neg h1, if_pos (.inr ⟨hb0, hb1⟩)]
            exact .inr ⟨rfl, rfl⟩
    · rw [if_neg hm, if_neg hm]
      exact .inl ⟨_, _, _, rfl, rfl, rfl⟩
theorem rleaves_okP (t : ByteArray) (z : Int) {k : Nat} (hk : 0 < k) : sackbutref09_Leaves.f k t z = tree_Leaves.f t z := by
  obtain ⟨k, rfl⟩ : ∃ j, k = j + 1 := ⟨k - 1, by omega⟩
  unfold sackbutref09_Leaves.f tree_Leaves.f
  by_cases h0 : z < 1
  · rw [if_pos h0, if_pos (.inl h0)]
    rfl
  · rw [if_neg h0]
    by_cases h1 : 1024 < z
    · rw [if_pos (.inr h1), decide_eq_true (show z > 1024 from h1)]
      rfl
    · rw [if_neg (by omega), decide_eq_false (show ¬ z > 1024 from h1)]
      simp only [sackbutref09_Leaves.j0, Bool.false_eq_true, if_false]
      unfold sackbutref09_Read.f
      rw [if_pos (by omega), bs]
      unfold leavesW
      rcases readF_okP 4 t z with ⟨τ, u, r, e1, e2, e3⟩ | ⟨e1, e3⟩
      · rcases walk_text 4 { data := #[] } z t [] with ⟨σ, v, q, f1, f2, f3⟩ | ⟨f1, l, f3⟩
        · rw [e1] at f1
          injection f1 with f1
          injection f1 with g1 g2
          subst g1 g2
          have hrq : r = q := tl_inj (e2.trans f2.symm)
          subst hrq
          rw [e3, f3]
          simp only [if_true, List.nil_append, Bool.false_eq_true, false_or]
          have ht : r.toList = tl r := ByteArray.toList_eq r
          by_cases hr : r.size = 0
          · rw [if_pos (by rw [ht]; exact List.length_eq_zero_iff.mp (by rw [← tl_size]; exact hr)), if_neg (by simp [hr])]
          · rw [if_neg (by rw [ht]; intro h; exact hr (by rw [tl_size, h]; rfl)), if_pos hr]
        · rw [e1] at f1
          cases f1
      · rcases walk_text 4 { data := #[] } z t [] with ⟨σ, v, q, f1, f2, f3⟩ | ⟨f1, l, f3⟩
        · rw [e1] at f1
          cases f1
        · rw [f3, if_neg (by rw [e3]; simp)]
          simp
theorem rdT_more : ∀ (n : Nat) (z : Int) (τ : Sh) (u : List UInt8), okT n z τ → rdT n z (encT n z τ ++ u) = some (τ, u) := by
  intro n
  induction n with
  | zero =>
    intro z τ u h
    cases τ with
    | leaf => rfl
    | two a b => cases h
  | succ n ih =>
    intro z τ u h
    unfold rdT
    cases τ with
    | leaf =>
      by_cases hm : mayT z ((n : Int) + 1) = true
      · rw [if_pos hm]
        simp [encT, hm]
      · rw [if_neg hm]
        simp [encT, hm]
    | two a b =>
      rw [if_pos h.1]
      simp only [encT, List.cons_append]
      rw [if_neg (by decide)]
      simp only [if_true, List.append_assoc]
      rw [ih _ _ _ h.2.1]
      simp only [Option.bind_some]
      rw [ih _ _ _ h.2.2]
      rfl
theorem encT_ch : ∀ (n : Nat) (z : Int) (τ : Sh), ∃ cs : List Bool, encT n z τ = cs.map ch := by
  intro n
  induction n with
  | zero => exact fun z τ => ⟨[], by cases τ <;> rfl⟩
  | succ n ih =>
    intro z τ
    cases τ with
    | leaf =>
      by_cases hm : mayT z ((n : Int) + 1) = true
      · exact ⟨[false], by simp [encT, hm, ch]⟩
      · exact ⟨[], by simp [encT, hm]⟩
    | two a b =>
      obtain ⟨x, hx⟩ := ih (z / 2) a
      obtain ⟨y, hy⟩ := ih (z / 2) b
      exact ⟨true :: (x ++ y), by simp [encT, hx, hy, ch]⟩
/-- A tree's text: 0 and 1. -/
theorem tree_text {t : ByteArray} {z : Int} {τ : Sh} (h : rdT 4 z (tl t) = some (τ, [])) : ∃ cs : List Bool, t = txt cs ∧ encT 4 z τ = cs.map ch ∧ okT 4 z τ := by
  obtain ⟨h1, h2⟩ := rdT_enc _ _ _ _ _ h
  obtain ⟨cs, hc⟩ := encT_ch 4 z τ
  exact ⟨cs, tl_inj (by rw [h1, List.append_nil, hc]; rfl), hc, h2⟩
theorem ch_map_inj {a b : List Bool} (h : a.map ch = b.map ch) : a = b := (List.map_inj_right fun a b h => ch_inj h).mp h
def putB (cs : List Bool) (more : List Int) : List Int := pack cs ++ more
theorem putB_unpack (cs : List Bool) (more : List Int) : unpack (putB cs more) = cs ++ (List.replicate ((8 - cs.length % 8) % 8) false ++ unpack more) := by
  unfold putB
  rw [unpack_app, unpack_pack]
  simp [alignB, List.append_assoc]
theorem pack_bytes8T (l : List Bool) : Bytes8 (pack l) := by
  intro x hx
  obtain ⟨i, _, rfl⟩ := List.mem_map.mp hx
  exact byteAt_range l i
theorem putB_bytes {cs : List Bool} {more : List Int} (h : Bytes8 more) : Bytes8 (putB cs more) := by
  intro x hx
  rcases List.mem_append.mp hx with hx | hx
  · exact pack_bytes8T cs x hx
  · exact h x hx
theorem put_taken {cs : List Bool} {more : List Int} {z : Int} {τ : Sh} (h8 : Bytes8 more) (hm : more.length ≤ 20) (hl : cs.length ≤ 200) (h0 : 1 ≤ z) (h1 : z ≤ 1024) (he : encT 4 z τ = cs.map ch) (hk : okT 4 z τ) :
    ∃ p q : Int, tree_Take.f (putB cs more) 0 0 z = some (txt cs, leavesT z τ, p, 0) ∧ pipe_Reader_Align.f 100 (putB cs more) p 0 = some (q, 0) ∧ pipe_Reader_Left.f (putB cs more) q 0 = some (8 * (more.length : Int), q, 0) := by
  have hb := putB_bytes (cs := cs) h8
  have hbl : (putB cs more).length ≤ 10000000 := by unfold putB; rw [List.length_append, pack_length]; omega
  have hu := putB_unpack cs more
  have hsuf : List.replicate ((8 - cs.length % 8) % 8) false ++ unpack more <:+ unpack (putB cs more) := by rw [hu]; exact List.suffix_append _ _
  have hsuf2 : unpack more <:+ unpack (putB cs more) := (List.suffix_append _ _).trans hsuf
  have hrd : rdT 4 z ((unpack (putB cs more)).map ch) = some (τ, (List.replicate ((8 - cs.length % 8) % 8) false ++ unpack more).map ch) := by
    rw [hu, List.map_append, ← he]
    exact rdT_more _ _ _ _ hk
  have ht := take_tree hb hbl (List.suffix_refl _) h0 h1
  rw [pos_nil] at ht
  rcases ht with ⟨σ, s', e1, e2, e3⟩ | ⟨e1, _⟩
  · rw [hrd] at e1
    injection e1 with e1
    injection e1 with g1 g2
    subst g1
    have hs := ch_map_inj g2
    subst hs
    refine ⟨pos (putB cs more) (List.replicate ((8 - cs.length % 8) % 8) false ++ unpack more), pos (putB cs more) (unpack more), ?_, ?_, ?_⟩
    · rw [e3, he]
      rfl
    · rw [ralign_ok hb hbl hsuf 0 (by omega), alignR_pad _ _ (by omega) (by rw [unpack_length]; omega)]
    · rw [left_ok hbl hsuf2, unpack_length]
      simp
  · rw [hrd] at e1
    cases e1
end Go.Proofs.Ytlebgjcpidpgnaa.Pure
