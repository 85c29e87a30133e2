/- What the document reads of a tree's text, and the text of leaves: plain Lean. -/
import Derived.Test.YtlebgjcpidpgnaaPx0
import Derived.Test.YtlebgjcpidpgnaaHTree
import Derived.Test.YtlebgjcpidpgnaaHWalk
import Derived.Test.YtlebgjcpidpgnaaHLeaves
import Derived.Test.YtlebgjcpidpgnaaHFit
import Derived.Test.YtlebgjcpidpgnaaHText
import Derived.Test.YtlebgjcpidpgnaaHTRead
import Derived.Test.YtlebgjcpidpgnaaUTools
import Derived.Test.YtlebgjcpidpgnaaUTree
namespace Go.Proofs.Ytlebgjcpidpgnaa.Pure
open Go.RowKit Go.Proofs.Ytlebgjcpidpgnaa.P Go.Proofs.YtlebgjcpidpgnaaW.PrintWords Go.Proofs.YtlebgjcpidpgnaaW.PrintLast Go.Proofs.YtlebgjcpidpgnaaW.PrintMore
set_option linter.unusedVariables false
set_option linter.unusedSimpArgs false

theorem readF_ok : ∀ (n : Nat) (t : ByteArray) (z : Int), (∃ τ u r, rdT n z (tl t) = some (τ, u) ∧ tl r = u ∧ readF n t z = (leavesT z τ, r, true)) ∨ (rdT n z (tl t) = none ∧ (readF n t z).2.2 = false) := by
  intro n
  induction n with
  | zero => exact fun t z => .inl ⟨_, _, _, rfl, rfl, rfl⟩
  | succ n ih =>
    intro t z
    unfold rdT readF
    by_cases hm : mayT z ((n : Int) + 1) = true
    · rw [if_pos hm, if_pos hm]
      rcases ht : tl t with _ | ⟨c, u⟩
      · rw [if_pos (.inl (by rw [tl_size, ht]; rfl))]
        exact .inr ⟨rfl, rfl⟩
      · have hb := bt_zero ht
        have hs : t.size ≠ 0 := by rw [tl_size, ht]; simp
        have hd := tl_drop t 1
        rw [ht, List.drop_one, List.tail_cons] at hd
        simp only
        by_cases h0 : c = 48
        · subst h0
          rw [if_pos rfl, if_neg (show ¬ (t.size = 0 ∨ (bt t 0 ≠ 48 ∧ bt t 0 ≠ 49)) by rw [hb]; simp [hs]), if_pos (show bt t 0 = 48 by rw [hb]; rfl)]
          exact .inl ⟨_, _, _, rfl, hd, rfl⟩
        · have hb0 : bt t 0 ≠ 48 := by rw [hb]; exact fun x => h0 ((u8_eq (n := 48) (by omega)).mp x)
          by_cases h1 : c = 49
          · subst h1
            rw [if_neg h0, if_pos rfl, if_neg (show ¬ (t.size = 0 ∨ (bt t 0 ≠ 48 ∧ bt t 0 ≠ 49)) by rw [hb]; simp [hs]), if_neg hb0]
            generalize t.extract 1 t.size = t1 at hd
            rw [← hd]
            rcases ih t1 (z / 2) with ⟨τ1, u1, r1, e1, e2, e3⟩ | ⟨e1, e3⟩
            · rw [e1, e3]
              subst e2
              simp only [Option.bind_some]
              rw [if_neg (by simp)]
              rcases ih r1 (z / 2) with ⟨τ2, u2, r2, f1, f2, f3⟩ | ⟨f1, f3⟩
              · rw [f1, f3]
                exact .inl ⟨_, _, _, rfl, f2, rfl⟩
              · rw [f1]
                exact .inr ⟨rfl, f3⟩
            · rw [e1, if_pos e3]
              exact .inr ⟨rfl, rfl⟩
          · have hb1 : bt t 0 ≠ 49 := by rw [hb]; exact fun x => h1 ((u8_eq (n := 49) (by omega)).mp x)
            rw [if_neg h0, if_neg h1, if_pos (.inr ⟨hb0, hb1⟩)]
            exact .inr ⟨rfl, rfl⟩
    · rw [if_neg hm, if_neg hm]
      exact .inl ⟨_, _, _, rfl, rfl, rfl⟩
theorem mayT_even {z n : Int} (h : mayT z n = true) : z / 2 + z / 2 = z := by
  unfold mayT at h
  simp at h
  omega
def sumT (l : List Int) : Int := l.foldr (· + ·) 0
theorem sumT_append (a b : List Int) : sumT (a ++ b) = sumT a + sumT b := by
  unfold sumT
  induction a with
  | nil => simp
  | cons x a ih => simp only [List.cons_append, List.foldr_cons, ih]; omega
theorem leavesT_sum : ∀ (n : Nat) (τ : Sh) (z : Int), okT n z τ → sumT (leavesT z τ) = z := by
  intro n
  induction n with
  | zero =>
    intro τ z h
    cases τ with
    | leaf => simp [leavesT, sumT]
    | two a b => cases h
  | succ n ih =>
    intro τ z h
    cases τ with
    | leaf => simp [leavesT, sumT]
    | two a b => rw [leavesT, sumT_append, ih a _ h.2.1, ih b _ h.2.2]; exact mayT_even h.1
theorem fit_leaves : ∀ (n : Nat) (τ : Sh) (p : ByteArray) (z : Int) (l : List Int) (t : List UInt8), okT n z τ → 0 < z → walkP twoF leafF n p z (leavesT z τ ++ l, t, false) = (true, l, t ++ encT n z τ, false) := by
  intro n
  induction n with
  | zero =>
    intro τ p z l t h hz
    cases τ with
    | leaf => simp [walkP, leafF, badF, leavesT, encT]
    | two a b => cases h
  | succ n ih =>
    intro τ p z l t h hz
    rw [walkP_succ]
    cases τ with
    | leaf =>
      by_cases hm : mayT z ((n : Int) + 1) = true
      · rw [if_pos hm]
        simp [twoF, yesF, leafF, badF, leavesT, encT, hm]
      · rw [if_neg hm]
        simp [leafF, badF, leavesT, encT, hm]
    | two a b =>
      have hp := mayT_pos h.1
      obtain ⟨y, q, ey⟩ := leavesT_ne a (z / 2)
      obtain ⟨g1, g2, _⟩ := leavesT_head n a (z / 2) h.2.1 (by omega) y q ey
      have e2 : twoF p z (leavesT z (.two a b) ++ l, t, false) = (true, leavesT (z / 2) a ++ (leavesT (z / 2) b ++ l), t ++ [49], false) := by
        have hy : yesF z (leavesT z (.two a b) ++ l) = true := by
          rw [leavesT, ey]
          exact decide_eq_true (by omega)
        unfold twoF
        simp only
        rw [hy, leavesT, List.append_assoc]
        simp
      rw [if_pos h.1, e2, if_pos rfl, ih a _ _ _ _ h.2.1 (by omega), if_pos rfl, ih b _ _ _ _ h.2.2 (by omega)]
      simp [encT]
theorem text_leaves (τ : Sh) {z : Int} (h0 : 1 ≤ z) (h1 : z ≤ 1024) (h : okT 4 z τ) : tree_Text.f (leavesT z τ) z = some (⟨(encT 4 z τ).toArray⟩, 0) := by
  unfold tree_Text.f textW
  have e := fit_leaves 4 τ { data := #[] } z [] [] h (by omega)
  rw [List.append_nil] at e
  rw [if_neg (by omega), e]
  simp
end Go.Proofs.Ytlebgjcpidpgnaa.Pure
