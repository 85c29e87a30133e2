/- What the document's leaves of a text are: those that the program has. -/
import Derived.Test.YtlebgjcpidpgnaaPx0
import Derived.Test.YtlebgjcpidpgnaaHTRead
import Derived.Test.YtlebgjcpidpgnaaPx3
import Derived.Test.YtlebgjcpidpgnaaUTree
namespace Go.Proofs.Ytlebgjcpidpgnaa.Pure
open Go.RowKit Go.Proofs.Ytlebgjcpidpgnaa.P Go.Proofs.YtlebgjcpidpgnaaW.PrintWords Go.Proofs.YtlebgjcpidpgnaaW.PrintLast Go.Proofs.YtlebgjcpidpgnaaW.PrintMore
set_option linter.unusedVariables false
set_option linter.unusedSimpArgs false

theorem readF_okP : ∀ (n : Nat) (t : ByteArray) (z : Int), (∃ τ u r, rdT n z (tl t) = some (τ, u) ∧ tl r = u ∧ readF n t z = (leavesT z τ, r, true)) ∨ (rdT n z (tl t) = none ∧ (readF n t z).2.2 = false) := by
  intro n
  induction n with
  | zero => exact fun t z => .inl ⟨_, _, _, rfl, rfl, rfl⟩
  | succ n ih =>
    intro t z
    unfold rdT readF
    by_cases hm : mayT z ((n : Int) + 1) = true
    · rw [if_pos hm, if_pos hm]
      rcases ht : tl t with _ | ⟨c, u⟩
      · rw [if_pos (.inl (by rw [tl_size, ht]; rfl))]
        exact .inr ⟨rfl, rfl⟩
      · have hb := bt_zero ht
        have hs : t.size ≠ 0 := by rw [tl_size, ht]; simp
        have hd := tl_drop t 1
        rw [ht, List.drop_one, List.tail_cons] at hd
        simp only
        by_cases h0 : c = 48
        · subst h0
          rw [if_pos rfl, if_neg (show ¬ (t.size = 0 ∨ (bt t 0 ≠ 48 ∧ bt t 0 ≠ 49)) by rw [hb]; simp [hs]), if_pos (show bt t 0 = 48 by rw [hb]; rfl)]
          exact .inl ⟨_, _, _, rfl, hd, rfl⟩
        · have hb0 : bt t 0 ≠ 48 := by rw [hb]; exact fun x => h0 ((u8_eq (n := 48) (by omega)).mp x)
          by_cases h1 : c = 49
          · subst h1
            rw [if_neg h0, if_pos rfl, if_neg (show ¬ (t.size = 0 ∨ (bt t 0 ≠ 48 ∧ bt t 0 ≠ 49)) by rw [hb]; simp [hs]), if_neg hb0]
            generalize t.extract 1 t.size = t1 at hd
            rw [← hd]
            rcases ih t1 (z / 2) with ⟨τ1, u1, r1, e1, e2, e3⟩ | ⟨e1, e3⟩
            · rw [e1, e3]
              subst e2
              simp only [Option.bind_some]
              rw [if_neg (by simp)]
              rcases ih r1 (z / 2) with ⟨τ2, u2, r2, f1, f2, f3⟩ | ⟨f1, f3⟩
              · rw [f1, f3]
                exact .inl ⟨_, _, _, rfl, f2, rfl⟩
              · rw [f1]
                exact .inr ⟨rfl, f3⟩
            · rw [e1, if_pos e3]
              exact .inr ⟨rfl, rfl⟩
          · have hb1 : bt t 0 ≠ 49 := by rw [hb]; exact fun x => h1 ((u8_eq (n := 49) (by omega)).mp x)
            rw [if_neg h0, if_neg h1, if_pos (.inr ⟨hb0, hb1⟩)]
            exact .inr ⟨rfl, rfl⟩
    · rw [if_neg hm, if_neg hm]
      exact .inl ⟨_, _, _, rfl, rfl, rfl⟩
theorem rleaves_okP (t : ByteArray) (z : Int) {k : Nat} (hk : 0 < k) : sackbutref09_Leaves.f k t z = tree_Leaves.f t z := by
  obtain ⟨k, rfl⟩ : ∃ j, k = j + 1 := ⟨k - 1, by omega⟩
  unfold sackbutref09_Leaves.f tree_Leaves.f
  by_cases h0 : z < 1
  · rw [if_pos h0, if_pos (.inl h0)]
    rfl
  · rw [if_neg h0]
    by_cases h1 : 1024 < z
    · rw [if_pos (.inr h1), decide_eq_true (show z > 1024 from h1)]
      rfl
    · rw [if_neg (by omega), decide_eq_false (show ¬ z > 1024 from h1)]
      simp only [sackbutref09_Leaves.j0, Bool.false_eq_true, if_false]
      unfold sackbutref09_Read.f
      rw [if_pos (by omega), bs]
      unfold leavesW
      rcases readF_okP 4 t z with ⟨τ, u, r, e1, e2, e3⟩ | ⟨e1, e3⟩
      · rcases walk_text 4 { data := #[] } z t [] with ⟨σ, v, q, f1, f2, f3⟩ | ⟨f1, l, f3⟩
        · rw [e1] at f1
          injection f1 with f1
          injection f1 with g1 g2
          subst g1 g2
          have hrq : r = q := tl_inj (e2.trans f2.symm)
          subst hrq
          rw [e3, f3]
          simp only [if_true, List.nil_append, Bool.false_eq_true, false_or]
          have ht : r.toList = tl r := ByteArray.toList_eq r
          by_cases hr : r.size = 0
          · rw [if_pos (by rw [ht]; exact List.length_eq_zero_iff.mp (by rw [← tl_size]; exact hr)), if_neg (by simp [hr])]
          · rw [if_neg (by rw [ht]; intro h; exact hr (by rw [tl_size, h]; rfl)), if_pos hr]
        · rw [e1] at f1
          cases f1
      · rcases walk_text 4 { data := #[] } z t [] with ⟨σ, v, q, f1, f2, f3⟩ | ⟨f1, l, f3⟩
        · rw [e1] at f1
          cases f1
        · rw [f3, if_neg (by rw [e3]; simp)]
          simp
end Go.Proofs.Ytlebgjcpidpgnaa.Pure
