/- The pure statement of the law LagLate: a term whose lag is not below how many numbers there are takes nothing off. -/
import Derived.Test.YtofjckfdofkikaaPx0
import Derived.Test.YtofjckfdofkikaaPx7
import Derived.Test.YtofjckfdofkikaaULag
namespace Go.Proofs.Ytofjckfdofkikaa.Pure
open Go.RowKit Go.Proofs.Ytofjckfdofkikaa.P Go.Proofs.YtofjckfdofkikaaW.PrintWords Go.Proofs.YtofjckfdofkikaaW.PrintLast Go.Proofs.YtofjckfdofkikaaW.PrintMore
set_option linter.unusedVariables false
set_option linter.unusedSimpArgs false

theorem LagLate : ∀ (a0 : Int) (l1 : List Int), (Lit.int .u8 a0).wf = true → l1.length ≤ maxLen → l1.length * 8 ≤ 140737488351232 → (∀ x ∈ l1, (Lit.int .i64 x).wf = true) → ∃ k, sackbutlaw08_LagLate.f k a0 l1 = some true := by
  intro g l hg0 _ hl _
  have hgb := u8b hg0
  refine ⟨2 * l.length + 60, ?_⟩
  unfold sackbutlaw08_LagLate.f
  rw [lag_awake (by omega), bs, if_pos rfl]
  have hj : ∀ c, (c = true ∨ ((l.length : Int) ≤ 100 ∧ 1 ≤ l.length ∧ Fits l)) → sackbutlaw08_LagLate.j0 (2 * l.length + 60) g l c = some true := by
    intro c hc
    rw [show 2 * l.length + 60 = (2 * l.length + 59) + 1 from rfl]
    simp only [sackbutlaw08_LagLate.j0]
    cases c with
    | true => rw [if_pos rfl, lag_awake (by omega), bs]
    | false =>
      obtain ⟨h1, h2, hf⟩ := hc.resolve_left (by simp)
      have e1 : Int.tmod g 50 = g % 50 := Int.tmod_eq_emod_of_nonneg hgb.1
      have e2 : Int.tmod g 15 = g % 15 := Int.tmod_eq_emod_of_nonneg hgb.1
      rw [if_neg (by simp), w64 (x := g) (by omega) (by omega), e1, e2, w64 (x := (l.length : Int) + g % 50) (by omega) (by omega), w64 (x := g % 15) (by omega) (by omega), w64 (x := 1 + g % 15) (by omega) (by omega)]
      have hgd : goodT ((l.length : Int) + g % 50) (1 + g % 15) = true := by
        simp [goodT]
        omega
      have hp0 : ∀ (m : List Int) (i : Nat), i < l.length → partT ((l.length : Int) + g % 50) (1 + g % 15) m i = 0 := by
        intro m i hi
        unfold partT
        rw [if_pos (by omega)]
      have hoff : offT ((l.length : Int) + g % 50) (1 + g % 15) l = l := by
        unfold offT
        rw [tab_congr (g := fun i => rd l i) (fun i hi => by simp only [hp0 l i hi]; omega), tab_self]
      have hon := on_off hgd hf l.length 0 (by omega)
      rw [hoff] at hon
      simp only [List.drop_zero, List.take_zero] at hon
      rw [term_Off (by omega) (by omega), bs, term_On (by omega) (by omega), bs, wrong_of hgd hf, hon, hoff]
      simp only [onR, if_true]
      rw [same_ok _ _ (by omega) (by omega), bs]
      simp
  by_cases h1 : (l.length : Int) > 100
  · rw [if_pos h1]
    exact hj _ (.inl rfl)
  · rw [if_neg h1]
    by_cases h2 : (l.length : Int) = 0
    · rw [if_pos h2]
      exact hj _ (.inl rfl)
    · rw [if_neg h2, ref_wrong 0 0 l (by omega) (by omega), bs]
      by_cases hw : wrongT 0 0 l = 0
      · rw [hw]
        exact hj _ (.inr ⟨by omega, by omega, (wrong_zero hw).2⟩)
      · exact hj _ (.inl (by simpa using hw))

end Go.Proofs.Ytofjckfdofkikaa.Pure
