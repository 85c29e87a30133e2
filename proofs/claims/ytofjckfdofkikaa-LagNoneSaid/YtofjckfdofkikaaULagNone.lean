/- The pure statement of the law LagNone. -/
import Derived.Test.YtofjckfdofkikaaPx0
import Derived.Test.YtofjckfdofkikaaPx8
import Derived.Test.YtofjckfdofkikaaULBest
namespace Go.Proofs.Ytofjckfdofkikaa.Pure
open Go.RowKit Go.Proofs.Ytofjckfdofkikaa.P Go.Proofs.YtofjckfdofkikaaW.PrintWords Go.Proofs.YtofjckfdofkikaaW.PrintLast Go.Proofs.YtofjckfdofkikaaW.PrintMore
set_option linter.unusedVariables false
set_option linter.unusedSimpArgs false

theorem LagNone : ∀ (l0 : List Int), l0.length ≤ maxLen → l0.length * 8 ≤ 140737488351232 → (∀ x ∈ l0, (Lit.int .i64 x).wf = true) → ∃ k, sackbutlaw08_LagNone.f k l0 = some true := by
  intro l _ _ _
  refine ⟨15000 + 1, ?_⟩
  unfold sackbutlaw08_LagNone.f
  rw [lag_awake (by omega), bs, if_pos rfl]
  have hj : ∀ c, (c = true ∨ (l.length ≤ 24 ∧ Fits l)) → sackbutlaw08_LagNone.j0 (15000 + 1) l c = some true := by
    intro c hc
    rw [sackbutlaw08_LagNone.j0]
    cases c with
    | true => rw [if_pos rfl, lag_awake (by omega), bs]
    | false =>
      obtain ⟨hl, hf⟩ := hc.resolve_left (by simp)
      obtain ⟨A, B, h1, h2⟩ := best_least (k := 15000) hf (by omega) (by omega)
      have hg : goodT A B = true := vis_good (by omega) (by omega) (by omega) h2.1
      have h00 := h2.2 0 0 (.inl ⟨rfl, rfl⟩)
      have hle : misT l A B ≤ misT l 0 0 := by
        unfold LeQ at h00
        simp only at h00
        omega
      have hs0 := rsumoff_ok (l := l) (k := 15000) good_none hf (show l.length ≤ 1000 by omega) (by omega)
      rw [off_none] at hs0
      rw [if_neg (by simp), term_Off (by omega) (by omega), bs, h1, bs, term_Off (by omega) (by omega), bs, wrong_of good_none hf, wrong_of hg hf]
      simp only [if_true]
      rw [off_none, same_ok _ _ (by omega) (by omega), bs, decide_eq_true rfl, if_pos rfl, term_good, bs, hg, if_pos rfl, rsumoff_ok hg hf (by omega) (by omega), bs, hs0, bs, decide_eq_true hle]
  by_cases h24 : (l.length : Int) > 24
  · rw [if_pos h24]
    exact hj _ (.inl rfl)
  · rw [if_neg h24, ref_wrong 0 0 l (by omega) (by omega), bs]
    refine hj _ ?_
    by_cases hw : wrongT 0 0 l = 0
    · exact .inr ⟨by omega, (wrong_zero hw).2⟩
    · exact .inl (by simpa using hw)
end Go.Proofs.Ytofjckfdofkikaa.Pure
