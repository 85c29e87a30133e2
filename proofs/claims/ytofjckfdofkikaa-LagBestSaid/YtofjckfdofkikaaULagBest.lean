/- The pure statement of the law LagBest. -/
import Derived.Test.YtofjckfdofkikaaPx0
import Derived.Test.YtofjckfdofkikaaPx7
import Derived.Test.YtofjckfdofkikaaULBest
namespace Go.Proofs.Ytofjckfdofkikaa.Pure
open Go.RowKit Go.Proofs.Ytofjckfdofkikaa.P Go.Proofs.YtofjckfdofkikaaW.PrintWords Go.Proofs.YtofjckfdofkikaaW.PrintLast Go.Proofs.YtofjckfdofkikaaW.PrintMore
set_option linter.unusedVariables false
set_option linter.unusedSimpArgs false

theorem LagBest : ∀ (l0 : List Int), l0.length ≤ maxLen → l0.length * 8 ≤ 140737488351232 → (∀ x ∈ l0, (Lit.int .i64 x).wf = true) → ∃ k, sackbutlaw08_LagBest.f k l0 = some true := by
  intro l _ _ _
  refine ⟨15000 + 1, ?_⟩
  unfold sackbutlaw08_LagBest.f
  rw [lag_awake (by omega), bs, if_pos rfl]
  have hj : ∀ c, (c = true ∨ (l.length ≤ 24 ∧ Fits l)) → sackbutlaw08_LagBest.j0 (15000 + 1) l c = some true := by
    intro c hc
    rw [sackbutlaw08_LagBest.j0]
    cases c with
    | true => rw [if_pos rfl, lag_awake (by omega), bs]
    | false =>
      obtain ⟨hl, hf⟩ := hc.resolve_left (by simp)
      obtain ⟨A, B, h1, h2⟩ := best_least (k := 15000) hf (by omega) (by omega)
      rw [if_neg (by simp), h1, bs, rbest_ok (r := (A, B)) hf (by omega) h2 (by omega), bs, if_pos rfl, beq_self_eq_true]
  by_cases h24 : (l.length : Int) > 24
  · rw [if_pos h24]
    exact hj _ (.inl rfl)
  · rw [if_neg h24, ref_wrong 0 0 l (by omega) (by omega), bs]
    refine hj _ ?_
    by_cases hw : wrongT 0 0 l = 0
    · exact .inr ⟨by omega, (wrong_zero hw).2⟩
    · exact .inl (by simpa using hw)
end Go.Proofs.Ytofjckfdofkikaa.Pure
