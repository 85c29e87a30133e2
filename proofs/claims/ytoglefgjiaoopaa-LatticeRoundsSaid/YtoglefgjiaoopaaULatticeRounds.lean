/- The pure statement of the law LatticeRounds. -/
import Derived.Test.YtoglefgjiaoopaaPx0
import Derived.Test.YtoglefgjiaoopaaPx3
import Derived.Test.YtoglefgjiaoopaaULattice
namespace Go.Proofs.Ytoglefgjiaoopaa.Pure
open Go.RowKit Go.Proofs.Ytoglefgjiaoopaa.P Go.Proofs.YtoglefgjiaoopaaW.PrintWords Go.Proofs.YtoglefgjiaoopaaW.PrintLast Go.Proofs.YtoglefgjiaoopaaW.PrintMore
set_option linter.unusedVariables false
set_option linter.unusedSimpArgs false

theorem LatticeRounds : ∀ (a0 : Int), (Lit.int .i64 a0).wf = true → ∃ k, sackbutlaw06_LatticeRounds.f k a0 = some true := by
  intro p hp0
  refine ⟨40 + 1, ?_⟩
  unfold sackbutlaw06_LatticeRounds.f
  rw [awake06 (by omega), bs, if_pos rfl]
  have hj : ∀ c, (c = true ∨ (-1152921504606846976 ≤ p ∧ p ≤ 1152921504606846976)) → sackbutlaw06_LatticeRounds.j0 (40 + 1) p c = some true := by
    intro c hc
    simp only [sackbutlaw06_LatticeRounds.j0]
    cases c with
    | true => rw [if_pos rfl, awake06 (by omega), bs]
    | false =>
      obtain ⟨h1, h2⟩ := hc.resolve_left (by simp)
      rw [if_neg (by simp), round_ok, bs, rround_ok, bs, if_pos rfl]
      have e : rnd p = (p + 8192) / 16384 := by unfold rnd; rw [w64 (by omega) (by omega)]
      rw [e, w64 (x := (p + 8192) / 16384 * 16384) (by omega) (by omega), w64 (by omega) (by omega), if_pos (by omega), decide_eq_true (by omega)]
  split
  · exact hj _ (.inl rfl)
  · refine hj _ ?_
    by_cases h : p < -1152921504606846976
    · exact .inl (decide_eq_true h)
    · exact .inr ⟨by omega, by omega⟩
end Go.Proofs.Ytoglefgjiaoopaa.Pure
