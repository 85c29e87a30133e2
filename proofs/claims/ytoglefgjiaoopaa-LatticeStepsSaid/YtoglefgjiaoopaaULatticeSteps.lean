/- The pure statement of the law LatticeSteps (its walk says all). -/
import Derived.Test.YtoglefgjiaoopaaPx0
import Derived.Test.YtoglefgjiaoopaaHLawSteps
namespace Go.Proofs.Ytoglefgjiaoopaa.Pure
open Go.RowKit Go.Proofs.Ytoglefgjiaoopaa.P Go.Proofs.YtoglefgjiaoopaaW.PrintWords Go.Proofs.YtoglefgjiaoopaaW.PrintLast Go.Proofs.YtoglefgjiaoopaaW.PrintMore

theorem LatticeSteps : ∀ (l0 : List Int) (a1 : Int), l0.length ≤ maxLen → l0.length * 8 ≤ 140737488351232 → (∀ x ∈ l0, (Lit.int .i64 x).wf = true) → (Lit.int .u8 a1).wf = true → sackbutlaw06_LatticeSteps.f l0 a1 = some true := by
  intro l m _ hl _ hm
  have hmb := u8b hm
  unfold sackbutlaw06_LatticeSteps.f
  rw [if_pos ⟨by omega, hmb.1, hmb.2⟩]
end Go.Proofs.Ytoglefgjiaoopaa.Pure
