/- The pure statement of the law SlidePuts. -/
import Derived.Test.YteoncgijnkfhfaaKfPx0
import Derived.Test.YteoncgijnkfhfaaKfHLawSPu
namespace Go.Proofs.Yteoncgijnkfhfaa.Pure
open Go.RowKit Go.Proofs.Yteoncgijnkfhfaa.P Go.Proofs.YteoncgijnkfhfaaW.PrintWords Go.Proofs.YteoncgijnkfhfaaW.PrintLast Go.Proofs.YteoncgijnkfhfaaW.PrintMore

theorem SlidePuts : ∀ (l0 : List Int) (a_11 : Int) (l_19 : List Int), l0.length ≤ maxLen → l0.length * 8 ≤ 140737488351232 → (∀ x ∈ l0, (Lit.int .i64 x).wf = true) → (Lit.int .i64 a_11).wf = true → l_19.length ≤ maxLen → (∀ x ∈ l_19, (Lit.int .i64 x).wf = true) → sackbutlaw03_SlidePuts.f l0 a_11 l_19 = some true := by
  exact fun _ _ _ _ _ _ _ _ _ => rfl
end Go.Proofs.Yteoncgijnkfhfaa.Pure
