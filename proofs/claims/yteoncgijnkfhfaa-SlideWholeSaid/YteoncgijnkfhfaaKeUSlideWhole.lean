/- The pure statement of the law SlideWhole. -/
import Derived.Test.YteoncgijnkfhfaaKePx0
import Derived.Test.YteoncgijnkfhfaaKeHLawSWh
namespace Go.Proofs.Yteoncgijnkfhfaa.Pure
open Go.RowKit Go.Proofs.Yteoncgijnkfhfaa.P Go.Proofs.YteoncgijnkfhfaaW.PrintWords Go.Proofs.YteoncgijnkfhfaaW.PrintLast Go.Proofs.YteoncgijnkfhfaaW.PrintMore

theorem SlideWhole : ∀ (l0 : List Int) (l1 : List Int), l0.length ≤ maxLen → l0.length * 8 ≤ 140737488351232 → (∀ x ∈ l0, (Lit.int .i64 x).wf = true) → l1.length ≤ maxLen → l1.length * 1 ≤ 140737488351232 → (∀ x ∈ l1, (Lit.int .u8 x).wf = true) → sackbutlaw03_SlideWhole.f l0 l1 = some true := by
  intro l0 l1 _ _ _ _ _ hw
  unfold sackbutlaw03_SlideWhole.f
  rw [if_pos]
  rw [List.all_eq_true]
  intro x hx
  have := bytes8 hw x hx
  simp
  exact this
end Go.Proofs.Yteoncgijnkfhfaa.Pure
