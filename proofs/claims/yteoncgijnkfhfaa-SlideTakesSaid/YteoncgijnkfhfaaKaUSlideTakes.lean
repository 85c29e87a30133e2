/- The pure statement of the law SlideTakes. -/
import Derived.Test.YteoncgijnkfhfaaKaPx0
import Derived.Test.YteoncgijnkfhfaaKaHLawSTa
namespace Go.Proofs.Yteoncgijnkfhfaa.Pure
open Go.RowKit Go.Proofs.Yteoncgijnkfhfaa.P Go.Proofs.YteoncgijnkfhfaaW.PrintWords Go.Proofs.YteoncgijnkfhfaaW.PrintLast Go.Proofs.YteoncgijnkfhfaaW.PrintMore

theorem SlideTakes : ∀ (l0 : List Int) (a1 : Int), l0.length ≤ maxLen → l0.length * 1 ≤ 140737488351232 → (∀ x ∈ l0, (Lit.int .u8 x).wf = true) → (Lit.int .i64 a1).wf = true → sackbutlaw03_SlideTakes.f l0 a1 = some true := by
  intro l0 a1 _ _ hw _
  unfold sackbutlaw03_SlideTakes.f
  rw [if_pos]
  rw [List.all_eq_true]
  intro x hx
  have := bytes8 hw x hx
  simp
  exact this
end Go.Proofs.Yteoncgijnkfhfaa.Pure
