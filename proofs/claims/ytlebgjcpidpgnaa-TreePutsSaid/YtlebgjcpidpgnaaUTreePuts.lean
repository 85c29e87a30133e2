/- The pure statement of the law TreePuts. -/
import Derived.Test.YtlebgjcpidpgnaaPx0
import Derived.Test.YtlebgjcpidpgnaaHLawTPu
namespace Go.Proofs.Ytlebgjcpidpgnaa.Pure
open Go.RowKit Go.Proofs.Ytlebgjcpidpgnaa.P Go.Proofs.YtlebgjcpidpgnaaW.PrintWords Go.Proofs.YtlebgjcpidpgnaaW.PrintLast Go.Proofs.YtlebgjcpidpgnaaW.PrintMore

theorem TreePuts : ∀ (a0 : ByteArray) (a1 : Int) (l2 : List Int), a0.size ≤ 140737488351232 → (Lit.int .i64 a1).wf = true → l2.length ≤ maxLen → l2.length * 1 ≤ 140737488351232 → (∀ x ∈ l2, (Lit.int .u8 x).wf = true) → sackbutlaw09_TreePuts.f a0 a1 l2 = some true := by
  intro a0 a1 l2 _ _ _ _ hw
  unfold sackbutlaw09_TreePuts.f
  rw [if_pos]
  rw [List.all_eq_true]
  intro x hx
  have := bytes8 hw x hx
  simp
  exact this
end Go.Proofs.Ytlebgjcpidpgnaa.Pure
