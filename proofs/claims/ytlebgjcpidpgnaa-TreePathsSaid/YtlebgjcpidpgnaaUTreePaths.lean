/- The pure statement of the law TreePaths. -/
import Derived.Test.YtlebgjcpidpgnaaPx0
import Derived.Test.YtlebgjcpidpgnaaHLawTPa
namespace Go.Proofs.Ytlebgjcpidpgnaa.Pure
open Go.RowKit Go.Proofs.Ytlebgjcpidpgnaa.P Go.Proofs.YtlebgjcpidpgnaaW.PrintWords Go.Proofs.YtlebgjcpidpgnaaW.PrintLast Go.Proofs.YtlebgjcpidpgnaaW.PrintMore

theorem TreePaths : ∀ (a0 : ByteArray) (a1 : Int) (a2 : Int), a0.size ≤ 140737488351232 → (Lit.int .i64 a1).wf = true → (Lit.int .u8 a2).wf = true → sackbutlaw09_TreePaths.f a0 a1 a2 = some true := by
  intro a0 a1 a2 _ _ h
  unfold sackbutlaw09_TreePaths.f
  rw [if_pos (u8b h)]
end Go.Proofs.Ytlebgjcpidpgnaa.Pure
