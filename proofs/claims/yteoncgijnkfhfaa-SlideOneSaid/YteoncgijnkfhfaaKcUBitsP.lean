/- Bits, texts of bits, numbers of bits, bytes as bits: no printed function in sight. -/
import Derived.Test.YteoncgijnkfhfaaKcPx0
import Derived.Test.YteoncgijnkfhfaaKcHPut
import Derived.Test.YteoncgijnkfhfaaKcHMask
import Derived.Test.YteoncgijnkfhfaaKcUTools
import Derived.Laws.BitsAllLaws
import Derived.Test.YteoncgijnkfhfaaKcPx1
import Derived.Test.YteoncgijnkfhfaaKcPx4
import Derived.Test.YteoncgijnkfhfaaKcPx7
section
namespace Go.Proofs.Yteoncgijnkfhfaa.Pure
open Go.RowKit Go.Proofs.Yteoncgijnkfhfaa.P Go.Proofs.YteoncgijnkfhfaaW.PrintWords Go.Proofs.YteoncgijnkfhfaaW.PrintLast Go.Proofs.YteoncgijnkfhfaaW.PrintMore
set_option linter.unusedVariables false
set_option linter.unusedSimpArgs false

def Bytes8 (b : List Int) : Prop := ∀ x ∈ b, 0 ≤ x ∧ x ≤ 255
theorem Bytes8.rd {b : List Int} (h : Bytes8 b) {i : Nat} (hi : i < b.length) : 0 ≤ rd b i ∧ rd b i ≤ 255 := h _ (rd_mem (by omega) (by omega))

end Go.Proofs.Yteoncgijnkfhfaa.Pure
end
section
/- Bits as texts of 0 and 1, and what layer 1's reference makes of them: plain Lean. -/
namespace Go.Proofs.Yteoncgijnkfhfaa.Pure
open Go.RowKit Go.Proofs.Yteoncgijnkfhfaa.P Go.Proofs.YteoncgijnkfhfaaW.PrintWords Go.Proofs.YteoncgijnkfhfaaW.PrintLast Go.Proofs.YteoncgijnkfhfaaW.PrintMore
set_option linter.unusedVariables false
set_option linter.unusedSimpArgs false

theorem shr_ok (x : Int) (k : Nat) (hk : k ≤ 63) : shr .i64 x k = x / 2 ^ k := by
  unfold shr
  rw [Int.toNat_natCast, Nat.min_eq_left (show k ≤ IntKind.bits .i64 by show k ≤ 64; omega)]
end Go.Proofs.Yteoncgijnkfhfaa.Pure
end
