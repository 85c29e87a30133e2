/- The contracts of the writer's Len and Align. -/
import Derived.Test.YteoncgijnkfhfaaKfPx0
import Derived.Test.YteoncgijnkfhfaaKfHBytes
import Derived.Test.YteoncgijnkfhfaaKfHNew
import Derived.Lib.SliceRun
import Derived.Shelf.Abstract
import Derived.WalkSmall
namespace Go.Proofs.Yteoncgijnkfhfaa.P
open Go.RowKit Go.Proofs.YteoncgijnkfhfaaW.PrintWords Go.Proofs.YteoncgijnkfhfaaW.PrintLast Go.Proofs.YteoncgijnkfhfaaW.PrintMore
set_option linter.unusedVariables false
set_option linter.unusedSimpArgs false

set_option maxHeartbeats 4000000 in
/-- 'Len': how many bits. -/
theorem wr_Len (w0 w : World) (g : Nat) (v : Value) (l : List Bool) (h : IsWr w0 w g v l) :
    Calls Try.prog 28 #[.pointer (some ⟨g, 0, none⟩)] w fun e w' => e = .returned (.int .i64 (l.length : Int)) ∧ w = w' := by
  have hc := isWr_len h
  go_enter Try.func28, Try.ntmps28
  go_wp2
  go_ret
  exact ⟨rfl, rfl⟩
theorem kept_belowL {w w1 : World} (S : Nat → Prop) (hb : Below w.heap.size w w1) : Kept w w1 S := ⟨hb.size, fun i hi _ => hb.block i hi⟩
theorem WrStep.aheadL {w0 w w1 w2 : World} {g : Nat} {v v' : Value} (hB : Below w0.heap.size w0 w) (hb : Below w.heap.size w w1) (h : WrStep w0 w1 w2 g v v') : WrStep w0 w w2 g v v' :=
  WrStep.trans (⟨below_then hB hB.size hb, kept_belowL _ hb, .inl rfl⟩ : WrStep w0 w w1 g v v) h
end Go.Proofs.Yteoncgijnkfhfaa.P
