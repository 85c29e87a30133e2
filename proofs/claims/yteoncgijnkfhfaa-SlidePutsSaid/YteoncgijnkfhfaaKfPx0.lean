/- Printed by a program of ours out of Lean's own print of the translation: functions and their contracts. -/
import Derived.Test.YteoncgijnkfhfaaProg
import Derived.Below
import Derived.Deep.Draws
import Derived.Deep.AppendLies
import Derived.Maps.AppendAt
import Derived.OwnWalk
import Derived.Laws.BytesArg
import Derived.Laws.MakeOwn
import Derived.Laws.OwnMore
import Derived.Deep.OwnRows
import Derived.Tactics
import Derived.Lib.ConvBytes
import Derived.Laws.Slices
import Derived.WalkKit
import Derived.KernelRfl
import Derived.RowKit3
import Derived.Deep.LoopGhost
import Derived.Deep.QuietTactic
import Derived.BigQuiet
import Derived.WideLaws
import Derived.Deep.DeepCutAuto
import Derived.Deep.CutBlock
import Derived.Deep.RegionHeld3
import Derived.Laws.Rows
import Derived.Lib.AppendStr
import Derived.ArgAppend
import Derived.Laws.IdiomCopy
import Derived.OrdersHeld
import Derived.Laws.BitsLemmas
import Derived.RowKit
import Derived.Test.YteoncgijnkfhfaaKfWWords
import Derived.Test.YteoncgijnkfhfaaKfWLast
import Derived.Test.YteoncgijnkfhfaaKfWTab
import Derived.Test.YteoncgijnkfhfaaKfWApart
import Derived.Test.YteoncgijnkfhfaaKfWFoot
import Derived.Test.YteoncgijnkfhfaaKfWKept
import Derived.Test.YteoncgijnkfhfaaKfWShare
import Derived.Test.YteoncgijnkfhfaaKfWN
import Derived.Laws.StructEq
import Derived.Test.YteoncgijnkfhfaaKfWRepsOne
import Derived.Test.YteoncgijnkfhfaaKfWInv
import Derived.Test.YteoncgijnkfhfaaKfWInvWords
import Derived.Test.YteoncgijnkfhfaaKfWGuard
import Derived.Test.YteoncgijnkfhfaaKfWMore
namespace Go.Proofs.Yteoncgijnkfhfaa.P
open Go.RowKit Go.Proofs.YteoncgijnkfhfaaW.PrintWords Go.Proofs.YteoncgijnkfhfaaW.PrintLast Go.Proofs.YteoncgijnkfhfaaW.PrintMore
attribute [local go_sem] max2_int min2_int max_two min_two max_three min_three max_four min_four   -- for this text's walks alone
set_option linter.unusedVariables false
set_option linter.unusedSimpArgs false



def errW : Option Int → Value
  | none => .nilIface
  | some c => .iface 0 (.int .i64 c)
theorem errW_none : errW none = .nilIface := rfl
theorem errW_some (c : Int) : errW (some c) = .iface 0 (.int .i64 c) := rfl

theorem info3 : (Try.prog.info? 3).map (fun i => (i.zero, i.size, i.bytes)) = some (some (.int .i64 0), 1, 8) := by kernel_rfl
theorem info5 : (Try.prog.info? 5).map (fun i => (i.zero, i.size, i.bytes)) = some (some (.int .u8 0), 1, 1) := by kernel_rfl
-- the values' own types
/-! #### struct type 105 -/
structure S105 where
  f0 : Int
  f1 : Int
def k105 : Kd S105 := Kd.iso (Kd.pair (Kd.int .i64) (Kd.int .i64)) (fun x : S105 => (x.f0, x.f1))
/-! #### struct type 24 -/
structure S24 where
  f0 : Int
  f1 : (List Int)
/-! #### struct type 30 -/
structure S30 where
  f0 : Int
  f1 : (List Int)
/-! #### struct type 74 -/
structure S74 where
  f0 : (List Int)
  f1 : Int
  f2 : Int
end Go.Proofs.Yteoncgijnkfhfaa.P
