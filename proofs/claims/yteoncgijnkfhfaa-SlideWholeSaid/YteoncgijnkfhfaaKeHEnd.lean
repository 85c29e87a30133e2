/- The end of a reader: fewer than eight bits may be left, all 0. -/
import Derived.Test.YteoncgijnkfhfaaKePx0
import Derived.Test.YteoncgijnkfhfaaKePx1
namespace Go.Proofs.Yteoncgijnkfhfaa.P
open Go.RowKit Go.Proofs.YteoncgijnkfhfaaW.PrintWords Go.Proofs.YteoncgijnkfhfaaW.PrintLast Go.Proofs.YteoncgijnkfhfaaW.PrintMore
set_option linter.unusedVariables false
set_option linter.unusedSimpArgs false

def pipe_Reader_End.j (k : Nat) (b : List Int) (p e : Int) : Option (Int × Int × Int) := (pipe_Reader_Align.f k b p e).bind fun x => some (x.2, p, e)
end Go.Proofs.Yteoncgijnkfhfaa.P
