/-
  No cell of these rows narrows 'for every input' (looked for: loops, veiled, ifaces, maps, wideKeys, modest, calm, conditions, laid).
  DERIVED. THE GIVEN ROWS OF THIS SEAT. 12 by the template 'for every input the law returns true; each argument reads behind the call as it read before'; 0 by the template 'total and deterministic' (their statements: YtoglefgjiaoopaaTotals.lean).
  GIVEN WITH THE SEED: the statements are not yours to turn. If you find one false, say at which input.
  Laid BY PROGRAM, IN A SANDBOX (cutbox-rows.mjs): the forced cells as the released guide's own fill.sh prints them over the translation c65448f10ba91826… (all of the seat's roots in one cut). By AI agents, Wed Nov 11 2026. No macro, syntax, notation, axiom, sorry.
-/
import Derived.Test.YtoglefgjiaoopaaChecked
import GoSem.Claim
import GoSem.ClaimJoined
import GoSem.ClaimMapViews
import Derived.JoinedTies
import Derived.KernelRfl
namespace Go.Proofs.Ytoglefgjiaoopaa
/- THE CELL 'sum', in the pinned program and in every row, IS THE sha256 OF THE DUMP (.gsa) THAT YtoglefgjiaoopaaProg.lean LOADS. Nothing in Lean hashes anything: it is a label: what it is worth is what the hold of that sum in a sandbox is worth. -/
noncomputable def Try.pinned : Pinned := { name := "ytoglefgjiaoopaa", sum := "c65448f10ba91826910c6ac96637e3c489b68888914ccfe52d8bfec803801a56", checked := Try.checked }
namespace Rows
def none {H : Type} : Left H := { results := [], args := [] }

/-- 'sackbutlaw06.LatticeSteps': WHATEVER THE INPUT: true; the input reads as it did. -/
def latticeStepsSpec : ChangeSpec := { name := "latticeSteps", fn := fun _ => fun
  | [d1, d2] => { results := [.lit (.bool true)], args := [d1, d2] }
  | _ => none }
def latticeStepsRow : OpenClaim := { program := "ytoglefgjiaoopaa", sum := "c65448f10ba91826910c6ac96637e3c489b68888914ccfe52d8bfec803801a56", func := "sackbut/sackbutlaw06.LatticeSteps", spec := "latticeSteps", unfollowed := true, recurses := true, apart := false }
def LatticeStepsSaid : Prop := latticeStepsRow.holds Try.pinned (OpenSpec.ofChange latticeStepsSpec)

/-- ITS FALSE NEIGHBOUR: 'it returns false'. Refute it at one input. -/
def latticeStepsWrong : ChangeSpec := { name := "latticeSteps", fn := fun _ => fun
  | [d1, d2] => { results := [.lit (.bool false)], args := [d1, d2] }
  | _ => none }
def LatticeStepsWrongFalsely : Prop := latticeStepsRow.holds Try.pinned (OpenSpec.ofChange latticeStepsWrong)

/-- 'sackbutlaw06.LatticeRounds': WHATEVER THE INPUT: true; the input reads as it did. -/
def latticeRoundsSpec : ChangeSpec := { name := "latticeRounds", fn := fun _ => fun
  | [d] => { results := [.lit (.bool true)], args := [d] }
  | _ => none }
def latticeRoundsRow : OpenClaim := { program := "ytoglefgjiaoopaa", sum := "c65448f10ba91826910c6ac96637e3c489b68888914ccfe52d8bfec803801a56", func := "sackbut/sackbutlaw06.LatticeRounds", spec := "latticeRounds", unfollowed := true, recurses := true, apart := false }
def LatticeRoundsSaid : Prop := latticeRoundsRow.holds Try.pinned (OpenSpec.ofChange latticeRoundsSpec)

/-- ITS FALSE NEIGHBOUR: 'it returns false'. Refute it at one input. -/
def latticeRoundsWrong : ChangeSpec := { name := "latticeRounds", fn := fun _ => fun
  | [d] => { results := [.lit (.bool false)], args := [d] }
  | _ => none }
def LatticeRoundsWrongFalsely : Prop := latticeRoundsRow.holds Try.pinned (OpenSpec.ofChange latticeRoundsWrong)

/-- 'sackbutlaw06.LatticePredicts': WHATEVER THE INPUT: true; the input reads as it did. -/
def latticePredictsSpec : ChangeSpec := { name := "latticePredicts", fn := fun _ => fun
  | [d1, d2] => { results := [.lit (.bool true)], args := [d1, d2] }
  | _ => none }
def latticePredictsRow : OpenClaim := { program := "ytoglefgjiaoopaa", sum := "c65448f10ba91826910c6ac96637e3c489b68888914ccfe52d8bfec803801a56", func := "sackbut/sackbutlaw06.LatticePredicts", spec := "latticePredicts", unfollowed := true, recurses := true, apart := false }
def LatticePredictsSaid : Prop := latticePredictsRow.holds Try.pinned (OpenSpec.ofChange latticePredictsSpec)

/-- ITS FALSE NEIGHBOUR: 'it returns false'. Refute it at one input. -/
def latticePredictsWrong : ChangeSpec := { name := "latticePredicts", fn := fun _ => fun
  | [d1, d2] => { results := [.lit (.bool false)], args := [d1, d2] }
  | _ => none }
def LatticePredictsWrongFalsely : Prop := latticePredictsRow.holds Try.pinned (OpenSpec.ofChange latticePredictsWrong)

/-- 'sackbutlaw06.LatticeSilent': WHATEVER THE INPUT: true; the input reads as it did. -/
def latticeSilentSpec : ChangeSpec := { name := "latticeSilent", fn := fun _ => fun
  | [d1, d2] => { results := [.lit (.bool true)], args := [d1, d2] }
  | _ => none }
def latticeSilentRow : OpenClaim := { program := "ytoglefgjiaoopaa", sum := "c65448f10ba91826910c6ac96637e3c489b68888914ccfe52d8bfec803801a56", func := "sackbut/sackbutlaw06.LatticeSilent", spec := "latticeSilent", unfollowed := true, recurses := true, apart := false }
def LatticeSilentSaid : Prop := latticeSilentRow.holds Try.pinned (OpenSpec.ofChange latticeSilentSpec)

/-- ITS FALSE NEIGHBOUR: 'it returns false'. Refute it at one input. -/
def latticeSilentWrong : ChangeSpec := { name := "latticeSilent", fn := fun _ => fun
  | [d1, d2] => { results := [.lit (.bool false)], args := [d1, d2] }
  | _ => none }
def LatticeSilentWrongFalsely : Prop := latticeSilentRow.holds Try.pinned (OpenSpec.ofChange latticeSilentWrong)

/-- 'sackbutlaw06.LatticeNear': WHATEVER THE INPUT: true; the input reads as it did. -/
def latticeNearSpec : ChangeSpec := { name := "latticeNear", fn := fun _ => fun
  | [d1, d2, d3] => { results := [.lit (.bool true)], args := [d1, d2, d3] }
  | _ => none }
def latticeNearRow : OpenClaim := { program := "ytoglefgjiaoopaa", sum := "c65448f10ba91826910c6ac96637e3c489b68888914ccfe52d8bfec803801a56", func := "sackbut/sackbutlaw06.LatticeNear", spec := "latticeNear", unfollowed := true, recurses := true, apart := false }
def LatticeNearSaid : Prop := latticeNearRow.holds Try.pinned (OpenSpec.ofChange latticeNearSpec)

/-- ITS FALSE NEIGHBOUR: 'it returns false'. Refute it at one input. -/
def latticeNearWrong : ChangeSpec := { name := "latticeNear", fn := fun _ => fun
  | [d1, d2, d3] => { results := [.lit (.bool false)], args := [d1, d2, d3] }
  | _ => none }
def LatticeNearWrongFalsely : Prop := latticeNearRow.holds Try.pinned (OpenSpec.ofChange latticeNearWrong)

/-- 'sackbutlaw06.LatticeCoefs': WHATEVER THE INPUT: true; the input reads as it did. -/
def latticeCoefsSpec : ChangeSpec := { name := "latticeCoefs", fn := fun _ => fun
  | [d] => { results := [.lit (.bool true)], args := [d] }
  | _ => none }
def latticeCoefsRow : OpenClaim := { program := "ytoglefgjiaoopaa", sum := "c65448f10ba91826910c6ac96637e3c489b68888914ccfe52d8bfec803801a56", func := "sackbut/sackbutlaw06.LatticeCoefs", spec := "latticeCoefs", unfollowed := true, recurses := true, apart := false }
def LatticeCoefsSaid : Prop := latticeCoefsRow.holds Try.pinned (OpenSpec.ofChange latticeCoefsSpec)

/-- ITS FALSE NEIGHBOUR: 'it returns false'. Refute it at one input. -/
def latticeCoefsWrong : ChangeSpec := { name := "latticeCoefs", fn := fun _ => fun
  | [d] => { results := [.lit (.bool false)], args := [d] }
  | _ => none }
def LatticeCoefsWrongFalsely : Prop := latticeCoefsRow.holds Try.pinned (OpenSpec.ofChange latticeCoefsWrong)

/-- 'sackbutlaw07.FilterFirst': WHATEVER THE INPUT: true; the input reads as it did. -/
def filterFirstSpec : ChangeSpec := { name := "filterFirst", fn := fun _ => fun
  | [d1, d2, d3] => { results := [.lit (.bool true)], args := [d1, d2, d3] }
  | _ => none }
def filterFirstRow : OpenClaim := { program := "ytoglefgjiaoopaa", sum := "c65448f10ba91826910c6ac96637e3c489b68888914ccfe52d8bfec803801a56", func := "sackbut/sackbutlaw07.FilterFirst", spec := "filterFirst", unfollowed := true, recurses := true, apart := false }
def FilterFirstSaid : Prop := filterFirstRow.holds Try.pinned (OpenSpec.ofChange filterFirstSpec)

/-- ITS FALSE NEIGHBOUR: 'it returns false'. Refute it at one input. -/
def filterFirstWrong : ChangeSpec := { name := "filterFirst", fn := fun _ => fun
  | [d1, d2, d3] => { results := [.lit (.bool false)], args := [d1, d2, d3] }
  | _ => none }
def FilterFirstWrongFalsely : Prop := filterFirstRow.holds Try.pinned (OpenSpec.ofChange filterFirstWrong)

/-- 'sackbutlaw07.FilterStill': WHATEVER THE INPUT: true; the input reads as it did. -/
def filterStillSpec : ChangeSpec := { name := "filterStill", fn := fun _ => fun
  | [d] => { results := [.lit (.bool true)], args := [d] }
  | _ => none }
def filterStillRow : OpenClaim := { program := "ytoglefgjiaoopaa", sum := "c65448f10ba91826910c6ac96637e3c489b68888914ccfe52d8bfec803801a56", func := "sackbut/sackbutlaw07.FilterStill", spec := "filterStill", unfollowed := true, recurses := true, apart := false }
def FilterStillSaid : Prop := filterStillRow.holds Try.pinned (OpenSpec.ofChange filterStillSpec)

/-- ITS FALSE NEIGHBOUR: 'it returns false'. Refute it at one input. -/
def filterStillWrong : ChangeSpec := { name := "filterStill", fn := fun _ => fun
  | [d] => { results := [.lit (.bool false)], args := [d] }
  | _ => none }
def FilterStillWrongFalsely : Prop := filterStillRow.holds Try.pinned (OpenSpec.ofChange filterStillWrong)

/-- 'sackbutlaw07.FilterSilence': WHATEVER THE INPUT: true; the input reads as it did. -/
def filterSilenceSpec : ChangeSpec := { name := "filterSilence", fn := fun _ => fun
  | [d1, d2, d3] => { results := [.lit (.bool true)], args := [d1, d2, d3] }
  | _ => none }
def filterSilenceRow : OpenClaim := { program := "ytoglefgjiaoopaa", sum := "c65448f10ba91826910c6ac96637e3c489b68888914ccfe52d8bfec803801a56", func := "sackbut/sackbutlaw07.FilterSilence", spec := "filterSilence", unfollowed := true, recurses := true, apart := false }
def FilterSilenceSaid : Prop := filterSilenceRow.holds Try.pinned (OpenSpec.ofChange filterSilenceSpec)

/-- ITS FALSE NEIGHBOUR: 'it returns false'. Refute it at one input. -/
def filterSilenceWrong : ChangeSpec := { name := "filterSilence", fn := fun _ => fun
  | [d1, d2, d3] => { results := [.lit (.bool false)], args := [d1, d2, d3] }
  | _ => none }
def FilterSilenceWrongFalsely : Prop := filterSilenceRow.holds Try.pinned (OpenSpec.ofChange filterSilenceWrong)

/-- 'sackbutlaw07.FilterResiduals': WHATEVER THE INPUT: true; the input reads as it did. -/
def filterResidualsSpec : ChangeSpec := { name := "filterResiduals", fn := fun _ => fun
  | [d1, d2] => { results := [.lit (.bool true)], args := [d1, d2] }
  | _ => none }
def filterResidualsRow : OpenClaim := { program := "ytoglefgjiaoopaa", sum := "c65448f10ba91826910c6ac96637e3c489b68888914ccfe52d8bfec803801a56", func := "sackbut/sackbutlaw07.FilterResiduals", spec := "filterResiduals", unfollowed := true, recurses := true, apart := false }
def FilterResidualsSaid : Prop := filterResidualsRow.holds Try.pinned (OpenSpec.ofChange filterResidualsSpec)

/-- ITS FALSE NEIGHBOUR: 'it returns false'. Refute it at one input. -/
def filterResidualsWrong : ChangeSpec := { name := "filterResiduals", fn := fun _ => fun
  | [d1, d2] => { results := [.lit (.bool false)], args := [d1, d2] }
  | _ => none }
def FilterResidualsWrongFalsely : Prop := filterResidualsRow.holds Try.pinned (OpenSpec.ofChange filterResidualsWrong)

/-- 'sackbutlaw07.FilterSamples': WHATEVER THE INPUT: true; the input reads as it did. -/
def filterSamplesSpec : ChangeSpec := { name := "filterSamples", fn := fun _ => fun
  | [d1, d2, d3] => { results := [.lit (.bool true)], args := [d1, d2, d3] }
  | _ => none }
def filterSamplesRow : OpenClaim := { program := "ytoglefgjiaoopaa", sum := "c65448f10ba91826910c6ac96637e3c489b68888914ccfe52d8bfec803801a56", func := "sackbut/sackbutlaw07.FilterSamples", spec := "filterSamples", unfollowed := true, recurses := true, apart := false }
def FilterSamplesSaid : Prop := filterSamplesRow.holds Try.pinned (OpenSpec.ofChange filterSamplesSpec)

/-- ITS FALSE NEIGHBOUR: 'it returns false'. Refute it at one input. -/
def filterSamplesWrong : ChangeSpec := { name := "filterSamples", fn := fun _ => fun
  | [d1, d2, d3] => { results := [.lit (.bool false)], args := [d1, d2, d3] }
  | _ => none }
def FilterSamplesWrongFalsely : Prop := filterSamplesRow.holds Try.pinned (OpenSpec.ofChange filterSamplesWrong)

/-- 'sackbutlaw07.FilterLeast': WHATEVER THE INPUT: true; the input reads as it did. -/
def filterLeastSpec : ChangeSpec := { name := "filterLeast", fn := fun _ => fun
  | [d1, d2] => { results := [.lit (.bool true)], args := [d1, d2] }
  | _ => none }
def filterLeastRow : OpenClaim := { program := "ytoglefgjiaoopaa", sum := "c65448f10ba91826910c6ac96637e3c489b68888914ccfe52d8bfec803801a56", func := "sackbut/sackbutlaw07.FilterLeast", spec := "filterLeast", unfollowed := true, recurses := true, apart := false }
def FilterLeastSaid : Prop := filterLeastRow.holds Try.pinned (OpenSpec.ofChange filterLeastSpec)

/-- ITS FALSE NEIGHBOUR: 'it returns false'. Refute it at one input. -/
def filterLeastWrong : ChangeSpec := { name := "filterLeast", fn := fun _ => fun
  | [d1, d2] => { results := [.lit (.bool false)], args := [d1, d2] }
  | _ => none }
def FilterLeastWrongFalsely : Prop := filterLeastRow.holds Try.pinned (OpenSpec.ofChange filterLeastWrong)

/- THE SECOND FORM. 'bulk': how many values and letters a reading holds, each counted each time it is reached (what is shared counts as often as it is met; a slice's spare places count too). A statement '..UptoSaid' is the law's where the arguments, and the package variables that the reading takes, are together of bulk at most 1048576: NARROWER than '..Said'. Prove '..Said' where nothing that the law and all that it calls make is longer than what came in: it says more and counts as full. Else prove '..UptoSaid'. A law counts once. -/
mutual
def uptoBulk {H : Type} : DataW H → Nat
  | .lit (.string bytes) => bytes.length + 1
  | .lit _ => 1
  | .nil => 1
  | .ptr d => uptoBulk d + 1
  | .slice elems spare => uptoBulkAll elems + uptoBulkAll spare + 1
  | .agg parts => uptoBulkAll parts + 1
  | .iface _ d => uptoBulk d + 1
  | .map entries => uptoBulkEntries entries + 1
  | .held _ => 1
def uptoBulkAll {H : Type} : List (DataW H) → Nat
  | [] => 0
  | d :: r => uptoBulk d + uptoBulkAll r
def uptoBulkEntries {H : Type} : List (Lit × DataW H) → Nat
  | [] => 0
  | x :: r => uptoBulkEntry x + uptoBulkEntries r
def uptoBulkEntry {H : Type} : Lit × DataW H → Nat
  | (.string bytes, d) => bytes.length + uptoBulk d + 1
  | (_, d) => uptoBulk d + 1
 end
def uptoSmall : (H : Type) → List (DataW H) → Bool := fun _ ds => decide (uptoBulkAll ds ≤ 1048576)
def OpenSpec.upto (s : _root_.Go.ChangeSpec) : _root_.Go.OpenSpec := { _root_.Go.OpenSpec.ofChange s with cond := some uptoSmall }

/-- 'sackbutlaw06.LatticeSteps', WHERE WHAT IT READS IS OF BULK AT MOST 1048576: true; the input reads as it did. -/
def latticeStepsUptoRow : OpenClaim := { program := "ytoglefgjiaoopaa", sum := "c65448f10ba91826910c6ac96637e3c489b68888914ccfe52d8bfec803801a56", func := "sackbut/sackbutlaw06.LatticeSteps", spec := "latticeSteps", unfollowed := true, recurses := true, apart := false, narrowed := true }
def LatticeStepsUptoSaid : Prop := latticeStepsUptoRow.holds Try.pinned (OpenSpec.upto latticeStepsSpec)

/-- 'sackbutlaw06.LatticeRounds', WHERE WHAT IT READS IS OF BULK AT MOST 1048576: true; the input reads as it did. -/
def latticeRoundsUptoRow : OpenClaim := { program := "ytoglefgjiaoopaa", sum := "c65448f10ba91826910c6ac96637e3c489b68888914ccfe52d8bfec803801a56", func := "sackbut/sackbutlaw06.LatticeRounds", spec := "latticeRounds", unfollowed := true, recurses := true, apart := false, narrowed := true }
def LatticeRoundsUptoSaid : Prop := latticeRoundsUptoRow.holds Try.pinned (OpenSpec.upto latticeRoundsSpec)

/-- 'sackbutlaw06.LatticePredicts', WHERE WHAT IT READS IS OF BULK AT MOST 1048576: true; the input reads as it did. -/
def latticePredictsUptoRow : OpenClaim := { program := "ytoglefgjiaoopaa", sum := "c65448f10ba91826910c6ac96637e3c489b68888914ccfe52d8bfec803801a56", func := "sackbut/sackbutlaw06.LatticePredicts", spec := "latticePredicts", unfollowed := true, recurses := true, apart := false, narrowed := true }
def LatticePredictsUptoSaid : Prop := latticePredictsUptoRow.holds Try.pinned (OpenSpec.upto latticePredictsSpec)

/-- 'sackbutlaw06.LatticeSilent', WHERE WHAT IT READS IS OF BULK AT MOST 1048576: true; the input reads as it did. -/
def latticeSilentUptoRow : OpenClaim := { program := "ytoglefgjiaoopaa", sum := "c65448f10ba91826910c6ac96637e3c489b68888914ccfe52d8bfec803801a56", func := "sackbut/sackbutlaw06.LatticeSilent", spec := "latticeSilent", unfollowed := true, recurses := true, apart := false, narrowed := true }
def LatticeSilentUptoSaid : Prop := latticeSilentUptoRow.holds Try.pinned (OpenSpec.upto latticeSilentSpec)

/-- 'sackbutlaw06.LatticeNear', WHERE WHAT IT READS IS OF BULK AT MOST 1048576: true; the input reads as it did. -/
def latticeNearUptoRow : OpenClaim := { program := "ytoglefgjiaoopaa", sum := "c65448f10ba91826910c6ac96637e3c489b68888914ccfe52d8bfec803801a56", func := "sackbut/sackbutlaw06.LatticeNear", spec := "latticeNear", unfollowed := true, recurses := true, apart := false, narrowed := true }
def LatticeNearUptoSaid : Prop := latticeNearUptoRow.holds Try.pinned (OpenSpec.upto latticeNearSpec)

/-- 'sackbutlaw06.LatticeCoefs', WHERE WHAT IT READS IS OF BULK AT MOST 1048576: true; the input reads as it did. -/
def latticeCoefsUptoRow : OpenClaim := { program := "ytoglefgjiaoopaa", sum := "c65448f10ba91826910c6ac96637e3c489b68888914ccfe52d8bfec803801a56", func := "sackbut/sackbutlaw06.LatticeCoefs", spec := "latticeCoefs", unfollowed := true, recurses := true, apart := false, narrowed := true }
def LatticeCoefsUptoSaid : Prop := latticeCoefsUptoRow.holds Try.pinned (OpenSpec.upto latticeCoefsSpec)

/-- 'sackbutlaw07.FilterFirst', WHERE WHAT IT READS IS OF BULK AT MOST 1048576: true; the input reads as it did. -/
def filterFirstUptoRow : OpenClaim := { program := "ytoglefgjiaoopaa", sum := "c65448f10ba91826910c6ac96637e3c489b68888914ccfe52d8bfec803801a56", func := "sackbut/sackbutlaw07.FilterFirst", spec := "filterFirst", unfollowed := true, recurses := true, apart := false, narrowed := true }
def FilterFirstUptoSaid : Prop := filterFirstUptoRow.holds Try.pinned (OpenSpec.upto filterFirstSpec)

/-- 'sackbutlaw07.FilterStill', WHERE WHAT IT READS IS OF BULK AT MOST 1048576: true; the input reads as it did. -/
def filterStillUptoRow : OpenClaim := { program := "ytoglefgjiaoopaa", sum := "c65448f10ba91826910c6ac96637e3c489b68888914ccfe52d8bfec803801a56", func := "sackbut/sackbutlaw07.FilterStill", spec := "filterStill", unfollowed := true, recurses := true, apart := false, narrowed := true }
def FilterStillUptoSaid : Prop := filterStillUptoRow.holds Try.pinned (OpenSpec.upto filterStillSpec)

/-- 'sackbutlaw07.FilterSilence', WHERE WHAT IT READS IS OF BULK AT MOST 1048576: true; the input reads as it did. -/
def filterSilenceUptoRow : OpenClaim := { program := "ytoglefgjiaoopaa", sum := "c65448f10ba91826910c6ac96637e3c489b68888914ccfe52d8bfec803801a56", func := "sackbut/sackbutlaw07.FilterSilence", spec := "filterSilence", unfollowed := true, recurses := true, apart := false, narrowed := true }
def FilterSilenceUptoSaid : Prop := filterSilenceUptoRow.holds Try.pinned (OpenSpec.upto filterSilenceSpec)

/-- 'sackbutlaw07.FilterResiduals', WHERE WHAT IT READS IS OF BULK AT MOST 1048576: true; the input reads as it did. -/
def filterResidualsUptoRow : OpenClaim := { program := "ytoglefgjiaoopaa", sum := "c65448f10ba91826910c6ac96637e3c489b68888914ccfe52d8bfec803801a56", func := "sackbut/sackbutlaw07.FilterResiduals", spec := "filterResiduals", unfollowed := true, recurses := true, apart := false, narrowed := true }
def FilterResidualsUptoSaid : Prop := filterResidualsUptoRow.holds Try.pinned (OpenSpec.upto filterResidualsSpec)

/-- 'sackbutlaw07.FilterSamples', WHERE WHAT IT READS IS OF BULK AT MOST 1048576: true; the input reads as it did. -/
def filterSamplesUptoRow : OpenClaim := { program := "ytoglefgjiaoopaa", sum := "c65448f10ba91826910c6ac96637e3c489b68888914ccfe52d8bfec803801a56", func := "sackbut/sackbutlaw07.FilterSamples", spec := "filterSamples", unfollowed := true, recurses := true, apart := false, narrowed := true }
def FilterSamplesUptoSaid : Prop := filterSamplesUptoRow.holds Try.pinned (OpenSpec.upto filterSamplesSpec)

/-- 'sackbutlaw07.FilterLeast', WHERE WHAT IT READS IS OF BULK AT MOST 1048576: true; the input reads as it did. -/
def filterLeastUptoRow : OpenClaim := { program := "ytoglefgjiaoopaa", sum := "c65448f10ba91826910c6ac96637e3c489b68888914ccfe52d8bfec803801a56", func := "sackbut/sackbutlaw07.FilterLeast", spec := "filterLeast", unfollowed := true, recurses := true, apart := false, narrowed := true }
def FilterLeastUptoSaid : Prop := filterLeastUptoRow.holds Try.pinned (OpenSpec.upto filterLeastSpec)

end Rows
end Go.Proofs.Ytoglefgjiaoopaa
