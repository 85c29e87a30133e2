/-
  No cell of these rows narrows 'for every input' (looked for: loops, veiled, ifaces, maps, wideKeys, modest, calm, conditions, laid).
  DERIVED. THE GIVEN ROWS OF THIS SEAT. 6 by the template 'for every input the law returns true; each argument reads behind the call as it read before'; 0 by the template 'total and deterministic' (their statements: YteoncgijnkfhfaaTotals.lean).
  GIVEN WITH THE SEED: the statements are not yours to turn. If you find one false, say at which input.
  Laid BY PROGRAM, IN A SANDBOX (cutbox-rows.mjs): the forced cells as the released guide's own fill.sh prints them over the translation 39b47ce676a88a7c… (all of the seat's roots in one cut). By AI agents, Wed Nov 11 2026. No macro, syntax, notation, axiom, sorry.
-/
import Derived.Test.YteoncgijnkfhfaaChecked
import GoSem.Claim
import GoSem.ClaimJoined
import GoSem.ClaimMapViews
import Derived.JoinedTies
import Derived.KernelRfl
namespace Go.Proofs.Yteoncgijnkfhfaa
/- THE CELL 'sum', in the pinned program and in every row, IS THE sha256 OF THE DUMP (.gsa) THAT YteoncgijnkfhfaaProg.lean LOADS. Nothing in Lean hashes anything: it is a label: what it is worth is what the hold of that sum in a sandbox is worth. -/
noncomputable def Try.pinned : Pinned := { name := "yteoncgijnkfhfaa", sum := "39b47ce676a88a7cb6916b5c74253de7ff8330d2397fdcf04a1e80f694ee3226", checked := Try.checked }
namespace Rows
def none {H : Type} : Left H := { results := [], args := [] }

/-- 'sackbutlaw03.SlideBest': WHATEVER THE INPUT: true; the input reads as it did. -/
def slideBestSpec : ChangeSpec := { name := "slideBest", fn := fun _ => fun
  | [d1, d2] => { results := [.lit (.bool true)], args := [d1, d2] }
  | _ => none }
def slideBestRow : OpenClaim := { program := "yteoncgijnkfhfaa", sum := "39b47ce676a88a7cb6916b5c74253de7ff8330d2397fdcf04a1e80f694ee3226", func := "sackbut/sackbutlaw03.SlideBest", spec := "slideBest", unfollowed := true, recurses := true, apart := false }
def SlideBestSaid : Prop := slideBestRow.holds Try.pinned (OpenSpec.ofChange slideBestSpec)

/-- ITS FALSE NEIGHBOUR: 'it returns false'. Refute it at one input. -/
def slideBestWrong : ChangeSpec := { name := "slideBest", fn := fun _ => fun
  | [d1, d2] => { results := [.lit (.bool false)], args := [d1, d2] }
  | _ => none }
def SlideBestWrongFalsely : Prop := slideBestRow.holds Try.pinned (OpenSpec.ofChange slideBestWrong)

/-- 'sackbutlaw03.SlideOne': WHATEVER THE INPUT: true; the input reads as it did. -/
def slideOneSpec : ChangeSpec := { name := "slideOne", fn := fun _ => fun
  | [d1, d2] => { results := [.lit (.bool true)], args := [d1, d2] }
  | _ => none }
def slideOneRow : OpenClaim := { program := "yteoncgijnkfhfaa", sum := "39b47ce676a88a7cb6916b5c74253de7ff8330d2397fdcf04a1e80f694ee3226", func := "sackbut/sackbutlaw03.SlideOne", spec := "slideOne", unfollowed := true, recurses := true, apart := false }
def SlideOneSaid : Prop := slideOneRow.holds Try.pinned (OpenSpec.ofChange slideOneSpec)

/-- ITS FALSE NEIGHBOUR: 'it returns false'. Refute it at one input. -/
def slideOneWrong : ChangeSpec := { name := "slideOne", fn := fun _ => fun
  | [d1, d2] => { results := [.lit (.bool false)], args := [d1, d2] }
  | _ => none }
def SlideOneWrongFalsely : Prop := slideOneRow.holds Try.pinned (OpenSpec.ofChange slideOneWrong)

/-- 'sackbutlaw03.SlideLeast': WHATEVER THE INPUT: true; the input reads as it did. -/
def slideLeastSpec : ChangeSpec := { name := "slideLeast", fn := fun _ => fun
  | [d1, d2] => { results := [.lit (.bool true)], args := [d1, d2] }
  | _ => none }
def slideLeastRow : OpenClaim := { program := "yteoncgijnkfhfaa", sum := "39b47ce676a88a7cb6916b5c74253de7ff8330d2397fdcf04a1e80f694ee3226", func := "sackbut/sackbutlaw03.SlideLeast", spec := "slideLeast", unfollowed := true, recurses := true, apart := false }
def SlideLeastSaid : Prop := slideLeastRow.holds Try.pinned (OpenSpec.ofChange slideLeastSpec)

/-- ITS FALSE NEIGHBOUR: 'it returns false'. Refute it at one input. -/
def slideLeastWrong : ChangeSpec := { name := "slideLeast", fn := fun _ => fun
  | [d1, d2] => { results := [.lit (.bool false)], args := [d1, d2] }
  | _ => none }
def SlideLeastWrongFalsely : Prop := slideLeastRow.holds Try.pinned (OpenSpec.ofChange slideLeastWrong)

/-- 'sackbutlaw03.SlideTakes': WHATEVER THE INPUT: true; the input reads as it did. -/
def slideTakesSpec : ChangeSpec := { name := "slideTakes", fn := fun _ => fun
  | [d1, d2] => { results := [.lit (.bool true)], args := [d1, d2] }
  | _ => none }
def slideTakesRow : OpenClaim := { program := "yteoncgijnkfhfaa", sum := "39b47ce676a88a7cb6916b5c74253de7ff8330d2397fdcf04a1e80f694ee3226", func := "sackbut/sackbutlaw03.SlideTakes", spec := "slideTakes", unfollowed := true, recurses := true, apart := false }
def SlideTakesSaid : Prop := slideTakesRow.holds Try.pinned (OpenSpec.ofChange slideTakesSpec)

/-- ITS FALSE NEIGHBOUR: 'it returns false'. Refute it at one input. -/
def slideTakesWrong : ChangeSpec := { name := "slideTakes", fn := fun _ => fun
  | [d1, d2] => { results := [.lit (.bool false)], args := [d1, d2] }
  | _ => none }
def SlideTakesWrongFalsely : Prop := slideTakesRow.holds Try.pinned (OpenSpec.ofChange slideTakesWrong)

/-- 'sackbutlaw03.SlidePuts': WHATEVER THE INPUT: true; the input reads as it did. -/
def slidePutsSpec : ChangeSpec := { name := "slidePuts", fn := fun _ => fun
  | [d1, d2] => { results := [.lit (.bool true)], args := [d1, d2] }
  | _ => none }
def slidePutsRow : OpenClaim := { program := "yteoncgijnkfhfaa", sum := "39b47ce676a88a7cb6916b5c74253de7ff8330d2397fdcf04a1e80f694ee3226", func := "sackbut/sackbutlaw03.SlidePuts", spec := "slidePuts", unfollowed := true, recurses := true, apart := false }
def SlidePutsSaid : Prop := slidePutsRow.holds Try.pinned (OpenSpec.ofChange slidePutsSpec)

/-- ITS FALSE NEIGHBOUR: 'it returns false'. Refute it at one input. -/
def slidePutsWrong : ChangeSpec := { name := "slidePuts", fn := fun _ => fun
  | [d1, d2] => { results := [.lit (.bool false)], args := [d1, d2] }
  | _ => none }
def SlidePutsWrongFalsely : Prop := slidePutsRow.holds Try.pinned (OpenSpec.ofChange slidePutsWrong)

/-- 'sackbutlaw03.SlideWhole': WHATEVER THE INPUT: true; the input reads as it did. -/
def slideWholeSpec : ChangeSpec := { name := "slideWhole", fn := fun _ => fun
  | [d1, d2] => { results := [.lit (.bool true)], args := [d1, d2] }
  | _ => none }
def slideWholeRow : OpenClaim := { program := "yteoncgijnkfhfaa", sum := "39b47ce676a88a7cb6916b5c74253de7ff8330d2397fdcf04a1e80f694ee3226", func := "sackbut/sackbutlaw03.SlideWhole", spec := "slideWhole", unfollowed := true, recurses := true, apart := false }
def SlideWholeSaid : Prop := slideWholeRow.holds Try.pinned (OpenSpec.ofChange slideWholeSpec)

/-- ITS FALSE NEIGHBOUR: 'it returns false'. Refute it at one input. -/
def slideWholeWrong : ChangeSpec := { name := "slideWhole", fn := fun _ => fun
  | [d1, d2] => { results := [.lit (.bool false)], args := [d1, d2] }
  | _ => none }
def SlideWholeWrongFalsely : Prop := slideWholeRow.holds Try.pinned (OpenSpec.ofChange slideWholeWrong)

/- THE SECOND FORM. 'bulk': how many values and letters a reading holds, each counted each time it is reached (what is shared counts as often as it is met; a slice's spare places count too). A statement '..UptoSaid' is the law's where the arguments, and the package variables that the reading takes, are together of bulk at most 1048576: NARROWER than '..Said'. Prove '..Said' where nothing that the law and all that it calls make is longer than what came in: it says more and counts as full. Else prove '..UptoSaid'. A law counts once. -/
mutual
def uptoBulk {H : Type} : DataW H → Nat
  | .lit (.string bytes) => bytes.length + 1
  | .lit _ => 1
  | .nil => 1
  | .ptr d => uptoBulk d + 1
  | .slice elems spare => uptoBulkAll elems + uptoBulkAll spare + 1
  | .agg parts => uptoBulkAll parts + 1
  | .iface _ d => uptoBulk d + 1
  | .map entries => uptoBulkEntries entries + 1
  | .held _ => 1
def uptoBulkAll {H : Type} : List (DataW H) → Nat
  | [] => 0
  | d :: r => uptoBulk d + uptoBulkAll r
def uptoBulkEntries {H : Type} : List (Lit × DataW H) → Nat
  | [] => 0
  | x :: r => uptoBulkEntry x + uptoBulkEntries r
def uptoBulkEntry {H : Type} : Lit × DataW H → Nat
  | (.string bytes, d) => bytes.length + uptoBulk d + 1
  | (_, d) => uptoBulk d + 1
 end
def uptoSmall : (H : Type) → List (DataW H) → Bool := fun _ ds => decide (uptoBulkAll ds ≤ 1048576)
def OpenSpec.upto (s : _root_.Go.ChangeSpec) : _root_.Go.OpenSpec := { _root_.Go.OpenSpec.ofChange s with cond := some uptoSmall }

/-- 'sackbutlaw03.SlideBest', WHERE WHAT IT READS IS OF BULK AT MOST 1048576: true; the input reads as it did. -/
def slideBestUptoRow : OpenClaim := { program := "yteoncgijnkfhfaa", sum := "39b47ce676a88a7cb6916b5c74253de7ff8330d2397fdcf04a1e80f694ee3226", func := "sackbut/sackbutlaw03.SlideBest", spec := "slideBest", unfollowed := true, recurses := true, apart := false, narrowed := true }
def SlideBestUptoSaid : Prop := slideBestUptoRow.holds Try.pinned (OpenSpec.upto slideBestSpec)

/-- 'sackbutlaw03.SlideOne', WHERE WHAT IT READS IS OF BULK AT MOST 1048576: true; the input reads as it did. -/
def slideOneUptoRow : OpenClaim := { program := "yteoncgijnkfhfaa", sum := "39b47ce676a88a7cb6916b5c74253de7ff8330d2397fdcf04a1e80f694ee3226", func := "sackbut/sackbutlaw03.SlideOne", spec := "slideOne", unfollowed := true, recurses := true, apart := false, narrowed := true }
def SlideOneUptoSaid : Prop := slideOneUptoRow.holds Try.pinned (OpenSpec.upto slideOneSpec)

/-- 'sackbutlaw03.SlideLeast', WHERE WHAT IT READS IS OF BULK AT MOST 1048576: true; the input reads as it did. -/
def slideLeastUptoRow : OpenClaim := { program := "yteoncgijnkfhfaa", sum := "39b47ce676a88a7cb6916b5c74253de7ff8330d2397fdcf04a1e80f694ee3226", func := "sackbut/sackbutlaw03.SlideLeast", spec := "slideLeast", unfollowed := true, recurses := true, apart := false, narrowed := true }
def SlideLeastUptoSaid : Prop := slideLeastUptoRow.holds Try.pinned (OpenSpec.upto slideLeastSpec)

/-- 'sackbutlaw03.SlideTakes', WHERE WHAT IT READS IS OF BULK AT MOST 1048576: true; the input reads as it did. -/
def slideTakesUptoRow : OpenClaim := { program := "yteoncgijnkfhfaa", sum := "39b47ce676a88a7cb6916b5c74253de7ff8330d2397fdcf04a1e80f694ee3226", func := "sackbut/sackbutlaw03.SlideTakes", spec := "slideTakes", unfollowed := true, recurses := true, apart := false, narrowed := true }
def SlideTakesUptoSaid : Prop := slideTakesUptoRow.holds Try.pinned (OpenSpec.upto slideTakesSpec)

/-- 'sackbutlaw03.SlidePuts', WHERE WHAT IT READS IS OF BULK AT MOST 1048576: true; the input reads as it did. -/
def slidePutsUptoRow : OpenClaim := { program := "yteoncgijnkfhfaa", sum := "39b47ce676a88a7cb6916b5c74253de7ff8330d2397fdcf04a1e80f694ee3226", func := "sackbut/sackbutlaw03.SlidePuts", spec := "slidePuts", unfollowed := true, recurses := true, apart := false, narrowed := true }
def SlidePutsUptoSaid : Prop := slidePutsUptoRow.holds Try.pinned (OpenSpec.upto slidePutsSpec)

/-- 'sackbutlaw03.SlideWhole', WHERE WHAT IT READS IS OF BULK AT MOST 1048576: true; the input reads as it did. -/
def slideWholeUptoRow : OpenClaim := { program := "yteoncgijnkfhfaa", sum := "39b47ce676a88a7cb6916b5c74253de7ff8330d2397fdcf04a1e80f694ee3226", func := "sackbut/sackbutlaw03.SlideWhole", spec := "slideWhole", unfollowed := true, recurses := true, apart := false, narrowed := true }
def SlideWholeUptoSaid : Prop := slideWholeUptoRow.holds Try.pinned (OpenSpec.upto slideWholeSpec)

end Rows
end Go.Proofs.Yteoncgijnkfhfaa
