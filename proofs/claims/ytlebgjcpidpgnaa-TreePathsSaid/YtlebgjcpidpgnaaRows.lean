/-
  No cell of these rows narrows 'for every input' (looked for: loops, veiled, ifaces, maps, wideKeys, modest, calm, conditions, laid).
  DERIVED. THE GIVEN ROWS OF THIS SEAT. 11 by the template 'for every input the law returns true; each argument reads behind the call as it read before'; 0 by the template 'total and deterministic' (their statements: YtlebgjcpidpgnaaTotals.lean).
  GIVEN WITH THE SEED: the statements are not yours to turn. If you find one false, say at which input.
  Laid BY PROGRAM, IN A SANDBOX (cutbox-rows.mjs): the forced cells as the released guide's own fill.sh prints them over the translation 001fbd6831d01913… (all of the seat's roots in one cut). By AI agents, Wed Nov 11 2026. No macro, syntax, notation, axiom, sorry.
-/
import Derived.Test.YtlebgjcpidpgnaaChecked
import GoSem.Claim
import GoSem.ClaimJoined
import GoSem.ClaimMapViews
import Derived.JoinedTies
import Derived.KernelRfl
namespace Go.Proofs.Ytlebgjcpidpgnaa
/- THE CELL 'sum', in the pinned program and in every row, IS THE sha256 OF THE DUMP (.gsa) THAT YtlebgjcpidpgnaaProg.lean LOADS. Nothing in Lean hashes anything: it is a label: what it is worth is what the hold of that sum in a sandbox is worth. -/
noncomputable def Try.pinned : Pinned := { name := "ytlebgjcpidpgnaa", sum := "001fbd6831d019135043342d6663e694d7a834b0cb91ad3ea0e67609f30cc4bd", checked := Try.checked }
namespace Rows
def none {H : Type} : Left H := { results := [], args := [] }

/-- 'sackbutlaw09.TreeOthers': WHATEVER THE INPUT: true; the input reads as it did. -/
def treeOthersSpec : ChangeSpec := { name := "treeOthers", fn := fun _ => fun
  | [d1, d2, d3] => { results := [.lit (.bool true)], args := [d1, d2, d3] }
  | _ => none }
def treeOthersRow : OpenClaim := { program := "ytlebgjcpidpgnaa", sum := "001fbd6831d019135043342d6663e694d7a834b0cb91ad3ea0e67609f30cc4bd", func := "sackbut/sackbutlaw09.TreeOthers", spec := "treeOthers", unfollowed := true, recurses := true, apart := false }
def TreeOthersSaid : Prop := treeOthersRow.holds Try.pinned (OpenSpec.ofChange treeOthersSpec)

/-- ITS FALSE NEIGHBOUR: 'it returns false'. Refute it at one input. -/
def treeOthersWrong : ChangeSpec := { name := "treeOthers", fn := fun _ => fun
  | [d1, d2, d3] => { results := [.lit (.bool false)], args := [d1, d2, d3] }
  | _ => none }
def TreeOthersWrongFalsely : Prop := treeOthersRow.holds Try.pinned (OpenSpec.ofChange treeOthersWrong)

/-- 'sackbutlaw09.TreePaths': WHATEVER THE INPUT: true; the input reads as it did. -/
def treePathsSpec : ChangeSpec := { name := "treePaths", fn := fun _ => fun
  | [d1, d2, d3] => { results := [.lit (.bool true)], args := [d1, d2, d3] }
  | _ => none }
def treePathsRow : OpenClaim := { program := "ytlebgjcpidpgnaa", sum := "001fbd6831d019135043342d6663e694d7a834b0cb91ad3ea0e67609f30cc4bd", func := "sackbut/sackbutlaw09.TreePaths", spec := "treePaths", unfollowed := true, recurses := true, apart := false }
def TreePathsSaid : Prop := treePathsRow.holds Try.pinned (OpenSpec.ofChange treePathsSpec)

/-- ITS FALSE NEIGHBOUR: 'it returns false'. Refute it at one input. -/
def treePathsWrong : ChangeSpec := { name := "treePaths", fn := fun _ => fun
  | [d1, d2, d3] => { results := [.lit (.bool false)], args := [d1, d2, d3] }
  | _ => none }
def TreePathsWrongFalsely : Prop := treePathsRow.holds Try.pinned (OpenSpec.ofChange treePathsWrong)

/-- 'sackbutlaw11.WeftBest': WHATEVER THE INPUT: true; the input reads as it did. -/
def weftBestSpec : ChangeSpec := { name := "weftBest", fn := fun _ => fun
  | [d] => { results := [.lit (.bool true)], args := [d] }
  | _ => none }
def weftBestRow : OpenClaim := { program := "ytlebgjcpidpgnaa", sum := "001fbd6831d019135043342d6663e694d7a834b0cb91ad3ea0e67609f30cc4bd", func := "sackbut/sackbutlaw11.WeftBest", spec := "weftBest", unfollowed := true, recurses := true, apart := false }
def WeftBestSaid : Prop := weftBestRow.holds Try.pinned (OpenSpec.ofChange weftBestSpec)

/-- ITS FALSE NEIGHBOUR: 'it returns false'. Refute it at one input. -/
def weftBestWrong : ChangeSpec := { name := "weftBest", fn := fun _ => fun
  | [d] => { results := [.lit (.bool false)], args := [d] }
  | _ => none }
def WeftBestWrongFalsely : Prop := weftBestRow.holds Try.pinned (OpenSpec.ofChange weftBestWrong)

/-- 'sackbutlaw09.TreeLeaves': WHATEVER THE INPUT: true; the input reads as it did. -/
def treeLeavesSpec : ChangeSpec := { name := "treeLeaves", fn := fun _ => fun
  | [d1, d2] => { results := [.lit (.bool true)], args := [d1, d2] }
  | _ => none }
def treeLeavesRow : OpenClaim := { program := "ytlebgjcpidpgnaa", sum := "001fbd6831d019135043342d6663e694d7a834b0cb91ad3ea0e67609f30cc4bd", func := "sackbut/sackbutlaw09.TreeLeaves", spec := "treeLeaves", inPlace := ["internal/abi.NoEscape"], unfollowed := true, recurses := true, apart := false }
def TreeLeavesSaid : Prop := treeLeavesRow.holds Try.pinned (OpenSpec.ofChange treeLeavesSpec)

/-- ITS FALSE NEIGHBOUR: 'it returns false'. Refute it at one input. -/
def treeLeavesWrong : ChangeSpec := { name := "treeLeaves", fn := fun _ => fun
  | [d1, d2] => { results := [.lit (.bool false)], args := [d1, d2] }
  | _ => none }
def TreeLeavesWrongFalsely : Prop := treeLeavesRow.holds Try.pinned (OpenSpec.ofChange treeLeavesWrong)

/-- 'sackbutlaw09.TreeTexts': WHATEVER THE INPUT: true; the input reads as it did. -/
def treeTextsSpec : ChangeSpec := { name := "treeTexts", fn := fun _ => fun
  | [d1, d2] => { results := [.lit (.bool true)], args := [d1, d2] }
  | _ => none }
def treeTextsRow : OpenClaim := { program := "ytlebgjcpidpgnaa", sum := "001fbd6831d019135043342d6663e694d7a834b0cb91ad3ea0e67609f30cc4bd", func := "sackbut/sackbutlaw09.TreeTexts", spec := "treeTexts", inPlace := ["internal/abi.NoEscape"], unfollowed := true, recurses := true, apart := false }
def TreeTextsSaid : Prop := treeTextsRow.holds Try.pinned (OpenSpec.ofChange treeTextsSpec)

/-- ITS FALSE NEIGHBOUR: 'it returns false'. Refute it at one input. -/
def treeTextsWrong : ChangeSpec := { name := "treeTexts", fn := fun _ => fun
  | [d1, d2] => { results := [.lit (.bool false)], args := [d1, d2] }
  | _ => none }
def TreeTextsWrongFalsely : Prop := treeTextsRow.holds Try.pinned (OpenSpec.ofChange treeTextsWrong)

/-- 'sackbutlaw11.WeftRests': WHATEVER THE INPUT: true; the input reads as it did. -/
def weftRestsSpec : ChangeSpec := { name := "weftRests", fn := fun _ => fun
  | [d1, d2, d3] => { results := [.lit (.bool true)], args := [d1, d2, d3] }
  | _ => none }
def weftRestsRow : OpenClaim := { program := "ytlebgjcpidpgnaa", sum := "001fbd6831d019135043342d6663e694d7a834b0cb91ad3ea0e67609f30cc4bd", func := "sackbut/sackbutlaw11.WeftRests", spec := "weftRests", unfollowed := true, recurses := true, apart := false }
def WeftRestsSaid : Prop := weftRestsRow.holds Try.pinned (OpenSpec.ofChange weftRestsSpec)

/-- ITS FALSE NEIGHBOUR: 'it returns false'. Refute it at one input. -/
def weftRestsWrong : ChangeSpec := { name := "weftRests", fn := fun _ => fun
  | [d1, d2, d3] => { results := [.lit (.bool false)], args := [d1, d2, d3] }
  | _ => none }
def WeftRestsWrongFalsely : Prop := weftRestsRow.holds Try.pinned (OpenSpec.ofChange weftRestsWrong)

/-- 'sackbutlaw11.WeftBacks': WHATEVER THE INPUT: true; the input reads as it did. -/
def weftBacksSpec : ChangeSpec := { name := "weftBacks", fn := fun _ => fun
  | [d1, d2, d3] => { results := [.lit (.bool true)], args := [d1, d2, d3] }
  | _ => none }
def weftBacksRow : OpenClaim := { program := "ytlebgjcpidpgnaa", sum := "001fbd6831d019135043342d6663e694d7a834b0cb91ad3ea0e67609f30cc4bd", func := "sackbut/sackbutlaw11.WeftBacks", spec := "weftBacks", unfollowed := true, recurses := true, apart := false }
def WeftBacksSaid : Prop := weftBacksRow.holds Try.pinned (OpenSpec.ofChange weftBacksSpec)

/-- ITS FALSE NEIGHBOUR: 'it returns false'. Refute it at one input. -/
def weftBacksWrong : ChangeSpec := { name := "weftBacks", fn := fun _ => fun
  | [d1, d2, d3] => { results := [.lit (.bool false)], args := [d1, d2, d3] }
  | _ => none }
def WeftBacksWrongFalsely : Prop := weftBacksRow.holds Try.pinned (OpenSpec.ofChange weftBacksWrong)

/-- 'sackbutlaw11.WeftNone': WHATEVER THE INPUT: true; the input reads as it did. -/
def weftNoneSpec : ChangeSpec := { name := "weftNone", fn := fun _ => fun
  | [d] => { results := [.lit (.bool true)], args := [d] }
  | _ => none }
def weftNoneRow : OpenClaim := { program := "ytlebgjcpidpgnaa", sum := "001fbd6831d019135043342d6663e694d7a834b0cb91ad3ea0e67609f30cc4bd", func := "sackbut/sackbutlaw11.WeftNone", spec := "weftNone", unfollowed := true, recurses := true, apart := false }
def WeftNoneSaid : Prop := weftNoneRow.holds Try.pinned (OpenSpec.ofChange weftNoneSpec)

/-- ITS FALSE NEIGHBOUR: 'it returns false'. Refute it at one input. -/
def weftNoneWrong : ChangeSpec := { name := "weftNone", fn := fun _ => fun
  | [d] => { results := [.lit (.bool false)], args := [d] }
  | _ => none }
def WeftNoneWrongFalsely : Prop := weftNoneRow.holds Try.pinned (OpenSpec.ofChange weftNoneWrong)

/-- 'sackbutlaw09.TreeTakes': WHATEVER THE INPUT: true; the input reads as it did. -/
def treeTakesSpec : ChangeSpec := { name := "treeTakes", fn := fun _ => fun
  | [d1, d2] => { results := [.lit (.bool true)], args := [d1, d2] }
  | _ => none }
def treeTakesRow : OpenClaim := { program := "ytlebgjcpidpgnaa", sum := "001fbd6831d019135043342d6663e694d7a834b0cb91ad3ea0e67609f30cc4bd", func := "sackbut/sackbutlaw09.TreeTakes", spec := "treeTakes", inPlace := ["internal/abi.NoEscape"], unfollowed := true, recurses := true, apart := false }
def TreeTakesSaid : Prop := treeTakesRow.holds Try.pinned (OpenSpec.ofChange treeTakesSpec)

/-- ITS FALSE NEIGHBOUR: 'it returns false'. Refute it at one input. -/
def treeTakesWrong : ChangeSpec := { name := "treeTakes", fn := fun _ => fun
  | [d1, d2] => { results := [.lit (.bool false)], args := [d1, d2] }
  | _ => none }
def TreeTakesWrongFalsely : Prop := treeTakesRow.holds Try.pinned (OpenSpec.ofChange treeTakesWrong)

/-- 'sackbutlaw11.WeftTakes': WHATEVER THE INPUT: true; the input reads as it did. -/
def weftTakesSpec : ChangeSpec := { name := "weftTakes", fn := fun _ => fun
  | [d1, d2] => { results := [.lit (.bool true)], args := [d1, d2] }
  | _ => none }
def weftTakesRow : OpenClaim := { program := "ytlebgjcpidpgnaa", sum := "001fbd6831d019135043342d6663e694d7a834b0cb91ad3ea0e67609f30cc4bd", func := "sackbut/sackbutlaw11.WeftTakes", spec := "weftTakes", unfollowed := true, recurses := true, apart := false }
def WeftTakesSaid : Prop := weftTakesRow.holds Try.pinned (OpenSpec.ofChange weftTakesSpec)

/-- ITS FALSE NEIGHBOUR: 'it returns false'. Refute it at one input. -/
def weftTakesWrong : ChangeSpec := { name := "weftTakes", fn := fun _ => fun
  | [d1, d2] => { results := [.lit (.bool false)], args := [d1, d2] }
  | _ => none }
def WeftTakesWrongFalsely : Prop := weftTakesRow.holds Try.pinned (OpenSpec.ofChange weftTakesWrong)

/-- 'sackbutlaw09.TreePuts': WHATEVER THE INPUT: true; the input reads as it did. -/
def treePutsSpec : ChangeSpec := { name := "treePuts", fn := fun _ => fun
  | [d1, d2, d3] => { results := [.lit (.bool true)], args := [d1, d2, d3] }
  | _ => none }
def treePutsRow : OpenClaim := { program := "ytlebgjcpidpgnaa", sum := "001fbd6831d019135043342d6663e694d7a834b0cb91ad3ea0e67609f30cc4bd", func := "sackbut/sackbutlaw09.TreePuts", spec := "treePuts", inPlace := ["internal/abi.NoEscape"], unfollowed := true, recurses := true, apart := false }
def TreePutsSaid : Prop := treePutsRow.holds Try.pinned (OpenSpec.ofChange treePutsSpec)

/-- ITS FALSE NEIGHBOUR: 'it returns false'. Refute it at one input. -/
def treePutsWrong : ChangeSpec := { name := "treePuts", fn := fun _ => fun
  | [d1, d2, d3] => { results := [.lit (.bool false)], args := [d1, d2, d3] }
  | _ => none }
def TreePutsWrongFalsely : Prop := treePutsRow.holds Try.pinned (OpenSpec.ofChange treePutsWrong)

/- THE SECOND FORM. 'bulk': how many values and letters a reading holds, each counted each time it is reached (what is shared counts as often as it is met; a slice's spare places count too). A statement '..UptoSaid' is the law's where the arguments, and the package variables that the reading takes, are together of bulk at most 1048576: NARROWER than '..Said'. Prove '..Said' where nothing that the law and all that it calls make is longer than what came in: it says more and counts as full. Else prove '..UptoSaid'. A law counts once. -/
mutual
def uptoBulk {H : Type} : DataW H → Nat
  | .lit (.string bytes) => bytes.length + 1
  | .lit _ => 1
  | .nil => 1
  | .ptr d => uptoBulk d + 1
  | .slice elems spare => uptoBulkAll elems + uptoBulkAll spare + 1
  | .agg parts => uptoBulkAll parts + 1
  | .iface _ d => uptoBulk d + 1
  | .map entries => uptoBulkEntries entries + 1
  | .held _ => 1
def uptoBulkAll {H : Type} : List (DataW H) → Nat
  | [] => 0
  | d :: r => uptoBulk d + uptoBulkAll r
def uptoBulkEntries {H : Type} : List (Lit × DataW H) → Nat
  | [] => 0
  | x :: r => uptoBulkEntry x + uptoBulkEntries r
def uptoBulkEntry {H : Type} : Lit × DataW H → Nat
  | (.string bytes, d) => bytes.length + uptoBulk d + 1
  | (_, d) => uptoBulk d + 1
 end
def uptoSmall : (H : Type) → List (DataW H) → Bool := fun _ ds => decide (uptoBulkAll ds ≤ 1048576)
def OpenSpec.upto (s : _root_.Go.ChangeSpec) : _root_.Go.OpenSpec := { _root_.Go.OpenSpec.ofChange s with cond := some uptoSmall }

/-- 'sackbutlaw09.TreeOthers', WHERE WHAT IT READS IS OF BULK AT MOST 1048576: true; the input reads as it did. -/
def treeOthersUptoRow : OpenClaim := { program := "ytlebgjcpidpgnaa", sum := "001fbd6831d019135043342d6663e694d7a834b0cb91ad3ea0e67609f30cc4bd", func := "sackbut/sackbutlaw09.TreeOthers", spec := "treeOthers", unfollowed := true, recurses := true, apart := false, narrowed := true }
def TreeOthersUptoSaid : Prop := treeOthersUptoRow.holds Try.pinned (OpenSpec.upto treeOthersSpec)

/-- 'sackbutlaw09.TreePaths', WHERE WHAT IT READS IS OF BULK AT MOST 1048576: true; the input reads as it did. -/
def treePathsUptoRow : OpenClaim := { program := "ytlebgjcpidpgnaa", sum := "001fbd6831d019135043342d6663e694d7a834b0cb91ad3ea0e67609f30cc4bd", func := "sackbut/sackbutlaw09.TreePaths", spec := "treePaths", unfollowed := true, recurses := true, apart := false, narrowed := true }
def TreePathsUptoSaid : Prop := treePathsUptoRow.holds Try.pinned (OpenSpec.upto treePathsSpec)

/-- 'sackbutlaw11.WeftBest', WHERE WHAT IT READS IS OF BULK AT MOST 1048576: true; the input reads as it did. -/
def weftBestUptoRow : OpenClaim := { program := "ytlebgjcpidpgnaa", sum := "001fbd6831d019135043342d6663e694d7a834b0cb91ad3ea0e67609f30cc4bd", func := "sackbut/sackbutlaw11.WeftBest", spec := "weftBest", unfollowed := true, recurses := true, apart := false, narrowed := true }
def WeftBestUptoSaid : Prop := weftBestUptoRow.holds Try.pinned (OpenSpec.upto weftBestSpec)

/-- 'sackbutlaw09.TreeLeaves', WHERE WHAT IT READS IS OF BULK AT MOST 1048576: true; the input reads as it did. -/
def treeLeavesUptoRow : OpenClaim := { program := "ytlebgjcpidpgnaa", sum := "001fbd6831d019135043342d6663e694d7a834b0cb91ad3ea0e67609f30cc4bd", func := "sackbut/sackbutlaw09.TreeLeaves", spec := "treeLeaves", inPlace := ["internal/abi.NoEscape"], unfollowed := true, recurses := true, apart := false, narrowed := true }
def TreeLeavesUptoSaid : Prop := treeLeavesUptoRow.holds Try.pinned (OpenSpec.upto treeLeavesSpec)

/-- 'sackbutlaw09.TreeTexts', WHERE WHAT IT READS IS OF BULK AT MOST 1048576: true; the input reads as it did. -/
def treeTextsUptoRow : OpenClaim := { program := "ytlebgjcpidpgnaa", sum := "001fbd6831d019135043342d6663e694d7a834b0cb91ad3ea0e67609f30cc4bd", func := "sackbut/sackbutlaw09.TreeTexts", spec := "treeTexts", inPlace := ["internal/abi.NoEscape"], unfollowed := true, recurses := true, apart := false, narrowed := true }
def TreeTextsUptoSaid : Prop := treeTextsUptoRow.holds Try.pinned (OpenSpec.upto treeTextsSpec)

/-- 'sackbutlaw11.WeftRests', WHERE WHAT IT READS IS OF BULK AT MOST 1048576: true; the input reads as it did. -/
def weftRestsUptoRow : OpenClaim := { program := "ytlebgjcpidpgnaa", sum := "001fbd6831d019135043342d6663e694d7a834b0cb91ad3ea0e67609f30cc4bd", func := "sackbut/sackbutlaw11.WeftRests", spec := "weftRests", unfollowed := true, recurses := true, apart := false, narrowed := true }
def WeftRestsUptoSaid : Prop := weftRestsUptoRow.holds Try.pinned (OpenSpec.upto weftRestsSpec)

/-- 'sackbutlaw11.WeftBacks', WHERE WHAT IT READS IS OF BULK AT MOST 1048576: true; the input reads as it did. -/
def weftBacksUptoRow : OpenClaim := { program := "ytlebgjcpidpgnaa", sum := "001fbd6831d019135043342d6663e694d7a834b0cb91ad3ea0e67609f30cc4bd", func := "sackbut/sackbutlaw11.WeftBacks", spec := "weftBacks", unfollowed := true, recurses := true, apart := false, narrowed := true }
def WeftBacksUptoSaid : Prop := weftBacksUptoRow.holds Try.pinned (OpenSpec.upto weftBacksSpec)

/-- 'sackbutlaw11.WeftNone', WHERE WHAT IT READS IS OF BULK AT MOST 1048576: true; the input reads as it did. -/
def weftNoneUptoRow : OpenClaim := { program := "ytlebgjcpidpgnaa", sum := "001fbd6831d019135043342d6663e694d7a834b0cb91ad3ea0e67609f30cc4bd", func := "sackbut/sackbutlaw11.WeftNone", spec := "weftNone", unfollowed := true, recurses := true, apart := false, narrowed := true }
def WeftNoneUptoSaid : Prop := weftNoneUptoRow.holds Try.pinned (OpenSpec.upto weftNoneSpec)

/-- 'sackbutlaw09.TreeTakes', WHERE WHAT IT READS IS OF BULK AT MOST 1048576: true; the input reads as it did. -/
def treeTakesUptoRow : OpenClaim := { program := "ytlebgjcpidpgnaa", sum := "001fbd6831d019135043342d6663e694d7a834b0cb91ad3ea0e67609f30cc4bd", func := "sackbut/sackbutlaw09.TreeTakes", spec := "treeTakes", inPlace := ["internal/abi.NoEscape"], unfollowed := true, recurses := true, apart := false, narrowed := true }
def TreeTakesUptoSaid : Prop := treeTakesUptoRow.holds Try.pinned (OpenSpec.upto treeTakesSpec)

/-- 'sackbutlaw11.WeftTakes', WHERE WHAT IT READS IS OF BULK AT MOST 1048576: true; the input reads as it did. -/
def weftTakesUptoRow : OpenClaim := { program := "ytlebgjcpidpgnaa", sum := "001fbd6831d019135043342d6663e694d7a834b0cb91ad3ea0e67609f30cc4bd", func := "sackbut/sackbutlaw11.WeftTakes", spec := "weftTakes", unfollowed := true, recurses := true, apart := false, narrowed := true }
def WeftTakesUptoSaid : Prop := weftTakesUptoRow.holds Try.pinned (OpenSpec.upto weftTakesSpec)

/-- 'sackbutlaw09.TreePuts', WHERE WHAT IT READS IS OF BULK AT MOST 1048576: true; the input reads as it did. -/
def treePutsUptoRow : OpenClaim := { program := "ytlebgjcpidpgnaa", sum := "001fbd6831d019135043342d6663e694d7a834b0cb91ad3ea0e67609f30cc4bd", func := "sackbut/sackbutlaw09.TreePuts", spec := "treePuts", inPlace := ["internal/abi.NoEscape"], unfollowed := true, recurses := true, apart := false, narrowed := true }
def TreePutsUptoSaid : Prop := treePutsUptoRow.holds Try.pinned (OpenSpec.upto treePutsSpec)

end Rows
end Go.Proofs.Ytlebgjcpidpgnaa
