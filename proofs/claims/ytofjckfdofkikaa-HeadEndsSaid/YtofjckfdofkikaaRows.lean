/-
  No cell of these rows narrows 'for every input' (looked for: loops, veiled, ifaces, maps, wideKeys, modest, calm, conditions, laid).
  DERIVED. THE GIVEN ROWS OF THIS SEAT. 11 by the template 'for every input the law returns true; each argument reads behind the call as it read before'; 0 by the template 'total and deterministic' (their statements: YtofjckfdofkikaaTotals.lean).
  GIVEN WITH THE SEED: the statements are not yours to turn. If you find one false, say at which input.
  Laid BY PROGRAM, IN A SANDBOX (cutbox-rows.mjs): the forced cells as the released guide's own fill.sh prints them over the translation c0d0fc2a2414125f… (all of the seat's roots in one cut). By AI agents, Wed Nov 11 2026. No macro, syntax, notation, axiom, sorry.
-/
import Derived.Test.YtofjckfdofkikaaChecked
import GoSem.Claim
import GoSem.ClaimJoined
import GoSem.ClaimMapViews
import Derived.JoinedTies
import Derived.KernelRfl
namespace Go.Proofs.Ytofjckfdofkikaa
/- THE CELL 'sum', in the pinned program and in every row, IS THE sha256 OF THE DUMP (.gsa) THAT YtofjckfdofkikaaProg.lean LOADS. Nothing in Lean hashes anything: it is a label: what it is worth is what the hold of that sum in a sandbox is worth. -/
noncomputable def Try.pinned : Pinned := { name := "ytofjckfdofkikaa", sum := "c0d0fc2a2414125fb220da8231fbccd4c541a962ea19282ad027c98b800a9bea", checked := Try.checked }
namespace Rows
def none {H : Type} : Left H := { results := [], args := [] }

/-- 'sackbutlaw16.HeadForms': WHATEVER THE INPUT: true; the input reads as it did. -/
def headFormsSpec : ChangeSpec := { name := "headForms", fn := fun _ => fun
  | [d] => { results := [.lit (.bool true)], args := [d] }
  | _ => none }
def headFormsRow : OpenClaim := { program := "ytofjckfdofkikaa", sum := "c0d0fc2a2414125fb220da8231fbccd4c541a962ea19282ad027c98b800a9bea", func := "sackbut/sackbutlaw16.HeadForms", spec := "headForms", apart := false }
def HeadFormsSaid : Prop := headFormsRow.holds Try.pinned (OpenSpec.ofChange headFormsSpec)

/-- ITS FALSE NEIGHBOUR: 'it returns false'. Refute it at one input. -/
def headFormsWrong : ChangeSpec := { name := "headForms", fn := fun _ => fun
  | [d] => { results := [.lit (.bool false)], args := [d] }
  | _ => none }
def HeadFormsWrongFalsely : Prop := headFormsRow.holds Try.pinned (OpenSpec.ofChange headFormsWrong)

/-- 'sackbutlaw16.HeadFrames': WHATEVER THE INPUT: true; the input reads as it did. -/
def headFramesSpec : ChangeSpec := { name := "headFrames", fn := fun _ => fun
  | [d1, d2] => { results := [.lit (.bool true)], args := [d1, d2] }
  | _ => none }
def headFramesRow : OpenClaim := { program := "ytofjckfdofkikaa", sum := "c0d0fc2a2414125fb220da8231fbccd4c541a962ea19282ad027c98b800a9bea", func := "sackbut/sackbutlaw16.HeadFrames", spec := "headFrames", apart := false }
def HeadFramesSaid : Prop := headFramesRow.holds Try.pinned (OpenSpec.ofChange headFramesSpec)

/-- ITS FALSE NEIGHBOUR: 'it returns false'. Refute it at one input. -/
def headFramesWrong : ChangeSpec := { name := "headFrames", fn := fun _ => fun
  | [d1, d2] => { results := [.lit (.bool false)], args := [d1, d2] }
  | _ => none }
def HeadFramesWrongFalsely : Prop := headFramesRow.holds Try.pinned (OpenSpec.ofChange headFramesWrong)

/-- 'sackbutlaw08.LagOff': WHATEVER THE INPUT: true; the input reads as it did. -/
def lagOffSpec : ChangeSpec := { name := "lagOff", fn := fun _ => fun
  | [d1, d2] => { results := [.lit (.bool true)], args := [d1, d2] }
  | _ => none }
def lagOffRow : OpenClaim := { program := "ytofjckfdofkikaa", sum := "c0d0fc2a2414125fb220da8231fbccd4c541a962ea19282ad027c98b800a9bea", func := "sackbut/sackbutlaw08.LagOff", spec := "lagOff", unfollowed := true, recurses := true, apart := false }
def LagOffSaid : Prop := lagOffRow.holds Try.pinned (OpenSpec.ofChange lagOffSpec)

/-- ITS FALSE NEIGHBOUR: 'it returns false'. Refute it at one input. -/
def lagOffWrong : ChangeSpec := { name := "lagOff", fn := fun _ => fun
  | [d1, d2] => { results := [.lit (.bool false)], args := [d1, d2] }
  | _ => none }
def LagOffWrongFalsely : Prop := lagOffRow.holds Try.pinned (OpenSpec.ofChange lagOffWrong)

/-- 'sackbutlaw08.LagOn': WHATEVER THE INPUT: true; the input reads as it did. -/
def lagOnSpec : ChangeSpec := { name := "lagOn", fn := fun _ => fun
  | [d1, d2] => { results := [.lit (.bool true)], args := [d1, d2] }
  | _ => none }
def lagOnRow : OpenClaim := { program := "ytofjckfdofkikaa", sum := "c0d0fc2a2414125fb220da8231fbccd4c541a962ea19282ad027c98b800a9bea", func := "sackbut/sackbutlaw08.LagOn", spec := "lagOn", unfollowed := true, recurses := true, apart := false }
def LagOnSaid : Prop := lagOnRow.holds Try.pinned (OpenSpec.ofChange lagOnSpec)

/-- ITS FALSE NEIGHBOUR: 'it returns false'. Refute it at one input. -/
def lagOnWrong : ChangeSpec := { name := "lagOn", fn := fun _ => fun
  | [d1, d2] => { results := [.lit (.bool false)], args := [d1, d2] }
  | _ => none }
def LagOnWrongFalsely : Prop := lagOnRow.holds Try.pinned (OpenSpec.ofChange lagOnWrong)

/-- 'sackbutlaw08.LagLate': WHATEVER THE INPUT: true; the input reads as it did. -/
def lagLateSpec : ChangeSpec := { name := "lagLate", fn := fun _ => fun
  | [d1, d2] => { results := [.lit (.bool true)], args := [d1, d2] }
  | _ => none }
def lagLateRow : OpenClaim := { program := "ytofjckfdofkikaa", sum := "c0d0fc2a2414125fb220da8231fbccd4c541a962ea19282ad027c98b800a9bea", func := "sackbut/sackbutlaw08.LagLate", spec := "lagLate", unfollowed := true, recurses := true, apart := false }
def LagLateSaid : Prop := lagLateRow.holds Try.pinned (OpenSpec.ofChange lagLateSpec)

/-- ITS FALSE NEIGHBOUR: 'it returns false'. Refute it at one input. -/
def lagLateWrong : ChangeSpec := { name := "lagLate", fn := fun _ => fun
  | [d1, d2] => { results := [.lit (.bool false)], args := [d1, d2] }
  | _ => none }
def LagLateWrongFalsely : Prop := lagLateRow.holds Try.pinned (OpenSpec.ofChange lagLateWrong)

/-- 'sackbutlaw16.HeadOthers': WHATEVER THE INPUT: true; the input reads as it did. -/
def headOthersSpec : ChangeSpec := { name := "headOthers", fn := fun _ => fun
  | [d1, d2] => { results := [.lit (.bool true)], args := [d1, d2] }
  | _ => none }
def headOthersRow : OpenClaim := { program := "ytofjckfdofkikaa", sum := "c0d0fc2a2414125fb220da8231fbccd4c541a962ea19282ad027c98b800a9bea", func := "sackbut/sackbutlaw16.HeadOthers", spec := "headOthers", unfollowed := true, recurses := true, apart := false }
def HeadOthersSaid : Prop := headOthersRow.holds Try.pinned (OpenSpec.ofChange headOthersSpec)

/-- ITS FALSE NEIGHBOUR: 'it returns false'. Refute it at one input. -/
def headOthersWrong : ChangeSpec := { name := "headOthers", fn := fun _ => fun
  | [d1, d2] => { results := [.lit (.bool false)], args := [d1, d2] }
  | _ => none }
def HeadOthersWrongFalsely : Prop := headOthersRow.holds Try.pinned (OpenSpec.ofChange headOthersWrong)

/-- 'sackbutlaw08.LagBest': WHATEVER THE INPUT: true; the input reads as it did. -/
def lagBestSpec : ChangeSpec := { name := "lagBest", fn := fun _ => fun
  | [d] => { results := [.lit (.bool true)], args := [d] }
  | _ => none }
def lagBestRow : OpenClaim := { program := "ytofjckfdofkikaa", sum := "c0d0fc2a2414125fb220da8231fbccd4c541a962ea19282ad027c98b800a9bea", func := "sackbut/sackbutlaw08.LagBest", spec := "lagBest", unfollowed := true, recurses := true, apart := false }
def LagBestSaid : Prop := lagBestRow.holds Try.pinned (OpenSpec.ofChange lagBestSpec)

/-- ITS FALSE NEIGHBOUR: 'it returns false'. Refute it at one input. -/
def lagBestWrong : ChangeSpec := { name := "lagBest", fn := fun _ => fun
  | [d] => { results := [.lit (.bool false)], args := [d] }
  | _ => none }
def LagBestWrongFalsely : Prop := lagBestRow.holds Try.pinned (OpenSpec.ofChange lagBestWrong)

/-- 'sackbutlaw08.LagNone': WHATEVER THE INPUT: true; the input reads as it did. -/
def lagNoneSpec : ChangeSpec := { name := "lagNone", fn := fun _ => fun
  | [d] => { results := [.lit (.bool true)], args := [d] }
  | _ => none }
def lagNoneRow : OpenClaim := { program := "ytofjckfdofkikaa", sum := "c0d0fc2a2414125fb220da8231fbccd4c541a962ea19282ad027c98b800a9bea", func := "sackbut/sackbutlaw08.LagNone", spec := "lagNone", unfollowed := true, recurses := true, apart := false }
def LagNoneSaid : Prop := lagNoneRow.holds Try.pinned (OpenSpec.ofChange lagNoneSpec)

/-- ITS FALSE NEIGHBOUR: 'it returns false'. Refute it at one input. -/
def lagNoneWrong : ChangeSpec := { name := "lagNone", fn := fun _ => fun
  | [d] => { results := [.lit (.bool false)], args := [d] }
  | _ => none }
def LagNoneWrongFalsely : Prop := lagNoneRow.holds Try.pinned (OpenSpec.ofChange lagNoneWrong)

/-- 'sackbutlaw16.HeadBytes': WHATEVER THE INPUT: true; the input reads as it did. -/
def headBytesSpec : ChangeSpec := { name := "headBytes", fn := fun _ => fun
  | [d] => { results := [.lit (.bool true)], args := [d] }
  | _ => none }
def headBytesRow : OpenClaim := { program := "ytofjckfdofkikaa", sum := "c0d0fc2a2414125fb220da8231fbccd4c541a962ea19282ad027c98b800a9bea", func := "sackbut/sackbutlaw16.HeadBytes", spec := "headBytes", unfollowed := true, recurses := true, apart := false }
def HeadBytesSaid : Prop := headBytesRow.holds Try.pinned (OpenSpec.ofChange headBytesSpec)

/-- ITS FALSE NEIGHBOUR: 'it returns false'. Refute it at one input. -/
def headBytesWrong : ChangeSpec := { name := "headBytes", fn := fun _ => fun
  | [d] => { results := [.lit (.bool false)], args := [d] }
  | _ => none }
def HeadBytesWrongFalsely : Prop := headBytesRow.holds Try.pinned (OpenSpec.ofChange headBytesWrong)

/-- 'sackbutlaw16.HeadReads': WHATEVER THE INPUT: true; the input reads as it did. -/
def headReadsSpec : ChangeSpec := { name := "headReads", fn := fun _ => fun
  | [d] => { results := [.lit (.bool true)], args := [d] }
  | _ => none }
def headReadsRow : OpenClaim := { program := "ytofjckfdofkikaa", sum := "c0d0fc2a2414125fb220da8231fbccd4c541a962ea19282ad027c98b800a9bea", func := "sackbut/sackbutlaw16.HeadReads", spec := "headReads", unfollowed := true, recurses := true, apart := false }
def HeadReadsSaid : Prop := headReadsRow.holds Try.pinned (OpenSpec.ofChange headReadsSpec)

/-- ITS FALSE NEIGHBOUR: 'it returns false'. Refute it at one input. -/
def headReadsWrong : ChangeSpec := { name := "headReads", fn := fun _ => fun
  | [d] => { results := [.lit (.bool false)], args := [d] }
  | _ => none }
def HeadReadsWrongFalsely : Prop := headReadsRow.holds Try.pinned (OpenSpec.ofChange headReadsWrong)

/-- 'sackbutlaw16.HeadEnds': WHATEVER THE INPUT: true; the input reads as it did. -/
def headEndsSpec : ChangeSpec := { name := "headEnds", fn := fun _ => fun
  | [d1, d2, d3] => { results := [.lit (.bool true)], args := [d1, d2, d3] }
  | _ => none }
def headEndsRow : OpenClaim := { program := "ytofjckfdofkikaa", sum := "c0d0fc2a2414125fb220da8231fbccd4c541a962ea19282ad027c98b800a9bea", func := "sackbut/sackbutlaw16.HeadEnds", spec := "headEnds", unfollowed := true, recurses := true, apart := false }
def HeadEndsSaid : Prop := headEndsRow.holds Try.pinned (OpenSpec.ofChange headEndsSpec)

/-- ITS FALSE NEIGHBOUR: 'it returns false'. Refute it at one input. -/
def headEndsWrong : ChangeSpec := { name := "headEnds", fn := fun _ => fun
  | [d1, d2, d3] => { results := [.lit (.bool false)], args := [d1, d2, d3] }
  | _ => none }
def HeadEndsWrongFalsely : Prop := headEndsRow.holds Try.pinned (OpenSpec.ofChange headEndsWrong)

/- THE SECOND FORM. 'bulk': how many values and letters a reading holds, each counted each time it is reached (what is shared counts as often as it is met; a slice's spare places count too). A statement '..UptoSaid' is the law's where the arguments, and the package variables that the reading takes, are together of bulk at most 1048576: NARROWER than '..Said'. Prove '..Said' where nothing that the law and all that it calls make is longer than what came in: it says more and counts as full. Else prove '..UptoSaid'. A law counts once. -/
mutual
def uptoBulk {H : Type} : DataW H → Nat
  | .lit (.string bytes) => bytes.length + 1
  | .lit _ => 1
  | .nil => 1
  | .ptr d => uptoBulk d + 1
  | .slice elems spare => uptoBulkAll elems + uptoBulkAll spare + 1
  | .agg parts => uptoBulkAll parts + 1
  | .iface _ d => uptoBulk d + 1
  | .map entries => uptoBulkEntries entries + 1
  | .held _ => 1
def uptoBulkAll {H : Type} : List (DataW H) → Nat
  | [] => 0
  | d :: r => uptoBulk d + uptoBulkAll r
def uptoBulkEntries {H : Type} : List (Lit × DataW H) → Nat
  | [] => 0
  | x :: r => uptoBulkEntry x + uptoBulkEntries r
def uptoBulkEntry {H : Type} : Lit × DataW H → Nat
  | (.string bytes, d) => bytes.length + uptoBulk d + 1
  | (_, d) => uptoBulk d + 1
 end
def uptoSmall : (H : Type) → List (DataW H) → Bool := fun _ ds => decide (uptoBulkAll ds ≤ 1048576)
def OpenSpec.upto (s : _root_.Go.ChangeSpec) : _root_.Go.OpenSpec := { _root_.Go.OpenSpec.ofChange s with cond := some uptoSmall }

/-- 'sackbutlaw16.HeadForms', WHERE WHAT IT READS IS OF BULK AT MOST 1048576: true; the input reads as it did. -/
def headFormsUptoRow : OpenClaim := { program := "ytofjckfdofkikaa", sum := "c0d0fc2a2414125fb220da8231fbccd4c541a962ea19282ad027c98b800a9bea", func := "sackbut/sackbutlaw16.HeadForms", spec := "headForms", apart := false, narrowed := true }
def HeadFormsUptoSaid : Prop := headFormsUptoRow.holds Try.pinned (OpenSpec.upto headFormsSpec)

/-- 'sackbutlaw16.HeadFrames', WHERE WHAT IT READS IS OF BULK AT MOST 1048576: true; the input reads as it did. -/
def headFramesUptoRow : OpenClaim := { program := "ytofjckfdofkikaa", sum := "c0d0fc2a2414125fb220da8231fbccd4c541a962ea19282ad027c98b800a9bea", func := "sackbut/sackbutlaw16.HeadFrames", spec := "headFrames", apart := false, narrowed := true }
def HeadFramesUptoSaid : Prop := headFramesUptoRow.holds Try.pinned (OpenSpec.upto headFramesSpec)

/-- 'sackbutlaw08.LagOff', WHERE WHAT IT READS IS OF BULK AT MOST 1048576: true; the input reads as it did. -/
def lagOffUptoRow : OpenClaim := { program := "ytofjckfdofkikaa", sum := "c0d0fc2a2414125fb220da8231fbccd4c541a962ea19282ad027c98b800a9bea", func := "sackbut/sackbutlaw08.LagOff", spec := "lagOff", unfollowed := true, recurses := true, apart := false, narrowed := true }
def LagOffUptoSaid : Prop := lagOffUptoRow.holds Try.pinned (OpenSpec.upto lagOffSpec)

/-- 'sackbutlaw08.LagOn', WHERE WHAT IT READS IS OF BULK AT MOST 1048576: true; the input reads as it did. -/
def lagOnUptoRow : OpenClaim := { program := "ytofjckfdofkikaa", sum := "c0d0fc2a2414125fb220da8231fbccd4c541a962ea19282ad027c98b800a9bea", func := "sackbut/sackbutlaw08.LagOn", spec := "lagOn", unfollowed := true, recurses := true, apart := false, narrowed := true }
def LagOnUptoSaid : Prop := lagOnUptoRow.holds Try.pinned (OpenSpec.upto lagOnSpec)

/-- 'sackbutlaw08.LagLate', WHERE WHAT IT READS IS OF BULK AT MOST 1048576: true; the input reads as it did. -/
def lagLateUptoRow : OpenClaim := { program := "ytofjckfdofkikaa", sum := "c0d0fc2a2414125fb220da8231fbccd4c541a962ea19282ad027c98b800a9bea", func := "sackbut/sackbutlaw08.LagLate", spec := "lagLate", unfollowed := true, recurses := true, apart := false, narrowed := true }
def LagLateUptoSaid : Prop := lagLateUptoRow.holds Try.pinned (OpenSpec.upto lagLateSpec)

/-- 'sackbutlaw16.HeadOthers', WHERE WHAT IT READS IS OF BULK AT MOST 1048576: true; the input reads as it did. -/
def headOthersUptoRow : OpenClaim := { program := "ytofjckfdofkikaa", sum := "c0d0fc2a2414125fb220da8231fbccd4c541a962ea19282ad027c98b800a9bea", func := "sackbut/sackbutlaw16.HeadOthers", spec := "headOthers", unfollowed := true, recurses := true, apart := false, narrowed := true }
def HeadOthersUptoSaid : Prop := headOthersUptoRow.holds Try.pinned (OpenSpec.upto headOthersSpec)

/-- 'sackbutlaw08.LagBest', WHERE WHAT IT READS IS OF BULK AT MOST 1048576: true; the input reads as it did. -/
def lagBestUptoRow : OpenClaim := { program := "ytofjckfdofkikaa", sum := "c0d0fc2a2414125fb220da8231fbccd4c541a962ea19282ad027c98b800a9bea", func := "sackbut/sackbutlaw08.LagBest", spec := "lagBest", unfollowed := true, recurses := true, apart := false, narrowed := true }
def LagBestUptoSaid : Prop := lagBestUptoRow.holds Try.pinned (OpenSpec.upto lagBestSpec)

/-- 'sackbutlaw08.LagNone', WHERE WHAT IT READS IS OF BULK AT MOST 1048576: true; the input reads as it did. -/
def lagNoneUptoRow : OpenClaim := { program := "ytofjckfdofkikaa", sum := "c0d0fc2a2414125fb220da8231fbccd4c541a962ea19282ad027c98b800a9bea", func := "sackbut/sackbutlaw08.LagNone", spec := "lagNone", unfollowed := true, recurses := true, apart := false, narrowed := true }
def LagNoneUptoSaid : Prop := lagNoneUptoRow.holds Try.pinned (OpenSpec.upto lagNoneSpec)

/-- 'sackbutlaw16.HeadBytes', WHERE WHAT IT READS IS OF BULK AT MOST 1048576: true; the input reads as it did. -/
def headBytesUptoRow : OpenClaim := { program := "ytofjckfdofkikaa", sum := "c0d0fc2a2414125fb220da8231fbccd4c541a962ea19282ad027c98b800a9bea", func := "sackbut/sackbutlaw16.HeadBytes", spec := "headBytes", unfollowed := true, recurses := true, apart := false, narrowed := true }
def HeadBytesUptoSaid : Prop := headBytesUptoRow.holds Try.pinned (OpenSpec.upto headBytesSpec)

/-- 'sackbutlaw16.HeadReads', WHERE WHAT IT READS IS OF BULK AT MOST 1048576: true; the input reads as it did. -/
def headReadsUptoRow : OpenClaim := { program := "ytofjckfdofkikaa", sum := "c0d0fc2a2414125fb220da8231fbccd4c541a962ea19282ad027c98b800a9bea", func := "sackbut/sackbutlaw16.HeadReads", spec := "headReads", unfollowed := true, recurses := true, apart := false, narrowed := true }
def HeadReadsUptoSaid : Prop := headReadsUptoRow.holds Try.pinned (OpenSpec.upto headReadsSpec)

/-- 'sackbutlaw16.HeadEnds', WHERE WHAT IT READS IS OF BULK AT MOST 1048576: true; the input reads as it did. -/
def headEndsUptoRow : OpenClaim := { program := "ytofjckfdofkikaa", sum := "c0d0fc2a2414125fb220da8231fbccd4c541a962ea19282ad027c98b800a9bea", func := "sackbut/sackbutlaw16.HeadEnds", spec := "headEnds", unfollowed := true, recurses := true, apart := false, narrowed := true }
def HeadEndsUptoSaid : Prop := headEndsUptoRow.holds Try.pinned (OpenSpec.upto headEndsSpec)

end Rows
end Go.Proofs.Ytofjckfdofkikaa
