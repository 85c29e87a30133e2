/-
  No cell of these rows narrows 'for every input' (looked for: loops, veiled, ifaces, maps, wideKeys, modest, calm, conditions, laid).
  DERIVED. THE GIVEN ROWS OF THIS SEAT. 11 by the template 'for every input the law returns true; each argument reads behind the call as it read before'; 0 by the template 'total and deterministic' (their statements: YtgglnmpjajnkaaaTotals.lean).
  GIVEN WITH THE SEED: the statements are not yours to turn. If you find one false, say at which input.
  Laid BY PROGRAM, IN A SANDBOX (cutbox-rows.mjs): the forced cells as the released guide's own fill.sh prints them over the translation ea74d5df51fb88c4… (all of the seat's roots in one cut). By AI agents, Wed Nov 11 2026. No macro, syntax, notation, axiom, sorry.
-/
import Derived.Test.YtgglnmpjajnkaaaChecked
import GoSem.Claim
import GoSem.ClaimJoined
import GoSem.ClaimMapViews
import Derived.JoinedTies
import Derived.KernelRfl
namespace Go.Proofs.Ytgglnmpjajnkaaa
/- THE CELL 'sum', in the pinned program and in every row, IS THE sha256 OF THE DUMP (.gsa) THAT YtgglnmpjajnkaaaProg.lean LOADS. Nothing in Lean hashes anything: it is a label: what it is worth is what the hold of that sum in a sandbox is worth. -/
noncomputable def Try.pinned : Pinned := { name := "ytgglnmpjajnkaaa", sum := "ea74d5df51fb88c43d673113dad03872a593517040ca052c1a540f62e92d7db4", checked := Try.checked }
namespace Rows
def none {H : Type} : Left H := { results := [], args := [] }

/-- 'sackbutlaw01.PipePuts': WHATEVER THE INPUT: true; the input reads as it did. -/
def pipePutsSpec : ChangeSpec := { name := "pipePuts", fn := fun _ => fun
  | [d] => { results := [.lit (.bool true)], args := [d] }
  | _ => none }
def pipePutsRow : OpenClaim := { program := "ytgglnmpjajnkaaa", sum := "ea74d5df51fb88c43d673113dad03872a593517040ca052c1a540f62e92d7db4", func := "sackbut/sackbutlaw01.PipePuts", spec := "pipePuts", unfollowed := true, recurses := true, apart := false }
def PipePutsSaid : Prop := pipePutsRow.holds Try.pinned (OpenSpec.ofChange pipePutsSpec)

/-- ITS FALSE NEIGHBOUR: 'it returns false'. Refute it at one input. -/
def pipePutsWrong : ChangeSpec := { name := "pipePuts", fn := fun _ => fun
  | [d] => { results := [.lit (.bool false)], args := [d] }
  | _ => none }
def PipePutsWrongFalsely : Prop := pipePutsRow.holds Try.pinned (OpenSpec.ofChange pipePutsWrong)

/-- 'sackbutlaw01.PipeParts': WHATEVER THE INPUT: true; the input reads as it did. -/
def pipePartsSpec : ChangeSpec := { name := "pipeParts", fn := fun _ => fun
  | [d1, d2] => { results := [.lit (.bool true)], args := [d1, d2] }
  | _ => none }
def pipePartsRow : OpenClaim := { program := "ytgglnmpjajnkaaa", sum := "ea74d5df51fb88c43d673113dad03872a593517040ca052c1a540f62e92d7db4", func := "sackbut/sackbutlaw01.PipeParts", spec := "pipeParts", unfollowed := true, recurses := true, apart := false }
def PipePartsSaid : Prop := pipePartsRow.holds Try.pinned (OpenSpec.ofChange pipePartsSpec)

/-- ITS FALSE NEIGHBOUR: 'it returns false'. Refute it at one input. -/
def pipePartsWrong : ChangeSpec := { name := "pipeParts", fn := fun _ => fun
  | [d1, d2] => { results := [.lit (.bool false)], args := [d1, d2] }
  | _ => none }
def PipePartsWrongFalsely : Prop := pipePartsRow.holds Try.pinned (OpenSpec.ofChange pipePartsWrong)

/-- 'sackbutlaw02.RiceShort': WHATEVER THE INPUT: true; the input reads as it did. -/
def riceShortSpec : ChangeSpec := { name := "riceShort", fn := fun _ => fun
  | [d1, d2] => { results := [.lit (.bool true)], args := [d1, d2] }
  | _ => none }
def riceShortRow : OpenClaim := { program := "ytgglnmpjajnkaaa", sum := "ea74d5df51fb88c43d673113dad03872a593517040ca052c1a540f62e92d7db4", func := "sackbut/sackbutlaw02.RiceShort", spec := "riceShort", unfollowed := true, recurses := true, apart := false }
def RiceShortSaid : Prop := riceShortRow.holds Try.pinned (OpenSpec.ofChange riceShortSpec)

/-- ITS FALSE NEIGHBOUR: 'it returns false'. Refute it at one input. -/
def riceShortWrong : ChangeSpec := { name := "riceShort", fn := fun _ => fun
  | [d1, d2] => { results := [.lit (.bool false)], args := [d1, d2] }
  | _ => none }
def RiceShortWrongFalsely : Prop := riceShortRow.holds Try.pinned (OpenSpec.ofChange riceShortWrong)

/-- 'sackbutlaw02.RiceRises': WHATEVER THE INPUT: true; the input reads as it did. -/
def riceRisesSpec : ChangeSpec := { name := "riceRises", fn := fun _ => fun
  | [d1, d2, d3] => { results := [.lit (.bool true)], args := [d1, d2, d3] }
  | _ => none }
def riceRisesRow : OpenClaim := { program := "ytgglnmpjajnkaaa", sum := "ea74d5df51fb88c43d673113dad03872a593517040ca052c1a540f62e92d7db4", func := "sackbut/sackbutlaw02.RiceRises", spec := "riceRises", unfollowed := true, recurses := true, apart := false }
def RiceRisesSaid : Prop := riceRisesRow.holds Try.pinned (OpenSpec.ofChange riceRisesSpec)

/-- ITS FALSE NEIGHBOUR: 'it returns false'. Refute it at one input. -/
def riceRisesWrong : ChangeSpec := { name := "riceRises", fn := fun _ => fun
  | [d1, d2, d3] => { results := [.lit (.bool false)], args := [d1, d2, d3] }
  | _ => none }
def RiceRisesWrongFalsely : Prop := riceRisesRow.holds Try.pinned (OpenSpec.ofChange riceRisesWrong)

/-- 'sackbutlaw02.RiceFolds': WHATEVER THE INPUT: true; the input reads as it did. -/
def riceFoldsSpec : ChangeSpec := { name := "riceFolds", fn := fun _ => fun
  | [d] => { results := [.lit (.bool true)], args := [d] }
  | _ => none }
def riceFoldsRow : OpenClaim := { program := "ytgglnmpjajnkaaa", sum := "ea74d5df51fb88c43d673113dad03872a593517040ca052c1a540f62e92d7db4", func := "sackbut/sackbutlaw02.RiceFolds", spec := "riceFolds", unfollowed := true, recurses := true, apart := false }
def RiceFoldsSaid : Prop := riceFoldsRow.holds Try.pinned (OpenSpec.ofChange riceFoldsSpec)

/-- ITS FALSE NEIGHBOUR: 'it returns false'. Refute it at one input. -/
def riceFoldsWrong : ChangeSpec := { name := "riceFolds", fn := fun _ => fun
  | [d] => { results := [.lit (.bool false)], args := [d] }
  | _ => none }
def RiceFoldsWrongFalsely : Prop := riceFoldsRow.holds Try.pinned (OpenSpec.ofChange riceFoldsWrong)

/-- 'sackbutlaw01.PipeEnds': WHATEVER THE INPUT: true; the input reads as it did. -/
def pipeEndsSpec : ChangeSpec := { name := "pipeEnds", fn := fun _ => fun
  | [d1, d2] => { results := [.lit (.bool true)], args := [d1, d2] }
  | _ => none }
def pipeEndsRow : OpenClaim := { program := "ytgglnmpjajnkaaa", sum := "ea74d5df51fb88c43d673113dad03872a593517040ca052c1a540f62e92d7db4", func := "sackbut/sackbutlaw01.PipeEnds", spec := "pipeEnds", unfollowed := true, recurses := true, apart := false }
def PipeEndsSaid : Prop := pipeEndsRow.holds Try.pinned (OpenSpec.ofChange pipeEndsSpec)

/-- ITS FALSE NEIGHBOUR: 'it returns false'. Refute it at one input. -/
def pipeEndsWrong : ChangeSpec := { name := "pipeEnds", fn := fun _ => fun
  | [d1, d2] => { results := [.lit (.bool false)], args := [d1, d2] }
  | _ => none }
def PipeEndsWrongFalsely : Prop := pipeEndsRow.holds Try.pinned (OpenSpec.ofChange pipeEndsWrong)

/-- 'sackbutlaw02.RiceBest': WHATEVER THE INPUT: true; the input reads as it did. -/
def riceBestSpec : ChangeSpec := { name := "riceBest", fn := fun _ => fun
  | [d] => { results := [.lit (.bool true)], args := [d] }
  | _ => none }
def riceBestRow : OpenClaim := { program := "ytgglnmpjajnkaaa", sum := "ea74d5df51fb88c43d673113dad03872a593517040ca052c1a540f62e92d7db4", func := "sackbut/sackbutlaw02.RiceBest", spec := "riceBest", unfollowed := true, recurses := true, apart := false }
def RiceBestSaid : Prop := riceBestRow.holds Try.pinned (OpenSpec.ofChange riceBestSpec)

/-- ITS FALSE NEIGHBOUR: 'it returns false'. Refute it at one input. -/
def riceBestWrong : ChangeSpec := { name := "riceBest", fn := fun _ => fun
  | [d] => { results := [.lit (.bool false)], args := [d] }
  | _ => none }
def RiceBestWrongFalsely : Prop := riceBestRow.holds Try.pinned (OpenSpec.ofChange riceBestWrong)

/-- 'sackbutlaw01.PipeBack': WHATEVER THE INPUT: true; the input reads as it did. -/
def pipeBackSpec : ChangeSpec := { name := "pipeBack", fn := fun _ => fun
  | [d] => { results := [.lit (.bool true)], args := [d] }
  | _ => none }
def pipeBackRow : OpenClaim := { program := "ytgglnmpjajnkaaa", sum := "ea74d5df51fb88c43d673113dad03872a593517040ca052c1a540f62e92d7db4", func := "sackbut/sackbutlaw01.PipeBack", spec := "pipeBack", unfollowed := true, recurses := true, apart := false }
def PipeBackSaid : Prop := pipeBackRow.holds Try.pinned (OpenSpec.ofChange pipeBackSpec)

/-- ITS FALSE NEIGHBOUR: 'it returns false'. Refute it at one input. -/
def pipeBackWrong : ChangeSpec := { name := "pipeBack", fn := fun _ => fun
  | [d] => { results := [.lit (.bool false)], args := [d] }
  | _ => none }
def PipeBackWrongFalsely : Prop := pipeBackRow.holds Try.pinned (OpenSpec.ofChange pipeBackWrong)

/-- 'sackbutlaw02.RiceTakes': WHATEVER THE INPUT: true; the input reads as it did. -/
def riceTakesSpec : ChangeSpec := { name := "riceTakes", fn := fun _ => fun
  | [d1, d2] => { results := [.lit (.bool true)], args := [d1, d2] }
  | _ => none }
def riceTakesRow : OpenClaim := { program := "ytgglnmpjajnkaaa", sum := "ea74d5df51fb88c43d673113dad03872a593517040ca052c1a540f62e92d7db4", func := "sackbut/sackbutlaw02.RiceTakes", spec := "riceTakes", unfollowed := true, recurses := true, apart := false }
def RiceTakesSaid : Prop := riceTakesRow.holds Try.pinned (OpenSpec.ofChange riceTakesSpec)

/-- ITS FALSE NEIGHBOUR: 'it returns false'. Refute it at one input. -/
def riceTakesWrong : ChangeSpec := { name := "riceTakes", fn := fun _ => fun
  | [d1, d2] => { results := [.lit (.bool false)], args := [d1, d2] }
  | _ => none }
def RiceTakesWrongFalsely : Prop := riceTakesRow.holds Try.pinned (OpenSpec.ofChange riceTakesWrong)

/-- 'sackbutlaw02.RiceBits': WHATEVER THE INPUT: true; the input reads as it did. -/
def riceBitsSpec : ChangeSpec := { name := "riceBits", fn := fun _ => fun
  | [d1, d2] => { results := [.lit (.bool true)], args := [d1, d2] }
  | _ => none }
def riceBitsRow : OpenClaim := { program := "ytgglnmpjajnkaaa", sum := "ea74d5df51fb88c43d673113dad03872a593517040ca052c1a540f62e92d7db4", func := "sackbut/sackbutlaw02.RiceBits", spec := "riceBits", unfollowed := true, recurses := true, apart := false }
def RiceBitsSaid : Prop := riceBitsRow.holds Try.pinned (OpenSpec.ofChange riceBitsSpec)

/-- ITS FALSE NEIGHBOUR: 'it returns false'. Refute it at one input. -/
def riceBitsWrong : ChangeSpec := { name := "riceBits", fn := fun _ => fun
  | [d1, d2] => { results := [.lit (.bool false)], args := [d1, d2] }
  | _ => none }
def RiceBitsWrongFalsely : Prop := riceBitsRow.holds Try.pinned (OpenSpec.ofChange riceBitsWrong)

/-- 'sackbutlaw02.RicePuts': WHATEVER THE INPUT: true; the input reads as it did. -/
def ricePutsSpec : ChangeSpec := { name := "ricePuts", fn := fun _ => fun
  | [d1, d2] => { results := [.lit (.bool true)], args := [d1, d2] }
  | _ => none }
def ricePutsRow : OpenClaim := { program := "ytgglnmpjajnkaaa", sum := "ea74d5df51fb88c43d673113dad03872a593517040ca052c1a540f62e92d7db4", func := "sackbut/sackbutlaw02.RicePuts", spec := "ricePuts", unfollowed := true, recurses := true, apart := false }
def RicePutsSaid : Prop := ricePutsRow.holds Try.pinned (OpenSpec.ofChange ricePutsSpec)

/-- ITS FALSE NEIGHBOUR: 'it returns false'. Refute it at one input. -/
def ricePutsWrong : ChangeSpec := { name := "ricePuts", fn := fun _ => fun
  | [d1, d2] => { results := [.lit (.bool false)], args := [d1, d2] }
  | _ => none }
def RicePutsWrongFalsely : Prop := ricePutsRow.holds Try.pinned (OpenSpec.ofChange ricePutsWrong)

/- THE SECOND FORM. 'bulk': how many values and letters a reading holds, each counted each time it is reached (what is shared counts as often as it is met; a slice's spare places count too). A statement '..UptoSaid' is the law's where the arguments, and the package variables that the reading takes, are together of bulk at most 1048576: NARROWER than '..Said'. Prove '..Said' where nothing that the law and all that it calls make is longer than what came in: it says more and counts as full. Else prove '..UptoSaid'. A law counts once. -/
mutual
def uptoBulk {H : Type} : DataW H → Nat
  | .lit (.string bytes) => bytes.length + 1
  | .lit _ => 1
  | .nil => 1
  | .ptr d => uptoBulk d + 1
  | .slice elems spare => uptoBulkAll elems + uptoBulkAll spare + 1
  | .agg parts => uptoBulkAll parts + 1
  | .iface _ d => uptoBulk d + 1
  | .map entries => uptoBulkEntries entries + 1
  | .held _ => 1
def uptoBulkAll {H : Type} : List (DataW H) → Nat
  | [] => 0
  | d :: r => uptoBulk d + uptoBulkAll r
def uptoBulkEntries {H : Type} : List (Lit × DataW H) → Nat
  | [] => 0
  | x :: r => uptoBulkEntry x + uptoBulkEntries r
def uptoBulkEntry {H : Type} : Lit × DataW H → Nat
  | (.string bytes, d) => bytes.length + uptoBulk d + 1
  | (_, d) => uptoBulk d + 1
 end
def uptoSmall : (H : Type) → List (DataW H) → Bool := fun _ ds => decide (uptoBulkAll ds ≤ 1048576)
def OpenSpec.upto (s : _root_.Go.ChangeSpec) : _root_.Go.OpenSpec := { _root_.Go.OpenSpec.ofChange s with cond := some uptoSmall }

/-- 'sackbutlaw01.PipePuts', WHERE WHAT IT READS IS OF BULK AT MOST 1048576: true; the input reads as it did. -/
def pipePutsUptoRow : OpenClaim := { program := "ytgglnmpjajnkaaa", sum := "ea74d5df51fb88c43d673113dad03872a593517040ca052c1a540f62e92d7db4", func := "sackbut/sackbutlaw01.PipePuts", spec := "pipePuts", unfollowed := true, recurses := true, apart := false, narrowed := true }
def PipePutsUptoSaid : Prop := pipePutsUptoRow.holds Try.pinned (OpenSpec.upto pipePutsSpec)

/-- 'sackbutlaw01.PipeParts', WHERE WHAT IT READS IS OF BULK AT MOST 1048576: true; the input reads as it did. -/
def pipePartsUptoRow : OpenClaim := { program := "ytgglnmpjajnkaaa", sum := "ea74d5df51fb88c43d673113dad03872a593517040ca052c1a540f62e92d7db4", func := "sackbut/sackbutlaw01.PipeParts", spec := "pipeParts", unfollowed := true, recurses := true, apart := false, narrowed := true }
def PipePartsUptoSaid : Prop := pipePartsUptoRow.holds Try.pinned (OpenSpec.upto pipePartsSpec)

/-- 'sackbutlaw02.RiceShort', WHERE WHAT IT READS IS OF BULK AT MOST 1048576: true; the input reads as it did. -/
def riceShortUptoRow : OpenClaim := { program := "ytgglnmpjajnkaaa", sum := "ea74d5df51fb88c43d673113dad03872a593517040ca052c1a540f62e92d7db4", func := "sackbut/sackbutlaw02.RiceShort", spec := "riceShort", unfollowed := true, recurses := true, apart := false, narrowed := true }
def RiceShortUptoSaid : Prop := riceShortUptoRow.holds Try.pinned (OpenSpec.upto riceShortSpec)

/-- 'sackbutlaw02.RiceRises', WHERE WHAT IT READS IS OF BULK AT MOST 1048576: true; the input reads as it did. -/
def riceRisesUptoRow : OpenClaim := { program := "ytgglnmpjajnkaaa", sum := "ea74d5df51fb88c43d673113dad03872a593517040ca052c1a540f62e92d7db4", func := "sackbut/sackbutlaw02.RiceRises", spec := "riceRises", unfollowed := true, recurses := true, apart := false, narrowed := true }
def RiceRisesUptoSaid : Prop := riceRisesUptoRow.holds Try.pinned (OpenSpec.upto riceRisesSpec)

/-- 'sackbutlaw02.RiceFolds', WHERE WHAT IT READS IS OF BULK AT MOST 1048576: true; the input reads as it did. -/
def riceFoldsUptoRow : OpenClaim := { program := "ytgglnmpjajnkaaa", sum := "ea74d5df51fb88c43d673113dad03872a593517040ca052c1a540f62e92d7db4", func := "sackbut/sackbutlaw02.RiceFolds", spec := "riceFolds", unfollowed := true, recurses := true, apart := false, narrowed := true }
def RiceFoldsUptoSaid : Prop := riceFoldsUptoRow.holds Try.pinned (OpenSpec.upto riceFoldsSpec)

/-- 'sackbutlaw01.PipeEnds', WHERE WHAT IT READS IS OF BULK AT MOST 1048576: true; the input reads as it did. -/
def pipeEndsUptoRow : OpenClaim := { program := "ytgglnmpjajnkaaa", sum := "ea74d5df51fb88c43d673113dad03872a593517040ca052c1a540f62e92d7db4", func := "sackbut/sackbutlaw01.PipeEnds", spec := "pipeEnds", unfollowed := true, recurses := true, apart := false, narrowed := true }
def PipeEndsUptoSaid : Prop := pipeEndsUptoRow.holds Try.pinned (OpenSpec.upto pipeEndsSpec)

/-- 'sackbutlaw02.RiceBest', WHERE WHAT IT READS IS OF BULK AT MOST 1048576: true; the input reads as it did. -/
def riceBestUptoRow : OpenClaim := { program := "ytgglnmpjajnkaaa", sum := "ea74d5df51fb88c43d673113dad03872a593517040ca052c1a540f62e92d7db4", func := "sackbut/sackbutlaw02.RiceBest", spec := "riceBest", unfollowed := true, recurses := true, apart := false, narrowed := true }
def RiceBestUptoSaid : Prop := riceBestUptoRow.holds Try.pinned (OpenSpec.upto riceBestSpec)

/-- 'sackbutlaw01.PipeBack', WHERE WHAT IT READS IS OF BULK AT MOST 1048576: true; the input reads as it did. -/
def pipeBackUptoRow : OpenClaim := { program := "ytgglnmpjajnkaaa", sum := "ea74d5df51fb88c43d673113dad03872a593517040ca052c1a540f62e92d7db4", func := "sackbut/sackbutlaw01.PipeBack", spec := "pipeBack", unfollowed := true, recurses := true, apart := false, narrowed := true }
def PipeBackUptoSaid : Prop := pipeBackUptoRow.holds Try.pinned (OpenSpec.upto pipeBackSpec)

/-- 'sackbutlaw02.RiceTakes', WHERE WHAT IT READS IS OF BULK AT MOST 1048576: true; the input reads as it did. -/
def riceTakesUptoRow : OpenClaim := { program := "ytgglnmpjajnkaaa", sum := "ea74d5df51fb88c43d673113dad03872a593517040ca052c1a540f62e92d7db4", func := "sackbut/sackbutlaw02.RiceTakes", spec := "riceTakes", unfollowed := true, recurses := true, apart := false, narrowed := true }
def RiceTakesUptoSaid : Prop := riceTakesUptoRow.holds Try.pinned (OpenSpec.upto riceTakesSpec)

/-- 'sackbutlaw02.RiceBits', WHERE WHAT IT READS IS OF BULK AT MOST 1048576: true; the input reads as it did. -/
def riceBitsUptoRow : OpenClaim := { program := "ytgglnmpjajnkaaa", sum := "ea74d5df51fb88c43d673113dad03872a593517040ca052c1a540f62e92d7db4", func := "sackbut/sackbutlaw02.RiceBits", spec := "riceBits", unfollowed := true, recurses := true, apart := false, narrowed := true }
def RiceBitsUptoSaid : Prop := riceBitsUptoRow.holds Try.pinned (OpenSpec.upto riceBitsSpec)

/-- 'sackbutlaw02.RicePuts', WHERE WHAT IT READS IS OF BULK AT MOST 1048576: true; the input reads as it did. -/
def ricePutsUptoRow : OpenClaim := { program := "ytgglnmpjajnkaaa", sum := "ea74d5df51fb88c43d673113dad03872a593517040ca052c1a540f62e92d7db4", func := "sackbut/sackbutlaw02.RicePuts", spec := "ricePuts", unfollowed := true, recurses := true, apart := false, narrowed := true }
def RicePutsUptoSaid : Prop := ricePutsUptoRow.holds Try.pinned (OpenSpec.upto ricePutsSpec)

end Rows
end Go.Proofs.Ytgglnmpjajnkaaa
