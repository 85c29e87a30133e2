/- The contract of layer 3's Best: the best parts, and how many bits. -/
import Derived.Test.YteoncgijnkfhfaaKfPx0
import Derived.Test.YteoncgijnkfhfaaKfHSGood
import Derived.Test.YteoncgijnkfhfaaKfHSBest1
import Derived.Sort.LoopGhostIn
namespace Go.Proofs.Yteoncgijnkfhfaa.P
open Go Go.RowKit Go.Proofs.YteoncgijnkfhfaaW.PrintWords Go.Proofs.YteoncgijnkfhfaaW.PrintLast Go.Proofs.YteoncgijnkfhfaaW.PrintMore
set_option linter.unusedVariables false
set_option linter.unusedSimpArgs false

/-- The result's memory, and that of the best parts so far. -/
structure BstI (w W : World) (b2 b4 : Nat) (p : Int) (v : Value) (ks : List Int) : Prop where
  bel : Below w.heap.size w W
  x2 : W.heap[b2]? = some (.cells #[.int .i64 0, .slice none 0 0] 24 (0, 0))
  x4 : W.heap[b4]? = some (.cells #[.int .i64 p, v] 24 (0, 0))
  r : Kd.R (Kd.int .i64) 3 W w.heap.size (fun _ => True) v ks
theorem BstI.below {w W W' : World} {b2 b4 : Nat} {p : Int} {v : Value} {ks : List Int} (h : BstI w W b2 b4 p v ks) (hb : Below W.heap.size W W') : BstI w W' b2 b4 p v ks :=
  ⟨below_then h.bel h.bel.size hb, blk_below h.x2 hb, blk_below h.x4 hb, Kd.R_below h.r hb⟩
theorem BstI.put {w W : World} {b2 b4 : Nat} {p p' : Int} {v v' : Value} {ks ks' : List Int} (h : BstI w W b2 b4 p v ks) (hr : Kd.R (Kd.int .i64) 3 W w.heap.size (fun _ => True) v' ks') (hn : b2 ≠ b4) (hl : w.heap.size ≤ b4) : BstI w ((W.setCell ⟨b4, 0, none⟩ (.int .i64 p')).setCell ⟨b4, 1, none⟩ v') b2 b4 p' v' ks' := by
  have h1 : (W.setCell ⟨b4, 0, none⟩ (.int .i64 p')).heap[b4]? = some (.cells #[.int .i64 p', v] 24 (0, 0)) := blk_put h.x4 0 _ rfl
  refine ⟨(h.bel.setCell (p := ⟨b4, 0, none⟩) hl _).setCell (p := ⟨b4, 1, none⟩) hl _, ?_, blk_put h1 1 _ rfl, ?_⟩
  · exact (Below.heap_setCell _ ⟨b4, 1, none⟩ _ b2 hn).trans ((Below.heap_setCell W ⟨b4, 0, none⟩ _ b2 hn).trans h.x2)
  · exact Kd.R_set (Kd.R_set hr h.x4 (by decide) 0 (.int .i64 p')) h1 (by decide) 1 v'
end Go.Proofs.Yteoncgijnkfhfaa.P
