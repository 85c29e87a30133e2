/- The contract of layer 3's Bits. -/
import Derived.Test.YteoncgijnkfhfaaKePx0
import Derived.Test.YteoncgijnkfhfaaKeHRangeS
import Derived.Test.YteoncgijnkfhfaaKeHSGood
import Derived.Test.YteoncgijnkfhfaaKeHSEach
import Derived.Test.YteoncgijnkfhfaaKeHSEach2
import Derived.Test.YteoncgijnkfhfaaKeHSPut
import Derived.Test.YteoncgijnkfhfaaKePx1
import Derived.Sort.LoopGhostIn
import Derived.Stop.RegionWithIn
import Derived.Sort.CutIn
namespace Go.Proofs.Yteoncgijnkfhfaa.P
open Go Go.RowKit Go.Proofs.YteoncgijnkfhfaaW.PrintWords Go.Proofs.YteoncgijnkfhfaaW.PrintLast Go.Proofs.YteoncgijnkfhfaaW.PrintMore
set_option linter.unusedVariables false
set_option linter.unusedSimpArgs false

attribute [local go_sem] Oper.semAt_some

/-- What the loop over the parts keeps. -/
structure SumInv (w : World) (b3 b5 : Nat) (p : Int) (Ak : Option Addr) (nk ck : Nat) (s : Option Int) (W : World) : Prop where
  bel : Below w.heap.size w W
  x3 : W.heap[b3]? = some (.cells #[.int .i64 p, .slice Ak nk ck] 24 (0, 0))
  x5 : ∃ y, s = some y ∧ W.heap[b5]? = some (.cells #[.int .i64 y] 3 (0, 0))
theorem SumInv.kept {w : World} {b3 b5 : Nat} {p : Int} {Ak : Option Addr} {nk ck : Nat} {s : Option Int} {W W' : World} {B : Nat} (h : SumInv w b3 b5 p Ak nk ck s W) (hB : w.heap.size ≤ B) (hk : CellsKept B W W') : SumInv w b3 b5 p Ak nk ck s W' := by
  obtain ⟨hb, h3, y, hs, h5⟩ := h
  exact ⟨hb.trans (hk.1.mono hB), hk.2 _ _ h3 rfl, y, hs, hk.2 _ _ h5 rfl⟩
end Go.Proofs.Yteoncgijnkfhfaa.P
