/- The contract of layer 3's best: the best parts of one P. -/
import Derived.Test.YteoncgijnkfhfaaKfPx0
import Derived.Test.YteoncgijnkfhfaaKfHRangeS
import Derived.Test.YteoncgijnkfhfaaKfHSGood
import Derived.Test.YteoncgijnkfhfaaKfHSEach
import Derived.Test.YteoncgijnkfhfaaKfHSEach2
import Derived.Test.YteoncgijnkfhfaaKfHQueue
import Derived.Sort.LoopGhostIn
import Derived.Deep.RegionWith
import Derived.Test.YteoncgijnkfhfaaKfPx1
import Derived.Deep.QuietTactic
import Derived.BigQuiet
import Derived.Stop.RegionWithIn
import Derived.Sort.CutIn
import Derived.Laws.ResultCell
import Derived.Maps.OwnIn
namespace Go.Proofs.Yteoncgijnkfhfaa.P
open Go Go.RowKit Go.Maps Go.Proofs.YteoncgijnkfhfaaW.PrintWords Go.Proofs.YteoncgijnkfhfaaW.PrintLast Go.Proofs.YteoncgijnkfhfaaW.PrintMore
set_option linter.unusedVariables false
set_option linter.unusedSimpArgs false

attribute [local go_sem] Oper.semAt_some

structure BestInv (w : World) (b4 b6 b7 N : Nat) (p : Int) (r : Option (List Int × Int)) (W : World) : Prop where
  bel : Below w.heap.size w W
  x4 : W.heap[b4]? = some (.cells #[.int .i64 0, .slice none 0 0] 24 (0, 0))
  ex : ∃ (v : Value) (ks : List Int) (s : Int), r = some (ks, s) ∧ W.heap[b6]? = some (.cells #[.int .i64 p, v] 24 (0, 0)) ∧ W.heap[b7]? = some (.cells #[.int .i64 s] 3 (0, 0)) ∧ W.ownsRow N 3 1 v ks.length (nums .i64 ks)
theorem own_keptB {w w' : World} {base B n : Nat} {v : Value} {xs : List Value} (h : w.ownsRow base 3 1 v n xs) (hk : CellsKept B w w') : w'.ownsRow base 3 1 v n xs :=
  own_move h fun k hk' => by
    obtain ⟨cs, hc⟩ := own_typed h k hk'
    exact (hk.2 _ _ hc rfl).trans hc.symm
theorem BestInv.kept {w : World} {b4 b6 b7 N : Nat} {p : Int} {r : Option (List Int × Int)} {W W' : World} {B : Nat} (h : BestInv w b4 b6 b7 N p r W) (hB : w.heap.size ≤ B) (hk : CellsKept B W W') : BestInv w b4 b6 b7 N p r W' := by
  obtain ⟨hb, h4, v, ks, s, hr, h6, h7, ho⟩ := h
  exact ⟨hb.trans (hk.1.mono hB), hk.2 _ _ h4 rfl, v, ks, s, hr, hk.2 _ _ h6 rfl, hk.2 _ _ h7 rfl, own_keptB ho hk⟩
end Go.Proofs.Yteoncgijnkfhfaa.P
