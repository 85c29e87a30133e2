/- A loop over an iterator that yields memory of its own making: what the iterator tells of what it yields reaches the loop's body. -/
import Derived.Test.YteoncgijnkfhfaaKfPx0
import Derived.RangeFuncKeeps
import Derived.RangeFuncNested
import Derived.RangeFuncLeaves
import Derived.RangeFuncCalls
import Derived.TacticsInMore
import Derived.LoopNIn
import Derived.LoopIn
import Derived.Shelf.Abstract
namespace Go.Proofs.Yteoncgijnkfhfaa.P
open Go Go.RowKit Go.Proofs.YteoncgijnkfhfaaW.PrintWords Go.Proofs.YteoncgijnkfhfaaW.PrintLast Go.Proofs.YteoncgijnkfhfaaW.PrintMore
set_option linter.unusedVariables false
set_option linter.unusedSimpArgs false

/-- Blocks of cells lie as they lay, and all blocks below B. -/
def CellsKept (B : Nat) (W W' : World) : Prop := Below B W W' ∧ ∀ (k : Nat) (o : Obj), W.heap[k]? = some o → o.isCells = true → W'.heap[k]? = some o
/-- So, but for block X; those below X lie as they lay. -/
def CellsBut (X : Nat) (W W' : World) : Prop := Below X W W' ∧ ∀ (k : Nat) (o : Obj), k ≠ X → W.heap[k]? = some o → o.isCells = true → W'.heap[k]? = some o
theorem CellsKept.refl (B : Nat) (W : World) : CellsKept B W W := ⟨Below.refl _ _, fun _ _ h _ => h⟩
theorem CellsKept.trans {B : Nat} {W W1 W2 : World} (h : CellsKept B W W1) (k : CellsKept B W1 W2) : CellsKept B W W2 := ⟨h.1.trans k.1, fun i o hi ho => k.2 i o (h.2 i o hi ho) ho⟩
theorem CellsBut.trans {X : Nat} {W W1 W2 : World} (h : CellsBut X W W1) (k : CellsBut X W1 W2) : CellsBut X W W2 := ⟨h.1.trans k.1, fun i o hn hi ho => k.2 i o hn (h.2 i o hn hi ho) ho⟩
theorem CellsKept.of_below {B : Nat} {W W1 : World} (h : Below W.heap.size W W1) (hB : B ≤ W.heap.size) : CellsKept B W W1 :=
  ⟨h.mono hB, fun k o hk _ => (h.block k (Array.getElem?_eq_some_iff.1 hk).1).trans hk⟩
theorem CellsKept.putObj {B : Nat} {W : World} {l : Nat} {o : Obj} (o' : Obj) (hB : B ≤ l) (hl : W.heap[l]? = some o) (ho : o.isCells = false) : CellsKept B W (W.putObj l o') := by
  refine ⟨⟨rfl, rfl, rfl, by simp, fun k hk => World.putObj_heap_other (by omega)⟩, fun k c hk hc => ?_⟩
  have hne : k ≠ l := by
    rintro rfl
    rw [hl] at hk
    cases hk
    rw [ho] at hc
    cases hc
  exact (World.putObj_heap_other hne).trans hk

end Go.Proofs.Yteoncgijnkfhfaa.P
