/- A loop over an iterator that yields memory of its own making, whose body may write blocks that a predicate names. -/
import Derived.Test.YteoncgijnkfhfaaKfPx0
import Derived.Test.YteoncgijnkfhfaaKfHRange
namespace Go.Proofs.Yteoncgijnkfhfaa.P
open Go Go.RowKit Go.Proofs.YteoncgijnkfhfaaW.PrintWords Go.Proofs.YteoncgijnkfhfaaW.PrintLast Go.Proofs.YteoncgijnkfhfaaW.PrintMore
set_option linter.unusedVariables false
set_option linter.unusedSimpArgs false

/-- Blocks of cells lie as they lay, but for those that T names; those below X lie as they lay. -/
def CellsButS (T : Nat → Obj → Prop) (X : Nat) (W W' : World) : Prop := Below X W W' ∧ ∀ (k : Nat) (o : Obj), ¬ T k o → W.heap[k]? = some o → o.isCells = true → W'.heap[k]? = some o
theorem CellsButS.trans {T : Nat → Obj → Prop} {X : Nat} {W W1 W2 : World} (h : CellsButS T X W W1) (k : CellsButS T X W1 W2) : CellsButS T X W W2 := ⟨h.1.trans k.1, fun i o hn hi ho => k.2 i o hn (h.2 i o hn hi ho) ho⟩
theorem CellsKept.butS {T : Nat → Obj → Prop} {X : Nat} {W W1 : World} (h : CellsKept X W W1) : CellsButS T X W W1 := ⟨h.1, fun i o _ hi ho => h.2 i o hi ho⟩

/-- AN ITERATOR: whatever loop body keeps what it must, each element x is yielded where M x holds; in the end all of xs were, as S says. -/
def SeqS (T : Nat → Obj → Prop) {α : Type} (F : Fence) (n : Nat) (P : Program) (g : Nat) (lb : Array Value) (X : Nat) (encs : α → Array Value) (M : List α → α → World → Prop) (S : List α → Prop) (w : World) : Prop :=
  ∀ (l : Nat) (J : List α → World → Prop) (W : World), Below w.heap.size w W → (∀ s A B, J s A → Below A.heap.size A B → J s B) →
    (∀ pre x W1, J pre W1 → M pre x W1 → YieldAt F (n - 1) P l (encs x) W1 fun e W' => e = .returned (.bool true) ∧ J (pre ++ [x]) W' ∧ CellsButS T X W1 W') →
    J [] W →
    CallsIn F n P g (#[.func (.yield l) #[] #[]] ++ lb) W fun e W' => (∃ v, e = .returned v) ∧ ∃ xs, S xs ∧ J xs W'

variable {F : Fence} {n : Nat} {P : Program}
theorem rangeS (T : Nat → Obj → Prop) {α : Type} {g : Operand} {ps : Array Tmp} {assign body : Code} {Q : Exit → Act → World → Prop} {a : Act} {w : World}
    (hro : F.round = none) (h1 : 1 ≤ n) {gf : Nat} {lb : Array Value} (hg : a.eval g = .func (.func gf) #[] lb) (hFg : F.fn gf) (eg : ∀ args w, (callFunc gf args).run P w = .ok (.enter gf args) w)
    {X : Nat} {encs : α → Array Value} {M : List α → α → World → Prop} {S : List α → Prop} (hseq : SeqS T F (n - 1) P gf lb X encs M S w) (hX : X < w.heap.size) (hps : ∀ x, (encs x).size = ps.size)
    (I : List α → World → Prop) (hI : ∀ s A B, I s A → CellsKept w.heap.size A B → I s B) (hM : ∀ pre x A B, M pre x A → CellsKept w.heap.size A B → M pre x B) (h0 : I [] w) (a₁ : α → Act)
    (hassign : ∀ (l : Nat) (x : α) (W : World) (K : Act → World → Prop), K (a₁ x) W →
      assign.wpIn (F.inRound l) (n - 1 - 1) P (Exit.then K (fun _ _ _ => False)) { tmps := (ps.zip (encs x)).foldl (fun t (p, v) => t.setIfInBounds p v) a.tmps, defers := [] } W)
    (hbody : ∀ (l : Nat) (pre : List α) (x : α) (W : World), I pre W → M pre x W → w.heap.size ≤ W.heap.size →
      body.wpIn (F.inRound l) (n - 1 - 1) P (fun e _ W' => e = .normal ∧ KeepsOthers W W' ∧ CellsButS T X W W' ∧ I (pre ++ [x]) W') (a₁ x) W)
    (hdone : ∀ (D : Nat) (xs : List α) (W : World), w.heap.size ≤ D → S xs → I xs W → W.heap[D]? = some (.deferred (some [])) → Q .normal { a with defers := { target := .collected D, args := #[] } :: a.defers } W) :
    (Code.rangeFunc g ps assign body).wpIn F n P Q a w := by
  refine wpIn_rangeFunc ?_
  intro fn hfn
  rw [hro]
  obtain ⟨rec, hrec⟩ : ∃ rec : LoopState → Option Code → Loop, rec = fun st pe => { state := st, pending := pe, fn, tmps := a.tmps, params := ps, assign, body, defers := w.heap.size } := ⟨_, rfl⟩
  obtain ⟨W1, hW1⟩ : ∃ W1, (w.alloc (.deferred (some []))).alloc (.loop (rec .ready none)) = W1 := ⟨_, rfl⟩
  have hbw : Below w.heap.size w W1 := by
    rw [← hW1]
    exact ((Below.refl _ w).alloc (Nat.le_refl _) _).alloc (by simp) _
  have hsz : W1.heap.size = w.heap.size + 2 := by rw [← hW1]; simp
  have hL1 : W1.heap[w.heap.size + 1]? = some (.loop (rec .ready none)) := by
    rw [← hW1]
    have := World.alloc_heap_new (w.alloc (.deferred (some []))) (.loop (rec .ready none))
    rwa [World.size_alloc] at this
  have hD1 : W1.heap[w.heap.size]? = some (.deferred (some [])) := by
    rw [← hW1]
    exact (Below.heap_alloc _ _ _ (by simp)).trans (World.alloc_heap_new w _)
  refine ⟨w.heap.size + 1, [{ target := .collected w.heap.size, args := #[] }], W1, { target := .fn (.func gf) lb, args := #[.func (.yield (w.heap.size + 1)) #[] #[]] }, W1, gf,
    #[.func (.yield (w.heap.size + 1)) #[] #[]] ++ lb, W1, ?_, ?_, ?_, ?_, fun _ => h1, ?_⟩
  · rw [← hW1, hrec]
    exact run_enterLoop_outer _ _ _ _ _
  · simp only [resolve, hg]
    simp [go_sem]
  · intro f' hf'
    simp [Target.leads] at hf'
    subst hf'
    exact hFg
  · simp [invoke, go_sem, eg]
  · refine (hseq (w.heap.size + 1)
      (fun pre W => I pre W ∧ W.heap[w.heap.size + 1]? = some (.loop (rec .ready none)) ∧ W.heap[w.heap.size]? = some (.deferred (some [])))
      W1 hbw ?_ ?_ ⟨hI _ _ _ h0 (CellsKept.of_below hbw (Nat.le_refl _)), hL1, hD1⟩).mono ?_
    · rintro s A B ⟨hi, hl, hd⟩ hb
      have hlt := (Array.getElem?_eq_some_iff.1 hl).1
      exact ⟨hI _ _ _ hi (CellsKept.of_below hb (by omega)), (hb.block _ hlt).trans hl, (hb.block _ (by omega)).trans hd⟩
    · rintro pre x W ⟨hi, hl, hd⟩ hm
      have hlt : w.heap.size + 1 < W.heap.size := (Array.getElem?_eq_some_iff.1 hl).1
      have hy := run_yield (P := P) (args := encs x) hl (by rw [hrec]; exact hps x)
      rw [hrec] at hy
      refine ⟨fn, _, assign, body, hy, roundIn_of_wpIn hfn (hassign _ x W _ ?_)⟩
      refine ⟨_, run_beginRound hl (by rw [hrec]), ?_⟩
      have hl2 : (W.putObj (w.heap.size + 1) (.loop { rec .ready none with state := .busy })).heap[w.heap.size + 1]? = some (.loop { rec .ready none with state := .busy }) := World.putObj_heap_same hlt
      have hd2 : (W.putObj (w.heap.size + 1) (.loop { rec .ready none with state := .busy })).heap[w.heap.size]? = some (.deferred (some [])) := (World.putObj_heap_other (by omega)).trans hd
      have hk2 : CellsKept w.heap.size W (W.putObj (w.heap.size + 1) (.loop { rec .ready none with state := .busy })) := CellsKept.putObj _ (by omega) hl rfl
      refine wpIn_mono (hbody _ pre x _ (hI _ _ _ hi hk2) (hM _ _ _ _ hm hk2) (by simp; omega)) ?_
      rintro e a3 W3 ⟨rfl, hk3, hc3, hi3⟩
      have hl3 := hk3.same _ _ hl2 rfl
      have hd3 := hk3.same _ _ hd2 rfl
      have hr := run_endRound (P := P) none hl3
      rw [hrec] at hr
      have hlt3 := (Array.getElem?_eq_some_iff.1 hl3).1
      have hl3' : W3.heap[w.heap.size + 1]? = some (.loop (rec .busy none)) := by rw [hl3, hrec]
      have hk4 : CellsKept w.heap.size W3 (W3.putObj (w.heap.size + 1) (.loop (rec .ready none))) := CellsKept.putObj _ (by omega) hl3' rfl
      have hbut : ∀ {A B : World}, CellsKept w.heap.size A B → CellsButS T X A B := fun h => CellsKept.butS ⟨h.1.mono (by omega), h.2⟩
      refine ⟨_, _, hr, rfl, ⟨?_, ?_, ?_⟩, ?_⟩
      · have := hI _ _ _ hi3 hk4
        rw [hrec] at this
        exact this
      · rw [hrec]
        exact World.putObj_heap_same hlt3
      · exact (World.putObj_heap_other (by omega)).trans hd3
      · have := (hbut hk2).trans (hc3.trans (hbut hk4))
        rw [hrec] at this
        exact this
    · rintro e W2 ⟨⟨v, rfl⟩, xs, hS, hi, hl, hd⟩
      have hlt := (Array.getElem?_eq_some_iff.1 hl).1
      refine ⟨none, _, by have := run_endLoop (P := P) hl (by rw [hrec]; simp); rw [hrec] at this; exact this, ?_⟩
      refine hdone _ xs _ (Nat.le_refl _) hS (hI _ _ _ hi (CellsKept.putObj _ (by omega) hl rfl)) ((World.putObj_heap_other (by omega)).trans hd)
end Go.Proofs.Yteoncgijnkfhfaa.P
