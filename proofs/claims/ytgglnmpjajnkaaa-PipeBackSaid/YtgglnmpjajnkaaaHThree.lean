/- Three writers at once. -/
import Derived.Test.YtgglnmpjajnkaaaPx0
import Derived.Test.YtgglnmpjajnkaaaHDo
import Derived.Test.YtgglnmpjajnkaaaHAwake1
namespace Go.Proofs.Ytgglnmpjajnkaaa.P
open Go Go.RowKit Go.Proofs.YtgglnmpjajnkaaaW.PrintWords Go.Proofs.YtgglnmpjajnkaaaW.PrintLast Go.Proofs.YtgglnmpjajnkaaaW.PrintMore
set_option linter.unusedVariables false
set_option linter.unusedSimpArgs false

theorem doBits_len (l : List Bool) (a x n : Int) : (doBits l a x n).length ≤ l.length + 1001 := by
  unfold doBits
  split
  · split
    · rename_i h
      simp only [putOk, Bool.and_eq_true, decide_eq_true_eq] at h
      rw [List.length_append, bitsOf_length]
      omega
    · omega
  · split
    · split
      · rename_i h
        simp only [signedOk, Bool.and_eq_true, decide_eq_true_eq] at h
        rw [List.length_append, bitsOf_length]
        omega
      · omega
    · split
      · split
        · simp only [List.length_append, List.length_replicate, List.length_cons, List.length_nil]
          omega
        · omega
      · split
        · unfold alignB
          simp only [List.length_append, List.length_replicate]
          omega
        · omega
abbrev wrO : Obj := .cells #[.slice none 0 0, .int .i64 0] 26
theorem isWr_lt {w0 w : World} {g : Nat} {v : Value} {l : List Bool} (h : IsWr w0 w g v l) : g < w.heap.size := blk_lt h.1
/-- A writer's row is no block of another type. -/
theorem isWr_row {w0 w : World} {g : Nat} {v : Value} {l : List Bool} (h : IsWr w0 w g v l) {b t : Nat} {cs : Array Value} (hb : w.heap[b]? = some (.cells cs t (0, 0))) (ht : 5 ≠ t) : some b ≠ v.ownBlock := by
  intro he
  obtain ⟨cells, hc⟩ := own_typed h.2.2 b he.symm
  rw [hb] at hc
  injection hc with hc
  injection hc with _ hc
  exact ht hc.symm
/-- What a step on another writer leaves. -/
theorem wr_far {w0 w w' : World} {g g1 : Nat} {v v1 v1' : Value} {l l1 : List Bool} (h : IsWr w0 w g v l) (h1 : IsWr w0 w g1 v1 l1) (s : WrStep w0 w w' g1 v1 v1') (hg : g ≠ g1) (hv : NeRow v v1) : IsWr w0 w' g v l ∧ NeRow v v1' := by
  have hkg : w'.heap[g]? = w.heap[g]? := s.kept.2 g (blk_lt h.1) (fun hn => by
    rcases hn with hn | hn
    · exact hg hn
    · exact isWr_row h1 h.1 (by decide) hn)
  refine ⟨⟨hkg.trans h.1, h.2.1, own_move h.2.2 (fun k hk => ?_)⟩, fun k hk he => ?_⟩
  · refine s.kept.2 k (own_lt h.2.2 k hk) (fun hn => ?_)
    rcases hn with hn | hn
    · subst hn
      exact isWr_row h h1.1 (by decide) hk.symm
    · exact hv k hk hn.symm
  · rcases s.own with ho | ⟨b, ho, hb⟩
    · rw [ho] at he
      exact hv k hk he
    · rw [ho] at he
      cases he
      have := own_lt h.2.2 k hk
      omega
structure Three (w w' : World) (gx : Nat) (vx : Value) (lx : List Bool) (gy : Nat) (vy : Value) (ly : List Bool) (gz : Nat) (vz : Value) (lz : List Bool) : Prop where
  x : IsWr w w' gx vx lx
  y : IsWr w w' gy vy ly
  z : IsWr w w' gz vz lz
  gxy : gx ≠ gy
  gxz : gx ≠ gz
  gyz : gy ≠ gz
  vxy : NeRow vx vy
  vxz : NeRow vx vz
  vyz : NeRow vy vz
theorem nes {v v' : Value} (h : NeRow v v') : NeRow v' v := fun k hk he => h k he hk
section
variable {w w' w2 : World} {gx gy gz : Nat} {vx vy vz v' : Value} {lx ly lz l' : List Bool}
theorem Three.below (h : Three w w' gx vx lx gy vy ly gz vz lz) (hb : Below w'.heap.size w' w2) : Three w w2 gx vx lx gy vy ly gz vz lz :=
  ⟨isWr_below h.x hb, isWr_below h.y hb, isWr_below h.z hb, h.gxy, h.gxz, h.gyz, h.vxy, h.vxz, h.vyz⟩
theorem Three.stepX (h : Three w w' gx vx lx gy vy ly gz vz lz) (s : WrStep w w' w2 gx vx v') (hn : IsWr w w2 gx v' l') : Three w w2 gx v' l' gy vy ly gz vz lz := by
  obtain ⟨hy, ny⟩ := wr_far h.y h.x s h.gxy.symm (nes h.vxy)
  obtain ⟨hz, nz⟩ := wr_far h.z h.x s h.gxz.symm (nes h.vxz)
  exact ⟨hn, hy, hz, h.gxy, h.gxz, h.gyz, (nes ny), (nes nz), h.vyz⟩
theorem Three.stepY (h : Three w w' gx vx lx gy vy ly gz vz lz) (s : WrStep w w' w2 gy vy v') (hn : IsWr w w2 gy v' l') : Three w w2 gx vx lx gy v' l' gz vz lz := by
  obtain ⟨hx, nx⟩ := wr_far h.x h.y s h.gxy h.vxy
  obtain ⟨hz, nz⟩ := wr_far h.z h.y s h.gyz.symm (nes h.vyz)
  exact ⟨hx, hn, hz, h.gxy, h.gxz, h.gyz, nx, h.vxz, (nes nz)⟩
theorem Three.stepZ (h : Three w w' gx vx lx gy vy ly gz vz lz) (s : WrStep w w' w2 gz vz v') (hn : IsWr w w2 gz v' l') : Three w w2 gx vx lx gy vy ly gz v' l' := by
  obtain ⟨hx, nx⟩ := wr_far h.x h.z s h.gxz h.vxz
  obtain ⟨hy, ny⟩ := wr_far h.y h.z s h.gyz h.vyz
  exact ⟨hx, hy, hn, h.gxy, h.gxz, h.gyz, h.vxy, nx, ny⟩
/-- A block of another type is none of a writer's. -/
theorem Three.farX (h : Three w w' gx vx lx gy vy ly gz vz lz) {b t : Nat} {cs : Array Value} (hb : w'.heap[b]? = some (.cells cs t (0, 0))) (ht : 5 ≠ t) (ht2 : 26 ≠ t) : ¬ (b = gx ∨ some b = vx.ownBlock) := by
  rintro (rfl | hn)
  · have := h.x.1.symm.trans hb
    injection this with this
    injection this with _ this
    exact ht2 this
  · exact isWr_row h.x hb ht hn
theorem Three.farY (h : Three w w' gx vx lx gy vy ly gz vz lz) {b t : Nat} {cs : Array Value} (hb : w'.heap[b]? = some (.cells cs t (0, 0))) (ht : 5 ≠ t) (ht2 : 26 ≠ t) : ¬ (b = gy ∨ some b = vy.ownBlock) := by
  rintro (rfl | hn)
  · have := h.y.1.symm.trans hb
    injection this with this
    injection this with _ this
    exact ht2 this
  · exact isWr_row h.y hb ht hn
end
theorem three_new (w w1 : World) (hB : Below w.heap.size w w1) : Three w (((w1.alloc wrO).alloc wrO).alloc wrO) w1.heap.size (.slice none 0 0) [] (w1.heap.size + 1) (.slice none 0 0) [] (w1.heap.size + 1 + 1) (.slice none 0 0) [] := by
  have hs1 : (w1.alloc wrO).heap.size = w1.heap.size + 1 := Array.size_push _
  have hs2 : ((w1.alloc wrO).alloc wrO).heap.size = w1.heap.size + 1 + 1 := by rw [show ((w1.alloc wrO).alloc wrO).heap.size = (w1.alloc wrO).heap.size + 1 from Array.size_push _, hs1]
  have hx := isWr_new w w1 hB
  have hy := isWr_new w (w1.alloc wrO) (below_alloc hB wrO)
  have hz := isWr_new w ((w1.alloc wrO).alloc wrO) (below_alloc (below_alloc hB wrO) wrO)
  rw [hs1] at hy
  rw [hs2] at hz
  have ha : ∀ W : World, Below W.heap.size W (W.alloc wrO) := fun W => below_alloc (Below.refl _ _) wrO
  have hne : NeRow (.slice none 0 0) (.slice none 0 0) := fun k hk => by simp [Value.ownBlock] at hk
  exact ⟨isWr_below (isWr_below hx (ha _)) (ha _), isWr_below hy (ha _), hz, by omega, by omega, by omega, hne, hne, hne⟩
end Go.Proofs.Ytgglnmpjajnkaaa.P
