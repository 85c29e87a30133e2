/- The contracts of a strings.Builder that lies in a struct, from its cell 1 on. -/
import Derived.Test.YtlebgjcpidpgnaaPx0
import Derived.Test.YtlebgjcpidpgnaaHTree
import Derived.RegionTactic
import Derived.BigRegion
import Derived.Shelf.Abstract
import Derived.WalkSmall
import Derived.Lib.Builder
import Derived.Lib.UnsafeStr
namespace Go.Proofs.Ytlebgjcpidpgnaa.P
open Go.RowKit Go.Proofs.YtlebgjcpidpgnaaW.PrintWords Go.Proofs.YtlebgjcpidpgnaaW.PrintLast Go.Proofs.YtlebgjcpidpgnaaW.PrintMore
set_option linter.unusedVariables false
set_option linter.unusedSimpArgs false

theorem bd_size : (Try.prog.info? 102).map (·.size) = some 2 := by kernel_rfl
set_option maxHeartbeats 4000000 in
set_option maxRecDepth 100000 in
theorem bd_check_used (g : Nat) (w : World) (h0 : w.cell? ⟨g, 1, none⟩ = some (.pointer (some ⟨g, 1, none⟩))) :
    Calls Try.prog 87 #[.pointer (some ⟨g, 1, none⟩)] w fun e w' => e = .returned (.tuple #[]) ∧ w' = w := by
  obtain ⟨j, hj, _⟩ := Option.map_eq_some_iff.1 bd_size
  go_enter Try.func87, Try.ntmps87
  go_wp2
  rw [Lib.run_neq_ptr_same w ⟨g, 1, none⟩ Try.underlying100 hj]
  go_wp2
  go_end0
  exact ⟨rfl, rfl⟩
set_option maxHeartbeats 4000000 in
set_option maxRecDepth 100000 in
theorem bd_check_fresh (g T n : Nat) (w : World) (h0 : w.cell? ⟨g, 1, none⟩ = some (.pointer none)) (hsh : w.shape? g = some (T, n)) (hn : 1 < n) (hfz : w.frozen? ⟨g, 1, none⟩ = false)
    (hl : liesAt Try.prog Try.prog.depth T (n / Try.prog.cellsOf T) 1 102 1 = true) :
    Calls Try.prog 87 #[.pointer (some ⟨g, 1, none⟩)] w fun e w' => e = .returned (.tuple #[]) ∧ w' = w.setCell ⟨g, 1, none⟩ (.pointer (some ⟨g, 1, none⟩)) := by
  obtain ⟨j, hj, hjs⟩ := Option.map_eq_some_iff.1 bd_size
  go_enter Try.func87, Try.ntmps87
  go_wp2
  rw [Lib.run_to_unsafe w ⟨g, 1, none⟩ Try.underlying100 Try.underlying135 hj (by rw [hjs]; decide) hsh hn]
  simp only [Result.andThen]
  rw [Oper.upon_value]
  go_wp2
  rw [run_callFunc_extern Try.func88 (by kernel_rfl) (by kernel_rfl) (by kernel_rfl) (e := Extern.AbiNoEscape.same) (by kernel_rfl)]
  rw [Lib.run_noEscape]
  simp only [Result.andThen]
  rw [Oper.upon_value]
  go_wp2
  rw [Lib.run_from_unsafe w ⟨g, 1, none⟩ Try.underlying135 Try.underlying100 hj hsh hl]
  simp only [Result.andThen]
  rw [Oper.upon_value]
  go_wp2
  go_end0
  exact ⟨rfl, rfl⟩
/-- A builder in block g of W, from cell 1 on: these bytes; its row is new since w0. -/
def IsBd (w0 W : World) (g T : Nat) (cs : Array Value) (l : List Int) : Prop :=
  w0.heap.size ≤ g ∧ W.heap[g]? = some (.cells cs T (0, 0)) ∧ T ≠ 5 ∧ 2 < cs.size ∧ liesAt Try.prog Try.prog.depth T (cs.size / Try.prog.cellsOf T) 1 102 1 = true ∧
  ∃ a v, cs[1]? = some (.pointer a) ∧ (a = none ∨ a = some ⟨g, 1, none⟩) ∧ cs[2]? = some v ∧ (l = [] → v = .slice none 0 0) ∧ W.ownsRow w0.heap.size 5 1 v l.length (nums .u8 l)
/-- All blocks of cells but g and the rows of bytes stay. -/
def KeepO (g : Nat) (w w' : World) : Prop := ∀ (b t : Nat) (cs : Array Value), t ≠ 5 → b ≠ g → w.heap[b]? = some (.cells cs t (0, 0)) → w'.heap[b]? = some (.cells cs t (0, 0))
theorem KeepO.trans {g : Nat} {w w1 w2 : World} (h : KeepO g w w1) (k : KeepO g w1 w2) : KeepO g w w2 := fun b t cs ht hg hb => k b t cs ht hg (h b t cs ht hg hb)
theorem KeepO.set {g : Nat} (w : World) (i : Nat) (u : Value) : KeepO g w (w.setCell ⟨g, i, none⟩ u) := fun b t cs ht hg hb => blk_far hb (p := ⟨g, i, none⟩) hg _
theorem bd_info : (Try.prog.info? 5).map (fun i => (i.zero, i.size, i.bytes)) = some (some (.int .u8 0), 1, 1) := by kernel_rfl
theorem cs_get1 {cs : Array Value} {g T i : Nat} {w : World} {v : Value} (hb : w.heap[g]? = some (.cells cs T (0, 0))) (h : cs[i]? = some v) : w.cell? ⟨g, i, none⟩ = some v := (blk_cell hb i).trans h

set_option maxHeartbeats 4000000 in
set_option maxRecDepth 100000 in
/-- 'copyCheck'. -/
theorem bd_check (w0 w : World) (g T : Nat) (cs : Array Value) (l : List Int) (hB : Below w0.heap.size w0 w) (h : IsBd w0 w g T cs l) :
    Calls Try.prog 87 #[.pointer (some ⟨g, 1, none⟩)] w fun e w' => e = .returned (.tuple #[]) ∧ Below w0.heap.size w0 w' ∧ KeepO g w w' ∧ IsBd w0 w' g T (cs.setIfInBounds 1 (.pointer (some ⟨g, 1, none⟩))) l := by
  obtain ⟨hg, hb, hT, hs, hl, a, v, h1, ha, h2, hn, ho⟩ := h
  have hsz1 : 1 < cs.size := by omega
  have hsz2 : 2 < cs.size := hs
  rcases ha with rfl | rfl
  · refine (bd_check_fresh g T cs.size w (cs_get1 hb h1) (by simp [World.shape?, hb]) hsz1 (blk_frozen hb 1) hl).mono ?_
    rintro e w' ⟨rfl, rfl⟩
    refine ⟨rfl, hB.setCell (p := ⟨g, 1, none⟩) hg _, KeepO.set _ _ _, hg, blk_set hb 1 _, hT, by simpa using hs, by simpa using hl, some ⟨g, 1, none⟩, v, by simp [hsz1], .inr rfl, ?_, hn, own_setCell ho (own_ne ho hb (Ne.symm hT)) _⟩
    rw [Array.getElem?_setIfInBounds]
    simp [h2]
  · refine (bd_check_used g w (cs_get1 hb h1)).mono ?_
    rintro e w' ⟨rfl, rfl⟩
    have e : cs.setIfInBounds 1 (.pointer (some ⟨g, 1, none⟩)) = cs := by
      apply Array.ext_getElem?
      intro i
      rw [Array.getElem?_setIfInBounds]
      by_cases hi : 1 = i
      · subst hi
        obtain ⟨q1, q2⟩ := Array.getElem?_eq_some_iff.mp h1
        simp [hsz1]
        exact q2.symm
      · simp [hi]
    rw [e]
    exact ⟨rfl, hB, fun _ _ _ _ _ hb => hb, hg, hb, hT, hs, hl, _, v, h1, .inr rfl, h2, hn, ho⟩

set_option maxHeartbeats 4000000 in
set_option maxRecDepth 100000 in
/-- 'WriteByte'. -/
theorem bd_byte (w0 w : World) (g T : Nat) (cs : Array Value) (l : List Int) (c : Int) (hB : Below w0.heap.size w0 w) (h : IsBd w0 w g T cs l) (hm : l.length ≤ 1000000) :
    Calls Try.prog 81 #[.pointer (some ⟨g, 1, none⟩), .int .u8 c] w fun e w' => e = .returned .nilIface ∧ Below w0.heap.size w0 w' ∧ KeepO g w w' ∧ ∃ cs', IsBd w0 w' g T cs' (l ++ [c]) ∧ cs'.size = cs.size ∧ ∀ i, i ≠ 1 → i ≠ 2 → cs'[i]? = cs[i]? := by
  have HBo := Aside0.mk hB
  have HI := Aside0.mk h
  clear hB h
  go_enter Try.func81, Try.ntmps81
  go_wp2_with fail
  (with_reducible refine (bd_check w0 w g T cs l HBo.out HI.out).mono ?_)
  rintro e w1 ⟨rfl, hB1, hk1, hi1⟩
  have hcs : ∀ i, i ≠ 1 → i ≠ 2 → (cs.setIfInBounds 1 (.pointer (some ⟨g, 1, none⟩)))[i]? = cs[i]? := by
    intro i h1 h2
    rw [Array.getElem?_setIfInBounds]
    simp [Ne.symm h1]
  have hcz : (cs.setIfInBounds 1 (.pointer (some ⟨g, 1, none⟩))).size = cs.size := by simp
  generalize cs.setIfInBounds 1 (.pointer (some ⟨g, 1, none⟩)) = ds at hi1 hcs hcz
  obtain ⟨hg, hb, hT, hs, hl, a, v, h1, ha, h2, _, ho⟩ := hi1
  have hc2 : w1.cell? ⟨g, 2, none⟩ = some v := cs_get1 hb h2
  have hf2 : w1.frozen? ⟨g, 2, none⟩ = false := blk_frozen hb 2
  have hbsz := hB1.size
  obtain ⟨A, cc, rfl⟩ := own_slice ho
  have HO := Aside0.mk ho
  have HCS := Aside0.mk hcs
  have HCZ := Aside0.mk hcz
  have HK1 := Aside0.mk hk1
  have HA := Aside0.mk ha
  have HS := Aside0.mk hs
  have HL := Aside0.mk hl
  have H1 := Aside0.mk h1
  have H2 := Aside0.mk h2
  have HT := Aside0.mk hT
  clear ho hcs hcz hk1 ha hs hl h1 h2
  go_wp2_with (at_builtin; refine print_append_num (w0 := w0) w0.heap.size rfl _ _ 58 5 .u8 1 rfl Try.underlying58 bd_info (by decide) (.slice A l.length cc) l c rfl rfl HO.out hB1 hbsz ?c1 ?_)
  case c1 => omega
  intro v' w2 hown2 hB2 hgrow hv2
  have hb2 := blk_grown hb hgrow (own_ne HO.out hb (Ne.symm HT.out))
  have hne2 := own_ne hown2 hb2 (Ne.symm HT.out)
  have HK2 := Aside0.mk (show KeepO g w1 w2 from fun b t cs ht hg hb => blk_grown hb hgrow (own_ne HO.out hb (Ne.symm ht)))
  obtain ⟨A', c', rfl⟩ := own_slice hown2
  clear hgrow hc2 hf2
  have hc2' : w2.cell? ⟨g, 2, none⟩ = some (.slice A l.length cc) := by
    exact cs_get1 hb2 H2.out
  have hf2' : w2.frozen? ⟨g, 2, none⟩ = false := blk_frozen hb2 2
  have HO2 := Aside0.mk hown2
  have HB2 := Aside0.mk hB2
  have HN2 := Aside0.mk hne2
  have HBK := Aside0.mk hb2
  clear hown2 hB2 hne2 hb2 hb hv2 hT
  go_wp2
  go_ret
  refine ⟨rfl, HB2.out.setCell (p := ⟨g, 2, none⟩) hg _, HK1.out.trans (HK2.out.trans (KeepO.set _ _ _)), ds.setIfInBounds 2 (.slice A' (l.length + 1) c'), ⟨hg, blk_set HBK.out 2 _, HT.out, by simpa using HS.out, by simpa using HL.out, a, _, ?_, HA.out, by simp [HS.out]; rfl, (fun h => absurd h (by simp)), ?_⟩, by simpa using HCZ.out, ?_⟩
  · rw [Array.getElem?_setIfInBounds]
    simp [H1.out]
  · rw [List.length_append]
    exact own_setCell HO2.out HN2.out _
  · intro i k1 k2
    rw [Array.getElem?_setIfInBounds]
    simp [Ne.symm k2]
    exact HCS.out i k1 k2
theorem cells_byte : Try.prog.cellsOf 5 = 1 := by kernel_rfl
set_option maxHeartbeats 4000000 in
set_option maxRecDepth 100000 in
/-- 'String'. -/
theorem bd_string (w0 w : World) (g T : Nat) (cs : Array Value) (lu : List UInt8) (hB : Below w0.heap.size w0 w) (h : IsBd w0 w g T cs (lu.map fun c => (c.toNat : Int))) :
    Calls Try.prog 62 #[.pointer (some ⟨g, 1, none⟩)] w fun e w' => e = .returned (.string ⟨lu.toArray⟩) ∧ Below w0.heap.size w0 w' := by
  obtain ⟨hg, hb, hT, hs, hl, a, v, h1, ha, h2, hn, ho⟩ := h
  have hc2 : w.drew.cell? ⟨g, 2, none⟩ = some v := cs_get1 (blk_drew hb) h2
  by_cases hu : lu = []
  · subst hu
    obtain rfl := hn rfl
    have hUS : ∀ (p : Option Addr) (W : World), (Builtin.unsafeString_ #[130, 3] 9 #[.pointer p, .int .i64 0]).run Try.prog W = .ok (.string .empty) W := fun p W => Lib.run_unsafeString_none W _ _ _ p
    have hSD : (Builtin.unsafeSliceData_ #[58] 130 #[.slice none 0 0]).run Try.prog w.drew = .ok (.pointer none) w.drew := rfl
    have HB := Aside0.mk hB
    clear ho hn hb hT hs hl ha h1 h2 hB
    go_enter Try.func62, Try.ntmps62
    go_wp2
    go_region
    all_goals go_wp2
    all_goals go_ret
    all_goals exact ⟨rfl, below_drew HB.out⟩
  · have hl0 : lu.length ≠ 0 := by simpa using hu
    rw [List.length_map] at ho
    obtain ⟨gr, cap, cur, rfl, hbg, hgb, hnc, hcm, hcs, htake⟩ : ∃ gr cap cur, v = .slice (some ⟨gr, 0, none⟩) lu.length cap ∧ w0.heap.size ≤ gr ∧ w.heap[gr]? = some (.cells cur 5 (0, 0)) ∧ lu.length ≤ cap ∧ cap ≤ maxLen ∧ cur.size = cap * 1 ∧ cur.toList.take (lu.length * 1) = nums .u8 (lu.map fun c => (c.toNat : Int)) := by
      rcases ho.2 with ⟨_, hz⟩ | ⟨gr, cap, cur, hv, r⟩
      · exact absurd hz hl0
      · exact ⟨gr, cap, cur, hv, r⟩
    have hSD : (Builtin.unsafeSliceData_ #[58] 130 #[.slice (some ⟨gr, 0, none⟩) lu.length cap]).run Try.prog w.drew = .ok (.pointer (some ⟨gr, 0, none⟩)) w.drew :=
      Lib.run_unsafeSliceData_row _ _ _ _ _ _ (by omega)
    have hUS : (Builtin.unsafeString_ #[130, 3] 9 #[.pointer (some ⟨gr, 0, none⟩), .int .i64 lu.length]).run Try.prog w.drew = .ok (.string ⟨lu.toArray⟩) (w.drew.freeze ⟨gr, 0, none⟩ lu.length) := by
      refine Lib.run_unsafeString_row w.drew 130 3 9 5 Try.underlying130 cells_byte gr cur.size (by have hg' : w.drew.heap[gr]? = some (.cells cur 5 (0, 0)) := hgb; simp [World.shape?, hg']) lu hu (by omega) (by unfold maxLen at hcm; omega) ?_
      intro j x hx
      have := ho.cells (g := gr) rfl j (.int .u8 x.toNat) (by simp [nums, hx])
      exact this
    have HB := Aside0.mk hB
    have HG := Aside0.mk hbg
    clear ho hn hb hT hs hl ha h1 h2 hB hgb hnc hcm hcs htake hbg hl0
    go_enter Try.func62, Try.ntmps62
    go_wp2
    go_region
    all_goals go_wp2
    all_goals go_ret
    all_goals exact ⟨rfl, Lib.below_freeze (below_drew HB.out) (p := ⟨gr, 0, none⟩) HG.out _⟩
end Go.Proofs.Ytlebgjcpidpgnaa.P
