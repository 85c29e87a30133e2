/- The reference's reading of a head. -/
import Derived.Test.YtofjckfdofkikaaPx0
import Derived.Test.YtofjckfdofkikaaHRead
import Derived.Test.YtofjckfdofkikaaPx4
import Derived.StillTailTactics
import Derived.RegionTactic
import Derived.BigRegion
import Derived.Deep.QuietTactic
import Derived.BigQuiet
import Derived.Deep.RegionWith
import Derived.Deep.RegionHeld3
import Derived.Deep.DrawnRows
import Derived.Deep.DeepCutAuto
namespace Go.Proofs.Ytofjckfdofkikaa.P
open Go Go.RowKit Go.Proofs.YtofjckfdofkikaaW.PrintWords Go.Proofs.YtofjckfdofkikaaW.PrintLast Go.Proofs.YtofjckfdofkikaaW.PrintMore
set_option linter.unusedVariables false
set_option linter.unusedSimpArgs false

attribute [local go_sem ↓] Go.wp_at_zero Go.wp_at_succ

set_option maxHeartbeats 8000000 in
set_option maxRecDepth 100000 in
theorem number_still (k : Nat) (a0 : ByteArray) (r : Int) (w : World) (h : sackbutref01_Number.f k a0 = some r) :
    Calls Try.prog 57 #[.string a0] w fun e w' => e = .returned (.int .i64 r) ∧ w' = w := by
  have H : (sackbutref01_Number.l0 k a0 0 0) = some r := h
  clear h
  have H' := Aside0.mk H
  clear H
  go_enter Try.func57, Try.ntmps57
  go_wp2
  go_loopg [3, 4] k (fun kq v3 v4 w' => ∃ (x3_1 : Int) (x4_1 : Int), v3 = .int .i64 x3_1 ∧ v4 = .int .i64 x4_1 ∧ Aside0 (sackbutref01_Number.l0 kq a0 x3_1 x4_1 = some r) ∧ Aside0 (kq ≤ k) ∧ w' = w)
  case atStart => exact ⟨(0), (0), (by first | rfl | (simp; done) | (simp [*]; done)), (by first | rfl | (simp; done) | (simp [*]; done)), H', ⟨Nat.le_refl _⟩, rfl⟩
  case round =>
    clear H'
    obtain ⟨x3_1, x4_1, rfl, rfl, HA, HK1, rfl⟩ := hrel
    cases gk with
    | zero => exact absurd HA.out (by simp [sackbutref01_Number.l0])
    | succ k1 =>
      have H := HA.out
      clear HA
      simp only [sackbutref01_Number.l0] at H
      by_cases c2 : x4_1 < (a0.size : Int)
      · rw [if_pos c2] at H
        have c2b0 : decide (x4_1 < (a0.size : Int)) = true := decide_eq_true c2
        clear c2
        by_cases c3 : 0 ≤ x4_1
        · rw [if_pos c3] at H
          have c3b0 : decide (0 ≤ x4_1) = true := decide_eq_true c3
          clear c3
          by_cases c5 : (bt a0 x4_1) = 49
          · rw [if_pos c5] at H
            have c5b0 : ((bt a0 x4_1) == 49) = true := beq_iff_eq.mpr c5
            have c5b1 : ((bt a0 x4_1) != 49) = false := bne_eq_false_iff_eq.mpr c5
            clear c5
            have H' := Aside0.mk H
            clear H
            have p4 : 0 ≤ (x4_1 : Int) := of_decide_eq_true (by first | (with_reducible assumption) | assumption)
            have q4 : x4_1 < (a0.size : Int) := of_decide_eq_true (by first | (with_reducible assumption) | assumption)
            have hx4 := bt_at a0 x4_1
            replace p4 := eq_true p4
            replace q4 := eq_true q4
            go_wp2
            go_roundg k1
            case measure => have := HK1.out; omega
            case rel => exact ⟨(wrap64 ((wrap64 (x3_1 * 2)) + 1)), (wrap64 (x4_1 + 1)), (by first | rfl | (simp; done) | (simp [*]; done)), (by first | rfl | (simp; done) | (simp [*]; done)), H', ⟨by have := HK1.out; omega⟩, rfl⟩
          · rw [if_neg c5] at H
            have c5b0 : ((bt a0 x4_1) == 49) = false := beq_eq_false_iff_ne.mpr c5
            have c5b1 : ((bt a0 x4_1) != 49) = true := bne_iff_ne.mpr c5
            have H' := Aside0.mk H
            clear H
            have p4 : 0 ≤ (x4_1 : Int) := of_decide_eq_true (by first | (with_reducible assumption) | assumption)
            have q4 : x4_1 < (a0.size : Int) := of_decide_eq_true (by first | (with_reducible assumption) | assumption)
            have hx4 := bt_at a0 x4_1
            replace p4 := eq_true p4
            replace q4 := eq_true q4
            go_wp2
            go_roundg k1
            case measure => have := HK1.out; omega
            case rel => exact ⟨(wrap64 (x3_1 * 2)), (wrap64 (x4_1 + 1)), (by first | rfl | (simp; done) | (simp [*]; done)), (by first | rfl | (simp; done) | (simp [*]; done)), H', ⟨by have := HK1.out; omega⟩, rfl⟩
        · rw [if_neg c3] at H
          exact absurd H (by simp)
      · rw [if_neg c2] at H
        have c2b0 : decide (x4_1 < (a0.size : Int)) = false := decide_eq_false c2
        clear c2
        obtain rfl := Option.some.inj H
        go_wp2
        go_ret
        exact ⟨by first | rfl | (simp; done) | (simp [*]; done), rfl⟩

def magicL : List Int := [83, 75, 66, 84, 1]
/-- Does it begin as a head, as far as it goes? -/
def beginsB (l : List Int) (i : Nat) : Bool := (List.range i).all fun j => decide (l.length ≤ j) || (rd l (j : Int) == rd magicL (j : Int))
def sackbutref16_Read.f (k : Nat) (l : List Int) : Option (Int × Int × Bool × Int × Int × Int × Int × Int × Int) :=
  if beginsB l 5 = false then some (noHead 6) else if l.length < 20 then some (noHead 3) else
  (sackbutref01_Bits.f k ((l.take 20).drop 5)).bind fun s => if s.size ≠ 120 then none else
  (sackbutref01_Number.f k (s.extract 0 3)).bind fun n0 => (sackbutref01_Number.f k (s.extract 3 5)).bind fun n1 => (sackbutref01_Number.f k (s.extract 6 30)).bind fun n3 => (sackbutref01_Number.f k (s.extract 30 36)).bind fun n4 => (sackbutref01_Number.f k (s.extract 36 44)).bind fun n5 => (sackbutref01_Number.f k (s.extract 44 65)).bind fun n6 => (sackbutref01_Number.f k (s.extract 65 97)).bind fun n7 => (sackbutref01_Number.f k (s.extract 97 120)).bind fun n8 =>
  if partsOk [n0, n1, 0, n3, n4, n5, n6, n7, n8] = false then none else if n8 ≠ 0 then some (noHead 5) else
  (sackbutref16_Good.f (n0 + 1) (n1 * 8) (bt s 5 == 49) n3 (n4 * 16 + 16) n5 n6).bind fun g => if g = false then some (noHead 7) else some (n0 + 1, n1 * 8, bt s 5 == 49, n3, n4 * 16 + 16, n5, n6, n7, 0)
theorem sackbutref16_Read.mono (l : List Int) (k : Nat) : LeO (sackbutref16_Read.f k l) (sackbutref16_Read.f (k + 1) l) := by
  unfold sackbutref16_Read.f
  split
  · exact LeO.refl _
  split
  · exact LeO.refl _
  refine LeO.bind (sackbutref01_Bits.mono _ _) (fun s => ?_)
  split
  · exact LeO.refl _
  refine LeO.bind (sackbutref01_Number.mono _ _) (fun _ => LeO.bind (sackbutref01_Number.mono _ _) (fun _ => LeO.bind (sackbutref01_Number.mono _ _) (fun _ => LeO.bind (sackbutref01_Number.mono _ _) (fun _ => LeO.bind (sackbutref01_Number.mono _ _) (fun _ => LeO.bind (sackbutref01_Number.mono _ _) (fun _ => LeO.bind (sackbutref01_Number.mono _ _) (fun _ => LeO.bind (sackbutref01_Number.mono _ _) (fun _ => LeO.refl _))))))))
theorem beginsB_succ (l : List Int) (i : Nat) : beginsB l (i + 1) = (beginsB l i && (decide (l.length ≤ i) || (rd l (i : Int) == rd magicL (i : Int)))) := by
  unfold beginsB
  rw [List.range_succ, List.all_append]
  simp
theorem beginsB_mono {l : List Int} {i j : Nat} (h : beginsB l j = true) (hij : i ≤ j) : beginsB l i = true := by
  unfold beginsB at *
  rw [List.all_eq_true] at *
  intro x hx
  exact h x (List.mem_range.2 (by have := List.mem_range.1 hx; omega))

theorem puts7 {W : World} {g t : Nat} {a0 a1 a2 a3 a4 a5 a6 : Value} (v0 v1 v2 v3 v4 v5 v6 : Value) (h : W.heap[g]? = some (.cells #[a0, a1, a2, a3, a4, a5, a6] t (0, 0))) :
    (((((((W.setCell ⟨g, 0, none⟩ v0).setCell ⟨g, 1, none⟩ v1).setCell ⟨g, 2, none⟩ v2).setCell ⟨g, 3, none⟩ v3).setCell ⟨g, 4, none⟩ v4).setCell ⟨g, 5, none⟩ v5).setCell ⟨g, 6, none⟩ v6).heap[g]? = some (.cells #[v0, v1, v2, v3, v4, v5, v6] t (0, 0)) := by
  have h0 := blk_put (cs' := #[v0, a1, a2, a3, a4, a5, a6]) h 0 v0 rfl
  have h1 := blk_put (cs' := #[v0, v1, a2, a3, a4, a5, a6]) h0 1 v1 rfl
  have h2 := blk_put (cs' := #[v0, v1, v2, a3, a4, a5, a6]) h1 2 v2 rfl
  have h3 := blk_put (cs' := #[v0, v1, v2, v3, a4, a5, a6]) h2 3 v3 rfl
  have h4 := blk_put (cs' := #[v0, v1, v2, v3, v4, a5, a6]) h3 4 v4 rfl
  have h5 := blk_put (cs' := #[v0, v1, v2, v3, v4, v5, a6]) h4 5 v5 rfl
  have h6 := blk_put (cs' := #[v0, v1, v2, v3, v4, v5, v6]) h5 6 v6 rfl
  exact h6
theorem below7 {w W : World} {g : Nat} (v0 v1 v2 v3 v4 v5 v6 : Value) (h : Below w.heap.size w W) (hg : w.heap.size ≤ g) :
    Below w.heap.size w (((((((W.setCell ⟨g, 0, none⟩ v0).setCell ⟨g, 1, none⟩ v1).setCell ⟨g, 2, none⟩ v2).setCell ⟨g, 3, none⟩ v3).setCell ⟨g, 4, none⟩ v4).setCell ⟨g, 5, none⟩ v5).setCell ⟨g, 6, none⟩ v6) :=
  ((((((h.setCell (p := ⟨g, 0, none⟩) hg v0).setCell (p := ⟨g, 1, none⟩) hg v1).setCell (p := ⟨g, 2, none⟩) hg v2).setCell (p := ⟨g, 3, none⟩) hg v3).setCell (p := ⟨g, 4, none⟩) hg v4).setCell (p := ⟨g, 5, none⟩) hg v5).setCell (p := ⟨g, 6, none⟩) hg v6
theorem blk7 {w : World} {g t : Nat} {a0 a1 a2 a3 a4 a5 a6 : Value} (h : w.heap[g]? = some (.cells #[a0, a1, a2, a3, a4, a5, a6] t (0, 0))) :
    (w.frozen? ⟨g, 0, none⟩ = false ∧ w.frozen? ⟨g, 1, none⟩ = false ∧ w.frozen? ⟨g, 2, none⟩ = false ∧ w.frozen? ⟨g, 3, none⟩ = false ∧ w.frozen? ⟨g, 4, none⟩ = false ∧ w.frozen? ⟨g, 5, none⟩ = false ∧ w.frozen? ⟨g, 6, none⟩ = false) ∧
    (w.cell? ⟨g, 0, none⟩ = some a0 ∧ w.cell? ⟨g, 1, none⟩ = some a1 ∧ w.cell? ⟨g, 2, none⟩ = some a2 ∧ w.cell? ⟨g, 3, none⟩ = some a3 ∧ w.cell? ⟨g, 4, none⟩ = some a4 ∧ w.cell? ⟨g, 5, none⟩ = some a5 ∧ w.cell? ⟨g, 6, none⟩ = some a6) :=
  ⟨⟨blk_frozen h 0, blk_frozen h 1, blk_frozen h 2, blk_frozen h 3, blk_frozen h 4, blk_frozen h 5, blk_frozen h 6⟩,
    ⟨(blk_cell h 0).trans rfl, (blk_cell h 1).trans rfl, (blk_cell h 2).trans rfl, (blk_cell h 3).trans rfl, (blk_cell h 4).trans rfl, (blk_cell h 5).trans rfl, (blk_cell h 6).trans rfl⟩⟩
def sackbutref16_Read.T11 : Bool × List (List Nat × List Nat) := (true, [([], []), ([0], [0]), ([1], [1]), ([2], [2]), ([], []), ([4], [4]), ([5, 2], [5]), ([6], [6]), ([], []), ([8], [8]), ([9], [9]), ([], []), ([11], [11]), ([12, 6], [12]), ([], []), ([14], [14]), ([15, 13], [15]), ([16], [16]), ([17], [17]), ([], []), ([19], [19]), ([20, 16], [20]), ([], []), ([22], [22]), ([23, 21], [23]), ([3, 7, 10, 13, 18, 21, 24], [3, 7, 10, 13, 18, 21, 24]), ([], []), ([26, 25, 24, 0, 1, 2, 3, 4, 5, 6, 7, 8, 9, 10, 11, 12, 13, 14, 15, 16, 17, 18, 19, 20, 21, 22, 23, 24, 25, 26], [25, 26])])
def sackbutref16_Read.B11 : List Nat := [0, 1, 3, 7, 0, 16, 55, 119, 0, 256, 768, 0, 2048, 6263, 0, 16384, 63607, 129143, 260215, 0, 524288, 1702007, 0, 4194304, 16382071, 33554431, 0, 134217727]
theorem sackbutref16_Read.tab11 : rtab .any (opsOf Try.f37 11) = sackbutref16_Read.T11 := by kernel_rfl
theorem sackbutref16_Read.bits11 : waitsOk sackbutref16_Read.T11.2 sackbutref16_Read.B11 = true := by kernel_rfl
def sackbutref16_Read.T16 : Bool × List (List Nat × List Nat) := (true, [([], []), ([], []), ([1], [1]), ([2], [2]), ([3], [3]), ([0, 3, 0], [0]), ([4, 5, 0, 1, 2, 3, 4, 5], [4]), ([6, 0, 1, 2, 3, 4, 5, 6], [])])
def sackbutref16_Read.B16 : List Nat := [0, 0, 2, 6, 14, 15, 63, 127]
theorem sackbutref16_Read.tab16 : rtab .any (opsOf Try.f37 16) = sackbutref16_Read.T16 := by kernel_rfl
theorem sackbutref16_Read.bits16 : waitsOk sackbutref16_Read.T16.2 sackbutref16_Read.B16 = true := by kernel_rfl
theorem magic_cell {w : World} {g i : Nat} (h : w.heap[g]? = some (.cells #[.int .u8 83, .int .u8 75, .int .u8 66, .int .u8 84, .int .u8 1] 5 (0, 0))) (hi : i < 5) : w.cell? ⟨g, i, none⟩ = some (.int .u8 (rd magicL (i : Int))) := by
  rw [blk_cell h i]
  have h5 : i = 0 ∨ i = 1 ∨ i = 2 ∨ i = 3 ∨ i = 4 := by omega
  rcases h5 with rfl | rfl | rfl | rfl | rfl <;> rfl
abbrev confZ : Obj := .cells #[.int .i64 0, .int .i64 0, .bool false, .int .i64 0, .int .i64 0, .int .i64 0, .int .i64 0] 23
abbrev magicO : Obj := .cells #[.int .u8 83, .int .u8 75, .int .u8 66, .int .u8 84, .int .u8 1] 5 (0, 0)

set_option maxHeartbeats 8000000 in
set_option maxRecDepth 100000 in
theorem sackbutref16_Read.calls (k : Nat) (A0 : Option Addr) (c0 : Nat) (l0 : List Int) (r1 r2 : Int) (r3 : Bool) (r4 r5 r6 r7 r8 r9 : Int) (w : World) (hr0 : Kd.C (Kd.int .u8) w A0 l0.length l0) (hc0 : l0.length ≤ c0) (h : sackbutref16_Read.f k l0 = some (r1, r2, r3, r4, r5, r6, r7, r8, r9)) :
    Calls Try.prog 37 #[.slice A0 l0.length c0] w fun e w' => e = .returned (.tuple #[.agg #[.int .i64 r1, .int .i64 r2, .bool r3, .int .i64 r4, .int .i64 r5, .int .i64 r6, .int .i64 r7], .int .u32 r8, .int .i64 r9]) ∧ Below w.heap.size w w' := by
  have HR := Aside0.mk hr0
  have HF := Aside0.mk h
  have HC := Aside0.mk hc0
  have HLM := Aside0.mk (Kd.C_max hr0)
  clear hr0 h hc0
  have hu2 := Try.underlying23
  go_enter Try.func37, Try.ntmps37
  go_wp2_with fail
  have hb0 := blk_alloc (blk_new w confZ) magicO
  have hm0 := blk_new (w.alloc confZ) magicO
  have hB0 := below_alloc (below_alloc (Below.refl w.heap.size w) confZ) magicO
  rw [show (w.alloc confZ).heap.size = w.heap.size + 1 from Array.size_push _] at hm0
  generalize (w.alloc confZ).alloc magicO = w1 at hb0 hm0 hB0 ⊢
  obtain ⟨gr, hgr⟩ : ∃ gr, w.heap.size = gr := ⟨_, rfl⟩
  have HG := Aside0.mk (Nat.le_of_eq hgr)
  rw [hgr] at hb0 hm0 ⊢
  have HB0 := Aside0.mk hB0
  have HZ0 := Aside0.mk hb0
  have HM0 := Aside0.mk hm0
  clear hgr hb0 hm0 hB0
  go_loopg [6, 12] 5 (fun kk v6 v12 wr => ∃ i : Nat, v12 = .int .i64 i ∧ kk + i = 5 ∧ Aside0 (beginsB l0 i = true) ∧ Aside0 (Below w.heap.size w wr) ∧ Aside0 (wr.heap[gr]? = some confZ) ∧ Aside0 (wr.heap[gr + 1]? = some magicO))
  case atStart => exact ⟨0, rfl, rfl, ⟨rfl⟩, HB0, HZ0, HM0⟩
  case round =>
    clear HB0 HZ0 HM0
    obtain ⟨i, rfl, hk, HP, HB, HZ, HM⟩ := hrel
    by_cases hlt : i < 5
    · have hme : gk - 1 < gk := by omega
      have hlI : (i : Int) < 5 := by omega
      have hl0I : (0 : Int) ≤ (i : Int) := by omega
      have hmc := magic_cell HM.out hlt
      by_cases hg : i < l0.length
      · have hgI : (i : Int) < (l0.length : Int) := by omega
        have hgd : decide ((i : Int) < (l0.length : Int)) = true := decide_eq_true hgI
        obtain ⟨ad, rfl, hx⟩ := Kd.at_int HR.out (i : Int) hl0I hgI
        replace hx := (HB.out.cell (World.block_lt_of_cell? w _ hx)).trans hx
        have hx' := hx
        rw [Int.toNat_natCast] at hx'
        have HXX := Aside0.mk hx
        obtain ⟨bx, hbx⟩ : ∃ bx, rd l0 (i : Int) = bx := ⟨_, rfl⟩
        obtain ⟨mx, hmx⟩ : ∃ mx, rd magicL (i : Int) = mx := ⟨_, rfl⟩
        have HBX := Aside0.mk hbx
        have HMX := Aside0.mk hmx
        rw [hbx] at hx hx'
        rw [hmx] at hmc
        clear hbx hmx
        obtain ⟨⟨hk0, hk1, hk2, hk3, hk4, hk5, hk6⟩, ⟨hx0, hx1, hx2, hx3, hx4, hx5, hx6⟩⟩ := blk7 HZ.out
        by_cases heq : bx = mx
        · have hne : (bx != mx) = false := by simp [heq]
          have HP1 : Aside0 (beginsB l0 (i + 1) = true) := ⟨by rw [beginsB_succ, HP.out, HBX.out, HMX.out, heq]; simp⟩
          clear heq
          go_wp2_with fail
          go_quiet (fail)
          go_wp2
          go_roundg (gk - 1)
          case rel => exact ⟨i + 1, by first | rfl | (congr 1), by omega, HP1, ⟨pw_below_drewN HB.out _⟩, ⟨blk_drewN HZ.out _⟩, ⟨blk_drewN HM.out _⟩⟩
          case measure => exact hme
        · have hne : (bx != mx) = true := by simpa using heq
          have HP1 : Aside0 (beginsB l0 5 = false) := ⟨by
            refine Bool.eq_false_iff.2 (fun h => ?_)
            have h2 := beginsB_mono h (show i + 1 ≤ 5 by omega)
            rw [beginsB_succ, HP.out, HBX.out, HMX.out] at h2
            simp at h2
            rcases h2 with h2 | h2
            · omega
            · exact heq h2⟩
          have HF2 := HF.out
          unfold sackbutref16_Read.f at HF2
          rw [if_pos HP1.out] at HF2
          cases HF2
          go_wp2_with fail
          go_quiet (fail)
          generalize hqq : World.drewN wr _ = wq
          have HZq : wq.heap[gr]? = some confZ := by rw [← hqq]; exact blk_drewN HZ.out _
          have HBq : Below w.heap.size w wq := by rw [← hqq]; exact pw_below_drewN HB.out _
          have HZQ := Aside0.mk HZq
          have HBQ := Aside0.mk HBq
          clear hqq HZq HBq hk0 hk1 hk2 hk3 hk4 hk5 hk6 hx0 hx1 hx2 hx3 hx4 hx5 hx6
          obtain ⟨⟨hk0, hk1, hk2, hk3, hk4, hk5, hk6⟩, ⟨hx0, hx1, hx2, hx3, hx4, hx5, hx6⟩⟩ := blk7 HZQ.out
          go_wp2
          have hP := puts7 (.int .i64 0) (.int .i64 0) (.bool false) (.int .i64 0) (.int .i64 0) (.int .i64 0) (.int .i64 0) HZQ.out
          have hB := below7 (.int .i64 0) (.int .i64 0) (.bool false) (.int .i64 0) (.int .i64 0) (.int .i64 0) (.int .i64 0) HBQ.out HG.out
          refine bodyPost_ret (results_ctt rfl _ _ gr 23 #[.int .i64 0, .int .i64 0, .bool false, .int .i64 0, .int .i64 0, .int .i64 0, .int .i64 0] (0, 0) _ rfl hP hu2 rfl (by kernel_rfl)) rfl ?_
          exact ⟨rfl, hB⟩
      · have hgd : decide ((i : Int) < (l0.length : Int)) = false := decide_eq_false (by omega)
        have HP1 : Aside0 (beginsB l0 (i + 1) = true) := ⟨by rw [beginsB_succ, HP.out, decide_eq_true (show l0.length ≤ i by omega)]; simp⟩
        go_wp2_with fail
        go_quiet (fail)
        go_wp2
        go_roundg (gk - 1)
        case rel => exact ⟨i + 1, by first | rfl | (congr 1), by omega, HP1, ⟨pw_below_drewN HB.out _⟩, ⟨blk_drewN HZ.out _⟩, ⟨blk_drewN HM.out _⟩⟩
        case measure => exact hme
    · obtain rfl : i = 5 := by omega
      have h := HF.out
      unfold sackbutref16_Read.f at h
      rw [if_neg (by rw [HP.out]; simp)] at h
      by_cases hl2 : l0.length < 20
      · rw [if_pos hl2] at h
        cases h
        have hl3 : (l0.length : Int) < 20 := by omega
        obtain ⟨⟨hk0, hk1, hk2, hk3, hk4, hk5, hk6⟩, ⟨hx0, hx1, hx2, hx3, hx4, hx5, hx6⟩⟩ := blk7 HZ.out
        go_wp2
        have hP := puts7 (.int .i64 0) (.int .i64 0) (.bool false) (.int .i64 0) (.int .i64 0) (.int .i64 0) (.int .i64 0) HZ.out
        have hB := below7 (.int .i64 0) (.int .i64 0) (.bool false) (.int .i64 0) (.int .i64 0) (.int .i64 0) (.int .i64 0) HB.out HG.out
        refine bodyPost_ret (results_ctt rfl _ _ gr 23 #[.int .i64 0, .int .i64 0, .bool false, .int .i64 0, .int .i64 0, .int .i64 0, .int .i64 0] (0, 0) _ rfl hP hu2 rfl (by kernel_rfl)) rfl ?_
        exact ⟨rfl, hB⟩
      · rw [if_neg hl2] at h
        obtain ⟨s, hs, h⟩ := Option.bind_eq_some_iff.mp h
        have hs120 : s.size = 120 := by
          refine Decidable.byContradiction fun hn => ?_
          rw [if_pos hn] at h
          exact absurd h (by simp)
        rw [if_neg (by simp [hs120])] at h
        obtain ⟨n0, hn0, h⟩ := Option.bind_eq_some_iff.mp h
        obtain ⟨n1, hn1, h⟩ := Option.bind_eq_some_iff.mp h
        obtain ⟨n3, hn3, h⟩ := Option.bind_eq_some_iff.mp h
        obtain ⟨n4, hn4, h⟩ := Option.bind_eq_some_iff.mp h
        obtain ⟨n5, hn5, h⟩ := Option.bind_eq_some_iff.mp h
        obtain ⟨n6, hn6, h⟩ := Option.bind_eq_some_iff.mp h
        obtain ⟨n7, hn7, h⟩ := Option.bind_eq_some_iff.mp h
        obtain ⟨n8, hn8, h⟩ := Option.bind_eq_some_iff.mp h
        have hok : partsOk [n0, n1, 0, n3, n4, n5, n6, n7, n8] = true := by
          refine Decidable.byContradiction fun hn => ?_
          rw [if_pos (by simpa using hn)] at h
          exact absurd h (by simp)
        rw [if_neg (by simp [hok])] at h
        have HF2 := Aside0.mk h
        have HN0 := Aside0.mk hn0
        have HN1 := Aside0.mk hn1
        have HN3 := Aside0.mk hn3
        have HN4 := Aside0.mk hn4
        have HN5 := Aside0.mk hn5
        have HN6 := Aside0.mk hn6
        have HN7 := Aside0.mk hn7
        have HN8 := Aside0.mk hn8
        have HS := Aside0.mk hs
        have HS120 := Aside0.mk hs120
        simp only [partsOk, List.all_cons, List.all_nil, Bool.and_true, Bool.and_eq_true, decide_eq_true_eq] at hok
        have HOK := Aside0.mk hok
        clear h hn0 hn1 hn3 hn4 hn5 hn6 hn7 hn8 hs hs120 hok
        have hl3 : 20 ≤ (l0.length : Int) := by omega
        obtain ⟨i0, hi, hz0, hz1, hz2⟩ := info_parts wr_info
        obtain ⟨A1, hcut, hA1, hC1⟩ := print_mid_int (k := .u8) (P := Try.prog) 50 5 Try.underlying50 hi hz1 A0 c0 l0 5 20 (by omega) (by omega) (by omega) HC.out
        have HRB : Aside0 ((Kd.int .u8).C w A1 ((l0.take (20 : Int).toNat).drop (5 : Int).toNat).length ((l0.take (20 : Int).toNat).drop (5 : Int).toNat)) := Aside0.mk (Kd.C_of_reads (d := (0 : Int)) (h1 := fun _ => rfl) (hA1 w (Kd.reads_of_C (enc := Value.int .u8) (d := (0 : Int)) (h1 := fun _ => rfl) HR.out)))
        have HC1 := Aside0.mk hC1
        simp only [show (20 : Int).toNat = 20 from rfl, show (5 : Int).toNat = 5 from rfl] at hcut HRB HC1
        obtain ⟨body, hbody⟩ : ∃ body, (l0.take 20).drop 5 = body := ⟨_, rfl⟩
        rw [hbody] at hcut HRB HC1 HS
        obtain ⟨cb, hcb⟩ : ∃ cb, c0 - 5 = cb := ⟨_, rfl⟩
        rw [hcb] at hcut HC1
        clear hA1 hC1 hi hz0 hz1 hz2 hbody hcb
        go_wp2_with fail
        (with_reducible refine (sackbutref01_Bits.calls k A1 cb body s wr (Kd.C_below HRB.out HB.out) HC1.out HS.out).mono ?_)
        rintro e w2 ⟨rfl, hb2⟩
        have HB2 := Aside0.mk (below_then HB.out HB.out.size hb2)
        have HZ2 := Aside0.mk (blk_below HZ.out hb2)
        clear hb2 HB HZ HM hcut
        have hs120 := HS120.out
        have hix : ∀ W : World, (Instr.index 9 (.string s) (.int .i64 5)).run Try.prog W = .ok (.int .u8 (bt s 5)) W := fun W => by
          have hx5 := bt_at s 5
          go_simp
          exact hx5 (by omega)
        clear hk hlt hl2 hl3
        obtain ⟨-, hb0, hb1, -, hb3, hb4, hb5, hb6, hb7, hb8⟩ := HOK.out
        have he1 : IntKind.i64.wrap (n0 + 1) = n0 + 1 := by rw [IntKind.wrap_i64]; omega
        have he2 : IntKind.i64.wrap (n1 * 8) = n1 * 8 := by rw [IntKind.wrap_i64]; omega
        have he3 : IntKind.i64.wrap (n4 * 16) = n4 * 16 := by rw [IntKind.wrap_i64]; omega
        have he4 : IntKind.i64.wrap (n4 * 16 + 16) = n4 * 16 + 16 := by rw [IntKind.wrap_i64]; omega
        go_upto_region 11 with fail
        go_cut [8] from 39 to 64 (fun v8 wx => v8 = .pointer (some ⟨w2.heap.size, 0, none⟩) ∧ Aside0 (Below w.heap.size w wx) ∧ Aside0 (wx.heap[gr]? = some confZ) ∧ Aside0 (wx.heap[w2.heap.size]? = some (.cells #[.int .i64 (n0 + 1), .int .i64 (n1 * 8), .bool (bt s 5 == 49), .int .i64 n3, .int .i64 (n4 * 16 + 16), .int .i64 n5, .int .i64 n6] 23)))
        case first =>
          refine start_ (n := 28) (S := fun w' => True) (ds := []) #[false, false, false, false, false, false, false, false, false, false, false, false, false, false, false, false, false, false, false, false, false, false, false, false, false, false, false, false] (by kernel_rfl) rfl rfl trivial (fun hHeld => ?_)
          refine with_tabW sackbutref16_Read.tab11 sackbutref16_Read.bits11 (fun HT_ HW_ => ?_)
          obtain ⟨wd, hwd⟩ : ∃ wd, w2.drew = wd := ⟨_, rfl⟩
          rw [hwd]
          have HBD : Aside0 (Below w.heap.size w wd) := ⟨by rw [← hwd]; exact below_drew HB2.out⟩
          have HZD : Aside0 (wd.heap[gr]? = some confZ) := ⟨by rw [← hwd]; exact blk_drew HZ2.out⟩
          have HSD : Aside0 (wd.heap.size = w2.heap.size) := ⟨by rw [← hwd]; rfl⟩
          clear hwd hHeld
          refine pure_ (i := 0) (N := some 39) (v := ?_) (a' := ?_) #[true, false, false, false, false, false, false, false, false, false, false, false, false, false, false, false, false, false, false, false, false, false, false, false, false, false, false, false] rfl rfl (any_of HT_.out (by kernel_rfl)) (fun _ _ _ h => h) (Or.inl ⟨by rfl, ?_⟩) ?_ ?_
          rotate_left
          · intro w'
            go_simp
            with_reducible rfl
          rotate_left
          · simp only [Act.put, List.setIfInBounds_toArray, List.set_cons_zero, List.set_cons_succ, i64_w, i32_w]
            rfl
          refine pure_ (i := 1) (N := some 40) (v := ?_) (a' := ?_) #[true, true, false, false, false, false, false, false, false, false, false, false, false, false, false, false, false, false, false, false, false, false, false, false, false, false, false, false] rfl rfl (any_of HT_.out (by kernel_rfl)) (fun _ _ _ h => h) (Or.inl ⟨by rfl, ?_⟩) ?_ ?_
          rotate_left
          · intro w'
            go_simp
            with_reducible rfl
          rotate_left
          · simp only [Act.put, List.setIfInBounds_toArray, List.set_cons_zero, List.set_cons_succ, i64_w, i32_w]
            rfl
          refine pure_ (i := 4) (N := some 43) (v := ?_) (a' := ?_) #[true, true, false, false, true, false, false, false, false, false, false, false, false, false, false, false, false, false, false, false, false, false, false, false, false, false, false, false] rfl rfl (any_of HT_.out (by kernel_rfl)) (fun _ _ _ h => h) (Or.inl ⟨by rfl, ?_⟩) ?_ ?_
          rotate_left
          · intro w'
            go_simp
            with_reducible rfl
          rotate_left
          · simp only [Act.put, List.setIfInBounds_toArray, List.set_cons_zero, List.set_cons_succ, i64_w, i32_w]
            rfl
          refine pure_ (i := 5) (N := some 44) (v := ?_) (a' := ?_) #[true, true, false, false, true, true, false, false, false, false, false, false, false, false, false, false, false, false, false, false, false, false, false, false, false, false, false, false] rfl rfl (any_of HT_.out (by kernel_rfl)) (fun _ _ _ h => h) (Or.inl ⟨by rfl, ?_⟩) ?_ ?_
          rotate_left
          · intro w'
            go_simp
            with_reducible rfl
          rotate_left
          · simp only [Act.put, List.setIfInBounds_toArray, List.set_cons_zero, List.set_cons_succ, i64_w, i32_w]
            rfl
          refine pure_ (i := 8) (N := some 47) (v := ?_) (a' := ?_) #[true, true, false, false, true, true, false, false, true, false, false, false, false, false, false, false, false, false, false, false, false, false, false, false, false, false, false, false] rfl rfl (any_of HT_.out (by kernel_rfl)) (fun _ _ _ h => h) (Or.inl ⟨by rfl, ?_⟩) ?_ ?_
          rotate_left
          · intro w'
            go_simp
            with_reducible rfl
          rotate_left
          · simp only [Act.put, List.setIfInBounds_toArray, List.set_cons_zero, List.set_cons_succ, i64_w, i32_w]
            rfl
          refine pure_ (i := 9) (N := some 48) (v := ?_) (a' := ?_) #[true, true, false, false, true, true, false, false, true, true, false, false, false, false, false, false, false, false, false, false, false, false, false, false, false, false, false, false] rfl rfl (any_of HT_.out (by kernel_rfl)) (fun _ _ _ h => h) (Or.inl ⟨by rfl, ?_⟩) ?_ ?_
          rotate_left
          · intro w'
            go_simp
            with_reducible rfl
          rotate_left
          · simp only [Act.put, List.setIfInBounds_toArray, List.set_cons_zero, List.set_cons_succ, i64_w, i32_w]
            rfl
          refine pure_ (i := 10) (N := some 49) (v := ?_) (a' := ?_) #[true, true, false, false, true, true, false, false, true, true, true, false, false, false, false, false, false, false, false, false, false, false, false, false, false, false, false, false] rfl rfl (any_of HT_.out (by kernel_rfl)) (fun _ _ _ h => h) (Or.inl ⟨by rfl, ?_⟩) ?_ ?_
          rotate_left
          · intro w'
            go_simp
            with_reducible rfl
          rotate_left
          · simp only [Act.put, List.setIfInBounds_toArray, List.set_cons_zero, List.set_cons_succ, i64_w, i32_w]
            rfl
          refine pure_ (i := 11) (N := some 50) (v := ?_) (a' := ?_) #[true, true, false, false, true, true, false, false, true, true, true, true, false, false, false, false, false, false, false, false, false, false, false, false, false, false, false, false] rfl rfl (any_of HT_.out (by kernel_rfl)) (fun _ _ _ h => h) (Or.inl ⟨by rfl, ?_⟩) ?_ ?_
          rotate_left
          · intro w'
            go_simp
            with_reducible rfl
          rotate_left
          · simp only [Act.put, List.setIfInBounds_toArray, List.set_cons_zero, List.set_cons_succ, i64_w, i32_w]
            rfl
          refine pure_ (i := 12) (N := some 51) (v := ?_) (a' := ?_) #[true, true, false, false, true, true, false, false, true, true, true, true, true, false, false, false, false, false, false, false, false, false, false, false, false, false, false, false] rfl rfl (any_of HT_.out (by kernel_rfl)) (fun _ _ _ h => h) (Or.inl ⟨by rfl, ?_⟩) ?_ ?_
          rotate_left
          · intro w'
            go_simp
            with_reducible rfl
          rotate_left
          · simp only [Act.put, List.setIfInBounds_toArray, List.set_cons_zero, List.set_cons_succ, i64_w, i32_w]
            rfl
          refine pure_ (i := 14) (N := some 53) (v := ?_) (a' := ?_) #[true, true, false, false, true, true, false, false, true, true, true, true, true, false, true, false, false, false, false, false, false, false, false, false, false, false, false, false] rfl rfl (any_of HT_.out (by kernel_rfl)) (fun _ _ _ h => h) (Or.inl ⟨by rfl, ?_⟩) ?_ ?_
          rotate_left
          · intro w'
            go_simp
            with_reducible rfl
          rotate_left
          · simp only [Act.put, List.setIfInBounds_toArray, List.set_cons_zero, List.set_cons_succ, i64_w, i32_w]
            rfl
          refine pure_ (i := 15) (N := some 54) (v := ?_) (a' := ?_) #[true, true, false, false, true, true, false, false, true, true, true, true, true, false, true, true, false, false, false, false, false, false, false, false, false, false, false, false] rfl rfl (any_of HT_.out (by kernel_rfl)) (fun _ _ _ h => h) (Or.inl ⟨by rfl, ?_⟩) ?_ ?_
          rotate_left
          · intro w'
            go_simp
            with_reducible rfl
          rotate_left
          · simp only [Act.put, List.setIfInBounds_toArray, List.set_cons_zero, List.set_cons_succ, i64_w, i32_w]
            rfl
          refine pure_ (i := 19) (N := some 58) (v := ?_) (a' := ?_) #[true, true, false, false, true, true, false, false, true, true, true, true, true, false, true, true, false, false, false, true, false, false, false, false, false, false, false, false] rfl rfl (any_of HT_.out (by kernel_rfl)) (fun _ _ _ h => h) (Or.inl ⟨by rfl, ?_⟩) ?_ ?_
          rotate_left
          · intro w'
            go_simp
            with_reducible rfl
          rotate_left
          · simp only [Act.put, List.setIfInBounds_toArray, List.set_cons_zero, List.set_cons_succ, i64_w, i32_w]
            rfl
          refine pure_ (i := 20) (N := some 59) (v := ?_) (a' := ?_) #[true, true, false, false, true, true, false, false, true, true, true, true, true, false, true, true, false, false, false, true, true, false, false, false, false, false, false, false] rfl rfl (any_of HT_.out (by kernel_rfl)) (fun _ _ _ h => h) (Or.inl ⟨by rfl, ?_⟩) ?_ ?_
          rotate_left
          · intro w'
            go_simp
            with_reducible rfl
          rotate_left
          · simp only [Act.put, List.setIfInBounds_toArray, List.set_cons_zero, List.set_cons_succ, i64_w, i32_w]
            rfl
          refine pure_ (i := 22) (N := some 61) (v := ?_) (a' := ?_) #[true, true, false, false, true, true, false, false, true, true, true, true, true, false, true, true, false, false, false, true, true, false, true, false, false, false, false, false] rfl rfl (any_of HT_.out (by kernel_rfl)) (fun _ _ _ h => h) (Or.inl ⟨by rfl, ?_⟩) ?_ ?_
          rotate_left
          · intro w'
            go_simp
            with_reducible rfl
          rotate_left
          · simp only [Act.put, List.setIfInBounds_toArray, List.set_cons_zero, List.set_cons_succ, i64_w, i32_w]
            rfl
          refine pure_ (i := 23) (N := some 62) (v := ?_) (a' := ?_) #[true, true, false, false, true, true, false, false, true, true, true, true, true, false, true, true, false, false, false, true, true, false, true, true, false, false, false, false] rfl rfl (any_of HT_.out (by kernel_rfl)) (fun _ _ _ h => h) (Or.inl ⟨by rfl, ?_⟩) ?_ ?_
          rotate_left
          · intro w'
            go_simp
            with_reducible rfl
          rotate_left
          · simp only [Act.put, List.setIfInBounds_toArray, List.set_cons_zero, List.set_cons_succ, i64_w, i32_w]
            rfl
          refine inv_at [2, 3, 6, 7, 13, 16, 17, 18, 21, 24, 25, 26, 27] (fun a0_ b a w' => a = putSel a0_ b [(2, 41, .int .i64 (n0)), (3, 42, .int .i64 (n0 + 1)), (6, 45, .int .i64 (n1)), (7, 46, .int .i64 (n1 * 8)), (13, 52, .int .i64 (n3)), (16, 55, .int .i64 (n4)), (17, 56, .int .i64 (n4 * 16)), (18, 57, .int .i64 (n4 * 16 + 16)), (21, 60, .int .i64 (n5)), (24, 63, .int .i64 (n6)), (25, 64, .agg #[.int .i64 (n0 + 1), .int .i64 (n1 * 8), .bool (bt s 5 == 49), .int .i64 n3, .int .i64 (n4 * 16 + 16), .int .i64 n5, .int .i64 n6]), (26, 8, .pointer (some ⟨wd.heap.size, 0, none⟩))] ∧ (b 26 = false → wd = w') ∧ (b 26 = true → b 27 = false → wd.alloc (.cells #[.int .i64 0, .int .i64 0, .bool false, .int .i64 0, .int .i64 0, .int .i64 0, .int .i64 0] 23) = w') ∧ (b 27 = true → wd.alloc (.cells #[.int .i64 (n0 + 1), .int .i64 (n1 * 8), .bool (bt s 5 == 49), .int .i64 n3, .int .i64 (n4 * 16 + 16), .int .i64 n5, .int .i64 n6] 23) = w')) HT_.out HW_.out (by kernel_rfl) (by kernel_rfl) ?_ ?_ ?_
          · exact ⟨by simp only [putSel, Bool.false_eq_true, if_false], fun _ => rfl, fun h_ => absurd h_ (by decide), fun h_ => absurd h_ (by decide)⟩
          · skip
            refine steps_cons ?_ ?_
            · rintro b a w' ⟨ha, Q_WA, Q_WB, Q_WC⟩ hb_ hon hoff
              refine ⟨_, rfl, fun K hK => ?_⟩
              have e40 : a.tmps[40]? = some (.string (s.extract 0 3)) := by rw [ha]; exact (putSel_off rfl).trans rfl
              replace ha := Aside0.mk ha
              refine goes_ Try.func57 (by kernel_rfl) rfl #[.string (s.extract 0 3)] (by rfl) rfl rfl (by first | (simp only [List.map_toArray, List.map_cons, List.map_nil, Act.eval, Array.getD_eq_getD_getElem?, Option.getD_some, e40]; done) | (simp only [List.map_toArray, List.map_cons, List.map_nil, Act.eval, Array.getD_eq_getD_getElem?, Option.getD_some, e40]; rfl)) ?_
              (with_reducible refine (number_still k (s.extract 0 3) n0 _ HN0.out).mono ?_)
              rintro e w1_ ⟨rfl, rfl⟩
              refine ⟨_, rfl, ?_⟩
              refine hK.out _ _ ⟨(by rw [ha.out]; exact putSel_upk 0 hb_ rfl rfl rfl), Q_WA, Q_WB, fun h0_ => absurd ((hoff 27 (by kernel_rfl)).symm.trans h0_) (by decide)⟩
            refine steps_cons ?_ ?_
            · rintro b a w' ⟨ha, Q_WA, Q_WB, Q_WC⟩ hb_ hon hoff
              refine ⟨_, rfl, fun K hK => ?_⟩
              have e41 : a.tmps[41]? = some (.int .i64 (n0)) := by rw [ha]; exact putSel_on (e := (2, 41, .int .i64 (n0))) 0 rfl rfl (hon 2 (by kernel_rfl)) rfl
              replace ha := Aside0.mk ha
              refine value_ (w1 := w') (v := .int .i64 (n0 + 1)) (by rfl) rfl ?_ ?_
              · go_simp
                (try simp only [i64_w])
                try rfl
              refine hK.out _ _ ⟨(by rw [ha.out]; exact putSel_upk 1 hb_ rfl rfl rfl), Q_WA, Q_WB, fun h0_ => absurd ((hoff 27 (by kernel_rfl)).symm.trans h0_) (by decide)⟩
            refine steps_cons ?_ ?_
            · rintro b a w' ⟨ha, Q_WA, Q_WB, Q_WC⟩ hb_ hon hoff
              refine ⟨_, rfl, fun K hK => ?_⟩
              have e44 : a.tmps[44]? = some (.string (s.extract 3 5)) := by rw [ha]; exact (putSel_off rfl).trans rfl
              replace ha := Aside0.mk ha
              refine goes_ Try.func57 (by kernel_rfl) rfl #[.string (s.extract 3 5)] (by rfl) rfl rfl (by first | (simp only [List.map_toArray, List.map_cons, List.map_nil, Act.eval, Array.getD_eq_getD_getElem?, Option.getD_some, e44]; done) | (simp only [List.map_toArray, List.map_cons, List.map_nil, Act.eval, Array.getD_eq_getD_getElem?, Option.getD_some, e44]; rfl)) ?_
              (with_reducible refine (number_still k (s.extract 3 5) n1 _ HN1.out).mono ?_)
              rintro e w1_ ⟨rfl, rfl⟩
              refine ⟨_, rfl, ?_⟩
              refine hK.out _ _ ⟨(by rw [ha.out]; exact putSel_upk 2 hb_ rfl rfl rfl), Q_WA, Q_WB, fun h0_ => absurd ((hoff 27 (by kernel_rfl)).symm.trans h0_) (by decide)⟩
            refine steps_cons ?_ ?_
            · rintro b a w' ⟨ha, Q_WA, Q_WB, Q_WC⟩ hb_ hon hoff
              refine ⟨_, rfl, fun K hK => ?_⟩
              have e45 : a.tmps[45]? = some (.int .i64 (n1)) := by rw [ha]; exact putSel_on (e := (6, 45, .int .i64 (n1))) 2 rfl rfl (hon 6 (by kernel_rfl)) rfl
              replace ha := Aside0.mk ha
              refine value_ (w1 := w') (v := .int .i64 (n1 * 8)) (by rfl) rfl ?_ ?_
              · go_simp
                (try simp only [i64_w])
                try rfl
              refine hK.out _ _ ⟨(by rw [ha.out]; exact putSel_upk 3 hb_ rfl rfl rfl), Q_WA, Q_WB, fun h0_ => absurd ((hoff 27 (by kernel_rfl)).symm.trans h0_) (by decide)⟩
            refine steps_cons ?_ ?_
            · rintro b a w' ⟨ha, Q_WA, Q_WB, Q_WC⟩ hb_ hon hoff
              refine ⟨_, rfl, fun K hK => ?_⟩
              have e51 : a.tmps[51]? = some (.string (s.extract 6 30)) := by rw [ha]; exact (putSel_off rfl).trans rfl
              replace ha := Aside0.mk ha
              refine goes_ Try.func57 (by kernel_rfl) rfl #[.string (s.extract 6 30)] (by rfl) rfl rfl (by first | (simp only [List.map_toArray, List.map_cons, List.map_nil, Act.eval, Array.getD_eq_getD_getElem?, Option.getD_some, e51]; done) | (simp only [List.map_toArray, List.map_cons, List.map_nil, Act.eval, Array.getD_eq_getD_getElem?, Option.getD_some, e51]; rfl)) ?_
              (with_reducible refine (number_still k (s.extract 6 30) n3 _ HN3.out).mono ?_)
              rintro e w1_ ⟨rfl, rfl⟩
              refine ⟨_, rfl, ?_⟩
              refine hK.out _ _ ⟨(by rw [ha.out]; exact putSel_upk 4 hb_ rfl rfl rfl), Q_WA, Q_WB, fun h0_ => absurd ((hoff 27 (by kernel_rfl)).symm.trans h0_) (by decide)⟩
            refine steps_cons ?_ ?_
            · rintro b a w' ⟨ha, Q_WA, Q_WB, Q_WC⟩ hb_ hon hoff
              refine ⟨_, rfl, fun K hK => ?_⟩
              have e54 : a.tmps[54]? = some (.string (s.extract 30 36)) := by rw [ha]; exact (putSel_off rfl).trans rfl
              replace ha := Aside0.mk ha
              refine goes_ Try.func57 (by kernel_rfl) rfl #[.string (s.extract 30 36)] (by rfl) rfl rfl (by first | (simp only [List.map_toArray, List.map_cons, List.map_nil, Act.eval, Array.getD_eq_getD_getElem?, Option.getD_some, e54]; done) | (simp only [List.map_toArray, List.map_cons, List.map_nil, Act.eval, Array.getD_eq_getD_getElem?, Option.getD_some, e54]; rfl)) ?_
              (with_reducible refine (number_still k (s.extract 30 36) n4 _ HN4.out).mono ?_)
              rintro e w1_ ⟨rfl, rfl⟩
              refine ⟨_, rfl, ?_⟩
              refine hK.out _ _ ⟨(by rw [ha.out]; exact putSel_upk 5 hb_ rfl rfl rfl), Q_WA, Q_WB, fun h0_ => absurd ((hoff 27 (by kernel_rfl)).symm.trans h0_) (by decide)⟩
            refine steps_cons ?_ ?_
            · rintro b a w' ⟨ha, Q_WA, Q_WB, Q_WC⟩ hb_ hon hoff
              refine ⟨_, rfl, fun K hK => ?_⟩
              have e55 : a.tmps[55]? = some (.int .i64 (n4)) := by rw [ha]; exact putSel_on (e := (16, 55, .int .i64 (n4))) 5 rfl rfl (hon 16 (by kernel_rfl)) rfl
              replace ha := Aside0.mk ha
              refine value_ (w1 := w') (v := .int .i64 (n4 * 16)) (by rfl) rfl ?_ ?_
              · go_simp
                (try simp only [i64_w])
                try rfl
              refine hK.out _ _ ⟨(by rw [ha.out]; exact putSel_upk 6 hb_ rfl rfl rfl), Q_WA, Q_WB, fun h0_ => absurd ((hoff 27 (by kernel_rfl)).symm.trans h0_) (by decide)⟩
            refine steps_cons ?_ ?_
            · rintro b a w' ⟨ha, Q_WA, Q_WB, Q_WC⟩ hb_ hon hoff
              refine ⟨_, rfl, fun K hK => ?_⟩
              have e56 : a.tmps[56]? = some (.int .i64 (n4 * 16)) := by rw [ha]; exact putSel_on (e := (17, 56, .int .i64 (n4 * 16))) 6 rfl rfl (hon 17 (by kernel_rfl)) rfl
              replace ha := Aside0.mk ha
              refine value_ (w1 := w') (v := .int .i64 (n4 * 16 + 16)) (by rfl) rfl ?_ ?_
              · go_simp
                (try simp only [i64_w])
                try rfl
              refine hK.out _ _ ⟨(by rw [ha.out]; exact putSel_upk 7 hb_ rfl rfl rfl), Q_WA, Q_WB, fun h0_ => absurd ((hoff 27 (by kernel_rfl)).symm.trans h0_) (by decide)⟩
            refine steps_cons ?_ ?_
            · rintro b a w' ⟨ha, Q_WA, Q_WB, Q_WC⟩ hb_ hon hoff
              refine ⟨_, rfl, fun K hK => ?_⟩
              have e59 : a.tmps[59]? = some (.string (s.extract 36 44)) := by rw [ha]; exact (putSel_off rfl).trans rfl
              replace ha := Aside0.mk ha
              refine goes_ Try.func57 (by kernel_rfl) rfl #[.string (s.extract 36 44)] (by rfl) rfl rfl (by first | (simp only [List.map_toArray, List.map_cons, List.map_nil, Act.eval, Array.getD_eq_getD_getElem?, Option.getD_some, e59]; done) | (simp only [List.map_toArray, List.map_cons, List.map_nil, Act.eval, Array.getD_eq_getD_getElem?, Option.getD_some, e59]; rfl)) ?_
              (with_reducible refine (number_still k (s.extract 36 44) n5 _ HN5.out).mono ?_)
              rintro e w1_ ⟨rfl, rfl⟩
              refine ⟨_, rfl, ?_⟩
              refine hK.out _ _ ⟨(by rw [ha.out]; exact putSel_upk 8 hb_ rfl rfl rfl), Q_WA, Q_WB, fun h0_ => absurd ((hoff 27 (by kernel_rfl)).symm.trans h0_) (by decide)⟩
            refine steps_cons ?_ ?_
            · rintro b a w' ⟨ha, Q_WA, Q_WB, Q_WC⟩ hb_ hon hoff
              refine ⟨_, rfl, fun K hK => ?_⟩
              have e62 : a.tmps[62]? = some (.string (s.extract 44 65)) := by rw [ha]; exact (putSel_off rfl).trans rfl
              replace ha := Aside0.mk ha
              refine goes_ Try.func57 (by kernel_rfl) rfl #[.string (s.extract 44 65)] (by rfl) rfl rfl (by first | (simp only [List.map_toArray, List.map_cons, List.map_nil, Act.eval, Array.getD_eq_getD_getElem?, Option.getD_some, e62]; done) | (simp only [List.map_toArray, List.map_cons, List.map_nil, Act.eval, Array.getD_eq_getD_getElem?, Option.getD_some, e62]; rfl)) ?_
              (with_reducible refine (number_still k (s.extract 44 65) n6 _ HN6.out).mono ?_)
              rintro e w1_ ⟨rfl, rfl⟩
              refine ⟨_, rfl, ?_⟩
              refine hK.out _ _ ⟨(by rw [ha.out]; exact putSel_upk 9 hb_ rfl rfl rfl), Q_WA, Q_WB, fun h0_ => absurd ((hoff 27 (by kernel_rfl)).symm.trans h0_) (by decide)⟩
            refine steps_cons ?_ ?_
            · rintro b a w' ⟨ha, Q_WA, Q_WB, Q_WC⟩ hb_ hon hoff
              refine ⟨_, rfl, fun K hK => ?_⟩
              have e42 : a.tmps[42]? = some (.int .i64 (n0 + 1)) := by rw [ha]; exact putSel_on (e := (3, 42, .int .i64 (n0 + 1))) 1 rfl rfl (hon 3 (by kernel_rfl)) rfl
              have e46 : a.tmps[46]? = some (.int .i64 (n1 * 8)) := by rw [ha]; exact putSel_on (e := (7, 46, .int .i64 (n1 * 8))) 3 rfl rfl (hon 7 (by kernel_rfl)) rfl
              have e49 : a.tmps[49]? = some (.bool (bt s 5 == 49)) := by rw [ha]; exact (putSel_off rfl).trans rfl
              have e52 : a.tmps[52]? = some (.int .i64 (n3)) := by rw [ha]; exact putSel_on (e := (13, 52, .int .i64 (n3))) 4 rfl rfl (hon 13 (by kernel_rfl)) rfl
              have e57 : a.tmps[57]? = some (.int .i64 (n4 * 16 + 16)) := by rw [ha]; exact putSel_on (e := (18, 57, .int .i64 (n4 * 16 + 16))) 7 rfl rfl (hon 18 (by kernel_rfl)) rfl
              have e60 : a.tmps[60]? = some (.int .i64 (n5)) := by rw [ha]; exact putSel_on (e := (21, 60, .int .i64 (n5))) 8 rfl rfl (hon 21 (by kernel_rfl)) rfl
              have e63 : a.tmps[63]? = some (.int .i64 (n6)) := by rw [ha]; exact putSel_on (e := (24, 63, .int .i64 (n6))) 9 rfl rfl (hon 24 (by kernel_rfl)) rfl
              replace ha := Aside0.mk ha
              refine value_ (w1 := w') (v := .agg #[.int .i64 (n0 + 1), .int .i64 (n1 * 8), .bool (bt s 5 == 49), .int .i64 n3, .int .i64 (n4 * 16 + 16), .int .i64 n5, .int .i64 n6]) (by rfl) rfl ?_ ?_
              · go_simp
                (try simp only [i64_w])
                try rfl
              refine hK.out _ _ ⟨(by rw [ha.out]; exact putSel_upk 10 hb_ rfl rfl rfl), Q_WA, Q_WB, fun h0_ => absurd ((hoff 27 (by kernel_rfl)).symm.trans h0_) (by decide)⟩
            refine steps_cons ?_ ?_
            · rintro b a w' ⟨ha, Q_WA, Q_WB, Q_WC⟩ hb_ hon hoff
              refine ⟨_, rfl, fun K hK => ?_⟩
              replace ha := Aside0.mk ha
              have WA := Aside0.mk (Q_WA hb_)
              have hw_ := WA.out
              subst hw_
              refine value_ (w1 := wd.alloc (.cells #[.int .i64 0, .int .i64 0, .bool false, .int .i64 0, .int .i64 0, .int .i64 0, .int .i64 0] 23)) (v := .pointer (some ⟨wd.heap.size, 0, none⟩)) (by rfl) rfl ?_ ?_
              · go_simp
                try rfl
              refine hK.out _ _ ⟨(by rw [ha.out]; exact putSel_upk 11 hb_ rfl rfl rfl), fun h0_ => absurd ((up_self b 26).symm.trans h0_) (by decide), fun _ _ => rfl, fun h0_ => absurd ((hoff 27 (by kernel_rfl)).symm.trans h0_) (by decide)⟩
            refine steps_cons ?_ ?_
            · rintro b a w' ⟨ha, Q_WA, Q_WB, Q_WC⟩ hb_ hon hoff
              refine ⟨_, rfl, fun K hK => ?_⟩
              have e8 : a.tmps[8]? = some (.pointer (some ⟨wd.heap.size, 0, none⟩)) := by rw [ha]; exact putSel_on (e := (26, 8, .pointer (some ⟨wd.heap.size, 0, none⟩))) 11 rfl rfl (hon 26 (by kernel_rfl)) rfl
              have e64 : a.tmps[64]? = some (.agg #[.int .i64 (n0 + 1), .int .i64 (n1 * 8), .bool (bt s 5 == 49), .int .i64 n3, .int .i64 (n4 * 16 + 16), .int .i64 n5, .int .i64 n6]) := by rw [ha]; exact putSel_on (e := (25, 64, .agg #[.int .i64 (n0 + 1), .int .i64 (n1 * 8), .bool (bt s 5 == 49), .int .i64 n3, .int .i64 (n4 * 16 + 16), .int .i64 n5, .int .i64 n6])) 10 rfl rfl (hon 25 (by kernel_rfl)) rfl
              replace ha := Aside0.mk ha
              have WB := Aside0.mk (Q_WB (hon 26 (by kernel_rfl)) hb_)
              have hw_ := WB.out
              subst hw_
              refine skip_ (w1 := wd.alloc (.cells #[.int .i64 (n0 + 1), .int .i64 (n1 * 8), .bool (bt s 5 == 49), .int .i64 n3, .int .i64 (n4 * 16 + 16), .int .i64 n5, .int .i64 n6] 23)) (by rfl) rfl ?_ ?_
              · go_simp
                try rfl
              refine hK.out _ _ ⟨(by rw [ha.out]; exact putSel_none (v := undef) rfl), fun h0_ => absurd ((hon 26 (by kernel_rfl)).symm.trans h0_) (by decide), fun _ h1_ => absurd ((up_self b 27).symm.trans h1_) (by decide), fun _ => rfl⟩
            exact steps_nil
          · rintro b a w' hall ⟨ha, Q_WA, Q_WB, Q_WC⟩
            have hb2_ := hall 2 (by kernel_rfl)
            have hb3_ := hall 3 (by kernel_rfl)
            have hb6_ := hall 6 (by kernel_rfl)
            have hb7_ := hall 7 (by kernel_rfl)
            have hb13_ := hall 13 (by kernel_rfl)
            have hb16_ := hall 16 (by kernel_rfl)
            have hb17_ := hall 17 (by kernel_rfl)
            have hb18_ := hall 18 (by kernel_rfl)
            have hb21_ := hall 21 (by kernel_rfl)
            have hb24_ := hall 24 (by kernel_rfl)
            have hb25_ := hall 25 (by kernel_rfl)
            have hb26_ := hall 26 (by kernel_rfl)
            have hb27_ := hall 27 (by kernel_rfl)
            subst ha
            simp only [putSel, hb2_, hb3_, hb6_, hb7_, hb13_, hb16_, hb17_, hb18_, hb21_, hb24_, hb25_, hb26_, hb27_, if_true, Act.put, List.setIfInBounds_toArray, List.set_cons_zero, List.set_cons_succ]
            clear Q_WA
            clear Q_WB
            have WC := Aside0.mk (Q_WC hb27_)
            clear Q_WC
            clear hall hb2_ hb3_ hb6_ hb7_ hb13_ hb16_ hb17_ hb18_ hb21_ hb24_ hb25_ hb26_ hb27_
            have hwe := WC.out
            subst hwe
            go_wp2_with fail
            go_meet
            case rel =>
              rw [HSD.out]
              exact ⟨rfl, ⟨below_alloc HBD.out _⟩, ⟨blk_alloc HZD.out _⟩, ⟨by rw [← HSD.out]; exact blk_new _ _⟩⟩
        case rest =>
          obtain ⟨rfl, HB3, HZ3, HC3⟩ := hcut
          obtain ⟨gc, hgc⟩ : ∃ gc, w2.heap.size = gc := ⟨_, rfl⟩
          rw [hgc] at HC3 ⊢
          clear hgc HB2 HZ2 hix he1 he2 he3 he4
          go_wp2_with fail
          (with_reducible refine (number_still k (s.extract 97 120) n8 _ HN8.out).mono ?_)
          rintro e w3 ⟨rfl, rfl⟩
          have h := HF2.out
          by_cases h8 : n8 = 0
          · rw [if_neg (by simp [h8])] at h
            subst h8
            obtain ⟨gd, hgd, h⟩ := Option.bind_eq_some_iff.mp h
            have HGD := Aside0.mk hgd
            have HH := Aside0.mk h
            clear h hgd
            obtain ⟨-, ⟨hy0, hy1, hy2, hy3, hy4, hy5, hy6⟩⟩ := blk7 HC3.out
            go_wp2_with fail
            (with_reducible refine (sackbutref16_Good.calls _ _ _ _ _ _ _ gd _ HGD.out).mono ?_)
            rintro e w4 ⟨rfl, hb4⟩
            have HB4 := Aside0.mk (below_then HB3.out HB3.out.size hb4)
            have HZ4 := Aside0.mk (blk_below HZ3.out hb4)
            have HC4 := Aside0.mk (blk_below HC3.out hb4)
            clear hb4 hy0 hy1 hy2 hy3 hy4 hy5 hy6 HB3 HZ3 HC3
            cases gd with
            | false =>
              have h := HH.out
              rw [if_pos rfl] at h
              cases h
              obtain ⟨⟨hk0, hk1, hk2, hk3, hk4, hk5, hk6⟩, ⟨hx0, hx1, hx2, hx3, hx4, hx5, hx6⟩⟩ := blk7 HZ4.out
              go_wp2
              have hP := puts7 (.int .i64 0) (.int .i64 0) (.bool false) (.int .i64 0) (.int .i64 0) (.int .i64 0) (.int .i64 0) HZ4.out
              have hB := below7 (.int .i64 0) (.int .i64 0) (.bool false) (.int .i64 0) (.int .i64 0) (.int .i64 0) (.int .i64 0) HB4.out HG.out
              refine bodyPost_ret (results_ctt rfl _ _ gr 23 #[.int .i64 0, .int .i64 0, .bool false, .int .i64 0, .int .i64 0, .int .i64 0, .int .i64 0] (0, 0) _ rfl hP hu2 rfl (by kernel_rfl)) rfl ?_
              exact ⟨rfl, hB⟩
            | true =>
              have h := HH.out
              rw [if_neg (by simp)] at h
              have HH2 := Aside0.mk h
              clear h
              have hcv : IntKind.u32.wrap n7 = n7 := by rw [IntKind.wrap_u32]; omega
              go_wp2_with fail
              refine start_ (n := 8) (S := fun w' => True) (ds := []) #[false, false, false, false, false, false, false, false] (by kernel_rfl) rfl rfl trivial (fun hHeld => ?_)
              refine with_tabW sackbutref16_Read.tab16 sackbutref16_Read.bits16 (fun HT_ HW_ => ?_)
              obtain ⟨wd, hwd⟩ : ∃ wd, w4.drew = wd := ⟨_, rfl⟩
              rw [hwd]
              have HBD : Aside0 (Below w.heap.size w wd) := ⟨by rw [← hwd]; exact below_drew HB4.out⟩
              have HZD : Aside0 (wd.heap[gr]? = some confZ) := ⟨by rw [← hwd]; exact blk_drew HZ4.out⟩
              have HCD : Aside0 (wd.heap[gc]? = some (.cells #[.int .i64 (n0 + 1), .int .i64 (n1 * 8), .bool (bt s 5 == 49), .int .i64 n3, .int .i64 (n4 * 16 + 16), .int .i64 n5, .int .i64 n6] 23)) := ⟨by rw [← hwd]; exact blk_drew HC4.out⟩
              clear hwd hHeld
              refine inv_at [0, 1, 2, 3, 4, 5, 6, 7] (fun a0_ b a w' => a = putSel a0_ b [(0, 74, .agg #[.int .i64 (n0 + 1), .int .i64 (n1 * 8), .bool (bt s 5 == 49), .int .i64 n3, .int .i64 (n4 * 16 + 16), .int .i64 n5, .int .i64 n6]), (1, 75, .string s), (2, 76, .string (s.extract 65 97)), (3, 77, .int .i64 (n7)), (4, 78, .int .u32 (n7)), (6, 3, .int .u32 (n7)), (7, 4, .int .i64 0)] ∧ (b 5 = false → wd = w') ∧ (b 5 = true → (((((((wd.setCell ⟨gr, 0, none⟩ (.int .i64 (n0 + 1))).setCell ⟨gr, 1, none⟩ (.int .i64 (n1 * 8))).setCell ⟨gr, 2, none⟩ (.bool (bt s 5 == 49))).setCell ⟨gr, 3, none⟩ (.int .i64 n3)).setCell ⟨gr, 4, none⟩ (.int .i64 (n4 * 16 + 16))).setCell ⟨gr, 5, none⟩ (.int .i64 n5)).setCell ⟨gr, 6, none⟩ (.int .i64 n6)) = w')) HT_.out HW_.out (by kernel_rfl) (by kernel_rfl) ?_ ?_ ?_
              · exact ⟨by simp only [putSel, Bool.false_eq_true, if_false], fun _ => rfl, fun h_ => absurd h_ (by decide)⟩
              · skip
                refine steps_cons ?_ ?_
                · rintro b a w' ⟨ha, Q_WA, Q_WB⟩ hb_ hon hoff
                  refine ⟨_, rfl, fun K hK => ?_⟩
                  have e8 : a.tmps[8]? = some (.pointer (some ⟨gc, 0, none⟩)) := by rw [ha]; exact (putSel_off rfl).trans rfl
                  replace ha := Aside0.mk ha
                  have WA := Aside0.mk (Q_WA (hoff 5 (by kernel_rfl)))
                  have hCD := HCD.out
                  rw [WA.out] at hCD
                  obtain ⟨-, ⟨hy0, hy1, hy2, hy3, hy4, hy5, hy6⟩⟩ := blk7 hCD
                  clear hCD
                  refine value_ (w1 := w') (v := .agg #[.int .i64 (n0 + 1), .int .i64 (n1 * 8), .bool (bt s 5 == 49), .int .i64 n3, .int .i64 (n4 * 16 + 16), .int .i64 n5, .int .i64 n6]) (by rfl) rfl ?_ ?_
                  · go_simp
                    (try simp only [i64_w])
                    try rfl
                  refine hK.out _ _ ⟨(by rw [ha.out]; exact putSel_upk 0 hb_ rfl rfl rfl), Q_WA, fun h0_ => absurd ((hoff 5 (by kernel_rfl)).symm.trans h0_) (by decide)⟩
                refine steps_cons ?_ ?_
                · rintro b a w' ⟨ha, Q_WA, Q_WB⟩ hb_ hon hoff
                  refine ⟨_, rfl, fun K hK => ?_⟩
                  have e7 : a.tmps[7]? = some (.string s) := by rw [ha]; exact (putSel_off rfl).trans rfl
                  replace ha := Aside0.mk ha
                  have WA := Aside0.mk (Q_WA (hoff 5 (by kernel_rfl)))
                  refine value_ (w1 := w') (v := .string s) (by rfl) rfl ?_ ?_
                  · go_simp
                    (try simp only [i64_w])
                    try rfl
                  refine hK.out _ _ ⟨(by rw [ha.out]; exact putSel_upk 1 hb_ rfl rfl rfl), Q_WA, fun h0_ => absurd ((hoff 5 (by kernel_rfl)).symm.trans h0_) (by decide)⟩
                refine steps_cons ?_ ?_
                · rintro b a w' ⟨ha, Q_WA, Q_WB⟩ hb_ hon hoff
                  refine ⟨_, rfl, fun K hK => ?_⟩
                  have e75 : a.tmps[75]? = some (.string s) := by rw [ha]; exact putSel_on (e := (1, 75, .string s)) 1 rfl rfl (hon 1 (by kernel_rfl)) rfl
                  replace ha := Aside0.mk ha
                  have WA := Aside0.mk (Q_WA (hoff 5 (by kernel_rfl)))
                  refine value_ (w1 := w') (v := .string (s.extract 65 97)) (by rfl) rfl ?_ ?_
                  · go_simp
                    (try simp only [i64_w])
                    try rfl
                  refine hK.out _ _ ⟨(by rw [ha.out]; exact putSel_upk 2 hb_ rfl rfl rfl), Q_WA, fun h0_ => absurd ((hoff 5 (by kernel_rfl)).symm.trans h0_) (by decide)⟩
                refine steps_cons ?_ ?_
                · rintro b a w' ⟨ha, Q_WA, Q_WB⟩ hb_ hon hoff
                  refine ⟨_, rfl, fun K hK => ?_⟩
                  have e76 : a.tmps[76]? = some (.string (s.extract 65 97)) := by rw [ha]; exact putSel_on (e := (2, 76, .string (s.extract 65 97))) 2 rfl rfl (hon 2 (by kernel_rfl)) rfl
                  replace ha := Aside0.mk ha
                  have WA := Aside0.mk (Q_WA (hoff 5 (by kernel_rfl)))
                  refine goes_ Try.func57 (by kernel_rfl) rfl #[.string (s.extract 65 97)] (by rfl) rfl rfl (by first | (simp only [List.map_toArray, List.map_cons, List.map_nil, Act.eval, Array.getD_eq_getD_getElem?, Option.getD_some, e76]; done) | (simp only [List.map_toArray, List.map_cons, List.map_nil, Act.eval, Array.getD_eq_getD_getElem?, Option.getD_some, e76]; rfl)) ?_
                  (with_reducible refine (number_still k (s.extract 65 97) n7 _ HN7.out).mono ?_)
                  rintro e w1_ ⟨rfl, rfl⟩
                  refine ⟨_, rfl, ?_⟩
                  refine hK.out _ _ ⟨(by rw [ha.out]; exact putSel_upk 3 hb_ rfl rfl rfl), Q_WA, fun h0_ => absurd ((hoff 5 (by kernel_rfl)).symm.trans h0_) (by decide)⟩
                refine steps_cons ?_ ?_
                · rintro b a w' ⟨ha, Q_WA, Q_WB⟩ hb_ hon hoff
                  refine ⟨_, rfl, fun K hK => ?_⟩
                  have e77 : a.tmps[77]? = some (.int .i64 (n7)) := by rw [ha]; exact putSel_on (e := (3, 77, .int .i64 (n7))) 3 rfl rfl (hon 3 (by kernel_rfl)) rfl
                  replace ha := Aside0.mk ha
                  refine value_ (w1 := w') (v := .int .u32 (n7)) (by rfl) rfl ?_ ?_
                  · go_simp
                    (try simp only [i64_w])
                    try rfl
                  refine hK.out _ _ ⟨(by rw [ha.out]; exact putSel_upk 4 hb_ rfl rfl rfl), Q_WA, Q_WB⟩
                refine steps_cons ?_ ?_
                · rintro b a w' ⟨ha, Q_WA, Q_WB⟩ hb_ hon hoff
                  refine ⟨_, rfl, fun K hK => ?_⟩
                  have e2 : a.tmps[2]? = some (.pointer (some ⟨gr, 0, none⟩)) := by rw [ha]; exact (putSel_off rfl).trans rfl
                  have e74 : a.tmps[74]? = some (.agg #[.int .i64 (n0 + 1), .int .i64 (n1 * 8), .bool (bt s 5 == 49), .int .i64 n3, .int .i64 (n4 * 16 + 16), .int .i64 n5, .int .i64 n6]) := by rw [ha]; exact putSel_on (e := (0, 74, .agg #[.int .i64 (n0 + 1), .int .i64 (n1 * 8), .bool (bt s 5 == 49), .int .i64 n3, .int .i64 (n4 * 16 + 16), .int .i64 n5, .int .i64 n6])) 0 rfl rfl (hon 0 (by kernel_rfl)) rfl
                  replace ha := Aside0.mk ha
                  have WA := Aside0.mk (Q_WA hb_)
                  have hw_ := WA.out
                  subst hw_
                  obtain ⟨⟨hk0, hk1, hk2, hk3, hk4, hk5, hk6⟩, ⟨hx0, hx1, hx2, hx3, hx4, hx5, hx6⟩⟩ := blk7 HZD.out
                  refine skip_ (w1 := (((((((wd.setCell ⟨gr, 0, none⟩ (.int .i64 (n0 + 1))).setCell ⟨gr, 1, none⟩ (.int .i64 (n1 * 8))).setCell ⟨gr, 2, none⟩ (.bool (bt s 5 == 49))).setCell ⟨gr, 3, none⟩ (.int .i64 n3)).setCell ⟨gr, 4, none⟩ (.int .i64 (n4 * 16 + 16))).setCell ⟨gr, 5, none⟩ (.int .i64 n5)).setCell ⟨gr, 6, none⟩ (.int .i64 n6))) (by rfl) rfl ?_ ?_
                  · go_simp
                    try rfl
                  refine hK.out _ _ ⟨(by rw [ha.out]; exact putSel_none (v := undef) rfl), fun h0_ => absurd ((up_self b 5).symm.trans h0_) (by decide), fun _ => rfl⟩
                refine steps_cons ?_ ?_
                · rintro b a w' ⟨ha, Q_WA, Q_WB⟩ hb_ hon hoff
                  refine ⟨_, rfl, fun K hK => ?_⟩
                  have e78 : a.tmps[78]? = some (.int .u32 (n7)) := by rw [ha]; exact putSel_on (e := (4, 78, .int .u32 (n7))) 4 rfl rfl (hon 4 (by kernel_rfl)) rfl
                  replace ha := Aside0.mk ha
                  have WB := Aside0.mk (Q_WB (hon 5 (by kernel_rfl)))
                  refine value_ (w1 := w') (v := .int .u32 (n7)) (by rfl) rfl ?_ ?_
                  · go_simp
                    (try simp only [i64_w])
                    try rfl
                  refine hK.out _ _ ⟨(by rw [ha.out]; exact putSel_upk 5 hb_ rfl rfl rfl), fun h0_ => absurd ((hon 5 (by kernel_rfl)).symm.trans h0_) (by decide), Q_WB⟩
                refine steps_cons ?_ ?_
                · rintro b a w' ⟨ha, Q_WA, Q_WB⟩ hb_ hon hoff
                  refine ⟨_, rfl, fun K hK => ?_⟩
                  replace ha := Aside0.mk ha
                  have WB := Aside0.mk (Q_WB (hon 5 (by kernel_rfl)))
                  refine value_ (w1 := w') (v := .int .i64 0) (by rfl) rfl ?_ ?_
                  · go_simp
                    (try simp only [i64_w])
                    try rfl
                  refine hK.out _ _ ⟨(by rw [ha.out]; exact putSel_upk 6 hb_ rfl rfl rfl), fun h0_ => absurd ((hon 5 (by kernel_rfl)).symm.trans h0_) (by decide), Q_WB⟩
                exact steps_nil
              · rintro b a w' hall ⟨ha, Q_WA, Q_WB⟩
                have hb0_ := hall 0 (by kernel_rfl)
                have hb1_ := hall 1 (by kernel_rfl)
                have hb2_ := hall 2 (by kernel_rfl)
                have hb3_ := hall 3 (by kernel_rfl)
                have hb4_ := hall 4 (by kernel_rfl)
                have hb5_ := hall 5 (by kernel_rfl)
                have hb6_ := hall 6 (by kernel_rfl)
                have hb7_ := hall 7 (by kernel_rfl)
                subst ha
                simp only [putSel, hb0_, hb1_, hb2_, hb3_, hb4_, hb5_, hb6_, hb7_, if_true, Act.put, List.setIfInBounds_toArray, List.set_cons_zero, List.set_cons_succ]
                clear Q_WA
                have WB := Aside0.mk (Q_WB hb5_)
                clear Q_WB
                clear hall hb0_ hb1_ hb2_ hb3_ hb4_ hb5_ hb6_ hb7_
                have hwe := WB.out
                subst hwe
                go_wp2
                have hP := puts7 (.int .i64 (n0 + 1)) (.int .i64 (n1 * 8)) (.bool (bt s 5 == 49)) (.int .i64 n3) (.int .i64 (n4 * 16 + 16)) (.int .i64 n5) (.int .i64 n6) HZD.out
                have hB := below7 (.int .i64 (n0 + 1)) (.int .i64 (n1 * 8)) (.bool (bt s 5 == 49)) (.int .i64 n3) (.int .i64 (n4 * 16 + 16)) (.int .i64 n5) (.int .i64 n6) HBD.out HG.out
                refine bodyPost_ret (results_ctt rfl _ _ gr 23 #[.int .i64 (n0 + 1), .int .i64 (n1 * 8), .bool (bt s 5 == 49), .int .i64 n3, .int .i64 (n4 * 16 + 16), .int .i64 n5, .int .i64 n6] (0, 0) _ rfl hP hu2 rfl (by kernel_rfl)) rfl ?_
                have h := HH2.out
                cases h
                exact ⟨rfl, hB⟩
          · rw [if_pos h8] at h
            cases h
            have h8' : (n8 != 0) = true := by simpa using h8
            obtain ⟨⟨hk0, hk1, hk2, hk3, hk4, hk5, hk6⟩, ⟨hx0, hx1, hx2, hx3, hx4, hx5, hx6⟩⟩ := blk7 HZ3.out
            go_wp2
            have hP := puts7 (.int .i64 0) (.int .i64 0) (.bool false) (.int .i64 0) (.int .i64 0) (.int .i64 0) (.int .i64 0) HZ3.out
            have hB := below7 (.int .i64 0) (.int .i64 0) (.bool false) (.int .i64 0) (.int .i64 0) (.int .i64 0) (.int .i64 0) HB3.out HG.out
            refine bodyPost_ret (results_ctt rfl _ _ gr 23 #[.int .i64 0, .int .i64 0, .bool false, .int .i64 0, .int .i64 0, .int .i64 0, .int .i64 0] (0, 0) _ rfl hP hu2 rfl (by kernel_rfl)) rfl ?_
            exact ⟨rfl, hB⟩
end Go.Proofs.Ytofjckfdofkikaa.P
