/- head.Read: a head of bytes, or what is wrong. -/
import Derived.Test.YtofjckfdofkikaaPx0
import Derived.Test.YtofjckfdofkikaaHTaken
import Derived.Test.YtofjckfdofkikaaHHead
import Derived.Test.YtofjckfdofkikaaPx3
namespace Go.Proofs.Ytofjckfdofkikaa.P
open Go Go.RowKit Go.Proofs.YtofjckfdofkikaaW.PrintWords Go.Proofs.YtofjckfdofkikaaW.PrintLast Go.Proofs.YtofjckfdofkikaaW.PrintMore
set_option linter.unusedVariables false
set_option linter.unusedSimpArgs false

/-- A head that is none, and what is wrong. -/
def noHead (e : Int) : Int × Int × Bool × Int × Int × Int × Int × Int × Int := (0, 0, false, 0, 0, 0, 0, 0, e)
/-- May these be the parts of a head that is read? -/
def partsOk (n : List Int) : Bool := decide (n.length = 9) && n.all (fun x => decide (0 ≤ x) && decide (x ≤ 4294967295))
/-- What the parts are. -/
def headOf (n : List Int) (e : Int) : Int × Int × Bool × Int × Int × Int × Int × Int × Int :=
  (n.getD 0 0 + 1, 8 * n.getD 1 0, n.getD 2 0 == 1, n.getD 3 0, 16 * (n.getD 4 0 + 1), n.getD 5 0, n.getD 6 0, n.getD 7 0, e)
abbrev magicS : ByteArray := ⟨#[83, 75, 66, 84, 1]⟩
def head_Read.f (k : Nat) (l : List Int) : Option (Int × Int × Bool × Int × Int × Int × Int × Int × Int) :=
  (strings_HasPrefix.f magicS (strOfNums (l.take 5))).bind fun b => if b = false then some (noHead 6) else if l.length < 20 then some (noHead 3) else
  (takenF k ((l.take 20).drop 5) 0 0 9).bind fun t => if partsOk t.1 = false then none else if t.1.getD 8 0 ≠ 0 then some (noHead 5) else
  (head_Good.f (t.1.getD 0 0 + 1) (8 * t.1.getD 1 0) (t.1.getD 2 0 == 1) (t.1.getD 3 0) (16 * (t.1.getD 4 0 + 1)) (t.1.getD 5 0) (t.1.getD 6 0)).bind fun g => if g = false then some (noHead 7) else some (headOf t.1 0)
theorem head_Read.mono (l : List Int) (k : Nat) : LeO (head_Read.f k l) (head_Read.f (k + 1) l) := by
  unfold head_Read.f
  refine LeO.bind (LeO.refl _) (fun b => ?_)
  split
  · exact LeO.refl _
  split
  · exact LeO.refl _
  exact LeO.bind (takenF_mono _ _ _ _ _) (fun _ => LeO.refl _)

theorem puts8 {W : World} {g t : Nat} {a0 a1 a2 a3 a4 a5 a6 a7 : Value} (v0 v1 v2 v3 v4 v5 v6 v7 : Value) (h : W.heap[g]? = some (.cells #[a0, a1, a2, a3, a4, a5, a6, a7] t (0, 0))) :
    ((((((((W.setCell ⟨g, 0, none⟩ v0).setCell ⟨g, 1, none⟩ v1).setCell ⟨g, 2, none⟩ v2).setCell ⟨g, 3, none⟩ v3).setCell ⟨g, 4, none⟩ v4).setCell ⟨g, 5, none⟩ v5).setCell ⟨g, 6, none⟩ v6).setCell ⟨g, 7, none⟩ v7).heap[g]? = some (.cells #[v0, v1, v2, v3, v4, v5, v6, v7] t (0, 0)) := by
  have h0 := blk_put (cs' := #[v0, a1, a2, a3, a4, a5, a6, a7]) h 0 v0 rfl
  have h1 := blk_put (cs' := #[v0, v1, a2, a3, a4, a5, a6, a7]) h0 1 v1 rfl
  have h2 := blk_put (cs' := #[v0, v1, v2, a3, a4, a5, a6, a7]) h1 2 v2 rfl
  have h3 := blk_put (cs' := #[v0, v1, v2, v3, a4, a5, a6, a7]) h2 3 v3 rfl
  have h4 := blk_put (cs' := #[v0, v1, v2, v3, v4, a5, a6, a7]) h3 4 v4 rfl
  have h5 := blk_put (cs' := #[v0, v1, v2, v3, v4, v5, a6, a7]) h4 5 v5 rfl
  have h6 := blk_put (cs' := #[v0, v1, v2, v3, v4, v5, v6, a7]) h5 6 v6 rfl
  have h7 := blk_put (cs' := #[v0, v1, v2, v3, v4, v5, v6, v7]) h6 7 v7 rfl
  exact h7
theorem below8 {w W : World} {g : Nat} (v0 v1 v2 v3 v4 v5 v6 v7 : Value) (h : Below w.heap.size w W) (hg : w.heap.size ≤ g) :
    Below w.heap.size w ((((((((W.setCell ⟨g, 0, none⟩ v0).setCell ⟨g, 1, none⟩ v1).setCell ⟨g, 2, none⟩ v2).setCell ⟨g, 3, none⟩ v3).setCell ⟨g, 4, none⟩ v4).setCell ⟨g, 5, none⟩ v5).setCell ⟨g, 6, none⟩ v6).setCell ⟨g, 7, none⟩ v7) :=
  (((((((h.setCell (p := ⟨g, 0, none⟩) hg v0).setCell (p := ⟨g, 1, none⟩) hg v1).setCell (p := ⟨g, 2, none⟩) hg v2).setCell (p := ⟨g, 3, none⟩) hg v3).setCell (p := ⟨g, 4, none⟩) hg v4).setCell (p := ⟨g, 5, none⟩) hg v5).setCell (p := ⟨g, 6, none⟩) hg v6).setCell (p := ⟨g, 7, none⟩) hg v7

set_option maxHeartbeats 8000000 in
set_option maxRecDepth 100000 in
theorem head_Read_few (A0 : Option Addr) (c0 : Nat) (l0 : List Int) (g : Bool) (w : World) (hl : l0.length ≤ 5) (hr0 : Kd.C (Kd.int .u8) w A0 l0.length l0) (hc0 : l0.length ≤ c0) (hp : strings_HasPrefix.f magicS (strOfNums l0) = some g) :
    Calls Try.prog 35 #[.slice A0 l0.length c0] w fun e w' => e = .returned (.tuple #[headV 0 0 false 0 0 0 0 0, .int .i64 (if g = true then 3 else 6)]) ∧ Below w.heap.size w w' := by
  have HP := Aside0.mk hp
  have HR := Aside0.mk hr0
  have hcv := fun W : World => fun h : Kd.C (Kd.int .u8) W A0 l0.length l0 => Kd.C_string (P := Try.prog) (c := c0) Try.underlying50 Try.underlying5 Try.underlying9 h
  have hc1 := hcv (w.alloc (.cells #[.int .i64 0, .int .i64 0, .bool false, .int .i64 0, .int .i64 0, .int .i64 0, .int .i64 0, .int .u32 0] 49)) (Kd.C_alloc hr0 _)
  have hcc := Int.ofNat_le.mpr hc0
  have hl5 : (l0.length : Int) ≤ 5 := by omega
  clear hp hr0 hcv
  have hu := Try.underlying49
  have hu2 := Try.underlying23
  go_enter Try.func35, Try.ntmps35
  go_wp2_with fail
  (with_reducible refine (strings_HasPrefix.calls magicS (strOfNums l0) g _ HP.out).mono ?_)
  rintro e w1 ⟨rfl, hd⟩
  obtain ⟨nd, hd⟩ := hd.out
  have hb1 := blk_drewN (blk_new w (.cells #[.int .i64 0, .int .i64 0, .bool false, .int .i64 0, .int .i64 0, .int .i64 0, .int .i64 0, .int .u32 0] 49)) nd
  have hB1 := pw_below_drewN (below_alloc (Below.refl w.heap.size w) (.cells #[.int .i64 0, .int .i64 0, .bool false, .int .i64 0, .int .i64 0, .int .i64 0, .int .i64 0, .int .u32 0] 49)) nd
  rw [← hd] at hb1 hB1
  clear hd hc1
  obtain ⟨gr, hgr⟩ : ∃ gr, w.heap.size = gr := ⟨_, rfl⟩
  have HG := Aside0.mk (Nat.le_of_eq hgr)
  rw [hgr] at hb1 ⊢
  have HB1 := Aside0.mk hB1
  have HBL := Aside0.mk hb1
  clear hgr hB1 hb1
  have hk0 := blk_frozen HBL.out 0
  have hk1 := blk_frozen HBL.out 1
  have hk2 := blk_frozen HBL.out 2
  have hk3 := blk_frozen HBL.out 3
  have hk4 := blk_frozen HBL.out 4
  have hk5 := blk_frozen HBL.out 5
  have hk6 := blk_frozen HBL.out 6
  have hk7 := blk_frozen HBL.out 7
  have hx0 := (blk_cell HBL.out 0).trans rfl
  have hx1 := (blk_cell HBL.out 1).trans rfl
  have hx2 := (blk_cell HBL.out 2).trans rfl
  have hx3 := (blk_cell HBL.out 3).trans rfl
  have hx4 := (blk_cell HBL.out 4).trans rfl
  have hx5 := (blk_cell HBL.out 5).trans rfl
  have hx6 := (blk_cell HBL.out 6).trans rfl
  have hx7 := (blk_cell HBL.out 7).trans rfl
  have hlt : (l0.length : Int) < 20 := by omega
  cases g with
  | false =>
    go_wp2
    have hP := puts8 (.int .i64 0) (.int .i64 0) (.bool false) (.int .i64 0) (.int .i64 0) (.int .i64 0) (.int .i64 0) (.int .u32 0) HBL.out
    have hB := below8 (.int .i64 0) (.int .i64 0) (.bool false) (.int .i64 0) (.int .i64 0) (.int .i64 0) (.int .i64 0) (.int .u32 0) HB1.out HG.out
    refine bodyPost_ret (results_ct rfl _ _ gr 49 #[.int .i64 0, .int .i64 0, .bool false, .int .i64 0, .int .i64 0, .int .i64 0, .int .i64 0, .int .u32 0] (0, 0) _ rfl hP hu rfl (by kernel_rfl)) rfl ?_
    exact ⟨rfl, hB⟩
  | true =>
    go_wp2
    have hP := puts8 (.int .i64 0) (.int .i64 0) (.bool false) (.int .i64 0) (.int .i64 0) (.int .i64 0) (.int .i64 0) (.int .u32 0) HBL.out
    have hB := below8 (.int .i64 0) (.int .i64 0) (.bool false) (.int .i64 0) (.int .i64 0) (.int .i64 0) (.int .i64 0) (.int .u32 0) HB1.out HG.out
    refine bodyPost_ret (results_ct rfl _ _ gr 49 #[.int .i64 0, .int .i64 0, .bool false, .int .i64 0, .int .i64 0, .int .i64 0, .int .i64 0, .int .u32 0] (0, 0) _ rfl hP hu rfl (by kernel_rfl)) rfl ?_
    exact ⟨rfl, hB⟩

theorem blk8 {w : World} {g t : Nat} {a0 a1 a2 a3 a4 a5 a6 a7 : Value} (h : w.heap[g]? = some (.cells #[a0, a1, a2, a3, a4, a5, a6, a7] t (0, 0))) :
    (w.frozen? ⟨g, 0, none⟩ = false ∧ w.frozen? ⟨g, 1, none⟩ = false ∧ w.frozen? ⟨g, 2, none⟩ = false ∧ w.frozen? ⟨g, 3, none⟩ = false ∧ w.frozen? ⟨g, 4, none⟩ = false ∧ w.frozen? ⟨g, 5, none⟩ = false ∧ w.frozen? ⟨g, 6, none⟩ = false ∧ w.frozen? ⟨g, 7, none⟩ = false) ∧
    (w.cell? ⟨g, 0, none⟩ = some a0 ∧ w.cell? ⟨g, 1, none⟩ = some a1 ∧ w.cell? ⟨g, 2, none⟩ = some a2 ∧ w.cell? ⟨g, 3, none⟩ = some a3 ∧ w.cell? ⟨g, 4, none⟩ = some a4 ∧ w.cell? ⟨g, 5, none⟩ = some a5 ∧ w.cell? ⟨g, 6, none⟩ = some a6 ∧ w.cell? ⟨g, 7, none⟩ = some a7) :=
  ⟨⟨blk_frozen h 0, blk_frozen h 1, blk_frozen h 2, blk_frozen h 3, blk_frozen h 4, blk_frozen h 5, blk_frozen h 6, blk_frozen h 7⟩,
    ⟨(blk_cell h 0).trans rfl, (blk_cell h 1).trans rfl, (blk_cell h 2).trans rfl, (blk_cell h 3).trans rfl, (blk_cell h 4).trans rfl, (blk_cell h 5).trans rfl, (blk_cell h 6).trans rfl, (blk_cell h 7).trans rfl⟩⟩
abbrev headZ : Obj := .cells #[.int .i64 0, .int .i64 0, .bool false, .int .i64 0, .int .i64 0, .int .i64 0, .int .i64 0, .int .u32 0] 49

set_option maxHeartbeats 8000000 in
set_option maxRecDepth 100000 in
theorem head_Read_wrong (A0 : Option Addr) (c0 : Nat) (l0 : List Int) (g : Bool) (w : World) (hl : 5 < l0.length) (hr0 : Kd.C (Kd.int .u8) w A0 l0.length l0) (hc0 : l0.length ≤ c0) (hp : strings_HasPrefix.f magicS (strOfNums (l0.take 5)) = some g) (hg : g = false ∨ l0.length < 20) :
    Calls Try.prog 35 #[.slice A0 l0.length c0] w fun e w' => e = .returned (.tuple #[headV 0 0 false 0 0 0 0 0, .int .i64 (if g = true then 3 else 6)]) ∧ Below w.heap.size w w' := by
  have HP := Aside0.mk hp
  have HR := Aside0.mk hr0
  have hl5 : (l0.take 5).length = 5 := by rw [List.length_take]; omega
  have hc1 := Kd.C_string (P := Try.prog) (c := c0) Try.underlying50 Try.underlying5 Try.underlying9 (Kd.C_take (m := 5) (Kd.C_alloc hr0 headZ) (by omega))
  rw [hl5] at hc1
  have hcc := Int.ofNat_le.mpr hc0
  have hl6 : 5 < (l0.length : Int) := by omega
  have hl7 : (5 : Int) ≤ (c0 : Int) := by omega
  clear hp hr0 hl5
  have HGG := Aside0.mk hg
  clear hg
  have hu := Try.underlying49
  have hu2 := Try.underlying23
  go_enter Try.func35, Try.ntmps35
  go_wp2_with fail
  (with_reducible refine (strings_HasPrefix.calls magicS (strOfNums (l0.take 5)) g _ HP.out).mono ?_)
  rintro e w1 ⟨rfl, hd⟩
  obtain ⟨nd, hd⟩ := hd.out
  have hb1 := blk_drewN (blk_new w headZ) nd
  have hB1 := pw_below_drewN (below_alloc (Below.refl w.heap.size w) headZ) nd
  rw [← hd] at hb1 hB1
  clear hd hc1
  obtain ⟨gr, hgr⟩ : ∃ gr, w.heap.size = gr := ⟨_, rfl⟩
  have HG := Aside0.mk (Nat.le_of_eq hgr)
  rw [hgr] at hb1 ⊢
  have HB1 := Aside0.mk hB1
  have HBL := Aside0.mk hb1
  clear hgr hB1 hb1
  obtain ⟨⟨hk0, hk1, hk2, hk3, hk4, hk5, hk6, hk7⟩, ⟨hx0, hx1, hx2, hx3, hx4, hx5, hx6, hx7⟩⟩ := blk8 HBL.out
  cases g with
  | false =>
    go_wp2
    have hP := puts8 (.int .i64 0) (.int .i64 0) (.bool false) (.int .i64 0) (.int .i64 0) (.int .i64 0) (.int .i64 0) (.int .u32 0) HBL.out
    have hB := below8 (.int .i64 0) (.int .i64 0) (.bool false) (.int .i64 0) (.int .i64 0) (.int .i64 0) (.int .i64 0) (.int .u32 0) HB1.out HG.out
    refine bodyPost_ret (results_ct rfl _ _ gr 49 #[.int .i64 0, .int .i64 0, .bool false, .int .i64 0, .int .i64 0, .int .i64 0, .int .i64 0, .int .u32 0] (0, 0) _ rfl hP hu rfl (by kernel_rfl)) rfl ?_
    exact ⟨rfl, hB⟩
  | true =>
    have hlt : (l0.length : Int) < 20 := by have := HGG.out; simp at this; omega
    go_wp2
    have hP := puts8 (.int .i64 0) (.int .i64 0) (.bool false) (.int .i64 0) (.int .i64 0) (.int .i64 0) (.int .i64 0) (.int .u32 0) HBL.out
    have hB := below8 (.int .i64 0) (.int .i64 0) (.bool false) (.int .i64 0) (.int .i64 0) (.int .i64 0) (.int .i64 0) (.int .u32 0) HB1.out HG.out
    refine bodyPost_ret (results_ct rfl _ _ gr 49 #[.int .i64 0, .int .i64 0, .bool false, .int .i64 0, .int .i64 0, .int .i64 0, .int .i64 0, .int .u32 0] (0, 0) _ rfl hP hu rfl (by kernel_rfl)) rfl ?_
    exact ⟨rfl, hB⟩

set_option maxHeartbeats 8000000 in
set_option maxRecDepth 100000 in
theorem head_Read_whole (k : Nat) (A0 : Option Addr) (c0 : Nat) (l0 : List Int) (n0 n1 n2 n3 n4 n5 n6 n7 n8 : Int) (p' e' : Int) (w : World) (hl : 20 ≤ l0.length) (hr0 : Kd.C (Kd.int .u8) w A0 l0.length l0) (hc0 : l0.length ≤ c0) (hp : strings_HasPrefix.f magicS (strOfNums (l0.take 5)) = some true)
    (ht : takenF k ((l0.take 20).drop 5) 0 0 9 = some ([n0, n1, n2, n3, n4, n5, n6, n7, n8], p', e')) (hok : partsOk [n0, n1, n2, n3, n4, n5, n6, n7, n8] = true) (r : Bool) (hgd : head_Good.f (n0 + 1) (8 * n1) (n2 == 1) n3 (16 * (n4 + 1)) n5 n6 = some r) :
    Calls Try.prog 35 #[.slice A0 l0.length c0] w fun e w' => (n8 ≠ 0 → e = .returned (.tuple #[headV 0 0 false 0 0 0 0 0, .int .i64 5])) ∧ (n8 = 0 → r = false → e = .returned (.tuple #[headV 0 0 false 0 0 0 0 0, .int .i64 7])) ∧ (n8 = 0 → r = true → e = .returned (.tuple #[headV (n0 + 1) (8 * n1) (n2 == 1) n3 (16 * (n4 + 1)) n5 n6 n7, .int .i64 0])) ∧ Below w.heap.size w w' := by
  have HP := Aside0.mk hp
  have HR := Aside0.mk hr0
  have HT := Aside0.mk ht
  have HGD := Aside0.mk hgd
  have hl5 : (l0.take 5).length = 5 := by rw [List.length_take]; omega
  have hc1 := Kd.C_string (P := Try.prog) (c := c0) Try.underlying50 Try.underlying5 Try.underlying9 (Kd.C_take (m := 5) (Kd.C_alloc hr0 headZ) (by omega))
  rw [hl5] at hc1
  have hcc := Int.ofNat_le.mpr hc0
  have hl6 : 20 ≤ (l0.length : Int) := by omega
  have hl7 : (5 : Int) ≤ (c0 : Int) := by omega
  simp only [partsOk, List.all_cons, List.all_nil, Bool.and_true, Bool.and_eq_true, decide_eq_true_eq] at hok
  have HOK := Aside0.mk hok
  clear hp hr0 hl5 ht hgd hok
  have hu := Try.underlying49
  have hu2 := Try.underlying23
  go_enter Try.func35, Try.ntmps35
  go_wp2_with fail
  (with_reducible refine (strings_HasPrefix.calls magicS (strOfNums (l0.take 5)) true _ HP.out).mono ?_)
  rintro e w1 ⟨rfl, hd⟩
  obtain ⟨nd, hd⟩ := hd.out
  have hb1 := blk_drewN (blk_new w headZ) nd
  have hB1 := pw_below_drewN (below_alloc (Below.refl w.heap.size w) headZ) nd
  rw [← hd] at hb1 hB1
  clear hd hc1
  obtain ⟨gr, hgr⟩ : ∃ gr, w.heap.size = gr := ⟨_, rfl⟩
  have HG := Aside0.mk (Nat.le_of_eq hgr)
  rw [hgr] at hb1 ⊢
  have HB1 := Aside0.mk hB1
  have HBL := Aside0.mk hb1
  clear hgr hB1 hb1
  obtain ⟨i0, hi, hz0, hz1, hz2⟩ := info_parts wr_info
  obtain ⟨A1, hcut, hA1, hC1⟩ := print_mid_int (k := .u8) (P := Try.prog) 50 5 Try.underlying50 hi hz1 A0 c0 l0 5 20 (by omega) (by omega) (by omega) hc0
  have HRB : Aside0 ((Kd.int .u8).C w A1 ((l0.take (20 : Int).toNat).drop (5 : Int).toNat).length ((l0.take (20 : Int).toNat).drop (5 : Int).toNat)) := Aside0.mk (Kd.C_of_reads (d := (0 : Int)) (h1 := fun _ => rfl) (hA1 w (Kd.reads_of_C (enc := Value.int .u8) (d := (0 : Int)) (h1 := fun _ => rfl) HR.out)))
  have HC1 := Aside0.mk hC1
  simp only [show (20 : Int).toNat = 20 from rfl, show (5 : Int).toNat = 5 from rfl] at hcut HRB HC1
  obtain ⟨body, hbody⟩ : ∃ body, (l0.take 20).drop 5 = body := ⟨_, rfl⟩
  rw [hbody] at hcut HRB HC1 HT
  obtain ⟨cb, hcb⟩ : ∃ cb, c0 - 5 = cb := ⟨_, rfl⟩
  rw [hcb] at hcut HC1
  clear hA1 hC1 hi hz0 hz1 hz2 hbody hcb
  go_wp2_with fail
  (with_reducible refine (pipe_Open.calls A1 cb body body 0 0 w w1 HB1.out HRB.out HC1.out rfl).mono ?_)
  rintro e w2 ⟨g2, rfl, hi2, hb2, hb2'⟩
  have HBL2 := Aside0.mk (blk_below HBL.out hb2')
  have HB2 := Aside0.mk hb2
  have HI2 := Aside0.mk hi2
  clear hb2 hb2' hi2 hcut HB1 HBL
  go_wp2_with fail
  (with_reducible refine (head_fields 0 0 false 0 0 0 0 0 w2 (by decide) (by decide) (by decide) (by decide) (by decide) (by decide) (by decide) (by decide)).mono ?_)
  rintro e w3 ⟨rfl, hb3⟩
  have HBL3 := Aside0.mk (blk_below HBL2.out hb3)
  have HB3 := Aside0.mk (below_then HB2.out HB2.out.size hb3)
  have HI3 := Aside0.mk (HI2.out.below hb3)
  clear hb3 HB2 HBL2 HI2
  go_wp2_with fail
  (with_reducible refine (head_taken k g2 body 0 0 _ _ _ _ _ _ _ _ _ p' e' w w3 HI3.out HB3.out HT.out).mono ?_)
  rintro e w4 ⟨rfl, hi4, hb4, hk4⟩
  have hne : gr ≠ g2 := (HI3.out.ne_blk HBL3.out (by decide)).symm
  have HBL4 := Aside0.mk ((hk4.2 _ (blk_lt HBL3.out) hne (by simp)).trans HBL3.out)
  have HB4 := Aside0.mk hb4
  have hoA : outA [n0, n1, n2, n3, n4, n5, n6, n7, n8] = #[.int .i64 n0, .int .i64 n1, .int .i64 n2, .int .i64 n3, .int .i64 n4, .int .i64 n5, .int .i64 n6, .int .i64 n7, .int .i64 n8] := rfl
  rw [hoA]
  clear hi4 hb4 hk4 hne hoA HB3 HBL3 HI3
  have hu91 := Try.underlying91
  obtain ⟨⟨hk0, hk1, hk2, hk3, hk4, hk5, hk6, hk7⟩, ⟨hx0, hx1, hx2, hx3, hx4, hx5, hx6, hx7⟩⟩ := blk8 HBL4.out
  have hglt : gr < w4.heap.size := blk_lt HBL4.out
  have hb0 := HOK.out
  obtain ⟨-, hb0, hb1, hb2, hb3, hb4, hb5, hb6, hb7, hb8⟩ := hb0
  have hB5 := below_alloc (below_alloc HB4.out (.cells #[.int .i64 n0, .int .i64 n1, .int .i64 n2, .int .i64 n3, .int .i64 n4, .int .i64 n5, .int .i64 n6, .int .i64 n7, .int .i64 n8] 91)) (.cells #[.int .i64 (n0 + 1), .int .i64 (8 * n1), .bool (n2 == 1), .int .i64 n3, .int .i64 (16 * (n4 + 1)), .int .i64 n5, .int .i64 n6, .int .u32 n7] 49)
  have hX1 := blk_alloc (blk_alloc HBL4.out (.cells #[.int .i64 n0, .int .i64 n1, .int .i64 n2, .int .i64 n3, .int .i64 n4, .int .i64 n5, .int .i64 n6, .int .i64 n7, .int .i64 n8] 91)) (.cells #[.int .i64 (n0 + 1), .int .i64 (8 * n1), .bool (n2 == 1), .int .i64 n3, .int .i64 (16 * (n4 + 1)), .int .i64 n5, .int .i64 n6, .int .u32 n7] 49)
  by_cases hn8 : n8 = 0
  · subst hn8
    have HX1 := Aside0.mk hX1
    have HB5 := Aside0.mk hB5
    have hX2 := blk_new (w4.alloc (.cells #[.int .i64 n0, .int .i64 n1, .int .i64 n2, .int .i64 n3, .int .i64 n4, .int .i64 n5, .int .i64 n6, .int .i64 n7, .int .i64 0] 91)) (.cells #[.int .i64 (n0 + 1), .int .i64 (8 * n1), .bool (n2 == 1), .int .i64 n3, .int .i64 (16 * (n4 + 1)), .int .i64 n5, .int .i64 n6, .int .u32 n7] 49)
    rw [show (w4.alloc (.cells #[.int .i64 n0, .int .i64 n1, .int .i64 n2, .int .i64 n3, .int .i64 n4, .int .i64 n5, .int .i64 n6, .int .i64 n7, .int .i64 0] 91)).heap.size = w4.heap.size + 1 from Array.size_push _] at hX2
    have HX2 := Aside0.mk hX2
    clear hX1 hX2 hB5
    go_wp2_with fail
    (with_reducible refine (head_Good.calls _ _ _ _ _ _ _ r _ HGD.out).mono ?_)
    rintro e w5 ⟨rfl, hb6⟩
    have HBX := Aside0.mk (blk_below HX1.out hb6)
    have HBH := Aside0.mk (blk_below HX2.out hb6)
    have HBY := Aside0.mk (below_then HB5.out HB5.out.size hb6)
    clear hb6 HX1 HX2 HB5 hk0 hk1 hk2 hk3 hk4 hk5 hk6 hk7 hx0 hx1 hx2 hx3 hx4 hx5 hx6 hx7 hglt
    obtain ⟨gh, hgh⟩ : ∃ gh, w4.heap.size = gh := ⟨_, rfl⟩
    rw [hgh] at HBH ⊢
    clear hgh HBL4 HB4
    obtain ⟨⟨hk0, hk1, hk2, hk3, hk4, hk5, hk6, hk7⟩, ⟨hx0, hx1, hx2, hx3, hx4, hx5, hx6, hx7⟩⟩ := blk8 HBX.out
    obtain ⟨-, ⟨hy0, hy1, hy2, hy3, hy4, hy5, hy6, hy7⟩⟩ := blk8 HBH.out
    cases r with
    | false =>
      go_wp2
      have hP := puts8 (.int .i64 0) (.int .i64 0) (.bool false) (.int .i64 0) (.int .i64 0) (.int .i64 0) (.int .i64 0) (.int .u32 0) HBX.out
      have hB := below8 (.int .i64 0) (.int .i64 0) (.bool false) (.int .i64 0) (.int .i64 0) (.int .i64 0) (.int .i64 0) (.int .u32 0) HBY.out HG.out
      refine bodyPost_ret (results_ct rfl _ _ gr 49 #[.int .i64 0, .int .i64 0, .bool false, .int .i64 0, .int .i64 0, .int .i64 0, .int .i64 0, .int .u32 0] (0, 0) _ rfl hP hu rfl (by kernel_rfl)) rfl ?_
      exact ⟨rfl, hB⟩
    | true =>
      go_wp2
      have hP := puts8 (.int .i64 (n0 + 1)) (.int .i64 (8 * n1)) (.bool (n2 == 1)) (.int .i64 n3) (.int .i64 (16 * (n4 + 1))) (.int .i64 n5) (.int .i64 n6) (.int .u32 n7) HBX.out
      have hB := below8 (.int .i64 (n0 + 1)) (.int .i64 (8 * n1)) (.bool (n2 == 1)) (.int .i64 n3) (.int .i64 (16 * (n4 + 1))) (.int .i64 n5) (.int .i64 n6) (.int .u32 n7) HBY.out HG.out
      refine bodyPost_ret (results_ct rfl _ _ gr 49 #[.int .i64 (n0 + 1), .int .i64 (8 * n1), .bool (n2 == 1), .int .i64 n3, .int .i64 (16 * (n4 + 1)), .int .i64 n5, .int .i64 n6, .int .u32 n7] (0, 0) _ rfl hP hu rfl (by kernel_rfl)) rfl ?_
      exact ⟨rfl, hB⟩
  · have hn8' : (n8 != 0) = true := by simpa using hn8
    clear hX1 hB5
    go_wp2
    have hP := blk_alloc (blk_alloc (puts8 (.int .i64 0) (.int .i64 0) (.bool false) (.int .i64 0) (.int .i64 0) (.int .i64 0) (.int .i64 0) (.int .u32 0) HBL4.out) (.cells #[.int .i64 n0, .int .i64 n1, .int .i64 n2, .int .i64 n3, .int .i64 n4, .int .i64 n5, .int .i64 n6, .int .i64 n7, .int .i64 n8] 91)) (.cells #[.int .i64 (n0 + 1), .int .i64 (8 * n1), .bool (n2 == 1), .int .i64 n3, .int .i64 (16 * (n4 + 1)), .int .i64 n5, .int .i64 n6, .int .u32 n7] 49)
    have hB := below_alloc (below_alloc (below8 (.int .i64 0) (.int .i64 0) (.bool false) (.int .i64 0) (.int .i64 0) (.int .i64 0) (.int .i64 0) (.int .u32 0) HB4.out HG.out) (.cells #[.int .i64 n0, .int .i64 n1, .int .i64 n2, .int .i64 n3, .int .i64 n4, .int .i64 n5, .int .i64 n6, .int .i64 n7, .int .i64 n8] 91)) (.cells #[.int .i64 (n0 + 1), .int .i64 (8 * n1), .bool (n2 == 1), .int .i64 n3, .int .i64 (16 * (n4 + 1)), .int .i64 n5, .int .i64 n6, .int .u32 n7] 49)
    refine bodyPost_ret (results_ct rfl _ _ gr 49 #[.int .i64 0, .int .i64 0, .bool false, .int .i64 0, .int .i64 0, .int .i64 0, .int .i64 0, .int .u32 0] (0, 0) _ rfl hP hu rfl (by kernel_rfl)) rfl ?_
    exact ⟨fun _ => rfl, fun h => absurd h hn8, fun h => absurd h hn8, hB⟩

theorem within_some (a b c : Int) : ∃ r, head_within.f a b c = some r := by
  unfold head_within.f
  split <;> exact ⟨_, rfl⟩
theorem form_some (a : Int) (b : Bool) : ∃ r, pack_Form_Good.f a b = some r := by
  unfold pack_Form_Good.f
  split
  · exact ⟨_, rfl⟩
  · split <;> exact ⟨_, rfl⟩
theorem good_some (c0 c1 : Int) (b : Bool) (c3 c4 c5 c6 : Int) : ∃ r, head_Good.f c0 c1 b c3 c4 c5 c6 = some r := by
  unfold head_Good.f head_Form.f
  obtain ⟨x1, h1⟩ := within_some c0 1 8
  obtain ⟨x2, h2⟩ := form_some c1 b
  obtain ⟨x3, h3⟩ := within_some c3 1 16777215
  obtain ⟨x4, h4⟩ := within_some c4 16 1024
  obtain ⟨x5, h5⟩ := within_some c5 0 255
  obtain ⟨x6, h6⟩ := within_some c6 0 1048576
  simp only [h1, h2, h3, h4, h5, h6, Option.bind_some]
  repeat (split; skip)
  all_goals (first | exact ⟨_, rfl⟩ | (repeat' split) <;> exact ⟨_, rfl⟩)

theorem head_Read.calls (k : Nat) (A0 : Option Addr) (c0 : Nat) (l0 : List Int) (r1 r2 : Int) (r3 : Bool) (r4 r5 r6 r7 r8 r9 : Int) (w : World) (hr0 : Kd.C (Kd.int .u8) w A0 l0.length l0) (hc0 : l0.length ≤ c0) (h : head_Read.f k l0 = some (r1, r2, r3, r4, r5, r6, r7, r8, r9)) :
    Calls Try.prog 35 #[.slice A0 l0.length c0] w fun e w' => e = .returned (.tuple #[.agg #[.int .i64 r1, .int .i64 r2, .bool r3, .int .i64 r4, .int .i64 r5, .int .i64 r6, .int .i64 r7, .int .u32 r8], .int .i64 r9]) ∧ Below w.heap.size w w' := by
  unfold head_Read.f at h
  obtain ⟨g, hp, h⟩ := Option.bind_eq_some_iff.mp h
  by_cases hl : l0.length ≤ 5
  · have ht : l0.take 5 = l0 := List.take_of_length_le hl
    rw [ht] at hp
    have := head_Read_few A0 c0 l0 g w hl hr0 hc0 hp
    cases g with
    | false =>
      rw [if_pos rfl] at h
      cases h
      exact this
    | true =>
      rw [if_neg (by simp), if_pos (by omega)] at h
      cases h
      exact this
  · cases g with
    | false =>
      have := head_Read_wrong A0 c0 l0 false w (by omega) hr0 hc0 hp (.inl rfl)
      rw [if_pos rfl] at h
      cases h
      exact this
    | true =>
      rw [if_neg (by simp)] at h
      by_cases hl2 : l0.length < 20
      · have := head_Read_wrong A0 c0 l0 true w (by omega) hr0 hc0 hp (.inr hl2)
        rw [if_pos hl2] at h
        cases h
        exact this
      · rw [if_neg hl2] at h
        obtain ⟨⟨t, p', e'⟩, ht, h⟩ := Option.bind_eq_some_iff.mp h
        have hlen := takenF_length _ _ ht
        simp only at h hlen
        by_cases hok : partsOk t = true
        · rw [if_neg (by simp [hok])] at h
          match t, hlen with
          | [n0, n1, n2, n3, n4, n5, n6, n7, n8], _ =>
            simp only [List.getD_cons_zero, List.getD_cons_succ] at h
            by_cases h8 : n8 = 0
            · rw [if_neg (by simp [h8])] at h
              obtain ⟨gd, hgd, h⟩ := Option.bind_eq_some_iff.mp h
              refine (head_Read_whole k A0 c0 l0 n0 n1 n2 n3 n4 n5 n6 n7 n8 p' e' w (by omega) hr0 hc0 hp ht hok gd hgd).mono fun e w' hw => ?_
              cases gd with
              | false =>
                rw [if_pos rfl] at h
                cases h
                exact ⟨hw.2.1 h8 rfl, hw.2.2.2⟩
              | true =>
                rw [if_neg (by simp)] at h
                cases h
                exact ⟨hw.2.2.1 h8 rfl, hw.2.2.2⟩
            · rw [if_pos h8] at h
              cases h
              obtain ⟨gd, hgd⟩ : ∃ gd, head_Good.f (n0 + 1) (8 * n1) (n2 == 1) n3 (16 * (n4 + 1)) n5 n6 = some gd := good_some _ _ _ _ _ _ _
              exact (head_Read_whole k A0 c0 l0 n0 n1 n2 n3 n4 n5 n6 n7 n8 p' e' w (by omega) hr0 hc0 hp ht hok gd hgd).mono fun e w' hw => ⟨hw.1 h8, hw.2.2.2⟩
        · rw [if_pos (by simpa using hok)] at h
          cases h
end Go.Proofs.Ytofjckfdofkikaa.P
