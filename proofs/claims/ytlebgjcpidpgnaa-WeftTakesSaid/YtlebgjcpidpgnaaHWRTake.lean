/- sackbutref11.Take: the weave that comes next, by the document. -/
import Derived.Test.YtlebgjcpidpgnaaPx0
import Derived.Test.YtlebgjcpidpgnaaHWRGood
import Derived.Test.YtlebgjcpidpgnaaHWTake
import Derived.Test.YtlebgjcpidpgnaaPx3
import Derived.Sort.LoopGhostIn
import Derived.Deep.DeepCutAuto
namespace Go.Proofs.Ytlebgjcpidpgnaa.P
open Go Go.RowKit Go.Proofs.YtlebgjcpidpgnaaW.PrintWords Go.Proofs.YtlebgjcpidpgnaaW.PrintLast Go.Proofs.YtlebgjcpidpgnaaW.PrintMore
set_option linter.unusedVariables false
set_option linter.unusedSimpArgs false

theorem puts3 {W : World} {g t : Nat} {a0 a1 a2 : Value} (v0 v1 v2 : Value) (h : W.heap[g]? = some (.cells #[a0, a1, a2] t (0, 0))) :
    (((W.setCell ⟨g, 0, none⟩ v0).setCell ⟨g, 1, none⟩ v1).setCell ⟨g, 2, none⟩ v2).heap[g]? = some (.cells #[v0, v1, v2] t (0, 0)) := by
  have h0 := blk_put (cs' := #[v0, a1, a2]) h 0 v0 rfl
  have h1 := blk_put (cs' := #[v0, v1, a2]) h0 1 v1 rfl
  have h2 := blk_put (cs' := #[v0, v1, v2]) h1 2 v2 rfl
  exact h2
theorem below3 {w W : World} {g : Nat} (v0 v1 v2 : Value) (h : Below w.heap.size w W) (hg : w.heap.size ≤ g) :
    Below w.heap.size w (((W.setCell ⟨g, 0, none⟩ v0).setCell ⟨g, 1, none⟩ v1).setCell ⟨g, 2, none⟩ v2) :=
  ((h.setCell (p := ⟨g, 0, none⟩) hg v0).setCell (p := ⟨g, 1, none⟩) hg v1).setCell (p := ⟨g, 2, none⟩) hg v2
theorem blk3 {w : World} {g t : Nat} {a0 a1 a2 : Value} (h : w.heap[g]? = some (.cells #[a0, a1, a2] t (0, 0))) :
    (w.frozen? ⟨g, 0, none⟩ = false ∧ w.frozen? ⟨g, 1, none⟩ = false ∧ w.frozen? ⟨g, 2, none⟩ = false) ∧
    (w.cell? ⟨g, 0, none⟩ = some a0 ∧ w.cell? ⟨g, 1, none⟩ = some a1 ∧ w.cell? ⟨g, 2, none⟩ = some a2) :=
  ⟨⟨blk_frozen h 0, blk_frozen h 1, blk_frozen h 2⟩,
    ⟨(blk_cell h 0).trans rfl, (blk_cell h 1).trans rfl, (blk_cell h 2).trans rfl⟩⟩
theorem other3 {W : World} {g k : Nat} (v0 v1 v2 : Value) (h : k ≠ g) : (((W.setCell ⟨g, 0, none⟩ v0).setCell ⟨g, 1, none⟩ v1).setCell ⟨g, 2, none⟩ v2).heap[k]? = W.heap[k]? :=
  ((Below.heap_setCell ((W.setCell ⟨g, 0, none⟩ v0).setCell ⟨g, 1, none⟩ v1) ⟨g, 2, none⟩ v2 k h).trans ((Below.heap_setCell (W.setCell ⟨g, 0, none⟩ v0) ⟨g, 1, none⟩ v1 k h).trans (Below.heap_setCell W ⟨g, 0, none⟩ v0 k h)))
theorem other5 {W : World} {g k : Nat} (v0 v1 v2 v3 v4 : Value) (h : k ≠ g) : (((((W.setCell ⟨g, 0, none⟩ v0).setCell ⟨g, 1, none⟩ v1).setCell ⟨g, 2, none⟩ v2).setCell ⟨g, 3, none⟩ v3).setCell ⟨g, 4, none⟩ v4).heap[k]? = W.heap[k]? :=
  ((Below.heap_setCell ((((W.setCell ⟨g, 0, none⟩ v0).setCell ⟨g, 1, none⟩ v1).setCell ⟨g, 2, none⟩ v2).setCell ⟨g, 3, none⟩ v3) ⟨g, 4, none⟩ v4 k h).trans ((Below.heap_setCell (((W.setCell ⟨g, 0, none⟩ v0).setCell ⟨g, 1, none⟩ v1).setCell ⟨g, 2, none⟩ v2) ⟨g, 3, none⟩ v3 k h).trans ((Below.heap_setCell ((W.setCell ⟨g, 0, none⟩ v0).setCell ⟨g, 1, none⟩ v1) ⟨g, 2, none⟩ v2 k h).trans ((Below.heap_setCell (W.setCell ⟨g, 0, none⟩ v0) ⟨g, 1, none⟩ v1 k h).trans (Below.heap_setCell W ⟨g, 0, none⟩ v0 k h)))))

abbrev readerO (s : ByteArray) (a e : Int) : Obj := .cells #[.string s, .int .i64 a, .int .i64 e] 71
def sackbutref11_Take.f (k : Nat) (s : ByteArray) (a e c : Int) : Option (ByteArray × Int × Int × Bool × Int × Int × Int × Int) :=
  (sackbutref01_Take.f k s a e 1).bind fun t => if t.2.2.2 = 0 then some (t.1, t.2.1, t.2.2.1, false, 0, 0, 0, 0) else
  (sackbutref01_Take.f k t.1 t.2.1 t.2.2.1 3).bind fun m => (sackbutref01_Int.f k m.1 m.2.1 m.2.2.1 5).bind fun g0 => (sackbutref01_Int.f k g0.1 g0.2.1 g0.2.2.1 5).bind fun g1 => (sackbutref01_Int.f k g1.1 g1.2.1 g1.2.2.1 5).bind fun g2 =>
  if g2.2.2.1 = 0 then (sackbutref11_Good.f k true m.2.2.2 g0.2.2.2 g1.2.2.2 g2.2.2.2 c).bind fun gd => if gd = true then some (g2.1, g2.2.1, 0, true, m.2.2.2, g0.2.2.2, g1.2.2.2, g2.2.2.2) else some (g2.1, g2.2.1, 2, false, 0, 0, 0, 0)
  else some (g2.1, g2.2.1, g2.2.2.1, false, 0, 0, 0, 0)
theorem sackbutref11_Take.mono (s : ByteArray) (a e c : Int) (k : Nat) : LeO (sackbutref11_Take.f k s a e c) (sackbutref11_Take.f (k + 1) s a e c) := by
  unfold sackbutref11_Take.f
  refine LeO.bind (sackbutref01_Take.mono _ _ _ _ _) (fun t => ?_)
  split
  · exact LeO.refl _
  refine LeO.bind (sackbutref01_Take.mono _ _ _ _ _) (fun m => ?_)
  exact LeO.bind (sackbutref01_Int.mono _ _ _ _ _) (fun _ => LeO.bind (sackbutref01_Int.mono _ _ _ _ _) (fun _ => LeO.bind (sackbutref01_Int.mono _ _ _ _ _) (fun _ => LeO.refl _)))
def nthS (a b c d : ByteArray) : Nat → ByteArray
  | 0 => a
  | 1 => b
  | 2 => c
  | _ => d
def sackbutref11_Take.T4 : Bool × List (List Nat × List Nat) := (true, [([], []), ([], []), ([0, 0], [0]), ([1, 2, 0, 1, 2], [1])])
def sackbutref11_Take.B4 : List Nat := [0, 0, 1, 7]
theorem sackbutref11_Take.tab4 : rtab .any (opsOf Try.f38 4) = sackbutref11_Take.T4 := by kernel_rfl
theorem sackbutref11_Take.bits4 : waitsOk sackbutref11_Take.T4.2 sackbutref11_Take.B4 = true := by kernel_rfl
def sackbutref11_Take.T18 : Bool × List (List Nat × List Nat) := (true, [([], []), ([], []), ([0, 0], [0]), ([1, 2, 0, 1, 2], [1])])
def sackbutref11_Take.B18 : List Nat := [0, 0, 1, 7]
theorem sackbutref11_Take.tab18 : rtab .any (opsOf Try.f38 18) = sackbutref11_Take.T18 := by kernel_rfl
theorem sackbutref11_Take.bits18 : waitsOk sackbutref11_Take.T18.2 sackbutref11_Take.B18 = true := by kernel_rfl
set_option maxHeartbeats 8000000 in
set_option maxRecDepth 100000 in
theorem sackbutref11_Take.calls (k : Nat) (s : ByteArray) (a e c : Int) (r1 : ByteArray) (r2 r3 : Int) (r4 : Bool) (r5 r6 r7 r8 : Int) (w : World) (h : sackbutref11_Take.f k s a e c = some (r1, r2, r3, r4, r5, r6, r7, r8)) :
    Calls Try.prog 38 #[.agg #[.string s, .int .i64 a, .int .i64 e], .int .i64 c] w fun ee w' => ee = .returned (.tuple #[.agg #[.string r1, .int .i64 r2, .int .i64 r3], .agg #[.bool r4, .int .i64 r5, .int .i64 r6, .int .i64 r7, .int .i64 r8]]) ∧ Below w.heap.size w w' := by
  have hu := Try.underlying44
  have hu3 := Try.underlying42
  have hur := Try.underlying71
  obtain ⟨⟨s1, a1, e1, t⟩, ht, hF⟩ := Option.bind_eq_some_iff.mp h
  simp only at hF
  have HT := Aside0.mk ht
  have HF := Aside0.mk hF
  have hB1 := below_alloc (below_alloc (below_alloc (Below.refl w.heap.size w) (readerO s a e)) (readerO ⟨#[]⟩ 0 0)) (weaveO false 0 0 0 0)
  have h21 := blk_alloc (blk_alloc (blk_new w (readerO s a e)) (readerO ⟨#[]⟩ 0 0)) (weaveO false 0 0 0 0)
  have h41 := blk_alloc (blk_new (w.alloc (readerO s a e)) (readerO ⟨#[]⟩ 0 0)) (weaveO false 0 0 0 0)
  have h51 := blk_new ((w.alloc (readerO s a e)).alloc (readerO ⟨#[]⟩ 0 0)) (weaveO false 0 0 0 0)
  have hz1 : (w.alloc (readerO s a e)).heap.size = w.heap.size + 1 := Array.size_push _
  rw [show ((w.alloc (readerO s a e)).alloc (readerO ⟨#[]⟩ 0 0)).heap.size = (w.alloc (readerO s a e)).heap.size + 1 from Array.size_push _, hz1] at h51
  rw [hz1] at h41
  clear h ht hF hz1
  go_enter Try.func38, Try.ntmps38
  go_wp2_with fail
  generalize ((w.alloc (readerO s a e)).alloc (readerO ⟨#[]⟩ 0 0)).alloc (weaveO false 0 0 0 0) = w1 at hB1 h21 h41 h51 ⊢
  obtain ⟨gb, hgb⟩ : ∃ q, w.heap.size = q := ⟨_, rfl⟩
  obtain ⟨g4, hg4⟩ : ∃ q, gb + 1 = q := ⟨_, rfl⟩
  obtain ⟨g5, hg5⟩ : ∃ q, gb + 1 + 1 = q := ⟨_, rfl⟩
  rw [hgb] at h21 h41 h51 ⊢
  rw [hg5] at h51 ⊢
  rw [hg4] at h41 ⊢
  have HGB : Aside0 (w.heap.size ≤ gb) := ⟨by omega⟩
  have HG4 : Aside0 (w.heap.size ≤ g4) := ⟨by omega⟩
  have HG5 : Aside0 (w.heap.size ≤ g5) := ⟨by omega⟩
  have HNE0 : Aside0 (gb < g4 ∧ g4 < g5) := ⟨by omega⟩
  clear hgb hg4 hg5
  (with_reducible refine (sackbutref01_Take.calls k s a e 1 s1 a1 e1 t w1 HT.out).mono ?_)
  rintro ee w2 ⟨rfl, hb2⟩
  have HB2 := Aside0.mk (below_then hB1 hB1.size hb2)
  have H22 := Aside0.mk (blk_below h21 hb2)
  have H42 := Aside0.mk (blk_below h41 hb2)
  have H52 := Aside0.mk (blk_below h51 hb2)
  clear hb2 hB1 h21 h41 h51 HT
  obtain ⟨⟨hk0, hk1, hk2⟩, ⟨hx0, hx1, hx2⟩⟩ := blk3 H22.out
  go_upto_region 3 with fail
  have h7s : ((((w2.setCell ⟨gb, 0, none⟩ (.string s1)).setCell ⟨gb, 1, none⟩ (.int .i64 a1)).setCell ⟨gb, 2, none⟩ (.int .i64 e1))).heap.size = w2.heap.size := by simp [World.setCell]
  have hB3 := below_alloc (below3 (.string s1) (.int .i64 a1) (.int .i64 e1) HB2.out HGB.out) (weaveO false 0 0 0 0)
  have h23 := blk_alloc (puts3 (.string s1) (.int .i64 a1) (.int .i64 e1) H22.out) (weaveO false 0 0 0 0)
  have h43 := blk_alloc ((other3 (W := w2) (g := gb) (k := g4) (.string s1) (.int .i64 a1) (.int .i64 e1) (by have := HNE0.out; omega)).trans H42.out) (weaveO false 0 0 0 0)
  have h53 := blk_alloc ((other3 (W := w2) (g := gb) (k := g5) (.string s1) (.int .i64 a1) (.int .i64 e1) (by have := HNE0.out; omega)).trans H52.out) (weaveO false 0 0 0 0)
  have h73 := blk_new ((((w2.setCell ⟨gb, 0, none⟩ (.string s1)).setCell ⟨gb, 1, none⟩ (.int .i64 a1)).setCell ⟨gb, 2, none⟩ (.int .i64 e1))) (weaveO false 0 0 0 0)
  rw [h7s] at h73
  have hg57 : g5 < w2.heap.size := blk_lt H52.out
  obtain ⟨g7, hg7⟩ : ∃ q, w2.heap.size = q := ⟨_, rfl⟩
  rw [hg7] at h73 hg57 ⊢
  generalize ((((w2.setCell ⟨gb, 0, none⟩ (.string s1)).setCell ⟨gb, 1, none⟩ (.int .i64 a1)).setCell ⟨gb, 2, none⟩ (.int .i64 e1))).alloc (weaveO false 0 0 0 0) = wq at hB3 h23 h43 h53 h73 ⊢
  have HB := Aside0.mk hB3
  have H2 := Aside0.mk h23
  have H4 := Aside0.mk h43
  have H5 := Aside0.mk h53
  have H7 := Aside0.mk h73
  have HNE : Aside0 (gb < g4 ∧ g4 < g5 ∧ g5 < g7) := ⟨by have := HNE0.out; omega⟩
  have HG7 : Aside0 (w.heap.size ≤ g7) := ⟨by have := HG5.out; omega⟩
  clear hB3 h23 h43 h53 h73 h7s hg57 hg7 hk0 hk1 hk2 hx0 hx1 hx2 HB2 H22 H42 H52 HNE0
  by_cases ht0 : t = 0
  · have hF := HF.out
    rw [if_pos ht0] at hF
    have hb0 : (t == 0) = true := by simp [ht0]
    have HFF := Aside0.mk hF
    clear ht0 hF HF
    go_wp2_with fail
    refine start_ (n := 4) (S := fun w' => True) (ds := []) #[false, false, false, false] (by kernel_rfl) rfl rfl trivial (fun hHeld => ?_)
    refine with_tabW sackbutref11_Take.tab4 sackbutref11_Take.bits4 (fun HT_ HW_ => ?_)
    obtain ⟨wd, hwd⟩ : ∃ wd, wq.drew = wd := ⟨_, rfl⟩
    rw [hwd]
    have HBD : Aside0 (Below w.heap.size w wd) := ⟨by rw [← hwd]; exact below_drew HB.out⟩
    have H2D : Aside0 (wd.heap[gb]? = some (readerO s1 a1 e1)) := ⟨by rw [← hwd]; exact blk_drew H2.out⟩
    have H7D : Aside0 (wd.heap[g7]? = some (.cells #[.bool false, .int .i64 0, .int .i64 0, .int .i64 0, .int .i64 0] 44)) := ⟨by rw [← hwd]; exact blk_drew H7.out⟩
    have H4D : Aside0 (wd.heap[g4]? = some (readerO ⟨#[]⟩ 0 0)) := ⟨by rw [← hwd]; exact blk_drew H4.out⟩
    have H5D : Aside0 (wd.heap[g5]? = some (weaveO false 0 0 0 0)) := ⟨by rw [← hwd]; exact blk_drew H5.out⟩
    clear hwd hHeld
    refine inv_at [0, 1, 2, 3] (fun a0_ b a w' => a = putSel a0_ b [(0, 19, .agg #[.string s1, .int .i64 a1, .int .i64 e1]), (1, 20, .agg #[.bool false, .int .i64 0, .int .i64 0, .int .i64 0, .int .i64 0])] ∧ (Below w.heap.size w w') ∧ (w'.heap[gb]? = some (readerO s1 a1 e1)) ∧ (w'.heap[g7]? = some (.cells #[.bool false, .int .i64 0, .int .i64 0, .int .i64 0, .int .i64 0] 44)) ∧ (b 2 = false → w'.heap[g4]? = some (readerO ⟨#[]⟩ 0 0)) ∧ (b 2 = true → w'.heap[g4]? = some (readerO s1 a1 e1)) ∧ (b 3 = false → w'.heap[g5]? = some (weaveO false 0 0 0 0)) ∧ (b 3 = true → w'.heap[g5]? = some (.cells #[.bool false, .int .i64 0, .int .i64 0, .int .i64 0, .int .i64 0] 44))) HT_.out HW_.out (by kernel_rfl) (by kernel_rfl) ?_ ?_ ?_
    · exact ⟨by simp only [putSel, Bool.false_eq_true, if_false], HBD.out, H2D.out, H7D.out, fun _ => H4D.out, fun h_ => absurd h_ (by decide), fun _ => H5D.out, fun h_ => absurd h_ (by decide)⟩
    · skip
      refine steps_cons ?_ ?_
      · rintro b a w' ⟨ha, Q_FB, Q_F2, Q_F7, Q_N4, Q_Y4, Q_N5, Q_Y5⟩ hb_ hon hoff
        refine ⟨_, rfl, fun K hK => ?_⟩
        have e2 : a.tmps[2]? = some (.pointer (some ⟨gb, 0, none⟩)) := by rw [ha]; exact (putSel_off rfl).trans rfl
        replace ha := Aside0.mk ha
        have FB := Aside0.mk Q_FB
        have F2 := Aside0.mk Q_F2
        have F7 := Aside0.mk Q_F7
        have N4 := Aside0.mk (Q_N4 (hoff 2 (by kernel_rfl)))
        have N5 := Aside0.mk (Q_N5 (hoff 3 (by kernel_rfl)))
        obtain ⟨-, ⟨hy0, hy1, hy2⟩⟩ := blk3 F2.out
        refine value_ (w1 := w') (v := .agg #[.string s1, .int .i64 a1, .int .i64 e1]) (by rfl) rfl ?_ ?_
        · go_simp
          (try simp only [i64_w])
          try rfl
        refine hK.out _ _ ⟨(by rw [ha.out]; exact putSel_upk 0 hb_ rfl rfl rfl), Q_FB, Q_F2, Q_F7, Q_N4, fun h0_ => absurd ((hoff 2 (by kernel_rfl)).symm.trans h0_) (by decide), Q_N5, fun h0_ => absurd ((hoff 3 (by kernel_rfl)).symm.trans h0_) (by decide)⟩
      refine steps_cons ?_ ?_
      · rintro b a w' ⟨ha, Q_FB, Q_F2, Q_F7, Q_N4, Q_Y4, Q_N5, Q_Y5⟩ hb_ hon hoff
        refine ⟨_, rfl, fun K hK => ?_⟩
        have e7 : a.tmps[7]? = some (.pointer (some ⟨g7, 0, none⟩)) := by rw [ha]; exact (putSel_off rfl).trans rfl
        replace ha := Aside0.mk ha
        have FB := Aside0.mk Q_FB
        have F2 := Aside0.mk Q_F2
        have F7 := Aside0.mk Q_F7
        have N5 := Aside0.mk (Q_N5 (hoff 3 (by kernel_rfl)))
        obtain ⟨-, ⟨hy0, hy1, hy2, hy3, hy4⟩⟩ := blk5 F7.out
        refine value_ (w1 := w') (v := .agg #[.bool false, .int .i64 0, .int .i64 0, .int .i64 0, .int .i64 0]) (by rfl) rfl ?_ ?_
        · go_simp
          (try simp only [i64_w])
          try rfl
        refine hK.out _ _ ⟨(by rw [ha.out]; exact putSel_upk 1 hb_ rfl rfl rfl), Q_FB, Q_F2, Q_F7, Q_N4, Q_Y4, Q_N5, fun h0_ => absurd ((hoff 3 (by kernel_rfl)).symm.trans h0_) (by decide)⟩
      refine steps_cons ?_ ?_
      · rintro b a w' ⟨ha, Q_FB, Q_F2, Q_F7, Q_N4, Q_Y4, Q_N5, Q_Y5⟩ hb_ hon hoff
        refine ⟨_, rfl, fun K hK => ?_⟩
        have e4 : a.tmps[4]? = some (.pointer (some ⟨g4, 0, none⟩)) := by rw [ha]; exact (putSel_off rfl).trans rfl
        have e19 : a.tmps[19]? = some (.agg #[.string s1, .int .i64 a1, .int .i64 e1]) := by rw [ha]; exact putSel_on (e := (0, 19, .agg #[.string s1, .int .i64 a1, .int .i64 e1])) 0 rfl rfl (hon 0 (by kernel_rfl)) rfl
        replace ha := Aside0.mk ha
        have FB := Aside0.mk Q_FB
        have F2 := Aside0.mk Q_F2
        have F7 := Aside0.mk Q_F7
        have N4 := Aside0.mk (Q_N4 hb_)
        have N5 := Aside0.mk (Q_N5 (hoff 3 (by kernel_rfl)))
        obtain ⟨⟨hk0, hk1, hk2⟩, ⟨hx0, hx1, hx2⟩⟩ := blk3 N4.out
        refine skip_ (w1 := (((w'.setCell ⟨g4, 0, none⟩ (.string s1)).setCell ⟨g4, 1, none⟩ (.int .i64 a1)).setCell ⟨g4, 2, none⟩ (.int .i64 e1))) (by rfl) rfl ?_ ?_
        · go_simp
          try rfl
        refine hK.out _ _ ⟨(by rw [ha.out]; exact putSel_none (v := undef) rfl), below3 (.string s1) (.int .i64 a1) (.int .i64 e1) FB.out HG4.out, (other3 (.string s1) (.int .i64 a1) (.int .i64 e1) (by have := HNE.out; omega)).trans F2.out, (other3 (.string s1) (.int .i64 a1) (.int .i64 e1) (by have := HNE.out; omega)).trans F7.out, fun h0_ => absurd ((up_self b 2).symm.trans h0_) (by decide), fun _ => puts3 (.string s1) (.int .i64 a1) (.int .i64 e1) N4.out, fun _ => (other3 (.string s1) (.int .i64 a1) (.int .i64 e1) (by have := HNE.out; omega)).trans N5.out, fun h0_ => absurd ((hoff 3 (by kernel_rfl)).symm.trans h0_) (by decide)⟩
      refine steps_cons ?_ ?_
      · rintro b a w' ⟨ha, Q_FB, Q_F2, Q_F7, Q_N4, Q_Y4, Q_N5, Q_Y5⟩ hb_ hon hoff
        refine ⟨_, rfl, fun K hK => ?_⟩
        have e5 : a.tmps[5]? = some (.pointer (some ⟨g5, 0, none⟩)) := by rw [ha]; exact (putSel_off rfl).trans rfl
        have e20 : a.tmps[20]? = some (.agg #[.bool false, .int .i64 0, .int .i64 0, .int .i64 0, .int .i64 0]) := by rw [ha]; exact putSel_on (e := (1, 20, .agg #[.bool false, .int .i64 0, .int .i64 0, .int .i64 0, .int .i64 0])) 1 rfl rfl (hon 1 (by kernel_rfl)) rfl
        replace ha := Aside0.mk ha
        have FB := Aside0.mk Q_FB
        have F2 := Aside0.mk Q_F2
        have F7 := Aside0.mk Q_F7
        have Y4 := Aside0.mk (Q_Y4 (hon 2 (by kernel_rfl)))
        have N5 := Aside0.mk (Q_N5 hb_)
        obtain ⟨⟨hk0, hk1, hk2, hk3, hk4⟩, ⟨hx0, hx1, hx2, hx3, hx4⟩⟩ := blk5 N5.out
        refine skip_ (w1 := (((((w'.setCell ⟨g5, 0, none⟩ (.bool false)).setCell ⟨g5, 1, none⟩ (.int .i64 0)).setCell ⟨g5, 2, none⟩ (.int .i64 0)).setCell ⟨g5, 3, none⟩ (.int .i64 0)).setCell ⟨g5, 4, none⟩ (.int .i64 0))) (by rfl) rfl ?_ ?_
        · go_simp
          try rfl
        refine hK.out _ _ ⟨(by rw [ha.out]; exact putSel_none (v := undef) rfl), below5 (.bool false) (.int .i64 0) (.int .i64 0) (.int .i64 0) (.int .i64 0) FB.out HG5.out, (other5 (.bool false) (.int .i64 0) (.int .i64 0) (.int .i64 0) (.int .i64 0) (by have := HNE.out; omega)).trans F2.out, (other5 (.bool false) (.int .i64 0) (.int .i64 0) (.int .i64 0) (.int .i64 0) (by have := HNE.out; omega)).trans F7.out, fun h0_ => absurd ((hon 2 (by kernel_rfl)).symm.trans h0_) (by decide), fun _ => (other5 (.bool false) (.int .i64 0) (.int .i64 0) (.int .i64 0) (.int .i64 0) (by have := HNE.out; omega)).trans Y4.out, fun h0_ => absurd ((up_self b 3).symm.trans h0_) (by decide), fun _ => puts5 (.bool false) (.int .i64 0) (.int .i64 0) (.int .i64 0) (.int .i64 0) N5.out⟩
      exact steps_nil
    · rintro b a w' hall ⟨ha, Q_FB, Q_F2, Q_F7, Q_N4, Q_Y4, Q_N5, Q_Y5⟩
      have hb0_ := hall 0 (by kernel_rfl)
      have hb1_ := hall 1 (by kernel_rfl)
      have hb2_ := hall 2 (by kernel_rfl)
      have hb3_ := hall 3 (by kernel_rfl)
      subst ha
      simp only [putSel, hb0_, hb1_, hb2_, hb3_, if_true, Act.put, List.setIfInBounds_toArray, List.set_cons_zero, List.set_cons_succ]
      have FB := Aside0.mk Q_FB
      clear Q_FB
      have F2 := Aside0.mk Q_F2
      clear Q_F2
      have F7 := Aside0.mk Q_F7
      clear Q_F7
      clear Q_N4
      have Y4 := Aside0.mk (Q_Y4 hb2_)
      clear Q_Y4
      clear Q_N5
      have Y5 := Aside0.mk (Q_Y5 hb3_)
      clear Q_Y5
      clear hall hb0_ hb1_ hb2_ hb3_
      go_wp2_with fail
      refine bodyPost_ret (results_cc rfl _ _ g4 g5 71 44 #[.string s1, .int .i64 a1, .int .i64 e1] #[.bool false, .int .i64 0, .int .i64 0, .int .i64 0, .int .i64 0] (0, 0) (0, 0) _ _ rfl Y4.out hur rfl (by kernel_rfl) rfl Y5.out hu rfl (by kernel_rfl)) rfl ?_
      have hF := HFF.out
      cases hF
      exact ⟨rfl, FB.out⟩
  · have hF := HF.out
    rw [if_neg ht0] at hF
    have hb0 : (t == 0) = false := by simp [ht0]
    obtain ⟨⟨sm, am, em, M⟩, hm, hF⟩ := Option.bind_eq_some_iff.mp hF
    obtain ⟨⟨s3, a3, e3, x0⟩, hs0, hF⟩ := Option.bind_eq_some_iff.mp hF
    obtain ⟨⟨s4, a4, e4, x1⟩, hs1, hF⟩ := Option.bind_eq_some_iff.mp hF
    obtain ⟨⟨s5, a5, e5, x2⟩, hs2, hF⟩ := Option.bind_eq_some_iff.mp hF
    simp only at hF hm hs0 hs1 hs2
    have HF2 := Aside0.mk hF
    have HM := Aside0.mk hm
    have hstep : ∀ i, i < 3 → sackbutref01_Int.f k (nthS sm s3 s4 s5 i) (nth4 am a3 a4 a5 i) (nth4 em e3 e4 e5 i) 5 = some (nthS sm s3 s4 s5 (i + 1), nth4 am a3 a4 a5 (i + 1), nth4 em e3 e4 e5 (i + 1), nth4 x0 x1 x2 0 i) ∧ (∃ q, (gainC M x0 x1 x2 i)[2 + i]? = some (.int .i64 q)) ∧ (gainC M x0 x1 x2 i).setIfInBounds (2 + i) (.int .i64 (nth4 x0 x1 x2 0 i)) = gainC M x0 x1 x2 (i + 1) := by
      intro i hi
      have h3 : i = 0 ∨ i = 1 ∨ i = 2 := by omega
      rcases h3 with rfl | rfl | rfl
      · exact ⟨hs0, ⟨0, rfl⟩, rfl⟩
      · exact ⟨hs1, ⟨0, rfl⟩, rfl⟩
      · exact ⟨hs2, ⟨0, rfl⟩, rfl⟩
    have HS := Aside0.mk hstep
    clear hF hm hs0 hs1 hs2 hstep HF ht0
    obtain ⟨⟨hl0, hl1, hl2, hl3, hl4⟩, ⟨hy0, hy1, hy2, hy3, hy4⟩⟩ := blk5 H7.out
    obtain ⟨⟨hk0, hk1, hk2⟩, ⟨hx0, hx1, hx2⟩⟩ := blk3 H2.out
    have hgn : gb ≠ g7 := by have := HNE.out; omega
    have hgn' : g7 ≠ gb := by have := HNE.out; omega
    go_wp2_with fail
    have hB4 := HB.out.setCell (p := ⟨g7, 0, none⟩) HG7.out (.bool true)
    have h24 := (Below.heap_setCell wq ⟨g7, 0, none⟩ (.bool true) gb hgn).trans H2.out
    have h44 := (Below.heap_setCell wq ⟨g7, 0, none⟩ (.bool true) g4 (by have := HNE.out; show g4 ≠ g7; omega)).trans H4.out
    have h54 := (Below.heap_setCell wq ⟨g7, 0, none⟩ (.bool true) g5 (by have := HNE.out; show g5 ≠ g7; omega)).trans H5.out
    have h74 := blk_put (cs' := #[.bool true, .int .i64 0, .int .i64 0, .int .i64 0, .int .i64 0]) H7.out 0 (.bool true) rfl
    generalize wq.setCell ⟨g7, 0, none⟩ (.bool true) = w4 at hB4 h24 h44 h54 h74 ⊢
    clear hl0 hl1 hl2 hl3 hl4 hy0 hy1 hy2 hy3 hy4 hk0 hk1 hk2 hx0 hx1 hx2 HB H2 H4 H5 H7
    (with_reducible refine (sackbutref01_Take.calls k s1 a1 e1 3 sm am em M w4 HM.out).mono ?_)
    rintro ee w5 ⟨rfl, hb5⟩
    have HB5 := Aside0.mk (below_then hB4 hB4.size hb5)
    have H25 := Aside0.mk (blk_below h24 hb5)
    have H45 := Aside0.mk (blk_below h44 hb5)
    have H55 := Aside0.mk (blk_below h54 hb5)
    have H75 := Aside0.mk (blk_below h74 hb5)
    clear hb5 hB4 h24 h44 h54 h74 HM
    obtain ⟨⟨hl0, hl1, hl2, hl3, hl4⟩, ⟨hy0, hy1, hy2, hy3, hy4⟩⟩ := blk5 H75.out
    obtain ⟨⟨hk0, hk1, hk2⟩, ⟨hx0, hx1, hx2⟩⟩ := blk3 H25.out
    go_wp2_with fail
    have HB6 := Aside0.mk ((below3 (.string sm) (.int .i64 am) (.int .i64 em) HB5.out HGB.out).setCell (p := ⟨g7, 1, none⟩) HG7.out (.int .i64 M))
    have H26 := Aside0.mk ((Below.heap_setCell _ ⟨g7, 1, none⟩ (.int .i64 M) gb hgn).trans (puts3 (.string sm) (.int .i64 am) (.int .i64 em) H25.out))
    have H46 := Aside0.mk ((Below.heap_setCell _ ⟨g7, 1, none⟩ (.int .i64 M) g4 (by have := HNE.out; show g4 ≠ g7; omega)).trans ((other3 (W := w5) (g := gb) (k := g4) (.string sm) (.int .i64 am) (.int .i64 em) (by have := HNE.out; omega)).trans H45.out))
    have H56 := Aside0.mk ((Below.heap_setCell _ ⟨g7, 1, none⟩ (.int .i64 M) g5 (by have := HNE.out; show g5 ≠ g7; omega)).trans ((other3 (W := w5) (g := gb) (k := g5) (.string sm) (.int .i64 am) (.int .i64 em) (by have := HNE.out; omega)).trans H55.out))
    have H76 := Aside0.mk (blk_put (cs' := gainC M x0 x1 x2 0) ((other3 (.string sm) (.int .i64 am) (.int .i64 em) hgn').trans H75.out) 1 (.int .i64 M) rfl)
    generalize ((((w5.setCell ⟨gb, 0, none⟩ (.string sm)).setCell ⟨gb, 1, none⟩ (.int .i64 am)).setCell ⟨gb, 2, none⟩ (.int .i64 em))).setCell ⟨g7, 1, none⟩ (.int .i64 M) = w6 at HB6 H26 H46 H56 H76 ⊢
    clear hl0 hl1 hl2 hl3 hl4 hy0 hy1 hy2 hy3 hy4 hk0 hk1 hk2 hx0 hx1 hx2 HB5 H25 H45 H55 H75
    go_loopg [28] 3 (fun kq vi wr => ∃ i : Nat, vi = .int .i64 i ∧ kq + i = 3 ∧ Aside0 (Below w.heap.size w wr) ∧ Aside0 (wr.heap[gb]? = some (readerO (nthS sm s3 s4 s5 i) (nth4 am a3 a4 a5 i) (nth4 em e3 e4 e5 i))) ∧ Aside0 (wr.heap[g4]? = some (readerO ⟨#[]⟩ 0 0)) ∧ Aside0 (wr.heap[g5]? = some (weaveO false 0 0 0 0)) ∧ Aside0 (wr.heap[g7]? = some (.cells (gainC M x0 x1 x2 i) 44)))
    case atStart => exact ⟨0, rfl, rfl, HB6, H26, H46, H56, H76⟩
    case round =>
      clear HB6 H26 H46 H56 H76
      obtain ⟨i, rfl, hk, HB, H2, H4, H5, H7⟩ := hrel
      by_cases hlt : i < 3
      · have hme : gk - 1 < gk := by omega
        have hltI : (i : Int) < 3 := by omega
        obtain ⟨hs, ⟨q, hq⟩, hset⟩ := HS.out i hlt
        obtain ⟨si, hsi⟩ : ∃ z, nthS sm s3 s4 s5 i = z := ⟨_, rfl⟩
        obtain ⟨ai, hai⟩ : ∃ z, nth4 am a3 a4 a5 i = z := ⟨_, rfl⟩
        obtain ⟨ei, hei⟩ : ∃ z, nth4 em e3 e4 e5 i = z := ⟨_, rfl⟩
        obtain ⟨xi, hxi⟩ : ∃ z, nth4 x0 x1 x2 0 i = z := ⟨_, rfl⟩
        obtain ⟨sj, hsj⟩ : ∃ z, nthS sm s3 s4 s5 (i + 1) = z := ⟨_, rfl⟩
        obtain ⟨aj, haj⟩ : ∃ z, nth4 am a3 a4 a5 (i + 1) = z := ⟨_, rfl⟩
        obtain ⟨ej, hej⟩ : ∃ z, nth4 em e3 e4 e5 (i + 1) = z := ⟨_, rfl⟩
        rw [hsi, hai, hei, hxi, hsj, haj, hej] at hs
        rw [hsi, hai, hei] at H2
        rw [hxi] at hset
        have HSX := Aside0.mk hs
        have HSE := Aside0.mk hset
        have HQ := Aside0.mk hq
        have HSJ := Aside0.mk hsj
        have HAJ := Aside0.mk haj
        have HEJ := Aside0.mk hej
        clear hs hq hset hsi hai hei hxi hsj haj hej hlt
        obtain ⟨⟨hk0, hk1, hk2⟩, ⟨hx0, hx1, hx2⟩⟩ := blk3 H2.out
        go_wp2_with fail
        (with_reducible refine (sackbutref01_Int.calls k si ai ei 5 sj aj ej xi wr HSX.out).mono ?_)
        rintro ee w7 ⟨rfl, hb7⟩
        have HB7 := Aside0.mk (below_then HB.out HB.out.size hb7)
        have H27 := Aside0.mk (blk_below H2.out hb7)
        have H47 := Aside0.mk (blk_below H4.out hb7)
        have H57 := Aside0.mk (blk_below H5.out hb7)
        have H77 := Aside0.mk (blk_below H7.out hb7)
        clear hb7 HB H2 H4 H5 H7 hk0 hk1 hk2 hx0 hx1 hx2
        obtain ⟨⟨hk0, hk1, hk2⟩, ⟨hx0, hx1, hx2⟩⟩ := blk3 H27.out
        have hcell := (blk_cell H77.out (2 + i)).trans HQ.out
        have hfz := blk_frozen H77.out (2 + i)
        have hgl : gb < w7.heap.size := blk_lt H27.out
        have hgl7 : g7 < w7.heap.size := blk_lt H77.out
        go_wp2
        go_roundg (gk - 1)
        case rel =>
          refine ⟨i + 1, by first | rfl | (congr 1), by omega, ⟨below_alloc ((below3 (.string sj) (.int .i64 aj) (.int .i64 ej) HB7.out HGB.out).setCell (p := ⟨g7, 2 + i, none⟩) HG7.out (.int .i64 xi)) (readerO sj aj ej)⟩, ⟨?_⟩, ⟨?_⟩, ⟨?_⟩, ⟨?_⟩⟩
          · rw [HSJ.out, HAJ.out, HEJ.out]
            exact blk_alloc ((Below.heap_setCell _ ⟨g7, 2 + i, none⟩ (.int .i64 xi) gb hgn).trans (puts3 (.string sj) (.int .i64 aj) (.int .i64 ej) H27.out)) (readerO sj aj ej)
          · exact blk_alloc ((Below.heap_setCell _ ⟨g7, 2 + i, none⟩ (.int .i64 xi) g4 (by have := HNE.out; show g4 ≠ g7; omega)).trans ((other3 (W := w7) (g := gb) (k := g4) (.string sj) (.int .i64 aj) (.int .i64 ej) (by have := HNE.out; omega)).trans H47.out)) (readerO sj aj ej)
          · exact blk_alloc ((Below.heap_setCell _ ⟨g7, 2 + i, none⟩ (.int .i64 xi) g5 (by have := HNE.out; show g5 ≠ g7; omega)).trans ((other3 (W := w7) (g := gb) (k := g5) (.string sj) (.int .i64 aj) (.int .i64 ej) (by have := HNE.out; omega)).trans H57.out)) (readerO sj aj ej)
          · exact blk_alloc (blk_put ((other3 (.string sj) (.int .i64 aj) (.int .i64 ej) hgn').trans H77.out) (2 + i) (.int .i64 xi) HSE.out) (readerO sj aj ej)
        case measure => exact hme
      · obtain rfl : i = 3 := by omega
        have H2' : Aside0 (wr.heap[gb]? = some (readerO s5 a5 e5)) := H2
        have H7' : Aside0 (wr.heap[g7]? = some (weaveO true M x0 x1 x2)) := H7
        clear H2 H7 hlt hk HS
        obtain ⟨⟨hk0, hk1, hk2⟩, ⟨hx0, hx1, hx2⟩⟩ := blk3 H2'.out
        by_cases he5 : e5 = 0
        · subst he5
          have hF := HF2.out
          rw [if_pos rfl] at hF
          obtain ⟨gd, hgd, hF⟩ := Option.bind_eq_some_iff.mp hF
          have HGD := Aside0.mk hgd
          have HF3 := Aside0.mk hF
          clear hF hgd HF2
          obtain ⟨-, ⟨hy0, hy1, hy2, hy3, hy4⟩⟩ := blk5 H7'.out
          go_wp2_with fail
          (with_reducible refine (sackbutref11_Good.calls k true M x0 x1 x2 c gd wr HGD.out).mono ?_)
          rintro ee wq ⟨rfl, hb7⟩
          have HBn := Aside0.mk (below_then HB.out HB.out.size hb7)
          have H2n := Aside0.mk (blk_below H2'.out hb7)
          have H4n := Aside0.mk (blk_below H4.out hb7)
          have H5n := Aside0.mk (blk_below H5.out hb7)
          have H7n := Aside0.mk (blk_below H7'.out hb7)
          clear hb7 HB H2' H4 H5 H7' hk0 hk1 hk2 hx0 hx1 hx2 hy0 hy1 hy2 hy3 hy4
          have HB := HBn
          have H2 := H2n
          have H4 := H4n
          have H5 := H5n
          have H7 := H7n
          clear HBn H2n H4n H5n H7n
          obtain ⟨⟨hk0, hk1, hk2⟩, ⟨hx0, hx1, hx2⟩⟩ := blk3 H2.out
          cases gd with
          | true =>
            go_wp2_with fail
            refine start_ (n := 4) (S := fun w' => True) (ds := []) #[false, false, false, false] (by kernel_rfl) rfl rfl trivial (fun hHeld => ?_)
            refine with_tabW sackbutref11_Take.tab18 sackbutref11_Take.bits18 (fun HT_ HW_ => ?_)
            obtain ⟨wd, hwd⟩ : ∃ wd, wq.drew = wd := ⟨_, rfl⟩
            rw [hwd]
            have HBD : Aside0 (Below w.heap.size w wd) := ⟨by rw [← hwd]; exact below_drew HB.out⟩
            have H2D : Aside0 (wd.heap[gb]? = some (readerO s5 a5 0)) := ⟨by rw [← hwd]; exact blk_drew H2.out⟩
            have H7D : Aside0 (wd.heap[g7]? = some (.cells #[.bool true, .int .i64 M, .int .i64 x0, .int .i64 x1, .int .i64 x2] 44)) := ⟨by rw [← hwd]; exact blk_drew H7.out⟩
            have H4D : Aside0 (wd.heap[g4]? = some (readerO ⟨#[]⟩ 0 0)) := ⟨by rw [← hwd]; exact blk_drew H4.out⟩
            have H5D : Aside0 (wd.heap[g5]? = some (weaveO false 0 0 0 0)) := ⟨by rw [← hwd]; exact blk_drew H5.out⟩
            clear hwd hHeld
            refine inv_at [0, 1, 2, 3] (fun a0_ b a w' => a = putSel a0_ b [(0, 58, .agg #[.string s5, .int .i64 a5, .int .i64 0]), (1, 59, .agg #[.bool true, .int .i64 M, .int .i64 x0, .int .i64 x1, .int .i64 x2])] ∧ (Below w.heap.size w w') ∧ (w'.heap[gb]? = some (readerO s5 a5 0)) ∧ (w'.heap[g7]? = some (.cells #[.bool true, .int .i64 M, .int .i64 x0, .int .i64 x1, .int .i64 x2] 44)) ∧ (b 2 = false → w'.heap[g4]? = some (readerO ⟨#[]⟩ 0 0)) ∧ (b 2 = true → w'.heap[g4]? = some (readerO s5 a5 0)) ∧ (b 3 = false → w'.heap[g5]? = some (weaveO false 0 0 0 0)) ∧ (b 3 = true → w'.heap[g5]? = some (.cells #[.bool true, .int .i64 M, .int .i64 x0, .int .i64 x1, .int .i64 x2] 44))) HT_.out HW_.out (by kernel_rfl) (by kernel_rfl) ?_ ?_ ?_
            · exact ⟨by simp only [putSel, Bool.false_eq_true, if_false], HBD.out, H2D.out, H7D.out, fun _ => H4D.out, fun h_ => absurd h_ (by decide), fun _ => H5D.out, fun h_ => absurd h_ (by decide)⟩
            · skip
              refine steps_cons ?_ ?_
              · rintro b a w' ⟨ha, Q_FB, Q_F2, Q_F7, Q_N4, Q_Y4, Q_N5, Q_Y5⟩ hb_ hon hoff
                refine ⟨_, rfl, fun K hK => ?_⟩
                have e2 : a.tmps[2]? = some (.pointer (some ⟨gb, 0, none⟩)) := by rw [ha]; exact (putSel_off rfl).trans rfl
                replace ha := Aside0.mk ha
                have FB := Aside0.mk Q_FB
                have F2 := Aside0.mk Q_F2
                have F7 := Aside0.mk Q_F7
                have N4 := Aside0.mk (Q_N4 (hoff 2 (by kernel_rfl)))
                have N5 := Aside0.mk (Q_N5 (hoff 3 (by kernel_rfl)))
                obtain ⟨-, ⟨hy0, hy1, hy2⟩⟩ := blk3 F2.out
                refine value_ (w1 := w') (v := .agg #[.string s5, .int .i64 a5, .int .i64 0]) (by rfl) rfl ?_ ?_
                · go_simp
                  (try simp only [i64_w])
                  try rfl
                refine hK.out _ _ ⟨(by rw [ha.out]; exact putSel_upk 0 hb_ rfl rfl rfl), Q_FB, Q_F2, Q_F7, Q_N4, fun h0_ => absurd ((hoff 2 (by kernel_rfl)).symm.trans h0_) (by decide), Q_N5, fun h0_ => absurd ((hoff 3 (by kernel_rfl)).symm.trans h0_) (by decide)⟩
              refine steps_cons ?_ ?_
              · rintro b a w' ⟨ha, Q_FB, Q_F2, Q_F7, Q_N4, Q_Y4, Q_N5, Q_Y5⟩ hb_ hon hoff
                refine ⟨_, rfl, fun K hK => ?_⟩
                have e7 : a.tmps[7]? = some (.pointer (some ⟨g7, 0, none⟩)) := by rw [ha]; exact (putSel_off rfl).trans rfl
                replace ha := Aside0.mk ha
                have FB := Aside0.mk Q_FB
                have F2 := Aside0.mk Q_F2
                have F7 := Aside0.mk Q_F7
                have N5 := Aside0.mk (Q_N5 (hoff 3 (by kernel_rfl)))
                obtain ⟨-, ⟨hy0, hy1, hy2, hy3, hy4⟩⟩ := blk5 F7.out
                refine value_ (w1 := w') (v := .agg #[.bool true, .int .i64 M, .int .i64 x0, .int .i64 x1, .int .i64 x2]) (by rfl) rfl ?_ ?_
                · go_simp
                  (try simp only [i64_w])
                  try rfl
                refine hK.out _ _ ⟨(by rw [ha.out]; exact putSel_upk 1 hb_ rfl rfl rfl), Q_FB, Q_F2, Q_F7, Q_N4, Q_Y4, Q_N5, fun h0_ => absurd ((hoff 3 (by kernel_rfl)).symm.trans h0_) (by decide)⟩
              refine steps_cons ?_ ?_
              · rintro b a w' ⟨ha, Q_FB, Q_F2, Q_F7, Q_N4, Q_Y4, Q_N5, Q_Y5⟩ hb_ hon hoff
                refine ⟨_, rfl, fun K hK => ?_⟩
                have e4 : a.tmps[4]? = some (.pointer (some ⟨g4, 0, none⟩)) := by rw [ha]; exact (putSel_off rfl).trans rfl
                have e58 : a.tmps[58]? = some (.agg #[.string s5, .int .i64 a5, .int .i64 0]) := by rw [ha]; exact putSel_on (e := (0, 58, .agg #[.string s5, .int .i64 a5, .int .i64 0])) 0 rfl rfl (hon 0 (by kernel_rfl)) rfl
                replace ha := Aside0.mk ha
                have FB := Aside0.mk Q_FB
                have F2 := Aside0.mk Q_F2
                have F7 := Aside0.mk Q_F7
                have N4 := Aside0.mk (Q_N4 hb_)
                have N5 := Aside0.mk (Q_N5 (hoff 3 (by kernel_rfl)))
                obtain ⟨⟨hk0, hk1, hk2⟩, ⟨hx0, hx1, hx2⟩⟩ := blk3 N4.out
                refine skip_ (w1 := (((w'.setCell ⟨g4, 0, none⟩ (.string s5)).setCell ⟨g4, 1, none⟩ (.int .i64 a5)).setCell ⟨g4, 2, none⟩ (.int .i64 0))) (by rfl) rfl ?_ ?_
                · go_simp
                  try rfl
                refine hK.out _ _ ⟨(by rw [ha.out]; exact putSel_none (v := undef) rfl), below3 (.string s5) (.int .i64 a5) (.int .i64 0) FB.out HG4.out, (other3 (.string s5) (.int .i64 a5) (.int .i64 0) (by have := HNE.out; omega)).trans F2.out, (other3 (.string s5) (.int .i64 a5) (.int .i64 0) (by have := HNE.out; omega)).trans F7.out, fun h0_ => absurd ((up_self b 2).symm.trans h0_) (by decide), fun _ => puts3 (.string s5) (.int .i64 a5) (.int .i64 0) N4.out, fun _ => (other3 (.string s5) (.int .i64 a5) (.int .i64 0) (by have := HNE.out; omega)).trans N5.out, fun h0_ => absurd ((hoff 3 (by kernel_rfl)).symm.trans h0_) (by decide)⟩
              refine steps_cons ?_ ?_
              · rintro b a w' ⟨ha, Q_FB, Q_F2, Q_F7, Q_N4, Q_Y4, Q_N5, Q_Y5⟩ hb_ hon hoff
                refine ⟨_, rfl, fun K hK => ?_⟩
                have e5 : a.tmps[5]? = some (.pointer (some ⟨g5, 0, none⟩)) := by rw [ha]; exact (putSel_off rfl).trans rfl
                have e59 : a.tmps[59]? = some (.agg #[.bool true, .int .i64 M, .int .i64 x0, .int .i64 x1, .int .i64 x2]) := by rw [ha]; exact putSel_on (e := (1, 59, .agg #[.bool true, .int .i64 M, .int .i64 x0, .int .i64 x1, .int .i64 x2])) 1 rfl rfl (hon 1 (by kernel_rfl)) rfl
                replace ha := Aside0.mk ha
                have FB := Aside0.mk Q_FB
                have F2 := Aside0.mk Q_F2
                have F7 := Aside0.mk Q_F7
                have Y4 := Aside0.mk (Q_Y4 (hon 2 (by kernel_rfl)))
                have N5 := Aside0.mk (Q_N5 hb_)
                obtain ⟨⟨hk0, hk1, hk2, hk3, hk4⟩, ⟨hx0, hx1, hx2, hx3, hx4⟩⟩ := blk5 N5.out
                refine skip_ (w1 := (((((w'.setCell ⟨g5, 0, none⟩ (.bool true)).setCell ⟨g5, 1, none⟩ (.int .i64 M)).setCell ⟨g5, 2, none⟩ (.int .i64 x0)).setCell ⟨g5, 3, none⟩ (.int .i64 x1)).setCell ⟨g5, 4, none⟩ (.int .i64 x2))) (by rfl) rfl ?_ ?_
                · go_simp
                  try rfl
                refine hK.out _ _ ⟨(by rw [ha.out]; exact putSel_none (v := undef) rfl), below5 (.bool true) (.int .i64 M) (.int .i64 x0) (.int .i64 x1) (.int .i64 x2) FB.out HG5.out, (other5 (.bool true) (.int .i64 M) (.int .i64 x0) (.int .i64 x1) (.int .i64 x2) (by have := HNE.out; omega)).trans F2.out, (other5 (.bool true) (.int .i64 M) (.int .i64 x0) (.int .i64 x1) (.int .i64 x2) (by have := HNE.out; omega)).trans F7.out, fun h0_ => absurd ((hon 2 (by kernel_rfl)).symm.trans h0_) (by decide), fun _ => (other5 (.bool true) (.int .i64 M) (.int .i64 x0) (.int .i64 x1) (.int .i64 x2) (by have := HNE.out; omega)).trans Y4.out, fun h0_ => absurd ((up_self b 3).symm.trans h0_) (by decide), fun _ => puts5 (.bool true) (.int .i64 M) (.int .i64 x0) (.int .i64 x1) (.int .i64 x2) N5.out⟩
              exact steps_nil
            · rintro b a w' hall ⟨ha, Q_FB, Q_F2, Q_F7, Q_N4, Q_Y4, Q_N5, Q_Y5⟩
              have hb0_ := hall 0 (by kernel_rfl)
              have hb1_ := hall 1 (by kernel_rfl)
              have hb2_ := hall 2 (by kernel_rfl)
              have hb3_ := hall 3 (by kernel_rfl)
              subst ha
              simp only [putSel, hb0_, hb1_, hb2_, hb3_, if_true, Act.put, List.setIfInBounds_toArray, List.set_cons_zero, List.set_cons_succ]
              have FB := Aside0.mk Q_FB
              clear Q_FB
              have F2 := Aside0.mk Q_F2
              clear Q_F2
              have F7 := Aside0.mk Q_F7
              clear Q_F7
              clear Q_N4
              have Y4 := Aside0.mk (Q_Y4 hb2_)
              clear Q_Y4
              clear Q_N5
              have Y5 := Aside0.mk (Q_Y5 hb3_)
              clear Q_Y5
              clear hall hb0_ hb1_ hb2_ hb3_
              go_wp2_with fail
              refine bodyPost_ret (results_cc rfl _ _ g4 g5 71 44 #[.string s5, .int .i64 a5, .int .i64 0] #[.bool true, .int .i64 M, .int .i64 x0, .int .i64 x1, .int .i64 x2] (0, 0) (0, 0) _ _ rfl Y4.out hur rfl (by kernel_rfl) rfl Y5.out hu rfl (by kernel_rfl)) rfl ?_
              have hF := HF3.out
              (first | rw [if_pos rfl] at hF | rw [if_pos trivial] at hF)
              cases hF
              exact ⟨rfl, FB.out⟩
          | false =>
            go_wp2_with fail
            (with_reducible refine (sackbutref01_Give.calls s5 a5 0 2 s5 a5 2 wq rfl).mono ?_)
            rintro ee w9 ⟨rfl, hb9⟩
            have HB9 := Aside0.mk (below_then HB.out HB.out.size hb9)
            have H29 := Aside0.mk (blk_below H2.out hb9)
            have H49 := Aside0.mk (blk_below H4.out hb9)
            have H59 := Aside0.mk (blk_below H5.out hb9)
            clear hb9 HB H2 H4 H5 H7 hk0 hk1 hk2 hx0 hx1 hx2
            obtain ⟨⟨hk0, hk1, hk2⟩, ⟨hx0, hx1, hx2⟩⟩ := blk3 H29.out
            obtain ⟨⟨hm0, hm1, hm2⟩, ⟨hz0, hz1, hz2⟩⟩ := blk3 H49.out
            obtain ⟨⟨hl0, hl1, hl2, hl3, hl4⟩, ⟨hy0, hy1, hy2, hy3, hy4⟩⟩ := blk5 H59.out
            have hn24 : gb ≠ g4 := by have := HNE.out; omega
            have hn25 : gb ≠ g5 := by have := HNE.out; omega
            have hn45 : g4 ≠ g5 := by have := HNE.out; omega
            have hn42 : g4 ≠ gb := by have := HNE.out; omega
            have hn52 : g5 ≠ gb := by have := HNE.out; omega
            have hn54 : g5 ≠ g4 := by have := HNE.out; omega
            go_wp2
            have hP5 := puts5 (.bool false) (.int .i64 0) (.int .i64 0) (.int .i64 0) (.int .i64 0) ((other3 (.string s5) (.int .i64 a5) (.int .i64 2) hn54).trans ((other3 (.string s5) (.int .i64 a5) (.int .i64 2) hn52).trans H59.out))
            have hP4 := (other5 (.bool false) (.int .i64 0) (.int .i64 0) (.int .i64 0) (.int .i64 0) hn45).trans (puts3 (.string s5) (.int .i64 a5) (.int .i64 2) ((other3 (.string s5) (.int .i64 a5) (.int .i64 2) hn42).trans H49.out))
            have hBB := below5 (.bool false) (.int .i64 0) (.int .i64 0) (.int .i64 0) (.int .i64 0) (below3 (.string s5) (.int .i64 a5) (.int .i64 2) (below3 (.string s5) (.int .i64 a5) (.int .i64 2) HB9.out HGB.out) HG4.out) HG5.out
            refine bodyPost_ret (results_cc rfl _ _ g4 g5 71 44 #[.string s5, .int .i64 a5, .int .i64 2] #[.bool false, .int .i64 0, .int .i64 0, .int .i64 0, .int .i64 0] (0, 0) (0, 0) _ _ rfl hP4 hur rfl (by kernel_rfl) rfl hP5 hu rfl (by kernel_rfl)) rfl ?_
            have hF := HF3.out
            (first | rw [if_neg (by simp)] at hF | skip)
            cases hF
            exact ⟨rfl, hBB⟩
        · have hF := HF2.out
          rw [if_neg he5] at hF
          have HF3 := Aside0.mk hF
          have he5b : (e5 == 0) = false := by simp [he5]
          have he5c : (e5 != 0) = true := by simp [he5]
          clear hF HF2 he5
          obtain ⟨⟨hm0, hm1, hm2⟩, ⟨hz0, hz1, hz2⟩⟩ := blk3 H4.out
          obtain ⟨⟨hl0, hl1, hl2, hl3, hl4⟩, ⟨hy0, hy1, hy2, hy3, hy4⟩⟩ := blk5 H5.out
          have hn45 : g4 ≠ g5 := by have := HNE.out; omega
          have hn54 : g5 ≠ g4 := by have := HNE.out; omega
          go_wp2
          have hP5 := puts5 (.bool false) (.int .i64 0) (.int .i64 0) (.int .i64 0) (.int .i64 0) ((other3 (.string s5) (.int .i64 a5) (.int .i64 e5) hn54).trans H5.out)
          have hP4 := (other5 (.bool false) (.int .i64 0) (.int .i64 0) (.int .i64 0) (.int .i64 0) hn45).trans (puts3 (.string s5) (.int .i64 a5) (.int .i64 e5) H4.out)
          have hBB := below5 (.bool false) (.int .i64 0) (.int .i64 0) (.int .i64 0) (.int .i64 0) (below3 (.string s5) (.int .i64 a5) (.int .i64 e5) HB.out HG4.out) HG5.out
          refine bodyPost_ret (results_cc rfl _ _ g4 g5 71 44 #[.string s5, .int .i64 a5, .int .i64 e5] #[.bool false, .int .i64 0, .int .i64 0, .int .i64 0, .int .i64 0] (0, 0) (0, 0) _ _ rfl hP4 hur rfl (by kernel_rfl) rfl hP5 hu rfl (by kernel_rfl)) rfl ?_
          have hF := HF3.out
          cases hF
          exact ⟨rfl, hBB⟩
end Go.Proofs.Ytlebgjcpidpgnaa.P
