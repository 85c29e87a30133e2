/- weft.Take: the weave that comes next. -/
import Derived.Test.YtlebgjcpidpgnaaPx0
import Derived.Test.YtlebgjcpidpgnaaHWGood
import Derived.Test.YtlebgjcpidpgnaaPx2
import Derived.Sort.LoopGhostIn
namespace Go.Proofs.Ytlebgjcpidpgnaa.P
open Go Go.RowKit Go.Proofs.YtlebgjcpidpgnaaW.PrintWords Go.Proofs.YtlebgjcpidpgnaaW.PrintLast Go.Proofs.YtlebgjcpidpgnaaW.PrintMore
set_option linter.unusedVariables false
set_option linter.unusedSimpArgs false

theorem keep_set5 {w W : World} {g b j : Nat} {v : Value} (h : KeepBut w W g none) (hb : w.heap.size ≤ b) : KeepBut w (W.setCell ⟨b, j, none⟩ v) g none :=
  ⟨Nat.le_trans h.1 (Nat.le_of_eq (by simp [World.setCell])), fun k hk hne hn => (Below.heap_setCell W ⟨b, j, none⟩ v k (by show k ≠ b; omega)).trans (h.2 k hk hne hn)⟩
theorem puts5 {W : World} {g t : Nat} {a0 a1 a2 a3 a4 : Value} (v0 v1 v2 v3 v4 : Value) (h : W.heap[g]? = some (.cells #[a0, a1, a2, a3, a4] t (0, 0))) :
    (((((W.setCell ⟨g, 0, none⟩ v0).setCell ⟨g, 1, none⟩ v1).setCell ⟨g, 2, none⟩ v2).setCell ⟨g, 3, none⟩ v3).setCell ⟨g, 4, none⟩ v4).heap[g]? = some (.cells #[v0, v1, v2, v3, v4] t (0, 0)) := by
  have h0 := blk_put (cs' := #[v0, a1, a2, a3, a4]) h 0 v0 rfl
  have h1 := blk_put (cs' := #[v0, v1, a2, a3, a4]) h0 1 v1 rfl
  have h2 := blk_put (cs' := #[v0, v1, v2, a3, a4]) h1 2 v2 rfl
  have h3 := blk_put (cs' := #[v0, v1, v2, v3, a4]) h2 3 v3 rfl
  have h4 := blk_put (cs' := #[v0, v1, v2, v3, v4]) h3 4 v4 rfl
  exact h4
theorem below5 {w W : World} {g : Nat} (v0 v1 v2 v3 v4 : Value) (h : Below w.heap.size w W) (hg : w.heap.size ≤ g) :
    Below w.heap.size w (((((W.setCell ⟨g, 0, none⟩ v0).setCell ⟨g, 1, none⟩ v1).setCell ⟨g, 2, none⟩ v2).setCell ⟨g, 3, none⟩ v3).setCell ⟨g, 4, none⟩ v4) :=
  ((((h.setCell (p := ⟨g, 0, none⟩) hg v0).setCell (p := ⟨g, 1, none⟩) hg v1).setCell (p := ⟨g, 2, none⟩) hg v2).setCell (p := ⟨g, 3, none⟩) hg v3).setCell (p := ⟨g, 4, none⟩) hg v4
theorem keep5 {w W : World} {g gr : Nat} (v0 v1 v2 v3 v4 : Value) (h : KeepBut w W gr none) (hg : w.heap.size ≤ g) :
    KeepBut w (((((W.setCell ⟨g, 0, none⟩ v0).setCell ⟨g, 1, none⟩ v1).setCell ⟨g, 2, none⟩ v2).setCell ⟨g, 3, none⟩ v3).setCell ⟨g, 4, none⟩ v4) gr none :=
  keep_set5 (keep_set5 (keep_set5 (keep_set5 (keep_set5 h hg) hg) hg) hg) hg
theorem blk5 {w : World} {g t : Nat} {a0 a1 a2 a3 a4 : Value} (h : w.heap[g]? = some (.cells #[a0, a1, a2, a3, a4] t (0, 0))) :
    (w.frozen? ⟨g, 0, none⟩ = false ∧ w.frozen? ⟨g, 1, none⟩ = false ∧ w.frozen? ⟨g, 2, none⟩ = false ∧ w.frozen? ⟨g, 3, none⟩ = false ∧ w.frozen? ⟨g, 4, none⟩ = false) ∧
    (w.cell? ⟨g, 0, none⟩ = some a0 ∧ w.cell? ⟨g, 1, none⟩ = some a1 ∧ w.cell? ⟨g, 2, none⟩ = some a2 ∧ w.cell? ⟨g, 3, none⟩ = some a3 ∧ w.cell? ⟨g, 4, none⟩ = some a4) :=
  ⟨⟨blk_frozen h 0, blk_frozen h 1, blk_frozen h 2, blk_frozen h 3, blk_frozen h 4⟩,
    ⟨(blk_cell h 0).trans rfl, (blk_cell h 1).trans rfl, (blk_cell h 2).trans rfl, (blk_cell h 3).trans rfl, (blk_cell h 4).trans rfl⟩⟩

theorem isS_set {w0 W : World} {g b : Nat} {f0 : List Int} {f1 f2 : Int} (h : IsS109 w0 W g f0 f1 f2) (hne : g ≠ b) (j : Nat) (v : Value) : IsS109 w0 (W.setCell ⟨b, j, none⟩ v) g f0 f1 f2 := by
  obtain ⟨A0, c0, hb, hg, hr⟩ := h
  exact ⟨A0, c0, (Below.heap_setCell W ⟨b, j, none⟩ v g hne).trans hb, hg, hr⟩
theorem isS_puts5 {e0 w0 W : World} {gr g : Nat} {f0 : List Int} {f1 f2 : Int} (v0 v1 v2 v3 v4 : Value) (h : IsS109 w0 W gr f0 f1 f2) (hne : gr ≠ g) :
    IsS109 w0 (((((W.setCell ⟨g, 0, none⟩ v0).setCell ⟨g, 1, none⟩ v1).setCell ⟨g, 2, none⟩ v2).setCell ⟨g, 3, none⟩ v3).setCell ⟨g, 4, none⟩ v4) gr f0 f1 f2 :=
  isS_set (isS_set (isS_set (isS_set (isS_set h hne 0 v0) hne 1 v1) hne 2 v2) hne 3 v3) hne 4 v4
/-- What is taken: a weave, the place, the failure. -/
def weft_Take.f (k : Nat) (b : List Int) (p e c : Int) : Option (Bool × Int × Int × Int × Int × Int × Int) :=
  (pipe_Reader_Take.f k b p e 1).bind fun t => if t.1 = 0 then some (false, 0, 0, 0, 0, t.2.1, t.2.2) else
  (pipe_Reader_Take.f k b t.2.1 t.2.2 3).bind fun m => if m.1 < 0 ∨ 1000 < m.1 then none else
  (pipe_Reader_Signed.f k b m.2.1 m.2.2 5).bind fun g0 => (pipe_Reader_Signed.f k b g0.2.1 g0.2.2 5).bind fun g1 => (pipe_Reader_Signed.f k b g1.2.1 g1.2.2 5).bind fun g2 =>
  if g2.2.2 = 0 then (weft_Good.f true m.1 g0.1 g1.1 g2.1 c).bind fun gd => if gd = true then some (true, m.1, g0.1, g1.1, g2.1, g2.2.1, 0) else some (false, 0, 0, 0, 0, g2.2.1, 2)
  else some (false, 0, 0, 0, 0, g2.2.1, g2.2.2)
theorem weft_Take.mono (b : List Int) (p e c : Int) (k : Nat) : LeO (weft_Take.f k b p e c) (weft_Take.f (k + 1) b p e c) := by
  unfold weft_Take.f
  refine LeO.bind (pipe_Reader_Take.mono _ _ _ _ _) (fun t => ?_)
  split
  · exact LeO.refl _
  refine LeO.bind (pipe_Reader_Take.mono _ _ _ _ _) (fun m => ?_)
  split
  · exact LeO.refl _
  exact LeO.bind (pipe_Reader_Signed.mono _ _ _ _ _) (fun _ => LeO.bind (pipe_Reader_Signed.mono _ _ _ _ _) (fun _ => LeO.bind (pipe_Reader_Signed.mono _ _ _ _ _) (fun _ => LeO.refl _)))
/-- The weave's cells behind so many gains. -/
def gainC (M x0 x1 x2 : Int) : Nat → Array Value
  | 0 => #[.bool true, .int .i64 M, .int .i64 0, .int .i64 0, .int .i64 0]
  | 1 => #[.bool true, .int .i64 M, .int .i64 x0, .int .i64 0, .int .i64 0]
  | 2 => #[.bool true, .int .i64 M, .int .i64 x0, .int .i64 x1, .int .i64 0]
  | _ => #[.bool true, .int .i64 M, .int .i64 x0, .int .i64 x1, .int .i64 x2]
def nth4 (a b c d : Int) : Nat → Int
  | 0 => a
  | 1 => b
  | 2 => c
  | _ => d
abbrev weaveO (s : Bool) (m x y z : Int) : Obj := .cells #[.bool s, .int .i64 m, .int .i64 x, .int .i64 y, .int .i64 z] 44

set_option maxHeartbeats 8000000 in
set_option maxRecDepth 100000 in
theorem weft_Take.calls (k g : Nat) (b : List Int) (p e c : Int) (r1 : Bool) (r2 r3 r4 r5 r6 r7 : Int) (w0 w : World) (hI : IsS109 w0 w g b p e) (hB : Below w0.heap.size w0 w) (h : weft_Take.f k b p e c = some (r1, r2, r3, r4, r5, r6, r7)) :
    Calls Try.prog 37 #[.pointer (some ⟨g, 0, none⟩), .int .i64 c] w fun e w' => e = .returned (.agg #[.bool r1, .int .i64 r2, .int .i64 r3, .int .i64 r4, .int .i64 r5]) ∧ IsS109 w0 w' g b r6 r7 ∧ Below w0.heap.size w0 w' ∧ KeepBut w w' g none := by
  have hu := Try.underlying44
  have hu3 := Try.underlying42
  obtain ⟨⟨t, p1, e1⟩, ht, hF⟩ := Option.bind_eq_some_iff.mp h
  simp only at hF
  have HT := Aside0.mk ht
  have HF := Aside0.mk hF
  have hI1 := (hI.alloc (weaveO false 0 0 0 0)).alloc (weaveO false 0 0 0 0)
  have hB1 := below_alloc (below_alloc hB (weaveO false 0 0 0 0)) (weaveO false 0 0 0 0)
  have hK1 := KeepBut.of_below (below_alloc (below_alloc (Below.refl w.heap.size w) (weaveO false 0 0 0 0)) (weaveO false 0 0 0 0)) g none
  have h41 := blk_alloc (blk_new w (weaveO false 0 0 0 0)) (weaveO false 0 0 0 0)
  have h51 := blk_new (w.alloc (weaveO false 0 0 0 0)) (weaveO false 0 0 0 0)
  rw [show (w.alloc (weaveO false 0 0 0 0)).heap.size = w.heap.size + 1 from Array.size_push _] at h51
  have HG0' : Aside0 (w0.heap.size ≤ w.heap.size) := ⟨hB.size⟩
  have HGT : Aside0 (g < w.heap.size) := ⟨hI.lt⟩
  clear h hI hB ht hF
  go_enter Try.func37, Try.ntmps37
  go_wp2_with fail
  obtain ⟨g4, hg4⟩ : ∃ q, w.heap.size = q := ⟨_, rfl⟩
  obtain ⟨g5, hg5⟩ : ∃ q, g4 + 1 = q := ⟨_, rfl⟩
  generalize (w.alloc (weaveO false 0 0 0 0)).alloc (weaveO false 0 0 0 0) = w1 at hI1 hB1 hK1 h41 h51 ⊢
  rw [hg4] at h41 h51 ⊢
  rw [hg5] at h51 ⊢
  have HG : Aside0 (w.heap.size ≤ g4) := ⟨by omega⟩
  have HG5 : Aside0 (w.heap.size ≤ g5) := ⟨by omega⟩
  have HG0 : Aside0 (w0.heap.size ≤ g4) := ⟨by have := HG0'.out; omega⟩
  have HG05 : Aside0 (w0.heap.size ≤ g5) := ⟨by have := HG0'.out; omega⟩
  have HGR : Aside0 (g ≠ g4) := ⟨by have := HGT.out; omega⟩
  have HGR5 : Aside0 (g ≠ g5) := ⟨by have := HGT.out; omega⟩
  have HNE : Aside0 (g4 ≠ g5) := ⟨by omega⟩
  clear hg4 hg5
  (with_reducible refine (pipe_Reader_Take.calls k g b p e 1 t p1 e1 w0 w1 hI1 hB1 HT.out).mono ?_)
  rintro ee w2 ⟨rfl, hi2, hb2, hk2⟩
  have HI2 := Aside0.mk hi2
  have HB2 := Aside0.mk hb2
  have HK2 := Aside0.mk (hK1.trans hk2 (.inl rfl))
  have H42 := Aside0.mk ((hk2.2 _ (blk_lt h41) HGR.out.symm (by simp)).trans h41)
  have H52 := Aside0.mk ((hk2.2 _ (blk_lt h51) HGR5.out.symm (by simp)).trans h51)
  clear hi2 hb2 hk2 hI1 hB1 hK1 h41 h51 HT
  by_cases ht0 : t = 0
  · have hF := HF.out
    rw [if_pos ht0] at hF
    have hb0 : (t == 0) = true := by simp [ht0]
    have HFF := Aside0.mk hF
    clear ht0 hF HF
    obtain ⟨⟨hk0, hk1, hk2, hk3, hk4⟩, ⟨hx0, hx1, hx2, hx3, hx4⟩⟩ := blk5 H42.out
    obtain ⟨-, ⟨hy0, hy1, hy2, hy3, hy4⟩⟩ := blk5 H52.out
    go_wp2
    have hP := puts5 (.bool false) (.int .i64 0) (.int .i64 0) (.int .i64 0) (.int .i64 0) H42.out
    have hBB := below5 (.bool false) (.int .i64 0) (.int .i64 0) (.int .i64 0) (.int .i64 0) HB2.out HG0.out
    have hKK := keep5 (.bool false) (.int .i64 0) (.int .i64 0) (.int .i64 0) (.int .i64 0) HK2.out HG.out
    have hIS := isS_puts5 (e0 := w) (.bool false) (.int .i64 0) (.int .i64 0) (.int .i64 0) (.int .i64 0) HI2.out HGR.out
    refine bodyPost_ret (results_cell_row rfl _ _ g4 44 #[.bool false, .int .i64 0, .int .i64 0, .int .i64 0, .int .i64 0] (0, 0) _ rfl hP hu rfl (by kernel_rfl)) rfl ?_
    have hF := HFF.out
    cases hF
    exact ⟨rfl, hIS, hBB, hKK⟩
  · have hF := HF.out
    rw [if_neg ht0] at hF
    have hb0 : (t == 0) = false := by simp [ht0]
    obtain ⟨⟨M, pm, em⟩, hm, hF⟩ := Option.bind_eq_some_iff.mp hF
    simp only at hF
    have hmr : ¬ (M < 0 ∨ 1000 < M) := fun hn => by rw [if_pos hn] at hF; cases hF
    rw [if_neg hmr] at hF
    obtain ⟨⟨x0, p3, e3⟩, hs0, hF⟩ := Option.bind_eq_some_iff.mp hF
    obtain ⟨⟨x1, p4, e4⟩, hs1, hF⟩ := Option.bind_eq_some_iff.mp hF
    obtain ⟨⟨x2, p5, e5⟩, hs2, hF⟩ := Option.bind_eq_some_iff.mp hF
    simp only at hF hs0 hs1 hs2
    have HF2 := Aside0.mk hF
    have HM := Aside0.mk hm
    have HMR := Aside0.mk hmr
    have hstep : ∀ i, i < 3 → pipe_Reader_Signed.f k b (nth4 pm p3 p4 p5 i) (nth4 em e3 e4 e5 i) 5 = some (nth4 x0 x1 x2 0 i, nth4 pm p3 p4 p5 (i + 1), nth4 em e3 e4 e5 (i + 1)) ∧ (∃ q, (gainC M x0 x1 x2 i)[2 + i]? = some (.int .i64 q)) ∧ (gainC M x0 x1 x2 i).setIfInBounds (2 + i) (.int .i64 (nth4 x0 x1 x2 0 i)) = gainC M x0 x1 x2 (i + 1) := by
      intro i hi
      have h3 : i = 0 ∨ i = 1 ∨ i = 2 := by omega
      rcases h3 with rfl | rfl | rfl
      · exact ⟨hs0, ⟨0, rfl⟩, rfl⟩
      · exact ⟨hs1, ⟨0, rfl⟩, rfl⟩
      · exact ⟨hs2, ⟨0, rfl⟩, rfl⟩
    have HS := Aside0.mk hstep
    clear hF hm hmr hs0 hs1 hs2 hstep HF ht0
    go_wp2_with fail
    (with_reducible refine (pipe_Reader_Take.calls k g b p1 e1 3 M pm em w0 w2 HI2.out HB2.out HM.out).mono ?_)
    rintro ee w3 ⟨rfl, hi3, hb3, hk3⟩
    have h43 := (hk3.2 _ (blk_lt H42.out) HGR.out.symm (by simp)).trans H42.out
    have h53 := (hk3.2 _ (blk_lt H52.out) HGR5.out.symm (by simp)).trans H52.out
    have HK3 := Aside0.mk (HK2.out.trans hk3 (.inl rfl))
    have HB3 := Aside0.mk hb3
    have HI3 := Aside0.mk hi3
    have H43 := Aside0.mk h43
    have H53 := Aside0.mk h53
    clear hi3 hb3 hk3 h43 h53 HI2 HB2 HK2 H42 H52 HM
    have hM0 : 0 ≤ M := by have := HMR.out; omega
    have hM1 : M ≤ 1000 := by have := HMR.out; omega
    obtain ⟨⟨hk0, hk1, hk2, hk3, hk4⟩, ⟨hx0, hx1, hx2, hx3, hx4⟩⟩ := blk5 H53.out
    go_wp2_with fail
    have H44 : Aside0 (((w3.setCell ⟨g5, 0, none⟩ (.bool true)).setCell ⟨g5, 1, none⟩ (.int .i64 M)).heap[g4]? = some (weaveO false 0 0 0 0)) :=
      ⟨(Below.heap_setCell _ ⟨g5, 1, none⟩ _ g4 HNE.out).trans ((Below.heap_setCell _ ⟨g5, 0, none⟩ _ g4 HNE.out).trans H43.out)⟩
    have H54 : Aside0 (((w3.setCell ⟨g5, 0, none⟩ (.bool true)).setCell ⟨g5, 1, none⟩ (.int .i64 M)).heap[g5]? = some (.cells (gainC M x0 x1 x2 0) 44)) := by
      have h1 := blk_put (cs' := #[.bool true, .int .i64 0, .int .i64 0, .int .i64 0, .int .i64 0]) H53.out 0 (.bool true) rfl
      exact ⟨blk_put (cs' := #[.bool true, .int .i64 M, .int .i64 0, .int .i64 0, .int .i64 0]) h1 1 (.int .i64 M) rfl⟩
    have HI4 := Aside0.mk (isS_set (isS_set HI3.out HGR5.out 0 (.bool true)) HGR5.out 1 (.int .i64 M))
    have HB4 := Aside0.mk ((HB3.out.setCell (p := ⟨g5, 0, none⟩) HG05.out (.bool true)).setCell (p := ⟨g5, 1, none⟩) HG05.out (.int .i64 M))
    have HK4 := Aside0.mk (keep_set5 (j := 1) (v := .int .i64 M) (keep_set5 (j := 0) (v := .bool true) HK3.out HG5.out) HG5.out)
    generalize (w3.setCell ⟨g5, 0, none⟩ (.bool true)).setCell ⟨g5, 1, none⟩ (.int .i64 M) = w4 at H44 H54 HI4 HB4 HK4 ⊢
    clear hk0 hk1 hk2 hk3 hk4 hx0 hx1 hx2 hx3 hx4 HI3 HB3 HK3 H43 H53
    go_loopg [16] 3 (fun kq vi wr => ∃ i : Nat, vi = .int .i64 i ∧ kq + i = 3 ∧ Aside0 (IsS109 w0 wr g b (nth4 pm p3 p4 p5 i) (nth4 em e3 e4 e5 i)) ∧ Aside0 (Below w0.heap.size w0 wr) ∧ Aside0 (KeepBut w wr g none) ∧ Aside0 (wr.heap[g4]? = some (weaveO false 0 0 0 0)) ∧ Aside0 (wr.heap[g5]? = some (.cells (gainC M x0 x1 x2 i) 44)))
    case atStart => exact ⟨0, rfl, rfl, HI4, HB4, HK4, H44, H54⟩
    case round =>
      clear HI4 HB4 HK4 H44 H54
      obtain ⟨i, rfl, hk, HI, HB, HK, H4, H5⟩ := hrel
      by_cases hlt : i < 3
      · have hme : gk - 1 < gk := by omega
        have hltI : (i : Int) < 3 := by omega
        obtain ⟨hs, ⟨q, hq⟩, hset⟩ := HS.out i hlt
        obtain ⟨pi, hpi⟩ : ∃ z, nth4 pm p3 p4 p5 i = z := ⟨_, rfl⟩
        obtain ⟨ei, hei⟩ : ∃ z, nth4 em e3 e4 e5 i = z := ⟨_, rfl⟩
        obtain ⟨xi, hxi⟩ : ∃ z, nth4 x0 x1 x2 0 i = z := ⟨_, rfl⟩
        rw [hpi, hei] at hs HI
        rw [hxi] at hs hset
        have HSX := Aside0.mk hs
        have HSE := Aside0.mk hset
        have HQ := Aside0.mk hq
        clear hs hq hset hpi hei hxi hlt
        go_wp2_with fail
        (with_reducible refine (pipe_Reader_Signed.calls k g b pi ei 5 xi _ _ w0 wr HI.out HB.out HSX.out).mono ?_)
        rintro ee w6 ⟨rfl, hi6, hb6, hk6⟩
        have HI6 := Aside0.mk hi6
        have HB6 := Aside0.mk hb6
        have HK6 := Aside0.mk (HK.out.trans hk6 (.inl rfl))
        have H46 := Aside0.mk ((hk6.2 _ (blk_lt H4.out) HGR.out.symm (by simp)).trans H4.out)
        have H56 := Aside0.mk ((hk6.2 _ (blk_lt H5.out) HGR5.out.symm (by simp)).trans H5.out)
        have hcell := (blk_cell H56.out (2 + i)).trans HQ.out
        have hfz := blk_frozen H56.out (2 + i)
        clear hi6 hb6 hk6 HI HB HK H4 H5
        go_wp2
        go_roundg (gk - 1)
        case rel => exact ⟨i + 1, by first | rfl | (congr 1), by omega, ⟨isS_set HI6.out HGR5.out _ _⟩, ⟨HB6.out.setCell (p := ⟨g5, 2 + i, none⟩) HG05.out _⟩, ⟨keep_set5 HK6.out HG5.out⟩, ⟨(Below.heap_setCell _ ⟨g5, 2 + i, none⟩ _ g4 HNE.out).trans H46.out⟩, ⟨blk_put H56.out (2 + i) _ HSE.out⟩⟩
        case measure => exact hme
      · obtain rfl : i = 3 := by omega
        have HI' : Aside0 (IsS109 w0 wr g b p5 e5) := HI
        have H5' : Aside0 (wr.heap[g5]? = some (weaveO true M x0 x1 x2)) := H5
        clear HI H5 hlt hk HS
        go_wp2_with fail
        (with_reducible refine (pipe_Reader_Fail.calls g b p5 e5 e5 p5 e5 w0 wr HI'.out HB.out rfl).mono ?_)
        rintro ee w6 ⟨rfl, hi6, hb6, hk6⟩
        have HI6 := Aside0.mk hi6
        have HB6 := Aside0.mk hb6
        have HK6 := Aside0.mk (HK.out.trans hk6 (.inl rfl))
        have H46 := Aside0.mk ((hk6.2 _ (blk_lt H4.out) HGR.out.symm (by simp)).trans H4.out)
        have H56 := Aside0.mk ((hk6.2 _ (blk_lt H5'.out) HGR5.out.symm (by simp)).trans H5'.out)
        clear hi6 hb6 hk6 HI' HB HK H4 H5'
        by_cases he5 : e5 = 0
        · subst he5
          have hF := HF2.out
          rw [if_pos rfl] at hF
          obtain ⟨gd, hgd, hF⟩ := Option.bind_eq_some_iff.mp hF
          have HGD := Aside0.mk hgd
          have HF3 := Aside0.mk hF
          clear hF hgd HF2
          obtain ⟨-, ⟨hy0, hy1, hy2, hy3, hy4⟩⟩ := blk5 H56.out
          go_wp2_with fail
          (with_reducible refine (weft_Good.calls true M x0 x1 x2 c gd w6 HGD.out).mono ?_)
          rintro ee w7 ⟨rfl, hb7⟩
          have HI7 := Aside0.mk (HI6.out.below hb7)
          have HB7 := Aside0.mk (below_then HB6.out HB6.out.size hb7)
          have HK7 := Aside0.mk (HK6.out.trans (KeepBut.of_below hb7 g none) (.inl rfl))
          have H47 := Aside0.mk (blk_below H46.out hb7)
          have H57 := Aside0.mk (blk_below H56.out hb7)
          clear hb7 HI6 HB6 HK6 H46 H56 hy0 hy1 hy2 hy3 hy4
          cases gd with
          | true =>
            go_wp2_with fail
            (with_reducible refine (pipe_Reader_Fail.calls g b p5 0 0 p5 0 w0 w7 HI7.out HB7.out rfl).mono ?_)
            rintro ee w8 ⟨rfl, hi8, hb8, hk8⟩
            have HI8 := Aside0.mk hi8
            have HB8 := Aside0.mk hb8
            have HK8 := Aside0.mk (HK7.out.trans hk8 (.inl rfl))
            have H48 := Aside0.mk ((hk8.2 _ (blk_lt H47.out) HGR.out.symm (by simp)).trans H47.out)
            have H58 := Aside0.mk ((hk8.2 _ (blk_lt H57.out) HGR5.out.symm (by simp)).trans H57.out)
            clear hi8 hb8 hk8 HI7 HB7 HK7 H47 H57
            obtain ⟨⟨hk0, hk1, hk2, hk3, hk4⟩, ⟨hx0, hx1, hx2, hx3, hx4⟩⟩ := blk5 H48.out
            obtain ⟨-, ⟨hy0, hy1, hy2, hy3, hy4⟩⟩ := blk5 H58.out
            go_wp2
            have hP := puts5 (.bool true) (.int .i64 M) (.int .i64 x0) (.int .i64 x1) (.int .i64 x2) H48.out
            have hBB := below5 (.bool true) (.int .i64 M) (.int .i64 x0) (.int .i64 x1) (.int .i64 x2) HB8.out HG0.out
            have hKK := keep5 (.bool true) (.int .i64 M) (.int .i64 x0) (.int .i64 x1) (.int .i64 x2) HK8.out HG.out
            have hIS := isS_puts5 (e0 := w) (.bool true) (.int .i64 M) (.int .i64 x0) (.int .i64 x1) (.int .i64 x2) HI8.out HGR.out
            refine bodyPost_ret (results_cell_row rfl _ _ g4 44 #[.bool true, .int .i64 M, .int .i64 x0, .int .i64 x1, .int .i64 x2] (0, 0) _ rfl hP hu rfl (by kernel_rfl)) rfl ?_
            have hF := HF3.out
            (first | rw [if_pos rfl] at hF | rw [if_pos trivial] at hF)
            cases hF
            exact ⟨rfl, hIS, hBB, hKK⟩
          | false =>
            go_wp2_with fail
            (with_reducible refine (pipe_Reader_Give.calls g b p5 0 2 p5 2 w0 w7 HI7.out HB7.out rfl).mono ?_)
            rintro ee w8 ⟨rfl, hi8, hb8, hk8⟩
            have HI8 := Aside0.mk hi8
            have HB8 := Aside0.mk hb8
            have HK8 := Aside0.mk (HK7.out.trans hk8 (.inl rfl))
            have H48 := Aside0.mk ((hk8.2 _ (blk_lt H47.out) HGR.out.symm (by simp)).trans H47.out)
            clear hi8 hb8 hk8 HI7 HB7 HK7 H47 H57
            go_wp2_with fail
            (with_reducible refine (pipe_Reader_Fail.calls g b p5 2 2 p5 2 w0 w8 HI8.out HB8.out rfl).mono ?_)
            rintro ee w9 ⟨rfl, hi9, hb9, hk9⟩
            have HI9 := Aside0.mk hi9
            have HB9 := Aside0.mk hb9
            have HK9 := Aside0.mk (HK8.out.trans hk9 (.inl rfl))
            have H49 := Aside0.mk ((hk9.2 _ (blk_lt H48.out) HGR.out.symm (by simp)).trans H48.out)
            clear hi9 hb9 hk9 HI8 HB8 HK8 H48
            obtain ⟨⟨hk0, hk1, hk2, hk3, hk4⟩, ⟨hx0, hx1, hx2, hx3, hx4⟩⟩ := blk5 H49.out
            go_wp2
            have hP := puts5 (.bool false) (.int .i64 0) (.int .i64 0) (.int .i64 0) (.int .i64 0) H49.out
            have hBB := below5 (.bool false) (.int .i64 0) (.int .i64 0) (.int .i64 0) (.int .i64 0) HB9.out HG0.out
            have hKK := keep5 (.bool false) (.int .i64 0) (.int .i64 0) (.int .i64 0) (.int .i64 0) HK9.out HG.out
            have hIS := isS_puts5 (e0 := w) (.bool false) (.int .i64 0) (.int .i64 0) (.int .i64 0) (.int .i64 0) HI9.out HGR.out
            refine bodyPost_ret (results_cell_row rfl _ _ g4 44 #[.bool false, .int .i64 0, .int .i64 0, .int .i64 0, .int .i64 0] (0, 0) _ rfl hP hu rfl (by kernel_rfl)) rfl ?_
            have hF := HF3.out
            rw [if_neg (by simp)] at hF
            cases hF
            exact ⟨rfl, hIS, hBB, hKK⟩
        · have hF := HF2.out
          rw [if_neg he5] at hF
          have HF3 := Aside0.mk hF
          have he5b : (e5 == 0) = false := by simp [he5]
          have he5c : (e5 != 0) = true := by simp [he5]
          clear hF HF2 he5
          go_wp2_with fail
          (with_reducible refine (pipe_Reader_Fail.calls g b p5 e5 e5 p5 e5 w0 w6 HI6.out HB6.out rfl).mono ?_)
          rintro ee w9 ⟨rfl, hi9, hb9, hk9⟩
          have HI9 := Aside0.mk hi9
          have HB9 := Aside0.mk hb9
          have HK9 := Aside0.mk (HK6.out.trans hk9 (.inl rfl))
          have H49 := Aside0.mk ((hk9.2 _ (blk_lt H46.out) HGR.out.symm (by simp)).trans H46.out)
          clear hi9 hb9 hk9 HI6 HB6 HK6 H46 H56
          obtain ⟨⟨hk0, hk1, hk2, hk3, hk4⟩, ⟨hx0, hx1, hx2, hx3, hx4⟩⟩ := blk5 H49.out
          go_wp2
          have hP := puts5 (.bool false) (.int .i64 0) (.int .i64 0) (.int .i64 0) (.int .i64 0) H49.out
          have hBB := below5 (.bool false) (.int .i64 0) (.int .i64 0) (.int .i64 0) (.int .i64 0) HB9.out HG0.out
          have hKK := keep5 (.bool false) (.int .i64 0) (.int .i64 0) (.int .i64 0) (.int .i64 0) HK9.out HG.out
          have hIS := isS_puts5 (e0 := w) (.bool false) (.int .i64 0) (.int .i64 0) (.int .i64 0) (.int .i64 0) HI9.out HGR.out
          refine bodyPost_ret (results_cell_row rfl _ _ g4 44 #[.bool false, .int .i64 0, .int .i64 0, .int .i64 0, .int .i64 0] (0, 0) _ rfl hP hu rfl (by kernel_rfl)) rfl ?_
          have hF := HF3.out
          cases hF
          exact ⟨rfl, hIS, hBB, hKK⟩
end Go.Proofs.Ytlebgjcpidpgnaa.P
