/- The contract of layer 3's Best: the best parts, and how many bits. -/
import Derived.Test.YteoncgijnkfhfaaKePx0
import Derived.Test.YteoncgijnkfhfaaKeHSGood
import Derived.Test.YteoncgijnkfhfaaKeHSBest1
import Derived.Sort.LoopGhostIn
namespace Go.Proofs.Yteoncgijnkfhfaa.P
open Go Go.RowKit Go.Proofs.YteoncgijnkfhfaaW.PrintWords Go.Proofs.YteoncgijnkfhfaaW.PrintLast Go.Proofs.YteoncgijnkfhfaaW.PrintMore
set_option linter.unusedVariables false
set_option linter.unusedSimpArgs false

/-- From p on: as long as the list has so many parts, the shorter one. -/
def bestGo (k : Nat) (l : List Int) : Nat → Nat → Int × List Int × Int → Option (Int × List Int × Int)
  | 0, _, c => some c
  | f + 1, p, c => if wholeZ l.length p = true then (slide_best.f k l p).bind fun x => bestGo k l f (p + 1) (if x.2.2 < c.2.2 then x else c) else some c
def slide_Best.f (k : Nat) (l : List Int) : Option (Int × List Int × Int) :=
  if wholeZ l.length 0 = true ∧ l.any farZ = false then (slide_best.f k l 0).bind fun c => bestGo k l 3 1 c else some (0, [], 0)
/-- The result's memory, and that of the best parts so far. -/
structure BstI (w W : World) (b2 b4 : Nat) (p : Int) (v : Value) (ks : List Int) : Prop where
  bel : Below w.heap.size w W
  x2 : W.heap[b2]? = some (.cells #[.int .i64 0, .slice none 0 0] 24 (0, 0))
  x4 : W.heap[b4]? = some (.cells #[.int .i64 p, v] 24 (0, 0))
  r : Kd.R (Kd.int .i64) 3 W w.heap.size (fun _ => True) v ks
theorem BstI.below {w W W' : World} {b2 b4 : Nat} {p : Int} {v : Value} {ks : List Int} (h : BstI w W b2 b4 p v ks) (hb : Below W.heap.size W W') : BstI w W' b2 b4 p v ks :=
  ⟨below_then h.bel h.bel.size hb, blk_below h.x2 hb, blk_below h.x4 hb, Kd.R_below h.r hb⟩
theorem BstI.put {w W : World} {b2 b4 : Nat} {p p' : Int} {v v' : Value} {ks ks' : List Int} (h : BstI w W b2 b4 p v ks) (hr : Kd.R (Kd.int .i64) 3 W w.heap.size (fun _ => True) v' ks') (hn : b2 ≠ b4) (hl : w.heap.size ≤ b4) : BstI w ((W.setCell ⟨b4, 0, none⟩ (.int .i64 p')).setCell ⟨b4, 1, none⟩ v') b2 b4 p' v' ks' := by
  have h1 : (W.setCell ⟨b4, 0, none⟩ (.int .i64 p')).heap[b4]? = some (.cells #[.int .i64 p', v] 24 (0, 0)) := blk_put h.x4 0 _ rfl
  refine ⟨(h.bel.setCell (p := ⟨b4, 0, none⟩) hl _).setCell (p := ⟨b4, 1, none⟩) hl _, ?_, blk_put h1 1 _ rfl, ?_⟩
  · exact (Below.heap_setCell _ ⟨b4, 1, none⟩ _ b2 hn).trans ((Below.heap_setCell W ⟨b4, 0, none⟩ _ b2 hn).trans h.x2)
  · exact Kd.R_set (Kd.R_set hr h.x4 (by decide) 0 (.int .i64 p')) h1 (by decide) 1 v'
set_option maxHeartbeats 8000000 in
set_option maxRecDepth 100000 in
theorem slide_Best.calls (k : Nat) (A0 : Option Addr) (c0 : Nat) (l0 : List Int) (r1 : Int) (r2 : List Int) (r3 : Int) (w : World) (hr0 : Kd.C (Kd.int .i64) w A0 l0.length l0) (hc0 : l0.length ≤ c0) (h : slide_Best.f k l0 = some (r1, r2, r3)) :
    Calls Try.prog 11 #[.slice A0 l0.length c0] w fun e w' => ∃ v1_ : Value, e = .returned (.tuple #[.agg #[.int .i64 r1, v1_], .int .i64 r3]) ∧ Kd.R (Kd.int .i64) 3 w' w.heap.size (fun _ => True) v1_ r2 ∧ Below w.heap.size w w' := by
  unfold slide_Best.f at h
  have hu24 := Try.underlying24
  have HR := Aside0.mk hr0
  have HC := Aside0.mk hc0
  have HB0 := Aside0.mk (below_alloc (Below.refl w.heap.size w) (.cells #[.int .i64 0, .slice none 0 0] 24))
  have HX0 := Aside0.mk (blk_new w (.cells #[.int .i64 0, .slice none 0 0] 24))
  clear hr0 hc0
  cases hwh : wholeZ l0.length 0 with
  | false =>
    rw [hwh, if_neg (by simp)] at h
    simp only [Option.some.injEq, Prod.mk.injEq] at h
    obtain ⟨rfl, rfl, rfl⟩ := h
    have HW := Aside0.mk hwh
    clear hwh
    go_enter Try.func11, Try.ntmps11
    go_wp2_with fail
    (with_reducible refine (whole_calls (l0.length : Int) 0 _).mono ?_)
    rintro e w2 ⟨rfl, hd2⟩
    rw [HW.out]
    have HB2 := Aside0.mk (below_then HB0.out HB0.out.size hd2.below)
    have HX2 := Aside0.mk (blk_below HX0.out hd2.below)
    have hc1 := (blk_cell HX2.out 0).trans rfl
    have hc2 := (blk_cell HX2.out 1).trans rfl
    have hf1 := blk_frozen HX2.out 0
    have hf2 := blk_frozen HX2.out 1
    clear hd2 HB0 HX0
    go_wp2
    refine bodyPost_ret (results_ct rfl _ _ w.heap.size 24 #[.int .i64 0, .slice none 0 0] (0, 0) _ rfl (blk_put (blk_put HX2.out 0 (.int .i64 0) rfl) 1 (.slice none 0 0) rfl) Try.underlying24 rfl (by kernel_rfl)) rfl ?_
    exact ⟨_, rfl, Kd.R_nil _ _ _ _ _, (HB2.out.setCell (p := ⟨w.heap.size, 0, none⟩) (Nat.le_refl _) _).setCell (p := ⟨w.heap.size, 1, none⟩) (Nat.le_refl _) _⟩
  | true =>
    have hln : l0.length ≤ 1024 := by
      unfold wholeZ at hwh
      simp only [Bool.and_eq_true, decide_eq_true_eq] at hwh
      omega
    have HLN := Aside0.mk hln
    have HW := Aside0.mk hwh
    cases hfa : l0.any farZ with
    | true =>
      rw [hwh, hfa, if_neg (by simp)] at h
      simp only [Option.some.injEq, Prod.mk.injEq] at h
      obtain ⟨rfl, rfl, rfl⟩ := h
      have HFA := Aside0.mk hfa
      clear hwh hfa hln
      go_enter Try.func11, Try.ntmps11
      go_wp2_with fail
      (with_reducible refine (whole_calls (l0.length : Int) 0 _).mono ?_)
      rintro e w2 ⟨rfl, hd2⟩
      rw [HW.out]
      have HB1 := Aside0.mk (below_then HB0.out HB0.out.size hd2.below)
      have HX1 := Aside0.mk (blk_below HX0.out hd2.below)
      clear hd2 HB0 HX0
      go_wp2_with fail
      (with_reducible refine (far_contains A0 c0 l0 w2 (Kd.C_below HR.out HB1.out) HC.out (by have := HLN.out; omega)).mono ?_)
      rintro e w3 ⟨rfl, hd3⟩
      rw [HFA.out]
      have HB2 := Aside0.mk (below_then HB1.out HB1.out.size hd3.below)
      have HX2 := Aside0.mk (blk_below HX1.out hd3.below)
      have hc1 := (blk_cell HX2.out 0).trans rfl
      have hc2 := (blk_cell HX2.out 1).trans rfl
      have hf1 := blk_frozen HX2.out 0
      have hf2 := blk_frozen HX2.out 1
      clear hd3 HB1 HX1
      go_wp2
      refine bodyPost_ret (results_ct rfl _ _ w.heap.size 24 #[.int .i64 0, .slice none 0 0] (0, 0) _ rfl (blk_put (blk_put HX2.out 0 (.int .i64 0) rfl) 1 (.slice none 0 0) rfl) Try.underlying24 rfl (by kernel_rfl)) rfl ?_
      exact ⟨_, rfl, Kd.R_nil _ _ _ _ _, (HB2.out.setCell (p := ⟨w.heap.size, 0, none⟩) (Nat.le_refl _) _).setCell (p := ⟨w.heap.size, 1, none⟩) (Nat.le_refl _) _⟩
    | false =>
      rw [hwh, hfa, if_pos (by simp)] at h
      obtain ⟨⟨y1, y2, y3⟩, hy, h⟩ := Option.bind_eq_some_iff.mp h
      have HG := Aside0.mk h
      have HFA := Aside0.mk hfa
      have HY := Aside0.mk hy
      clear hwh hfa hln h hy
      go_enter Try.func11, Try.ntmps11
      go_wp2_with fail
      (with_reducible refine (whole_calls (l0.length : Int) 0 _).mono ?_)
      rintro e w2 ⟨rfl, hd2⟩
      rw [HW.out]
      have HB1 := Aside0.mk (below_then HB0.out HB0.out.size hd2.below)
      have HX1 := Aside0.mk (blk_below HX0.out hd2.below)
      clear hd2 HB0 HX0
      go_wp2_with fail
      (with_reducible refine (far_contains A0 c0 l0 w2 (Kd.C_below HR.out HB1.out) HC.out (by have := HLN.out; omega)).mono ?_)
      rintro e w3 ⟨rfl, hd3⟩
      rw [HFA.out]
      have HB2 := Aside0.mk (below_then HB1.out HB1.out.size hd3.below)
      have HX2 := Aside0.mk (blk_below HX1.out hd3.below)
      clear hd3 HB1 HX1
      go_wp2_with fail
      (with_reducible refine (slide_best.calls k A0 c0 l0 0 y1 y2 y3 w3 (Kd.C_below HR.out HB2.out) HC.out HY.out).mono ?_)
      rintro e w4 ⟨v4, rfl, hr4, hb4⟩
      have hle : w.heap.size ≤ w3.heap.size := HB2.out.size
      have hst : BstI w (w4.alloc (.cells #[.int .i64 y1, v4] 24)) w.heap.size w4.heap.size y1 v4 y2 :=
        ⟨below_alloc (below_then HB2.out hle hb4) _, blk_alloc (blk_below HX2.out hb4) _, blk_new w4 _, Kd.R_alloc (Kd.R_lower hr4 hle) _⟩
      have hlt : w.heap.size < w4.heap.size := blk_lt (blk_below HX2.out hb4)
      obtain ⟨Av, cv, rfl⟩ := Kd.R_slice hr4
      have HST := Aside0.mk hst
      have HLT := Aside0.mk hlt
      clear hr4 hb4 hle HX2 HB2 hlt HY hst
      go_wp2_with fail
      generalize w4.alloc (.cells #[.int .i64 y1, .slice Av y2.length cv] 24) = w5 at HST ⊢
      obtain ⟨b2, hb2⟩ : ∃ q, w.heap.size = q := ⟨_, rfl⟩
      obtain ⟨b4, hb4e⟩ : ∃ q, w4.heap.size = q := ⟨_, rfl⟩
      have HBE := Aside0.mk (show w.heap.size = b2 ∧ b2 < b4 by have := HLT.out; omega)
      replace HST : Aside0 (BstI w w5 b2 b4 y1 (.slice Av y2.length cv) y2) := ⟨by have := HST.out; rw [hb2, hb4e] at this; exact this⟩
      rw [hb4e, hb2]
      clear hb2 hb4e HLT
      go_loopg [5, 6] 3 (fun kq v5 v6 wr => ∃ (p : Nat) (x1 : Int) (x2 : List Int) (x3 : Int) (v : Value), v6 = .int .i64 p ∧ v5 = .int .i64 x3 ∧ kq + p = 4 ∧ Aside0 (bestGo k l0 kq p (x1, x2, x3) = some (r1, r2, r3)) ∧ Aside0 (BstI w wr b2 b4 x1 v x2))
      case atStart => exact ⟨1, y1, y2, y3, _, rfl, rfl, rfl, HG, HST⟩
      case round =>
        clear HG HST
        obtain ⟨p, x1, x2, x3, v, rfl, rfl, hk, HG, HST⟩ := hrel
        have hbl := HBE.out
        cases hwp : wholeZ l0.length p with
        | false =>
          have hx : some (x1, x2, x3) = some (r1, r2, r3) := by
            rw [← HG.out]
            cases gk with
            | zero => rfl
            | succ f => rw [bestGo, hwp]; rfl
          simp only [Option.some.injEq, Prod.mk.injEq] at hx
          obtain ⟨rfl, rfl, rfl⟩ := hx
          have HWP := Aside0.mk hwp
          clear hwp hbl HG hk
          go_wp2_with fail
          (with_reducible refine (whole_calls (l0.length : Int) (p : Int) _).mono ?_)
          rintro e w6 ⟨rfl, hd6⟩
          rw [HWP.out]
          have HST6 := Aside0.mk (HST.out.below hd6.below)
          obtain ⟨A6, c6, rfl⟩ := Kd.R_slice HST6.out.r
          have hc1 := (blk_cell HST6.out.x2 0).trans rfl
          have hc2 := (blk_cell HST6.out.x2 1).trans rfl
          have hf1 := blk_frozen HST6.out.x2 0
          have hf2 := blk_frozen HST6.out.x2 1
          have hc3 := (blk_cell HST6.out.x4 0).trans rfl
          have hc4 := (blk_cell HST6.out.x4 1).trans rfl
          clear hd6 HST
          go_wp2
          have h1 : (w6.setCell ⟨b2, 0, none⟩ (.int .i64 x1)).heap[b2]? = some (.cells #[.int .i64 x1, .slice none 0 0] 24 (0, 0)) := blk_put HST6.out.x2 0 _ rfl
          refine bodyPost_ret (results_ct rfl _ _ b2 24 #[.int .i64 x1, .slice A6 x2.length c6] (0, 0) _ rfl (blk_put h1 1 (.slice A6 x2.length c6) rfl) Try.underlying24 rfl (by kernel_rfl)) rfl ?_
          have hle : w.heap.size ≤ b2 := by have := HBE.out; omega
          exact ⟨_, rfl, Kd.R_set (Kd.R_set HST6.out.r HST6.out.x2 (by decide) 0 (.int .i64 x1)) h1 (by decide) 1 _, (HST6.out.bel.setCell (p := ⟨b2, 0, none⟩) hle _).setCell (p := ⟨b2, 1, none⟩) hle _⟩
        | true =>
          have hp3 : p ≤ 3 := by
            unfold wholeZ at hwp
            simp only [Bool.and_eq_true, decide_eq_true_eq] at hwp
            omega
          obtain ⟨f, rfl⟩ : ∃ f, gk = f + 1 := ⟨gk - 1, by omega⟩
          have hg := HG.out
          rw [bestGo, if_pos hwp] at hg
          obtain ⟨⟨z1, z2, z3⟩, hz, hg⟩ := Option.bind_eq_some_iff.mp hg
          have HWP := Aside0.mk hwp
          have HZ := Aside0.mk hz
          have HG2 := Aside0.mk hg
          have HIC := Aside0.mk (show (p : Int) + 1 = ((p + 1 : Nat) : Int) by omega)
          have HK := Aside0.mk hk
          clear hwp hz hg HG hbl hk
          go_wp2_with fail
          (with_reducible refine (whole_calls (l0.length : Int) (p : Int) _).mono ?_)
          rintro e w6 ⟨rfl, hd6⟩
          rw [HWP.out]
          have HST6 := Aside0.mk (HST.out.below hd6.below)
          clear hd6 HST
          go_wp2_with fail
          (with_reducible refine (slide_best.calls k A0 c0 l0 (p : Int) z1 z2 z3 w6 (Kd.C_below HR.out HST6.out.bel) HC.out HZ.out).mono ?_)
          rintro e w7 ⟨v7, rfl, hr7, hb7⟩
          obtain ⟨A7, c7, rfl⟩ := Kd.R_slice hr7
          have HST7 := Aside0.mk ((HST6.out.below hb7).below (below_alloc (Below.refl w7.heap.size w7) (.cells #[.int .i64 z1, .slice A7 z2.length c7] 24)))
          have HX7 := Aside0.mk (blk_new w7 (.cells #[.int .i64 z1, .slice A7 z2.length c7] 24))
          have HR7 := Aside0.mk (Kd.R_alloc (Kd.R_lower hr7 HST6.out.bel.size) (.cells #[.int .i64 z1, .slice A7 z2.length c7] 24))
          have HLT7 := Aside0.mk (show b4 < w7.heap.size from blk_lt (blk_below HST6.out.x4 hb7))
          clear hr7 hb7 HST6
          go_upto_region 8 with fail
          generalize w7.alloc (.cells #[.int .i64 z1, .slice A7 z2.length c7] 24) = w8 at HST7 HX7 HR7 ⊢
          obtain ⟨b7, hb7⟩ : ∃ q, w7.heap.size = q := ⟨_, rfl⟩
          rw [hb7] at HX7 HLT7 ⊢
          clear hb7
          by_cases hlt : z3 < x3
          · have hg := HG2.out
            rw [if_pos (show (z1, z2, z3).2.2 < (x1, x2, x3).2.2 from hlt)] at hg
            have HG3 := Aside0.mk hg
            have hc1 := (blk_cell HX7.out 0).trans rfl
            have hc2 := (blk_cell HX7.out 1).trans rfl
            obtain ⟨A6, c6, rfl⟩ := Kd.R_slice HST7.out.r
            have hc3 := (blk_cell HST7.out.x4 0).trans rfl
            have hc4 := (blk_cell HST7.out.x4 1).trans rfl
            have hf3 := blk_frozen HST7.out.x4 0
            have hf4 := blk_frozen HST7.out.x4 1
            have HPU := Aside0.mk (HST7.out.put (p' := z1) HR7.out (by have := HBE.out; omega) (by have := HBE.out; omega))
            clear hg HG2
            go_wp2
            go_roundg f
            case rel => exact ⟨p + 1, z1, z2, z3, _, by first | rfl | rw [HIC.out], rfl, by have := HK.out; omega, HG3, HPU⟩
            case measure => omega
          · have hg := HG2.out
            rw [if_neg (show ¬ (z1, z2, z3).2.2 < (x1, x2, x3).2.2 from hlt)] at hg
            have HG3 := Aside0.mk hg
            clear hg HG2
            go_wp2
            go_roundg f
            case rel => exact ⟨p + 1, x1, x2, x3, _, by first | rfl | rw [HIC.out], rfl, by have := HK.out; omega, HG3, HST7⟩
            case measure => omega
end Go.Proofs.Yteoncgijnkfhfaa.P
