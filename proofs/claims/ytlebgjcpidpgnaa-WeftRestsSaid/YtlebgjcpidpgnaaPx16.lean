/- Printed by a program of ours out of Lean's own print of the translation: functions and their contracts. -/
import Derived.Test.YtlebgjcpidpgnaaPx0
import Derived.Test.YtlebgjcpidpgnaaPx3
import Derived.Test.YtlebgjcpidpgnaaPx9
import Derived.Test.YtlebgjcpidpgnaaPx11
import Derived.Test.YtlebgjcpidpgnaaHWBack
import Derived.Test.YtlebgjcpidpgnaaHWRest
namespace Go.Proofs.Ytlebgjcpidpgnaa.P
open Go.RowKit Go.Proofs.YtlebgjcpidpgnaaW.PrintWords Go.Proofs.YtlebgjcpidpgnaaW.PrintLast Go.Proofs.YtlebgjcpidpgnaaW.PrintMore
attribute [local go_sem] max2_int min2_int max_two min_two max_three min_three max_four min_four   -- for this text's walks alone
set_option linter.unusedVariables false
set_option linter.unusedSimpArgs false

/-! ### sackbutlaw11_WeftRests: function 8 -/
mutual
def sackbutlaw11_WeftRests.j0 : Nat → List Int → List Int → Bool → Bool → Int → Int → Int → Int → Option (Bool)
  | 0, _, _, _, _, _, _, _, _ => none
  | k + 1, x1, x2, x26, x242000, x242001, x242002, x242003, x242004 => if x26 = true then ((sackbutlaw11_awake.f k).bind fun t243 => (some t243)) else ((some (([] : List Int) : List Int)).bind fun y244 => (if y244.length + x1.length < 17592186044416 then ((some (y244 ++ x1 : List Int)).bind fun y247 => ((some (([] : List Int) : List Int)).bind fun y250 => (if y250.length + x2.length < 17592186044416 then ((some (y250 ++ x2 : List Int)).bind fun y253 => ((weft_Rest.f k x242000 x242001 x242002 x242003 x242004 y247 y253).bind fun bt256 => ((sackbutref11_Rest.f k x242000 x242001 x242002 x242003 x242004 x1 x2).bind fun bt260 => (if bt256.2 = bt260.2 then ((sackbutref01_Same.f k bt256.1 bt260.1).bind fun t264 => (if t264 = true then ((sackbutref01_Same.f k y247 x1).bind fun t265 => (if t265 = true then ((sackbutref01_Same.f k y253 x2).bind fun t266 => (sackbutlaw11_WeftRests.j1 k x1 y253 bt256.1 bt260.2 (!t266) x242000 x242001 x242002 x242003 x242004)) else (sackbutlaw11_WeftRests.j1 k x1 y253 bt256.1 bt260.2 true x242000 x242001 x242002 x242003 x242004))) else (sackbutlaw11_WeftRests.j1 k x1 y253 bt256.1 bt260.2 true x242000 x242001 x242002 x242003 x242004))) else (sackbutlaw11_WeftRests.j1 k x1 y253 bt256.1 bt260.2 true x242000 x242001 x242002 x242003 x242004))))) else (none)))) else (none)))
def sackbutlaw11_WeftRests.j1 : Nat → List Int → List Int → List Int → Int → Bool → Bool → Int → Int → Int → Int → Option (Bool)
  | 0, _, _, _, _, _, _, _, _, _, _ => none
  | k + 1, x1, x8, x9, x12, x68, x242000, x242001, x242002, x242003, x242004 => if x68 = true then (some false) else (if x12 = 0 then ((weft_Back.f k x242000 x242001 x242002 x242003 x242004 x9 x8 8388607).bind fun bt267 => (if bt267.2 = 0 then ((sackbutref01_Same.f k bt267.1 x1).bind fun t271 => (some t271)) else (some false))) else (some true))
end
def sackbutlaw11_WeftRests.f (k : Nat) (a0_0 : Bool) (a0_1 : Int) (a0_2 : Int) (a0_3 : Int) (a0_4 : Int) (l1 : List Int) (l2 : List Int) : Option (Bool) := (sackbutlaw11_awake.f k).bind fun t242 => (if t242 = true then (if (l1.length : Int) > 80 then (sackbutlaw11_WeftRests.j0 k l1 l2 true a0_0 a0_1 a0_2 a0_3 a0_4) else (sackbutlaw11_WeftRests.j0 k l1 l2 (decide ((l2.length : Int) > 80)) a0_0 a0_1 a0_2 a0_3 a0_4)) else (sackbutlaw11_WeftRests.j0 k l1 l2 true a0_0 a0_1 a0_2 a0_3 a0_4))
theorem sackbutlaw11_WeftRests.mono_l : ∀ k, (∀ y0 y1 y2 y3 y4 y5 y6 y7, LeO (sackbutlaw11_WeftRests.j0 k y0 y1 y2 y3 y4 y5 y6 y7) (sackbutlaw11_WeftRests.j0 (k + 1) y0 y1 y2 y3 y4 y5 y6 y7)) ∧ (∀ y0 y1 y2 y3 y4 y5 y6 y7 y8 y9, LeO (sackbutlaw11_WeftRests.j1 k y0 y1 y2 y3 y4 y5 y6 y7 y8 y9) (sackbutlaw11_WeftRests.j1 (k + 1) y0 y1 y2 y3 y4 y5 y6 y7 y8 y9))
  | 0 => ⟨fun _ _ _ _ _ _ _ _ r h => by simp [sackbutlaw11_WeftRests.j0] at h, fun _ _ _ _ _ _ _ _ _ _ r h => by simp [sackbutlaw11_WeftRests.j1] at h⟩
  | k + 1 => by
    obtain ⟨ih0, ih1⟩ := sackbutlaw11_WeftRests.mono_l k
    refine ⟨?_, ?_⟩
    · intro y0 y1 y2 y3 y4 y5 y6 y7
      unfold sackbutlaw11_WeftRests.j0
      repeat' first
      | (with_reducible exact ih0 _ _ _ _ _ _ _ _)
      | (with_reducible exact ih1 _ _ _ _ _ _ _ _ _ _)
      | (with_reducible exact sackbutlaw11_awake.mono _)
      | (with_reducible exact sackbutref01_Same.mono _ _ _)
      | (with_reducible exact sackbutref11_Rest.mono _ _ _ _ _ _ _ _)
      | (with_reducible exact weft_Back.mono _ _ _ _ _ _ _ _ _)
      | (with_reducible exact weft_Rest.mono _ _ _ _ _ _ _ _)
      | (with_reducible exact LeO.refl _)
      | (with_reducible exact LeO.none _)
      | (with_reducible refine LeO.ite ?_ ?_)
      | (with_reducible refine LeO.bind ?_ (fun _ => ?_))
      | exact ih0 _ _ _ _ _ _ _ _
      | exact ih1 _ _ _ _ _ _ _ _ _ _
      | exact sackbutlaw11_awake.mono _
      | exact sackbutref01_Same.mono _ _ _
      | exact sackbutref11_Rest.mono _ _ _ _ _ _ _ _
      | exact weft_Back.mono _ _ _ _ _ _ _ _ _
      | exact weft_Rest.mono _ _ _ _ _ _ _ _
      | exact LeO.none _
      | refine LeO.ite ?_ ?_
      | refine LeO.bind ?_ (fun _ => ?_)
    · intro y0 y1 y2 y3 y4 y5 y6 y7 y8 y9
      unfold sackbutlaw11_WeftRests.j1
      repeat' first
      | (with_reducible exact ih0 _ _ _ _ _ _ _ _)
      | (with_reducible exact ih1 _ _ _ _ _ _ _ _ _ _)
      | (with_reducible exact sackbutlaw11_awake.mono _)
      | (with_reducible exact sackbutref01_Same.mono _ _ _)
      | (with_reducible exact sackbutref11_Rest.mono _ _ _ _ _ _ _ _)
      | (with_reducible exact weft_Back.mono _ _ _ _ _ _ _ _ _)
      | (with_reducible exact weft_Rest.mono _ _ _ _ _ _ _ _)
      | (with_reducible exact LeO.refl _)
      | (with_reducible exact LeO.none _)
      | (with_reducible refine LeO.ite ?_ ?_)
      | (with_reducible refine LeO.bind ?_ (fun _ => ?_))
      | exact ih0 _ _ _ _ _ _ _ _
      | exact ih1 _ _ _ _ _ _ _ _ _ _
      | exact sackbutlaw11_awake.mono _
      | exact sackbutref01_Same.mono _ _ _
      | exact sackbutref11_Rest.mono _ _ _ _ _ _ _ _
      | exact weft_Back.mono _ _ _ _ _ _ _ _ _
      | exact weft_Rest.mono _ _ _ _ _ _ _ _
      | exact LeO.none _
      | refine LeO.ite ?_ ?_
      | refine LeO.bind ?_ (fun _ => ?_)
theorem sackbutlaw11_WeftRests.mono : ∀ a0 a1 a2 a3 a4 a5 a6 k, LeO (sackbutlaw11_WeftRests.f k a0 a1 a2 a3 a4 a5 a6) (sackbutlaw11_WeftRests.f (k + 1) a0 a1 a2 a3 a4 a5 a6) := by
  intro a0 a1 a2 a3 a4 a5 a6 k
  obtain ⟨ih0, ih1⟩ := sackbutlaw11_WeftRests.mono_l k
  unfold sackbutlaw11_WeftRests.f
  repeat' first
      | (with_reducible exact ih0 _ _ _ _ _ _ _ _)
      | (with_reducible exact ih1 _ _ _ _ _ _ _ _ _ _)
      | (with_reducible exact sackbutlaw11_awake.mono _)
      | (with_reducible exact sackbutref01_Same.mono _ _ _)
      | (with_reducible exact sackbutref11_Rest.mono _ _ _ _ _ _ _ _)
      | (with_reducible exact weft_Back.mono _ _ _ _ _ _ _ _ _)
      | (with_reducible exact weft_Rest.mono _ _ _ _ _ _ _ _)
      | (with_reducible exact LeO.refl _)
      | (with_reducible exact LeO.none _)
      | (with_reducible refine LeO.ite ?_ ?_)
      | (with_reducible refine LeO.bind ?_ (fun _ => ?_))
      | exact ih0 _ _ _ _ _ _ _ _
      | exact ih1 _ _ _ _ _ _ _ _ _ _
      | exact sackbutlaw11_awake.mono _
      | exact sackbutref01_Same.mono _ _ _
      | exact sackbutref11_Rest.mono _ _ _ _ _ _ _ _
      | exact weft_Back.mono _ _ _ _ _ _ _ _ _
      | exact weft_Rest.mono _ _ _ _ _ _ _ _
      | exact LeO.none _
      | refine LeO.ite ?_ ?_
      | refine LeO.bind ?_ (fun _ => ?_)
set_option maxHeartbeats 8000000 in
set_option maxRecDepth 100000 in
theorem sackbutlaw11_WeftRests.calls (k : Nat) (a0_0 : Bool) (a0_1 : Int) (a0_2 : Int) (a0_3 : Int) (a0_4 : Int) (A1 : Option Addr) (c1 : Nat) (l1 : List Int) (A2 : Option Addr) (c2 : Nat) (l2 : List Int) (r : Bool) (w : World) (hr1 : Kd.C (Kd.int .i64) w A1 l1.length l1) (hc1 : l1.length ≤ c1) (hr2 : Kd.C (Kd.int .i64) w A2 l2.length l2) (hc2 : l2.length ≤ c2) (h : sackbutlaw11_WeftRests.f k a0_0 a0_1 a0_2 a0_3 a0_4 l1 l2 = some r) :
    Calls Try.prog 8 #[.agg #[.bool a0_0, .int .i64 a0_1, .int .i64 a0_2, .int .i64 a0_3, .int .i64 a0_4], .slice A1 l1.length c1, .slice A2 l2.length c2] w fun e w' => e = .returned (.bool r) ∧ Below w.heap.size w w' := by
  have hu44 := Try.underlying44
  have HR1 := Aside0.mk hr1
  have HC1 := Aside0.mk hc1
  clear hr1 hc1
  have HR2 := Aside0.mk hr2
  have HC2 := Aside0.mk hc2
  clear hr2 hc2
  have HB := Aside0.mk (Below.refl w.heap.size w)
  have H : ((sackbutlaw11_awake.f k).bind fun t242 => (if t242 = true then (if (l1.length : Int) > 80 then (sackbutlaw11_WeftRests.j0 k l1 l2 true a0_0 a0_1 a0_2 a0_3 a0_4) else (sackbutlaw11_WeftRests.j0 k l1 l2 (decide ((l2.length : Int) > 80)) a0_0 a0_1 a0_2 a0_3 a0_4)) else (sackbutlaw11_WeftRests.j0 k l1 l2 true a0_0 a0_1 a0_2 a0_3 a0_4))) = some r := h
  clear h
  have HC4 := Aside0.mk H
  clear H
  go_enter Try.func8, Try.ntmps8
  go_upto_region 1 with (first | ((with_reducible refine gate_dst (N := 3) rfl ?_); (try (refine gate_guard (by rfl) ?_; dsimp only)); refine box_event ?hg (N := 3) ?hd (cs := #[.bool a0_0, .int .i64 a0_1, .int .i64 a0_2, .int .i64 a0_3, .int .i64 a0_4]) (t := 44) ?hr ?_; (case hd => rfl); (case hg => rfl); (case hr => first | (go_simp; done) | (go_simp; rfl)); intro gb241 hg w5 hbox hb; have n0_ := Aside0.mk (below_step (by repeat (first | (with_reducible first | exact HB.out | apply below_alloc | apply pw_below_drewN | apply below_drew1) | exact HB.out)) hb); have n1_ := Aside0.mk (hbox); have n2_ := Aside0.mk ((by rw [hg]; exact (below_size (by repeat (first | (with_reducible first | exact HB.out | apply below_alloc | apply pw_below_drewN | apply below_drew1) | exact HB.out))) : w.heap.size ≤ gb241)); have n3_ := Aside0.mk ((by rw [hg]; exact (below_size (by repeat (first | (with_reducible first | exact HB.out | apply below_alloc | apply pw_below_drewN | apply below_drew1) | exact HB.out))) : w.heap.size ≤ gb241)); clear HB; have HB := n0_; have BK241 := n1_; have GW241 := n2_; have GE241 := n3_; clear n0_ n1_ n2_ n3_; clear hb hbox hg))
  (try simp only [Act.put, List.setIfInBounds_toArray, List.set_cons_zero, List.set_cons_succ])
  go_cut [26] (fun v26 wc => ∃ (kq : Nat) (x26_3 : Bool), v26 = .bool x26_3 ∧ Aside0 (sackbutlaw11_WeftRests.j0 kq l1 l2 x26_3 a0_0 a0_1 a0_2 a0_3 a0_4 = some r) ∧ Aside0 (kq ≤ k) ∧ Aside0 (wc.heap[gb241]? = some (.cells #[.bool a0_0, .int .i64 a0_1, .int .i64 a0_2, .int .i64 a0_3, .int .i64 a0_4] 44 (0, 0))) ∧ Aside0 (Below w.heap.size w wc))
  case first =>
    have H := HC4.out
    clear HC4
    replace H := Option.bind_eq_some_iff.mp H
    obtain ⟨t242, A60, H⟩ := H
    replace H : (if t242 = true then (if (l1.length : Int) > 80 then (sackbutlaw11_WeftRests.j0 k l1 l2 true a0_0 a0_1 a0_2 a0_3 a0_4) else (sackbutlaw11_WeftRests.j0 k l1 l2 (decide ((l2.length : Int) > 80)) a0_0 a0_1 a0_2 a0_3 a0_4)) else (sackbutlaw11_WeftRests.j0 k l1 l2 true a0_0 a0_1 a0_2 a0_3 a0_4)) = some r := H
    have A6 := Aside0.mk A60
    clear A60
    by_cases c7 : t242 = true
    · subst c7
      have H1 : (if (l1.length : Int) > 80 then (sackbutlaw11_WeftRests.j0 k l1 l2 true a0_0 a0_1 a0_2 a0_3 a0_4) else (sackbutlaw11_WeftRests.j0 k l1 l2 (decide ((l2.length : Int) > 80)) a0_0 a0_1 a0_2 a0_3 a0_4)) = some r := by rw [if_pos rfl] at H; exact H
      clear H
      have H := H1
      clear H1
      by_cases c8 : (l1.length : Int) > 80
      · rw [if_pos c8] at H
        have c8b0 : decide (80 < (l1.length : Int)) = true := decide_eq_true c8
        have c8b1 : decide (80 < l1.length) = true := decide_eq_true (by omega)
        clear c8
        (first | rw [c8b0] | (simp only [i64_w, i32_w]; rw [c8b0]) | skip)
        have H' := Aside0.mk H
        clear H
        go_wp2_with (first | ((with_reducible refine gate_callee (f := 21) rfl ?_); refine goesL_ (some 15) rfl rfl Try.func21 (by kernel_rfl) rfl #[] rfl (by (try simp only [List.map_toArray, List.map_cons, List.map_nil]); first | done | rfl | (simp only [List.length_drop, List.length_take]; rfl)) ?_; (with_reducible refine (sackbutlaw11_awake.calls k  true _ A6.out).mono ?_); rintro e w9 ⟨rfl, hb⟩; refine ⟨_, rfl, ?_⟩; have n0_ := Aside0.mk (blk_below (g := gb241) (o := .cells #[.bool a0_0, .int .i64 a0_1, .int .i64 a0_2, .int .i64 a0_3, .int .i64 a0_4] 44 (0, 0)) (by (with_reducible repeat (first | refine blk_drewN ?_ _ | refine blk_drew ?_ | refine blk_alloc ?_ _)); exact BK241.out) hb); have n1_ := Aside0.mk (below_step (by repeat (first | (with_reducible first | exact HB.out | apply below_alloc | apply pw_below_drewN | apply below_drew1 | refine below_set ?_ GE241.out) | exact HB.out)) hb); clear BK241; clear HB; have BK241 := n0_; have HB := n1_; clear n0_ n1_; (try clear hb); (try clear hb2); (try clear hk); (try clear hi)))
        go_meet
        case rel => exact ⟨_, (true), (by first | rfl | (simp; done) | (simp [*]; done)), H', ⟨by first | omega | exact Nat.le_refl _⟩, ⟨by (with_reducible repeat (first | refine blk_drewN ?_ _ | refine blk_drew ?_ | refine blk_alloc ?_ _)); exact BK241.out⟩, ⟨by repeat (first | (with_reducible first | exact HB.out | apply below_alloc | apply pw_below_drewN | apply below_drew1 | refine below_set ?_ GE241.out) | exact HB.out)⟩⟩
      · rw [if_neg c8] at H
        have c8b0 : decide (80 < (l1.length : Int)) = false := decide_eq_false c8
        have c8b1 : decide (80 < l1.length) = false := decide_eq_false (by omega)
        clear c8
        (first | rw [c8b0] | (simp only [i64_w, i32_w]; rw [c8b0]) | skip)
        have H' := Aside0.mk H
        clear H
        go_wp2_with (first | ((with_reducible refine gate_callee (f := 21) rfl ?_); refine goesL_ (some 15) rfl rfl Try.func21 (by kernel_rfl) rfl #[] rfl (by (try simp only [List.map_toArray, List.map_cons, List.map_nil]); first | done | rfl | (simp only [List.length_drop, List.length_take]; rfl)) ?_; (with_reducible refine (sackbutlaw11_awake.calls k  true _ A6.out).mono ?_); rintro e w10 ⟨rfl, hb⟩; refine ⟨_, rfl, ?_⟩; have n0_ := Aside0.mk (blk_below (g := gb241) (o := .cells #[.bool a0_0, .int .i64 a0_1, .int .i64 a0_2, .int .i64 a0_3, .int .i64 a0_4] 44 (0, 0)) (by (with_reducible repeat (first | refine blk_drewN ?_ _ | refine blk_drew ?_ | refine blk_alloc ?_ _)); exact BK241.out) hb); have n1_ := Aside0.mk (below_step (by repeat (first | (with_reducible first | exact HB.out | apply below_alloc | apply pw_below_drewN | apply below_drew1 | refine below_set ?_ GE241.out) | exact HB.out)) hb); clear BK241; clear HB; have BK241 := n0_; have HB := n1_; clear n0_ n1_; (try clear hb); (try clear hb2); (try clear hk); (try clear hi)))
        go_meet
        case rel => exact ⟨_, (decide ((l2.length : Int) > 80)), (by first | rfl | (simp; done) | (simp [*]; done)), H', ⟨by first | omega | exact Nat.le_refl _⟩, ⟨by (with_reducible repeat (first | refine blk_drewN ?_ _ | refine blk_drew ?_ | refine blk_alloc ?_ _)); exact BK241.out⟩, ⟨by repeat (first | (with_reducible first | exact HB.out | apply below_alloc | apply pw_below_drewN | apply below_drew1 | refine below_set ?_ GE241.out) | exact HB.out)⟩⟩
    · replace c7 := Bool.eq_false_iff.mpr c7
      subst c7
      have H1 : (sackbutlaw11_WeftRests.j0 k l1 l2 true a0_0 a0_1 a0_2 a0_3 a0_4) = some r := by rw [if_neg (show ¬ (false = true) by decide)] at H; exact H
      clear H
      have H := H1
      clear H1
      have H' := Aside0.mk H
      clear H
      go_wp2_with (first | ((with_reducible refine gate_callee (f := 21) rfl ?_); refine goesL_ (some 15) rfl rfl Try.func21 (by kernel_rfl) rfl #[] rfl (by (try simp only [List.map_toArray, List.map_cons, List.map_nil]); first | done | rfl | (simp only [List.length_drop, List.length_take]; rfl)) ?_; (with_reducible refine (sackbutlaw11_awake.calls k  false _ A6.out).mono ?_); rintro e w11 ⟨rfl, hb⟩; refine ⟨_, rfl, ?_⟩; have n0_ := Aside0.mk (blk_below (g := gb241) (o := .cells #[.bool a0_0, .int .i64 a0_1, .int .i64 a0_2, .int .i64 a0_3, .int .i64 a0_4] 44 (0, 0)) (by (with_reducible repeat (first | refine blk_drewN ?_ _ | refine blk_drew ?_ | refine blk_alloc ?_ _)); exact BK241.out) hb); have n1_ := Aside0.mk (below_step (by repeat (first | (with_reducible first | exact HB.out | apply below_alloc | apply pw_below_drewN | apply below_drew1 | refine below_set ?_ GE241.out) | exact HB.out)) hb); clear BK241; clear HB; have BK241 := n0_; have HB := n1_; clear n0_ n1_; (try clear hb); (try clear hb2); (try clear hk); (try clear hi)))
      go_meet
      case rel => exact ⟨_, (true), (by first | rfl | (simp; done) | (simp [*]; done)), H', ⟨by first | omega | exact Nat.le_refl _⟩, ⟨by (with_reducible repeat (first | refine blk_drewN ?_ _ | refine blk_drew ?_ | refine blk_alloc ?_ _)); exact BK241.out⟩, ⟨by repeat (first | (with_reducible first | exact HB.out | apply below_alloc | apply pw_below_drewN | apply below_drew1 | refine below_set ?_ GE241.out) | exact HB.out)⟩⟩
  case rest =>
    clear HC4
    try clear c1
    try clear c2
    try clear p2
    try clear c7
    try clear c8
    try clear c8b0
    try clear c8b1
    obtain ⟨kq, x26_3, rfl, HA, HJ3, BK241, HB⟩ := hcut
    cases kq with
    | zero => exact absurd HA.out (by simp [sackbutlaw11_WeftRests.j0])
    | succ kj3 =>
      have H := HA.out
      clear HA
      simp only [sackbutlaw11_WeftRests.j0] at H
      by_cases c12 : x26_3 = true
      · subst c12
        have H1 : ((sackbutlaw11_awake.f kj3).bind fun t243 => (some t243)) = some r := by rw [if_pos rfl] at H; exact H
        clear H
        have H := H1
        clear H1
        replace H := Option.bind_eq_some_iff.mp H
        obtain ⟨t243, A130, H⟩ := H
        replace H : (some t243) = some r := H
        have A13 := Aside0.mk A130
        clear A130
        obtain rfl := Option.some.inj H
        go_wp2_with (first | ((with_reducible refine gate_callee (f := 21) rfl ?_); refine goesL_ (some 27) rfl rfl Try.func21 (by kernel_rfl) rfl #[] rfl (by (try simp only [List.map_toArray, List.map_cons, List.map_nil]); first | done | rfl | (simp only [List.length_drop, List.length_take]; rfl)) ?_; (with_reducible refine (sackbutlaw11_awake.calls kj3  t243 _ A13.out).mono ?_); rintro e w14 ⟨rfl, hb⟩; refine ⟨_, rfl, ?_⟩; have n0_ := Aside0.mk (blk_below (g := gb241) (o := .cells #[.bool a0_0, .int .i64 a0_1, .int .i64 a0_2, .int .i64 a0_3, .int .i64 a0_4] 44 (0, 0)) (by (with_reducible repeat (first | refine blk_drewN ?_ _ | refine blk_drew ?_ | refine blk_alloc ?_ _)); exact BK241.out) hb); have n1_ := Aside0.mk (below_step (by repeat (first | (with_reducible first | exact HB.out | apply below_alloc | apply pw_below_drewN | apply below_drew1 | refine below_set ?_ GE241.out) | exact HB.out)) hb); clear BK241; clear HB; have BK241 := n0_; have HB := n1_; clear n0_ n1_; (try clear hb); (try clear hb2); (try clear hk); (try clear hi)))
        go_ret
        exact ⟨by first | rfl | (simp [errW_none, errW_some] <;> rfl) | (simp [*, errW_none, errW_some] <;> rfl), by repeat (first | (with_reducible first | exact HB.out | apply below_alloc | apply pw_below_drewN | apply below_drew1 | refine below_set ?_ GE241.out) | exact HB.out)⟩
      · replace c12 := Bool.eq_false_iff.mpr c12
        subst c12
        have H1 : ((some (([] : List Int) : List Int)).bind fun y244 => (if y244.length + l1.length < 17592186044416 then ((some (y244 ++ l1 : List Int)).bind fun y247 => ((some (([] : List Int) : List Int)).bind fun y250 => (if y250.length + l2.length < 17592186044416 then ((some (y250 ++ l2 : List Int)).bind fun y253 => ((weft_Rest.f kj3 a0_0 a0_1 a0_2 a0_3 a0_4 y247 y253).bind fun bt256 => ((sackbutref11_Rest.f kj3 a0_0 a0_1 a0_2 a0_3 a0_4 l1 l2).bind fun bt260 => (if bt256.2 = bt260.2 then ((sackbutref01_Same.f kj3 bt256.1 bt260.1).bind fun t264 => (if t264 = true then ((sackbutref01_Same.f kj3 y247 l1).bind fun t265 => (if t265 = true then ((sackbutref01_Same.f kj3 y253 l2).bind fun t266 => (sackbutlaw11_WeftRests.j1 kj3 l1 y253 bt256.1 bt260.2 (!t266) a0_0 a0_1 a0_2 a0_3 a0_4)) else (sackbutlaw11_WeftRests.j1 kj3 l1 y253 bt256.1 bt260.2 true a0_0 a0_1 a0_2 a0_3 a0_4))) else (sackbutlaw11_WeftRests.j1 kj3 l1 y253 bt256.1 bt260.2 true a0_0 a0_1 a0_2 a0_3 a0_4))) else (sackbutlaw11_WeftRests.j1 kj3 l1 y253 bt256.1 bt260.2 true a0_0 a0_1 a0_2 a0_3 a0_4))))) else (none)))) else (none))) = some r := by rw [if_neg (show ¬ (false = true) by decide)] at H; exact H
        clear H
        have H := H1
        clear H1
        obtain ⟨y244, hy244⟩ : ∃ y_ : List Int, y_ = (([] : List Int)) := ⟨_, rfl⟩
        replace H : (if y244.length + l1.length < 17592186044416 then ((some (y244 ++ l1 : List Int)).bind fun y247 => ((some (([] : List Int) : List Int)).bind fun y250 => (if y250.length + l2.length < 17592186044416 then ((some (y250 ++ l2 : List Int)).bind fun y253 => ((weft_Rest.f kj3 a0_0 a0_1 a0_2 a0_3 a0_4 y247 y253).bind fun bt256 => ((sackbutref11_Rest.f kj3 a0_0 a0_1 a0_2 a0_3 a0_4 l1 l2).bind fun bt260 => (if bt256.2 = bt260.2 then ((sackbutref01_Same.f kj3 bt256.1 bt260.1).bind fun t264 => (if t264 = true then ((sackbutref01_Same.f kj3 y247 l1).bind fun t265 => (if t265 = true then ((sackbutref01_Same.f kj3 y253 l2).bind fun t266 => (sackbutlaw11_WeftRests.j1 kj3 l1 y253 bt256.1 bt260.2 (!t266) a0_0 a0_1 a0_2 a0_3 a0_4)) else (sackbutlaw11_WeftRests.j1 kj3 l1 y253 bt256.1 bt260.2 true a0_0 a0_1 a0_2 a0_3 a0_4))) else (sackbutlaw11_WeftRests.j1 kj3 l1 y253 bt256.1 bt260.2 true a0_0 a0_1 a0_2 a0_3 a0_4))) else (sackbutlaw11_WeftRests.j1 kj3 l1 y253 bt256.1 bt260.2 true a0_0 a0_1 a0_2 a0_3 a0_4))))) else (none)))) else (none)) = some r := by first | (rw [hy244]; with_reducible exact H) | (have H2_ := (Option.bind_some _ _).symm.trans H; rw [hy244]; with_reducible exact H2_) | (have H2_ := (Option.bind_some _ _).symm.trans H; with_reducible exact H2_) | with_reducible exact H | (rw [hy244]; exact H) | exact H
        have Ny244 := Aside0.mk hy244
        clear hy244
        by_cases c15 : y244.length + l1.length < 17592186044416
        · rw [if_pos c15] at H
          have LMc15 := Aside0.mk c15
          clear c15
          obtain ⟨y247, hy247⟩ : ∃ y_ : List Int, y_ = (y244 ++ l1) := ⟨_, rfl⟩
          replace H : ((some (([] : List Int) : List Int)).bind fun y250 => (if y250.length + l2.length < 17592186044416 then ((some (y250 ++ l2 : List Int)).bind fun y253 => ((weft_Rest.f kj3 a0_0 a0_1 a0_2 a0_3 a0_4 y247 y253).bind fun bt256 => ((sackbutref11_Rest.f kj3 a0_0 a0_1 a0_2 a0_3 a0_4 l1 l2).bind fun bt260 => (if bt256.2 = bt260.2 then ((sackbutref01_Same.f kj3 bt256.1 bt260.1).bind fun t264 => (if t264 = true then ((sackbutref01_Same.f kj3 y247 l1).bind fun t265 => (if t265 = true then ((sackbutref01_Same.f kj3 y253 l2).bind fun t266 => (sackbutlaw11_WeftRests.j1 kj3 l1 y253 bt256.1 bt260.2 (!t266) a0_0 a0_1 a0_2 a0_3 a0_4)) else (sackbutlaw11_WeftRests.j1 kj3 l1 y253 bt256.1 bt260.2 true a0_0 a0_1 a0_2 a0_3 a0_4))) else (sackbutlaw11_WeftRests.j1 kj3 l1 y253 bt256.1 bt260.2 true a0_0 a0_1 a0_2 a0_3 a0_4))) else (sackbutlaw11_WeftRests.j1 kj3 l1 y253 bt256.1 bt260.2 true a0_0 a0_1 a0_2 a0_3 a0_4))))) else (none))) = some r := by first | (rw [hy247]; with_reducible exact H) | (have H2_ := (Option.bind_some _ _).symm.trans H; rw [hy247]; with_reducible exact H2_) | (have H2_ := (Option.bind_some _ _).symm.trans H; with_reducible exact H2_) | with_reducible exact H | (rw [hy247]; exact H) | exact H
          have Ny247 := Aside0.mk hy247
          clear hy247
          obtain ⟨y250, hy250⟩ : ∃ y_ : List Int, y_ = (([] : List Int)) := ⟨_, rfl⟩
          replace H : (if y250.length + l2.length < 17592186044416 then ((some (y250 ++ l2 : List Int)).bind fun y253 => ((weft_Rest.f kj3 a0_0 a0_1 a0_2 a0_3 a0_4 y247 y253).bind fun bt256 => ((sackbutref11_Rest.f kj3 a0_0 a0_1 a0_2 a0_3 a0_4 l1 l2).bind fun bt260 => (if bt256.2 = bt260.2 then ((sackbutref01_Same.f kj3 bt256.1 bt260.1).bind fun t264 => (if t264 = true then ((sackbutref01_Same.f kj3 y247 l1).bind fun t265 => (if t265 = true then ((sackbutref01_Same.f kj3 y253 l2).bind fun t266 => (sackbutlaw11_WeftRests.j1 kj3 l1 y253 bt256.1 bt260.2 (!t266) a0_0 a0_1 a0_2 a0_3 a0_4)) else (sackbutlaw11_WeftRests.j1 kj3 l1 y253 bt256.1 bt260.2 true a0_0 a0_1 a0_2 a0_3 a0_4))) else (sackbutlaw11_WeftRests.j1 kj3 l1 y253 bt256.1 bt260.2 true a0_0 a0_1 a0_2 a0_3 a0_4))) else (sackbutlaw11_WeftRests.j1 kj3 l1 y253 bt256.1 bt260.2 true a0_0 a0_1 a0_2 a0_3 a0_4))))) else (none)) = some r := by first | (rw [hy250]; with_reducible exact H) | (have H2_ := (Option.bind_some _ _).symm.trans H; rw [hy250]; with_reducible exact H2_) | (have H2_ := (Option.bind_some _ _).symm.trans H; with_reducible exact H2_) | with_reducible exact H | (rw [hy250]; exact H) | exact H
          have Ny250 := Aside0.mk hy250
          clear hy250
          by_cases c16 : y250.length + l2.length < 17592186044416
          · rw [if_pos c16] at H
            have LMc16 := Aside0.mk c16
            clear c16
            obtain ⟨y253, hy253⟩ : ∃ y_ : List Int, y_ = (y250 ++ l2) := ⟨_, rfl⟩
            replace H : ((weft_Rest.f kj3 a0_0 a0_1 a0_2 a0_3 a0_4 y247 y253).bind fun bt256 => ((sackbutref11_Rest.f kj3 a0_0 a0_1 a0_2 a0_3 a0_4 l1 l2).bind fun bt260 => (if bt256.2 = bt260.2 then ((sackbutref01_Same.f kj3 bt256.1 bt260.1).bind fun t264 => (if t264 = true then ((sackbutref01_Same.f kj3 y247 l1).bind fun t265 => (if t265 = true then ((sackbutref01_Same.f kj3 y253 l2).bind fun t266 => (sackbutlaw11_WeftRests.j1 kj3 l1 y253 bt256.1 bt260.2 (!t266) a0_0 a0_1 a0_2 a0_3 a0_4)) else (sackbutlaw11_WeftRests.j1 kj3 l1 y253 bt256.1 bt260.2 true a0_0 a0_1 a0_2 a0_3 a0_4))) else (sackbutlaw11_WeftRests.j1 kj3 l1 y253 bt256.1 bt260.2 true a0_0 a0_1 a0_2 a0_3 a0_4))) else (sackbutlaw11_WeftRests.j1 kj3 l1 y253 bt256.1 bt260.2 true a0_0 a0_1 a0_2 a0_3 a0_4)))) = some r := by first | (rw [hy253]; with_reducible exact H) | (have H2_ := (Option.bind_some _ _).symm.trans H; rw [hy253]; with_reducible exact H2_) | (have H2_ := (Option.bind_some _ _).symm.trans H; with_reducible exact H2_) | with_reducible exact H | (rw [hy253]; exact H) | exact H
            have Ny253 := Aside0.mk hy253
            clear hy253
            replace H := Option.bind_eq_some_iff.mp H
            obtain ⟨⟨t256, t259⟩, A170, H⟩ := H
            replace H : ((sackbutref11_Rest.f kj3 a0_0 a0_1 a0_2 a0_3 a0_4 l1 l2).bind fun bt260 => (if t259 = bt260.2 then ((sackbutref01_Same.f kj3 t256 bt260.1).bind fun t264 => (if t264 = true then ((sackbutref01_Same.f kj3 y247 l1).bind fun t265 => (if t265 = true then ((sackbutref01_Same.f kj3 y253 l2).bind fun t266 => (sackbutlaw11_WeftRests.j1 kj3 l1 y253 t256 bt260.2 (!t266) a0_0 a0_1 a0_2 a0_3 a0_4)) else (sackbutlaw11_WeftRests.j1 kj3 l1 y253 t256 bt260.2 true a0_0 a0_1 a0_2 a0_3 a0_4))) else (sackbutlaw11_WeftRests.j1 kj3 l1 y253 t256 bt260.2 true a0_0 a0_1 a0_2 a0_3 a0_4))) else (sackbutlaw11_WeftRests.j1 kj3 l1 y253 t256 bt260.2 true a0_0 a0_1 a0_2 a0_3 a0_4))) = some r := H
            have A17 := Aside0.mk A170
            clear A170
            replace H := Option.bind_eq_some_iff.mp H
            obtain ⟨⟨t260, t263⟩, A180, H⟩ := H
            replace H : (if t259 = t263 then ((sackbutref01_Same.f kj3 t256 t260).bind fun t264 => (if t264 = true then ((sackbutref01_Same.f kj3 y247 l1).bind fun t265 => (if t265 = true then ((sackbutref01_Same.f kj3 y253 l2).bind fun t266 => (sackbutlaw11_WeftRests.j1 kj3 l1 y253 t256 t263 (!t266) a0_0 a0_1 a0_2 a0_3 a0_4)) else (sackbutlaw11_WeftRests.j1 kj3 l1 y253 t256 t263 true a0_0 a0_1 a0_2 a0_3 a0_4))) else (sackbutlaw11_WeftRests.j1 kj3 l1 y253 t256 t263 true a0_0 a0_1 a0_2 a0_3 a0_4))) else (sackbutlaw11_WeftRests.j1 kj3 l1 y253 t256 t263 true a0_0 a0_1 a0_2 a0_3 a0_4)) = some r := H
            have A18 := Aside0.mk A180
            clear A180
            have HC19 := Aside0.mk H
            clear H
            go_upto_region 6 with (first | ((with_reducible refine gate_dst (N := 28) rfl ?_); (try (refine gate_guard (by rfl) ?_; dsimp only)); refine Kd.R_lit (Kd.int .i64) _ 3 ?hg (N := 28) ?hd (xs := ([] : List Int)) (inner := []) (ok := fun _ => True) (okp := fun _ => True) ?hr ?hp (fun _ hk => hk) trivial (Below.refl _ _) (Nat.le_refl _) (by simp) ?_; (case hd => rfl); (case hg => rfl); (case hr => first | (go_simp; done) | (go_simp; rfl)); (case hp => exact (Reps.none _ _)); intro v245 w20 ho21 hb hg_ hnew_; clear hg_ hnew_; (first | rw [← Ny244.out] at ho21 | (simp only [Int.reduceToNat] at ho21; rw [← Ny244.out] at ho21)); have n0_ := Aside0.mk (Kd.R_lower ho21 (below_size (by repeat (first | (with_reducible first | exact HB.out | apply below_alloc | apply pw_below_drewN | apply below_drew1 | refine below_set ?_ GE241.out) | exact HB.out)))); have n1_ := Aside0.mk (blk_below (g := gb241) (o := .cells #[.bool a0_0, .int .i64 a0_1, .int .i64 a0_2, .int .i64 a0_3, .int .i64 a0_4] 44 (0, 0)) (by (with_reducible repeat (first | refine blk_drewN ?_ _ | refine blk_drew ?_ | refine blk_alloc ?_ _)); exact BK241.out) hb); have n2_ := Aside0.mk (below_step (by repeat (first | (with_reducible first | exact HB.out | apply below_alloc | apply pw_below_drewN | apply below_drew1 | refine below_set ?_ GE241.out) | exact HB.out)) hb); clear BK241; clear HB; have HO246 := n0_; have BK241 := n1_; have HB := n2_; clear n0_ n1_ n2_; clear hb ho21) | ((with_reducible refine gate_builtin (b := .append) (xs := #[.tmp 28, .tmp 29]) rfl ?_); (try (refine gate_guard (by rfl) ?_; dsimp only)); at_builtin; refine Kd.R_append_rows (Kd.int .i64) (w0 := w) w.heap.size rfl (.tmp 28) (.tmp 29) 23 3 (.int .i64 0) 8 rfl Try.underlying23 info3 rfl (by decide) (by omega) v245 y244 l1 _ _ _ (fun _ => True) (fun _ => False) rfl rfl ?aO ?aR (fun _ _ h => h) (fun _ h => h.elim) ?aF ?aB ?aS ?aL ?_; (case aR => repeat (first | exact (Kd.C_below HR1.out HB.out) | (with_reducible refine Kd.C_alloc ?_ _) | (with_reducible refine Kd.C_drewN ?_ _) | (with_reducible refine Kd.C_drew ?_))); (case aB => exact (by repeat (first | (with_reducible first | exact HB.out | apply below_alloc | apply pw_below_drewN | apply below_drew1 | refine below_set ?_ GE241.out) | exact HB.out))); (case aF => exact (fun _ _ => trivial)); (case aO => exact (by (with_reducible repeat (first | apply Kd.R_alloc | apply Kd.R_drewN | apply Kd.R_drew)); exact HO246.out)); (case aS => exact (below_size (by repeat (first | (with_reducible first | exact HB.out | apply below_alloc | apply pw_below_drewN | apply below_drew1 | refine below_set ?_ GE241.out) | exact HB.out)))); (case aL => have := LMc15.out; omega); intro v248 w22 ho hb hg hat; rw [← Ny247.out] at ho; have n0_ := Aside0.mk (blk_grown (g := gb241) (o := .cells #[.bool a0_0, .int .i64 a0_1, .int .i64 a0_2, .int .i64 a0_3, .int .i64 a0_4] 44 (0, 0)) (by (with_reducible repeat (first | refine blk_drewN ?_ _ | refine blk_drew ?_ | refine blk_alloc ?_ _)); exact BK241.out) hg (Kd.R_ne HO246.out BK241.out (by decide))); have n1_ := Aside0.mk (hb); have n2_ := Aside0.mk (ho); clear BK241; clear HB; clear HO246; have BK241 := n0_; have HB := n1_; have HO249 := n2_; clear n0_ n1_ n2_; clear ho hb hg hat) | ((with_reducible refine gate_dst (N := 31) rfl ?_); (try (refine gate_guard (by rfl) ?_; dsimp only)); refine Kd.R_lit (Kd.int .i64) _ 3 ?hg (N := 31) ?hd (xs := ([] : List Int)) (inner := []) (ok := fun _ => True) (okp := fun _ => True) ?hr ?hp (fun _ hk => hk) trivial (Below.refl _ _) (Nat.le_refl _) (by simp) ?_; (case hd => rfl); (case hg => rfl); (case hr => first | (go_simp; done) | (go_simp; rfl)); (case hp => exact (Reps.none _ _)); intro v251 w23 ho24 hb hg_ hnew_; clear hg_ hnew_; (first | rw [← Ny250.out] at ho24 | (simp only [Int.reduceToNat] at ho24; rw [← Ny250.out] at ho24)); have n0_ := Aside0.mk (Kd.R_elder' (by (with_reducible repeat (first | apply Kd.R_alloc | apply Kd.R_drewN | apply Kd.R_drew)); exact HO249.out) (Kd.R_base ho24) hb); have n1_ := Aside0.mk (Kd.R_lower (Kd.R_new' ho24 (Kd.R_lt (by (with_reducible repeat (first | apply Kd.R_alloc | apply Kd.R_drewN | apply Kd.R_drew)); exact HO249.out))) (below_size (by repeat (first | (with_reducible first | exact HB.out | apply below_alloc | apply pw_below_drewN | apply below_drew1 | refine below_set ?_ GE241.out) | exact HB.out)))); have n2_ := Aside0.mk (blk_below (g := gb241) (o := .cells #[.bool a0_0, .int .i64 a0_1, .int .i64 a0_2, .int .i64 a0_3, .int .i64 a0_4] 44 (0, 0)) (by (with_reducible repeat (first | refine blk_drewN ?_ _ | refine blk_drew ?_ | refine blk_alloc ?_ _)); exact BK241.out) hb); have n3_ := Aside0.mk (below_step (by repeat (first | (with_reducible first | exact HB.out | apply below_alloc | apply pw_below_drewN | apply below_drew1 | refine below_set ?_ GE241.out) | exact HB.out)) hb); clear HO249; clear BK241; clear HB; have HO249 := n0_; have HO252 := n1_; have BK241 := n2_; have HB := n3_; clear n0_ n1_ n2_ n3_; clear hb ho24) | ((with_reducible refine gate_builtin (b := .append) (xs := #[.tmp 31, .tmp 32]) rfl ?_); (try (refine gate_guard (by rfl) ?_; dsimp only)); at_builtin; refine Kd.R_append_rows (Kd.int .i64) (w0 := w) w.heap.size rfl (.tmp 31) (.tmp 32) 23 3 (.int .i64 0) 8 rfl Try.underlying23 info3 rfl (by decide) (by omega) v251 y250 l2 _ _ _ (fun k_ => some k_ ≠ (v248 : Value).ownBlock) (fun _ => False) rfl rfl ?aO ?aR (fun _ _ h => h) (fun _ h => h.elim) ?aF ?aB ?aS ?aL ?_; (case aR => repeat (first | exact (Kd.C_below HR2.out HB.out) | (with_reducible refine Kd.C_alloc ?_ _) | (with_reducible refine Kd.C_drewN ?_ _) | (with_reducible refine Kd.C_drew ?_))); (case aB => exact (by repeat (first | (with_reducible first | exact HB.out | apply below_alloc | apply pw_below_drewN | apply below_drew1 | refine below_set ?_ GE241.out) | exact HB.out))); (case aF => exact (fun k_ hk => Kd.fresh' (Kd.R_lt (by (with_reducible repeat (first | apply Kd.R_alloc | apply Kd.R_drewN | apply Kd.R_drew)); exact HO249.out)) k_ hk)); (case aO => exact (by (with_reducible repeat (first | apply Kd.R_alloc | apply Kd.R_drewN | apply Kd.R_drew)); exact Kd.R_mono HO252.out (fun _ hk => hk.2))); (case aS => exact (below_size (by repeat (first | (with_reducible first | exact HB.out | apply below_alloc | apply pw_below_drewN | apply below_drew1 | refine below_set ?_ GE241.out) | exact HB.out)))); (case aL => have := LMc16.out; omega); intro v254 w25 ho hb hg hat; rw [← Ny253.out] at ho; have n0_ := Aside0.mk (blk_grown (g := gb241) (o := .cells #[.bool a0_0, .int .i64 a0_1, .int .i64 a0_2, .int .i64 a0_3, .int .i64 a0_4] 44 (0, 0)) (by (with_reducible repeat (first | refine blk_drewN ?_ _ | refine blk_drew ?_ | refine blk_alloc ?_ _)); exact BK241.out) hg (Kd.R_ne HO252.out BK241.out (by decide))); have n1_ := Aside0.mk (Kd.R_after (ok := (fun _ => True)) (by (with_reducible repeat (first | apply Kd.R_alloc | apply Kd.R_drewN | apply Kd.R_drew)); exact HO249.out) hg hat); have n2_ := Aside0.mk (hb); have n3_ := Aside0.mk (ho); clear BK241; clear HO249; clear HB; clear HO252; have BK241 := n0_; have HO249 := n1_; have HB := n2_; have HO255 := n3_; clear n0_ n1_ n2_ n3_; clear ho hb hg hat; have hcz26_0 : w25.cell? ⟨gb241, 0, none⟩ = some (.bool a0_0) := (blk_cell BK241.out 0).trans rfl; have hcz26_1 : w25.cell? ⟨gb241, 1, none⟩ = some (.int .i64 a0_1) := (blk_cell BK241.out 1).trans rfl; have hcz26_2 : w25.cell? ⟨gb241, 2, none⟩ = some (.int .i64 a0_2) := (blk_cell BK241.out 2).trans rfl; have hcz26_3 : w25.cell? ⟨gb241, 3, none⟩ = some (.int .i64 a0_3) := (blk_cell BK241.out 3).trans rfl; have hcz26_4 : w25.cell? ⟨gb241, 4, none⟩ = some (.int .i64 a0_4) := (blk_cell BK241.out 4).trans rfl; have hfz26_0 := blk_frozen BK241.out 0; have hfz26_1 := blk_frozen BK241.out 1; have hfz26_2 := blk_frozen BK241.out 2; have hfz26_3 := blk_frozen BK241.out 3; have hfz26_4 := blk_frozen BK241.out 4; obtain ⟨Ao27, co27, eo27⟩ := Kd.R_slice HO249.out; subst eo27; obtain ⟨Ao28, co28, eo28⟩ := Kd.R_slice HO255.out; subst eo28) | ((with_reducible refine gate_callee (f := 25) rfl ?_); refine goesL_ (some 38) rfl rfl Try.func25 (by kernel_rfl) rfl #[.agg #[.bool a0_0, .int .i64 a0_1, .int .i64 a0_2, .int .i64 a0_3, .int .i64 a0_4], .slice Ao27 y247.length co27, .slice Ao28 y253.length co28] rfl (by (try simp only [List.map_toArray, List.map_cons, List.map_nil]); first | done | rfl | (simp only [List.length_drop, List.length_take]; rfl)) ?_; (with_reducible refine (weft_Rest.calls kj3 a0_0 a0_1 a0_2 a0_3 a0_4 _ _ y247 _ _ y253 t256 t259 _ ?side1 ?side2 ?side3 ?side4 A17.out).mono ?_); (case side1 => repeat (first | exact (Kd.R_reads' HO249.out).2.2 | (with_reducible refine Kd.C_alloc ?_ _) | (with_reducible refine Kd.C_drewN ?_ _) | (with_reducible refine Kd.C_drew ?_))); (case side2 => exact (Kd.R_reads' HO249.out).2.1); (case side3 => repeat (first | exact (Kd.R_reads' HO255.out).2.2 | (with_reducible refine Kd.C_alloc ?_ _) | (with_reducible refine Kd.C_drewN ?_ _) | (with_reducible refine Kd.C_drew ?_))); (case side4 => exact (Kd.R_reads' HO255.out).2.1); rintro e w29 ⟨v257, rfl, ho0, hb⟩; refine ⟨_, rfl, ?_⟩; have n0_ := Aside0.mk (Kd.R_elder' (by (with_reducible repeat (first | apply Kd.R_alloc | apply Kd.R_drewN | apply Kd.R_drew)); exact HO249.out) (Kd.R_base ho0) hb); have n1_ := Aside0.mk (Kd.R_elder' (by (with_reducible repeat (first | apply Kd.R_alloc | apply Kd.R_drewN | apply Kd.R_drew)); exact HO255.out) (Kd.R_base ho0) hb); have n2_ := Aside0.mk (Kd.R_lower (Kd.R_new' (Kd.R_new' ho0 (Kd.R_lt (by (with_reducible repeat (first | apply Kd.R_alloc | apply Kd.R_drewN | apply Kd.R_drew)); exact HO249.out))) (Kd.R_lt (by (with_reducible repeat (first | apply Kd.R_alloc | apply Kd.R_drewN | apply Kd.R_drew)); exact HO255.out))) (below_size (by repeat (first | (with_reducible first | exact HB.out | apply below_alloc | apply pw_below_drewN | apply below_drew1 | refine below_set ?_ GE241.out) | exact HB.out)))); have n3_ := Aside0.mk (blk_below (g := gb241) (o := .cells #[.bool a0_0, .int .i64 a0_1, .int .i64 a0_2, .int .i64 a0_3, .int .i64 a0_4] 44 (0, 0)) (by (with_reducible repeat (first | refine blk_drewN ?_ _ | refine blk_drew ?_ | refine blk_alloc ?_ _)); exact BK241.out) hb); have n4_ := Aside0.mk (below_step (by repeat (first | (with_reducible first | exact HB.out | apply below_alloc | apply pw_below_drewN | apply below_drew1 | refine below_set ?_ GE241.out) | exact HB.out)) hb); clear HO249; clear HO255; clear BK241; clear HB; have HO249 := n0_; have HO255 := n1_; have HO258 := n2_; have BK241 := n3_; have HB := n4_; clear n0_ n1_ n2_ n3_ n4_; (try clear hb); (try clear hb2); (try clear hk); (try clear hi); (try clear ho0); have hcz30_0 : w29.cell? ⟨gb241, 0, none⟩ = some (.bool a0_0) := (blk_cell BK241.out 0).trans rfl; have hcz30_1 : w29.cell? ⟨gb241, 1, none⟩ = some (.int .i64 a0_1) := (blk_cell BK241.out 1).trans rfl; have hcz30_2 : w29.cell? ⟨gb241, 2, none⟩ = some (.int .i64 a0_2) := (blk_cell BK241.out 2).trans rfl; have hcz30_3 : w29.cell? ⟨gb241, 3, none⟩ = some (.int .i64 a0_3) := (blk_cell BK241.out 3).trans rfl; have hcz30_4 : w29.cell? ⟨gb241, 4, none⟩ = some (.int .i64 a0_4) := (blk_cell BK241.out 4).trans rfl; have hfz30_0 := blk_frozen BK241.out 0; have hfz30_1 := blk_frozen BK241.out 1; have hfz30_2 := blk_frozen BK241.out 2; have hfz30_3 := blk_frozen BK241.out 3; have hfz30_4 := blk_frozen BK241.out 4) | ((with_reducible refine gate_callee (f := 22) rfl ?_); refine goesL_ (some 45) rfl rfl Try.func22 (by kernel_rfl) rfl #[.agg #[.bool a0_0, .int .i64 a0_1, .int .i64 a0_2, .int .i64 a0_3, .int .i64 a0_4], .slice A1 l1.length c1, .slice A2 l2.length c2] rfl (by (try simp only [List.map_toArray, List.map_cons, List.map_nil]); first | done | rfl | (simp only [List.length_drop, List.length_take]; rfl)) ?_; (with_reducible refine (sackbutref11_Rest.calls kj3 a0_0 a0_1 a0_2 a0_3 a0_4 _ _ l1 _ _ l2 t260 t263 _ ?side1 ?side2 ?side3 ?side4 A18.out).mono ?_); (case side1 => repeat (first | exact (Kd.C_below HR1.out HB.out) | (with_reducible refine Kd.C_alloc ?_ _) | (with_reducible refine Kd.C_drewN ?_ _) | (with_reducible refine Kd.C_drew ?_))); (case side2 => exact HC1.out); (case side3 => repeat (first | exact (Kd.C_below HR2.out HB.out) | (with_reducible refine Kd.C_alloc ?_ _) | (with_reducible refine Kd.C_drewN ?_ _) | (with_reducible refine Kd.C_drew ?_))); (case side4 => exact HC2.out); rintro e w31 ⟨v261, rfl, ho0, hb⟩; refine ⟨_, rfl, ?_⟩; have n0_ := Aside0.mk (Kd.R_elder' (by (with_reducible repeat (first | apply Kd.R_alloc | apply Kd.R_drewN | apply Kd.R_drew)); exact HO249.out) (Kd.R_base ho0) hb); have n1_ := Aside0.mk (Kd.R_elder' (by (with_reducible repeat (first | apply Kd.R_alloc | apply Kd.R_drewN | apply Kd.R_drew)); exact HO255.out) (Kd.R_base ho0) hb); have n2_ := Aside0.mk (Kd.R_elder' (by (with_reducible repeat (first | apply Kd.R_alloc | apply Kd.R_drewN | apply Kd.R_drew)); exact HO258.out) (Kd.R_base ho0) hb); have n3_ := Aside0.mk (Kd.R_lower (Kd.R_new' (Kd.R_new' (Kd.R_new' ho0 (Kd.R_lt (by (with_reducible repeat (first | apply Kd.R_alloc | apply Kd.R_drewN | apply Kd.R_drew)); exact HO249.out))) (Kd.R_lt (by (with_reducible repeat (first | apply Kd.R_alloc | apply Kd.R_drewN | apply Kd.R_drew)); exact HO255.out))) (Kd.R_lt (by (with_reducible repeat (first | apply Kd.R_alloc | apply Kd.R_drewN | apply Kd.R_drew)); exact HO258.out))) (below_size (by repeat (first | (with_reducible first | exact HB.out | apply below_alloc | apply pw_below_drewN | apply below_drew1 | refine below_set ?_ GE241.out) | exact HB.out)))); have n4_ := Aside0.mk (blk_below (g := gb241) (o := .cells #[.bool a0_0, .int .i64 a0_1, .int .i64 a0_2, .int .i64 a0_3, .int .i64 a0_4] 44 (0, 0)) (by (with_reducible repeat (first | refine blk_drewN ?_ _ | refine blk_drew ?_ | refine blk_alloc ?_ _)); exact BK241.out) hb); have n5_ := Aside0.mk (below_step (by repeat (first | (with_reducible first | exact HB.out | apply below_alloc | apply pw_below_drewN | apply below_drew1 | refine below_set ?_ GE241.out) | exact HB.out)) hb); clear HO249; clear HO255; clear HO258; clear BK241; clear HB; have HO249 := n0_; have HO255 := n1_; have HO258 := n2_; have HO262 := n3_; have BK241 := n4_; have HB := n5_; clear n0_ n1_ n2_ n3_ n4_ n5_; (try clear hb); (try clear hb2); (try clear hk); (try clear hi); (try clear ho0)))
            (try simp only [Act.put, List.setIfInBounds_toArray, List.set_cons_zero, List.set_cons_succ])
            go_cut [68] (fun v68 wc => ∃ (kq : Nat) (x68_18 : Bool), v68 = .bool x68_18 ∧ Aside0 (sackbutlaw11_WeftRests.j1 kq l1 y253 t256 t263 x68_18 a0_0 a0_1 a0_2 a0_3 a0_4 = some r) ∧ Aside0 (kq ≤ kj3) ∧ Aside0 (Kd.R (Kd.int .i64) 3 wc w.heap.size (fun k_ => some k_ ≠ (v257 : Value).ownBlock) (.slice Ao28 y253.length co28) y253) ∧ Aside0 (Kd.R (Kd.int .i64) 3 wc w.heap.size (fun k_ => some k_ ≠ ((.slice Ao28 y253.length co28) : Value).ownBlock) v257 t256) ∧ Aside0 (wc.heap[gb241]? = some (.cells #[.bool a0_0, .int .i64 a0_1, .int .i64 a0_2, .int .i64 a0_3, .int .i64 a0_4] 44 (0, 0))) ∧ Aside0 (Below w.heap.size w wc))
            case first =>
              have H := HC19.out
              clear HC19
              by_cases c32 : t259 = t263
              · rw [if_pos c32] at H
                have c32b0 : (t259 == t263) = true := beq_iff_eq.mpr c32
                have c32b1 : (t259 != t263) = false := bne_eq_false_iff_eq.mpr c32
                clear c32
                (first | rw [c32b0] | (simp only [i64_w, i32_w]; rw [c32b0]) | skip)
                replace H := Option.bind_eq_some_iff.mp H
                obtain ⟨t264, A330, H⟩ := H
                replace H : (if t264 = true then ((sackbutref01_Same.f kj3 y247 l1).bind fun t265 => (if t265 = true then ((sackbutref01_Same.f kj3 y253 l2).bind fun t266 => (sackbutlaw11_WeftRests.j1 kj3 l1 y253 t256 t263 (!t266) a0_0 a0_1 a0_2 a0_3 a0_4)) else (sackbutlaw11_WeftRests.j1 kj3 l1 y253 t256 t263 true a0_0 a0_1 a0_2 a0_3 a0_4))) else (sackbutlaw11_WeftRests.j1 kj3 l1 y253 t256 t263 true a0_0 a0_1 a0_2 a0_3 a0_4)) = some r := H
                have A33 := Aside0.mk A330
                clear A330
                by_cases c34 : t264 = true
                · subst c34
                  have H1 : ((sackbutref01_Same.f kj3 y247 l1).bind fun t265 => (if t265 = true then ((sackbutref01_Same.f kj3 y253 l2).bind fun t266 => (sackbutlaw11_WeftRests.j1 kj3 l1 y253 t256 t263 (!t266) a0_0 a0_1 a0_2 a0_3 a0_4)) else (sackbutlaw11_WeftRests.j1 kj3 l1 y253 t256 t263 true a0_0 a0_1 a0_2 a0_3 a0_4))) = some r := by rw [if_pos rfl] at H; exact H
                  clear H
                  have H := H1
                  clear H1
                  replace H := Option.bind_eq_some_iff.mp H
                  obtain ⟨t265, A350, H⟩ := H
                  replace H : (if t265 = true then ((sackbutref01_Same.f kj3 y253 l2).bind fun t266 => (sackbutlaw11_WeftRests.j1 kj3 l1 y253 t256 t263 (!t266) a0_0 a0_1 a0_2 a0_3 a0_4)) else (sackbutlaw11_WeftRests.j1 kj3 l1 y253 t256 t263 true a0_0 a0_1 a0_2 a0_3 a0_4)) = some r := H
                  have A35 := Aside0.mk A350
                  clear A350
                  by_cases c36 : t265 = true
                  · subst c36
                    have H1 : ((sackbutref01_Same.f kj3 y253 l2).bind fun t266 => (sackbutlaw11_WeftRests.j1 kj3 l1 y253 t256 t263 (!t266) a0_0 a0_1 a0_2 a0_3 a0_4)) = some r := by rw [if_pos rfl] at H; exact H
                    clear H
                    have H := H1
                    clear H1
                    replace H := Option.bind_eq_some_iff.mp H
                    obtain ⟨t266, A370, H⟩ := H
                    replace H : (sackbutlaw11_WeftRests.j1 kj3 l1 y253 t256 t263 (!t266) a0_0 a0_1 a0_2 a0_3 a0_4) = some r := H
                    have A37 := Aside0.mk A370
                    clear A370
                    have H' := Aside0.mk H
                    clear H
                    obtain ⟨Ao38, co38, eo38⟩ := Kd.R_slice HO258.out
                    subst eo38
                    obtain ⟨Ao39, co39, eo39⟩ := Kd.R_slice HO262.out
                    subst eo39
                    go_wp2_with (first | (go_at_call 16; (with_reducible refine (sackbutref01_Same.calls kj3 _ _ t256 _ _ t260 true _ ?side1 ?side2 ?side3 ?side4 A33.out).mono ?_); (case side1 => repeat (first | exact (Kd.R_reads' HO258.out).2.2 | (with_reducible refine Kd.C_alloc ?_ _) | (with_reducible refine Kd.C_drewN ?_ _) | (with_reducible refine Kd.C_drew ?_))); (case side2 => exact (Kd.R_reads' HO258.out).2.1); (case side3 => repeat (first | exact (Kd.R_reads' HO262.out).2.2 | (with_reducible refine Kd.C_alloc ?_ _) | (with_reducible refine Kd.C_drewN ?_ _) | (with_reducible refine Kd.C_drew ?_))); (case side4 => exact (Kd.R_reads' HO262.out).2.1); rintro e w' ⟨rfl, ⟨nd, rfl⟩⟩) | (go_at_call 16; (with_reducible refine (sackbutref01_Same.calls kj3 _ _ y247 _ _ l1 true _ ?side1 ?side2 ?side3 ?side4 A35.out).mono ?_); (case side1 => repeat (first | exact (Kd.R_reads' HO249.out).2.2 | (with_reducible refine Kd.C_alloc ?_ _) | (with_reducible refine Kd.C_drewN ?_ _) | (with_reducible refine Kd.C_drew ?_))); (case side2 => exact (Kd.R_reads' HO249.out).2.1); (case side3 => repeat (first | exact (Kd.C_below HR1.out (by repeat (first | (with_reducible first | exact HB.out | apply below_alloc | apply pw_below_drewN | apply below_drew1 | refine below_set ?_ GE241.out) | exact HB.out))) | (with_reducible refine Kd.C_alloc ?_ _) | (with_reducible refine Kd.C_drewN ?_ _) | (with_reducible refine Kd.C_drew ?_))); (case side4 => exact HC1.out); rintro e w' ⟨rfl, ⟨nd, rfl⟩⟩) | (go_at_call 16; (with_reducible refine (sackbutref01_Same.calls kj3 _ _ y253 _ _ l2 t266 _ ?side1 ?side2 ?side3 ?side4 A37.out).mono ?_); (case side1 => repeat (first | exact (Kd.R_reads' HO255.out).2.2 | (with_reducible refine Kd.C_alloc ?_ _) | (with_reducible refine Kd.C_drewN ?_ _) | (with_reducible refine Kd.C_drew ?_))); (case side2 => exact (Kd.R_reads' HO255.out).2.1); (case side3 => repeat (first | exact (Kd.C_below HR2.out (by repeat (first | (with_reducible first | exact HB.out | apply below_alloc | apply pw_below_drewN | apply below_drew1 | refine below_set ?_ GE241.out) | exact HB.out))) | (with_reducible refine Kd.C_alloc ?_ _) | (with_reducible refine Kd.C_drewN ?_ _) | (with_reducible refine Kd.C_drew ?_))); (case side4 => exact HC2.out); rintro e w' ⟨rfl, ⟨nd, rfl⟩⟩))
                    go_meet
                    case rel => exact ⟨_, (!t266), (by first | rfl | (simp; done) | (simp [*]; done)), H', ⟨by have := HJ3.out; first | omega | exact Nat.le_refl _⟩, ⟨by (with_reducible repeat (first | apply Kd.R_alloc | apply Kd.R_drewN | apply Kd.R_drew)); exact Kd.R_mono HO255.out (fun _ hk => hk.1.2)⟩, ⟨by (with_reducible repeat (first | apply Kd.R_alloc | apply Kd.R_drewN | apply Kd.R_drew)); exact Kd.R_mono HO258.out (fun _ hk => hk.1.2)⟩, ⟨by (with_reducible repeat (first | refine blk_drewN ?_ _ | refine blk_drew ?_ | refine blk_alloc ?_ _)); exact BK241.out⟩, ⟨by repeat (first | (with_reducible first | exact HB.out | apply below_alloc | apply pw_below_drewN | apply below_drew1 | refine below_set ?_ GE241.out) | exact HB.out)⟩⟩
                  · replace c36 := Bool.eq_false_iff.mpr c36
                    subst c36
                    have H1 : (sackbutlaw11_WeftRests.j1 kj3 l1 y253 t256 t263 true a0_0 a0_1 a0_2 a0_3 a0_4) = some r := by rw [if_neg (show ¬ (false = true) by decide)] at H; exact H
                    clear H
                    have H := H1
                    clear H1
                    have H' := Aside0.mk H
                    clear H
                    obtain ⟨Ao40, co40, eo40⟩ := Kd.R_slice HO258.out
                    subst eo40
                    obtain ⟨Ao41, co41, eo41⟩ := Kd.R_slice HO262.out
                    subst eo41
                    go_wp2_with (first | (go_at_call 16; (with_reducible refine (sackbutref01_Same.calls kj3 _ _ t256 _ _ t260 true _ ?side1 ?side2 ?side3 ?side4 A33.out).mono ?_); (case side1 => repeat (first | exact (Kd.R_reads' HO258.out).2.2 | (with_reducible refine Kd.C_alloc ?_ _) | (with_reducible refine Kd.C_drewN ?_ _) | (with_reducible refine Kd.C_drew ?_))); (case side2 => exact (Kd.R_reads' HO258.out).2.1); (case side3 => repeat (first | exact (Kd.R_reads' HO262.out).2.2 | (with_reducible refine Kd.C_alloc ?_ _) | (with_reducible refine Kd.C_drewN ?_ _) | (with_reducible refine Kd.C_drew ?_))); (case side4 => exact (Kd.R_reads' HO262.out).2.1); rintro e w' ⟨rfl, ⟨nd, rfl⟩⟩) | (go_at_call 16; (with_reducible refine (sackbutref01_Same.calls kj3 _ _ y247 _ _ l1 false _ ?side1 ?side2 ?side3 ?side4 A35.out).mono ?_); (case side1 => repeat (first | exact (Kd.R_reads' HO249.out).2.2 | (with_reducible refine Kd.C_alloc ?_ _) | (with_reducible refine Kd.C_drewN ?_ _) | (with_reducible refine Kd.C_drew ?_))); (case side2 => exact (Kd.R_reads' HO249.out).2.1); (case side3 => repeat (first | exact (Kd.C_below HR1.out (by repeat (first | (with_reducible first | exact HB.out | apply below_alloc | apply pw_below_drewN | apply below_drew1 | refine below_set ?_ GE241.out) | exact HB.out))) | (with_reducible refine Kd.C_alloc ?_ _) | (with_reducible refine Kd.C_drewN ?_ _) | (with_reducible refine Kd.C_drew ?_))); (case side4 => exact HC1.out); rintro e w' ⟨rfl, ⟨nd, rfl⟩⟩))
                    go_meet
                    case rel => exact ⟨_, (true), (by first | rfl | (simp; done) | (simp [*]; done)), H', ⟨by have := HJ3.out; first | omega | exact Nat.le_refl _⟩, ⟨by (with_reducible repeat (first | apply Kd.R_alloc | apply Kd.R_drewN | apply Kd.R_drew)); exact Kd.R_mono HO255.out (fun _ hk => hk.1.2)⟩, ⟨by (with_reducible repeat (first | apply Kd.R_alloc | apply Kd.R_drewN | apply Kd.R_drew)); exact Kd.R_mono HO258.out (fun _ hk => hk.1.2)⟩, ⟨by (with_reducible repeat (first | refine blk_drewN ?_ _ | refine blk_drew ?_ | refine blk_alloc ?_ _)); exact BK241.out⟩, ⟨by repeat (first | (with_reducible first | exact HB.out | apply below_alloc | apply pw_below_drewN | apply below_drew1 | refine below_set ?_ GE241.out) | exact HB.out)⟩⟩
                · replace c34 := Bool.eq_false_iff.mpr c34
                  subst c34
                  have H1 : (sackbutlaw11_WeftRests.j1 kj3 l1 y253 t256 t263 true a0_0 a0_1 a0_2 a0_3 a0_4) = some r := by rw [if_neg (show ¬ (false = true) by decide)] at H; exact H
                  clear H
                  have H := H1
                  clear H1
                  have H' := Aside0.mk H
                  clear H
                  obtain ⟨Ao42, co42, eo42⟩ := Kd.R_slice HO258.out
                  subst eo42
                  obtain ⟨Ao43, co43, eo43⟩ := Kd.R_slice HO262.out
                  subst eo43
                  go_wp2_with (first | (go_at_call 16; (with_reducible refine (sackbutref01_Same.calls kj3 _ _ t256 _ _ t260 false _ ?side1 ?side2 ?side3 ?side4 A33.out).mono ?_); (case side1 => repeat (first | exact (Kd.R_reads' HO258.out).2.2 | (with_reducible refine Kd.C_alloc ?_ _) | (with_reducible refine Kd.C_drewN ?_ _) | (with_reducible refine Kd.C_drew ?_))); (case side2 => exact (Kd.R_reads' HO258.out).2.1); (case side3 => repeat (first | exact (Kd.R_reads' HO262.out).2.2 | (with_reducible refine Kd.C_alloc ?_ _) | (with_reducible refine Kd.C_drewN ?_ _) | (with_reducible refine Kd.C_drew ?_))); (case side4 => exact (Kd.R_reads' HO262.out).2.1); rintro e w' ⟨rfl, ⟨nd, rfl⟩⟩))
                  go_meet
                  case rel => exact ⟨_, (true), (by first | rfl | (simp; done) | (simp [*]; done)), H', ⟨by have := HJ3.out; first | omega | exact Nat.le_refl _⟩, ⟨by (with_reducible repeat (first | apply Kd.R_alloc | apply Kd.R_drewN | apply Kd.R_drew)); exact Kd.R_mono HO255.out (fun _ hk => hk.1.2)⟩, ⟨by (with_reducible repeat (first | apply Kd.R_alloc | apply Kd.R_drewN | apply Kd.R_drew)); exact Kd.R_mono HO258.out (fun _ hk => hk.1.2)⟩, ⟨by (with_reducible repeat (first | refine blk_drewN ?_ _ | refine blk_drew ?_ | refine blk_alloc ?_ _)); exact BK241.out⟩, ⟨by repeat (first | (with_reducible first | exact HB.out | apply below_alloc | apply pw_below_drewN | apply below_drew1 | refine below_set ?_ GE241.out) | exact HB.out)⟩⟩
              · rw [if_neg c32] at H
                have c32b0 : (t259 == t263) = false := beq_eq_false_iff_ne.mpr c32
                have c32b1 : (t259 != t263) = true := bne_iff_ne.mpr c32
                (first | rw [c32b0] | (simp only [i64_w, i32_w]; rw [c32b0]) | skip)
                have H' := Aside0.mk H
                clear H
                go_wp2
                go_meet
                case rel => exact ⟨_, (true), (by first | rfl | (simp; done) | (simp [*]; done)), H', ⟨by have := HJ3.out; first | omega | exact Nat.le_refl _⟩, ⟨by (with_reducible repeat (first | apply Kd.R_alloc | apply Kd.R_drewN | apply Kd.R_drew)); exact Kd.R_mono HO255.out (fun _ hk => hk.1.2)⟩, ⟨by (with_reducible repeat (first | apply Kd.R_alloc | apply Kd.R_drewN | apply Kd.R_drew)); exact Kd.R_mono HO258.out (fun _ hk => hk.1.2)⟩, ⟨by (with_reducible repeat (first | refine blk_drewN ?_ _ | refine blk_drew ?_ | refine blk_alloc ?_ _)); exact BK241.out⟩, ⟨by repeat (first | (with_reducible first | exact HB.out | apply below_alloc | apply pw_below_drewN | apply below_drew1 | refine below_set ?_ GE241.out) | exact HB.out)⟩⟩
            case rest =>
              clear HC19
              try clear c1
              try clear c2
              try clear p2
              try clear c3
              try clear c7
              try clear c8
              try clear c8b0
              try clear c8b1
              try clear c12
              try clear c15
              try clear c16
              try clear c21
              try clear c22
              try clear c25
              try clear c32
              try clear c32b0
              try clear c32b1
              try clear c34
              try clear c36
              try clear hcz26_0
              try clear hcz26_1
              try clear hcz26_2
              try clear hcz26_3
              try clear hcz26_4
              try clear hcz30_0
              try clear hcz30_1
              try clear hcz30_2
              try clear hcz30_3
              try clear hcz30_4
              try clear hfz26_0
              try clear hfz26_1
              try clear hfz26_2
              try clear hfz26_3
              try clear hfz26_4
              try clear hfz30_0
              try clear hfz30_1
              try clear hfz30_2
              try clear hfz30_3
              try clear hfz30_4
              try clear p2
              obtain ⟨kq, x68_18, rfl, HA, HJ18, HO_8, HO_9, BK241, HB⟩ := hcut
              cases kq with
              | zero => exact absurd HA.out (by simp [sackbutlaw11_WeftRests.j1])
              | succ kj18 =>
                have H := HA.out
                clear HA
                simp only [sackbutlaw11_WeftRests.j1] at H
                by_cases c44 : x68_18 = true
                · subst c44
                  have H1 : (some false) = some r := by rw [if_pos rfl] at H; exact H
                  clear H
                  have H := H1
                  clear H1
                  obtain rfl := Option.some.inj H
                  go_wp2
                  go_ret
                  exact ⟨by first | rfl | (simp [errW_none, errW_some] <;> rfl) | (simp [*, errW_none, errW_some] <;> rfl), by repeat (first | (with_reducible first | exact HB.out | apply below_alloc | apply pw_below_drewN | apply below_drew1 | refine below_set ?_ GE241.out) | exact HB.out)⟩
                · replace c44 := Bool.eq_false_iff.mpr c44
                  subst c44
                  have H1 : (if t263 = 0 then ((weft_Back.f kj18 a0_0 a0_1 a0_2 a0_3 a0_4 t256 y253 8388607).bind fun bt267 => (if bt267.2 = 0 then ((sackbutref01_Same.f kj18 bt267.1 l1).bind fun t271 => (some t271)) else (some false))) else (some true)) = some r := by rw [if_neg (show ¬ (false = true) by decide)] at H; exact H
                  clear H
                  have H := H1
                  clear H1
                  by_cases c45 : t263 = 0
                  · rw [if_pos c45] at H
                    have c45b0 : (t263 == 0) = true := beq_iff_eq.mpr c45
                    have c45b1 : (t263 != 0) = false := bne_eq_false_iff_eq.mpr c45
                    clear c45
                    replace H := Option.bind_eq_some_iff.mp H
                    obtain ⟨⟨t267, t270⟩, A460, H⟩ := H
                    replace H : (if t270 = 0 then ((sackbutref01_Same.f kj18 t267 l1).bind fun t271 => (some t271)) else (some false)) = some r := H
                    have A46 := Aside0.mk A460
                    clear A460
                    by_cases c47 : t270 = 0
                    · rw [if_pos c47] at H
                      have c47b0 : (t270 == 0) = true := beq_iff_eq.mpr c47
                      have c47b1 : (t270 != 0) = false := bne_eq_false_iff_eq.mpr c47
                      clear c47
                      replace H := Option.bind_eq_some_iff.mp H
                      obtain ⟨t271, A480, H⟩ := H
                      replace H : (some t271) = some r := H
                      have A48 := Aside0.mk A480
                      clear A480
                      obtain rfl := Option.some.inj H
                      have hcz49_0 : wc.cell? ⟨gb241, 0, none⟩ = some (.bool a0_0) := (blk_cell BK241.out 0).trans rfl
                      have hcz49_1 : wc.cell? ⟨gb241, 1, none⟩ = some (.int .i64 a0_1) := (blk_cell BK241.out 1).trans rfl
                      have hcz49_2 : wc.cell? ⟨gb241, 2, none⟩ = some (.int .i64 a0_2) := (blk_cell BK241.out 2).trans rfl
                      have hcz49_3 : wc.cell? ⟨gb241, 3, none⟩ = some (.int .i64 a0_3) := (blk_cell BK241.out 3).trans rfl
                      have hcz49_4 : wc.cell? ⟨gb241, 4, none⟩ = some (.int .i64 a0_4) := (blk_cell BK241.out 4).trans rfl
                      have hfz49_0 := blk_frozen BK241.out 0
                      have hfz49_1 := blk_frozen BK241.out 1
                      have hfz49_2 := blk_frozen BK241.out 2
                      have hfz49_3 := blk_frozen BK241.out 3
                      have hfz49_4 := blk_frozen BK241.out 4
                      obtain ⟨Ao50, co50, eo50⟩ := Kd.R_slice HO_9.out
                      subst eo50
                      go_wp2_with (first | ((with_reducible refine gate_callee (f := 29) rfl ?_); refine goesL_ (some 75) rfl rfl Try.func29 (by kernel_rfl) rfl #[.agg #[.bool a0_0, .int .i64 a0_1, .int .i64 a0_2, .int .i64 a0_3, .int .i64 a0_4], .slice Ao50 t256.length co50, .slice Ao28 y253.length co28, .int .i64 8388607] rfl (by (try simp only [List.map_toArray, List.map_cons, List.map_nil]); first | done | rfl | (simp only [List.length_drop, List.length_take]; rfl)) ?_; (with_reducible refine (weft_Back.calls kj18 a0_0 a0_1 a0_2 a0_3 a0_4 _ _ t256 _ _ y253 8388607 t267 t270 _ ?side1 ?side2 ?side3 ?side4 A46.out).mono ?_); (case side1 => repeat (first | exact (Kd.R_reads' HO_9.out).2.2 | (with_reducible refine Kd.C_alloc ?_ _) | (with_reducible refine Kd.C_drewN ?_ _) | (with_reducible refine Kd.C_drew ?_))); (case side2 => exact (Kd.R_reads' HO_9.out).2.1); (case side3 => repeat (first | exact (Kd.R_reads' HO_8.out).2.2 | (with_reducible refine Kd.C_alloc ?_ _) | (with_reducible refine Kd.C_drewN ?_ _) | (with_reducible refine Kd.C_drew ?_))); (case side4 => exact (Kd.R_reads' HO_8.out).2.1); rintro e w51 ⟨v268, rfl, ho0, hb⟩; refine ⟨_, rfl, ?_⟩; have n0_ := Aside0.mk (Kd.R_elder' (by (with_reducible repeat (first | apply Kd.R_alloc | apply Kd.R_drewN | apply Kd.R_drew)); exact HO_8.out) (Kd.R_base ho0) hb); have n1_ := Aside0.mk (Kd.R_elder' (by (with_reducible repeat (first | apply Kd.R_alloc | apply Kd.R_drewN | apply Kd.R_drew)); exact HO_9.out) (Kd.R_base ho0) hb); have n2_ := Aside0.mk (Kd.R_lower (Kd.R_new' (Kd.R_new' ho0 (Kd.R_lt (by (with_reducible repeat (first | apply Kd.R_alloc | apply Kd.R_drewN | apply Kd.R_drew)); exact HO_8.out))) (Kd.R_lt (by (with_reducible repeat (first | apply Kd.R_alloc | apply Kd.R_drewN | apply Kd.R_drew)); exact HO_9.out))) (below_size (by repeat (first | (with_reducible first | exact HB.out | apply below_alloc | apply pw_below_drewN | apply below_drew1 | refine below_set ?_ GE241.out) | exact HB.out)))); have n3_ := Aside0.mk (blk_below (g := gb241) (o := .cells #[.bool a0_0, .int .i64 a0_1, .int .i64 a0_2, .int .i64 a0_3, .int .i64 a0_4] 44 (0, 0)) (by (with_reducible repeat (first | refine blk_drewN ?_ _ | refine blk_drew ?_ | refine blk_alloc ?_ _)); exact BK241.out) hb); have n4_ := Aside0.mk (below_step (by repeat (first | (with_reducible first | exact HB.out | apply below_alloc | apply pw_below_drewN | apply below_drew1 | refine below_set ?_ GE241.out) | exact HB.out)) hb); clear HO_8; clear HO_9; clear BK241; clear HB; have HO_8 := n0_; have HO_9 := n1_; have HO269 := n2_; have BK241 := n3_; have HB := n4_; clear n0_ n1_ n2_ n3_ n4_; (try clear hb); (try clear hb2); (try clear hk); (try clear hi); (try clear ho0); obtain ⟨Ao52, co52, eo52⟩ := Kd.R_slice HO269.out; subst eo52) | (go_at_call 16; (with_reducible refine (sackbutref01_Same.calls kj18 _ _ t267 _ _ l1 t271 _ ?side1 ?side2 ?side3 ?side4 A48.out).mono ?_); (case side1 => repeat (first | exact (Kd.R_reads' HO269.out).2.2 | (with_reducible refine Kd.C_alloc ?_ _) | (with_reducible refine Kd.C_drewN ?_ _) | (with_reducible refine Kd.C_drew ?_))); (case side2 => exact (Kd.R_reads' HO269.out).2.1); (case side3 => repeat (first | exact (Kd.C_below HR1.out HB.out) | (with_reducible refine Kd.C_alloc ?_ _) | (with_reducible refine Kd.C_drewN ?_ _) | (with_reducible refine Kd.C_drew ?_))); (case side4 => exact HC1.out); rintro e w' ⟨rfl, ⟨nd, rfl⟩⟩))
                      go_ret
                      exact ⟨by first | rfl | (simp [errW_none, errW_some] <;> rfl) | (simp [*, errW_none, errW_some] <;> rfl), by repeat (first | (with_reducible first | exact HB.out | apply below_alloc | apply pw_below_drewN | apply below_drew1 | refine below_set ?_ GE241.out) | exact HB.out)⟩
                    · rw [if_neg c47] at H
                      have c47b0 : (t270 == 0) = false := beq_eq_false_iff_ne.mpr c47
                      have c47b1 : (t270 != 0) = true := bne_iff_ne.mpr c47
                      obtain rfl := Option.some.inj H
                      have hcz53_0 : wc.cell? ⟨gb241, 0, none⟩ = some (.bool a0_0) := (blk_cell BK241.out 0).trans rfl
                      have hcz53_1 : wc.cell? ⟨gb241, 1, none⟩ = some (.int .i64 a0_1) := (blk_cell BK241.out 1).trans rfl
                      have hcz53_2 : wc.cell? ⟨gb241, 2, none⟩ = some (.int .i64 a0_2) := (blk_cell BK241.out 2).trans rfl
                      have hcz53_3 : wc.cell? ⟨gb241, 3, none⟩ = some (.int .i64 a0_3) := (blk_cell BK241.out 3).trans rfl
                      have hcz53_4 : wc.cell? ⟨gb241, 4, none⟩ = some (.int .i64 a0_4) := (blk_cell BK241.out 4).trans rfl
                      have hfz53_0 := blk_frozen BK241.out 0
                      have hfz53_1 := blk_frozen BK241.out 1
                      have hfz53_2 := blk_frozen BK241.out 2
                      have hfz53_3 := blk_frozen BK241.out 3
                      have hfz53_4 := blk_frozen BK241.out 4
                      obtain ⟨Ao54, co54, eo54⟩ := Kd.R_slice HO_9.out
                      subst eo54
                      go_wp2_with (first | ((with_reducible refine gate_callee (f := 29) rfl ?_); refine goesL_ (some 75) rfl rfl Try.func29 (by kernel_rfl) rfl #[.agg #[.bool a0_0, .int .i64 a0_1, .int .i64 a0_2, .int .i64 a0_3, .int .i64 a0_4], .slice Ao54 t256.length co54, .slice Ao28 y253.length co28, .int .i64 8388607] rfl (by (try simp only [List.map_toArray, List.map_cons, List.map_nil]); first | done | rfl | (simp only [List.length_drop, List.length_take]; rfl)) ?_; (with_reducible refine (weft_Back.calls kj18 a0_0 a0_1 a0_2 a0_3 a0_4 _ _ t256 _ _ y253 8388607 t267 t270 _ ?side1 ?side2 ?side3 ?side4 A46.out).mono ?_); (case side1 => repeat (first | exact (Kd.R_reads' HO_9.out).2.2 | (with_reducible refine Kd.C_alloc ?_ _) | (with_reducible refine Kd.C_drewN ?_ _) | (with_reducible refine Kd.C_drew ?_))); (case side2 => exact (Kd.R_reads' HO_9.out).2.1); (case side3 => repeat (first | exact (Kd.R_reads' HO_8.out).2.2 | (with_reducible refine Kd.C_alloc ?_ _) | (with_reducible refine Kd.C_drewN ?_ _) | (with_reducible refine Kd.C_drew ?_))); (case side4 => exact (Kd.R_reads' HO_8.out).2.1); rintro e w55 ⟨v268, rfl, ho0, hb⟩; refine ⟨_, rfl, ?_⟩; have n0_ := Aside0.mk (Kd.R_elder' (by (with_reducible repeat (first | apply Kd.R_alloc | apply Kd.R_drewN | apply Kd.R_drew)); exact HO_8.out) (Kd.R_base ho0) hb); have n1_ := Aside0.mk (Kd.R_elder' (by (with_reducible repeat (first | apply Kd.R_alloc | apply Kd.R_drewN | apply Kd.R_drew)); exact HO_9.out) (Kd.R_base ho0) hb); have n2_ := Aside0.mk (Kd.R_lower (Kd.R_new' (Kd.R_new' ho0 (Kd.R_lt (by (with_reducible repeat (first | apply Kd.R_alloc | apply Kd.R_drewN | apply Kd.R_drew)); exact HO_8.out))) (Kd.R_lt (by (with_reducible repeat (first | apply Kd.R_alloc | apply Kd.R_drewN | apply Kd.R_drew)); exact HO_9.out))) (below_size (by repeat (first | (with_reducible first | exact HB.out | apply below_alloc | apply pw_below_drewN | apply below_drew1 | refine below_set ?_ GE241.out) | exact HB.out)))); have n3_ := Aside0.mk (blk_below (g := gb241) (o := .cells #[.bool a0_0, .int .i64 a0_1, .int .i64 a0_2, .int .i64 a0_3, .int .i64 a0_4] 44 (0, 0)) (by (with_reducible repeat (first | refine blk_drewN ?_ _ | refine blk_drew ?_ | refine blk_alloc ?_ _)); exact BK241.out) hb); have n4_ := Aside0.mk (below_step (by repeat (first | (with_reducible first | exact HB.out | apply below_alloc | apply pw_below_drewN | apply below_drew1 | refine below_set ?_ GE241.out) | exact HB.out)) hb); clear HO_8; clear HO_9; clear BK241; clear HB; have HO_8 := n0_; have HO_9 := n1_; have HO269 := n2_; have BK241 := n3_; have HB := n4_; clear n0_ n1_ n2_ n3_ n4_; (try clear hb); (try clear hb2); (try clear hk); (try clear hi); (try clear ho0)))
                      go_ret
                      exact ⟨by first | rfl | (simp [errW_none, errW_some] <;> rfl) | (simp [*, errW_none, errW_some] <;> rfl), by repeat (first | (with_reducible first | exact HB.out | apply below_alloc | apply pw_below_drewN | apply below_drew1 | refine below_set ?_ GE241.out) | exact HB.out)⟩
                  · rw [if_neg c45] at H
                    have c45b0 : (t263 == 0) = false := beq_eq_false_iff_ne.mpr c45
                    have c45b1 : (t263 != 0) = true := bne_iff_ne.mpr c45
                    obtain rfl := Option.some.inj H
                    go_wp2
                    go_ret
                    exact ⟨by first | rfl | (simp [errW_none, errW_some] <;> rfl) | (simp [*, errW_none, errW_some] <;> rfl), by repeat (first | (with_reducible first | exact HB.out | apply below_alloc | apply pw_below_drewN | apply below_drew1 | refine below_set ?_ GE241.out) | exact HB.out)⟩
          · rw [if_neg c16] at H
            exact absurd H (by simp)
        · rw [if_neg c15] at H
          exact absurd H (by simp)

end Go.Proofs.Ytlebgjcpidpgnaa.P
