/- Printed by a program of ours out of Lean's own print of the translation: functions and their contracts. -/
import Derived.Test.YtgglnmpjajnkaaaPx0
import Derived.Test.YtgglnmpjajnkaaaPx2
import Derived.Test.YtgglnmpjajnkaaaPx4
import Derived.Test.YtgglnmpjajnkaaaHAwake2
namespace Go.Proofs.Ytgglnmpjajnkaaa.P
open Go.RowKit Go.Proofs.YtgglnmpjajnkaaaW.PrintWords Go.Proofs.YtgglnmpjajnkaaaW.PrintLast Go.Proofs.YtgglnmpjajnkaaaW.PrintMore
attribute [local go_sem] max2_int min2_int max_two min_two max_three min_three max_four min_four   -- for this text's walks alone
set_option linter.unusedVariables false
set_option linter.unusedSimpArgs false

/-! ### sackbutlaw02_RiceShort: function 5 -/
def sackbutlaw02_RiceShort.j0 : Nat → Int → Int → Bool → Option (Bool)
  | 0, _, _, _ => none
  | k + 1, x0, x5, x20 => if x20 = true then ((sackbutlaw02_awake.f).bind fun t132 => (some t132)) else ((rice_Cost.f x0 x5).bind fun t133 => ((sackbutref01_Power.f k x5).bind fun t134 => (if x0 < t134 then ((sackbutref01_Power.f k x5).bind fun t135 => (if t133 ≥ 1 then (if t133 ≤ 59 then (if (x0 ≥ (wrap64 (-t135))) then (some (decide (t133 ≤ (wrap64 (x5 + 2))))) else (some true)) else (some false)) else (some false))) else (if t133 ≥ 1 then (if t133 ≤ 59 then (some true) else (some false)) else (some false)))))
def sackbutlaw02_RiceShort.f (k : Nat) (a0 : Int) (a1 : Int) : Option (Bool) := (sackbutlaw02_awake.f).bind fun t131 => (if t131 = true then (if a0 < (-8589934592) then (sackbutlaw02_RiceShort.j0 k a0 (wrap64 (Int.tmod a1 25)) true) else (sackbutlaw02_RiceShort.j0 k a0 (wrap64 (Int.tmod a1 25)) (decide (a0 > 8589934591)))) else (sackbutlaw02_RiceShort.j0 k a0 (wrap64 (Int.tmod a1 25)) true))
theorem sackbutlaw02_RiceShort.mono_l : ∀ k, (∀ y0 y1 y2, LeO (sackbutlaw02_RiceShort.j0 k y0 y1 y2) (sackbutlaw02_RiceShort.j0 (k + 1) y0 y1 y2))
  | 0 => fun _ _ _ r h => by simp [sackbutlaw02_RiceShort.j0] at h
  | k + 1 => by
    have ih0 := sackbutlaw02_RiceShort.mono_l k
    · intro y0 y1 y2
      unfold sackbutlaw02_RiceShort.j0
      repeat' first
      | (with_reducible exact ih0 _ _ _)
      | (with_reducible exact sackbutref01_Power.mono _ _)
      | (with_reducible exact LeO.refl _)
      | (with_reducible exact LeO.none _)
      | (with_reducible refine LeO.ite ?_ ?_)
      | (with_reducible refine LeO.bind ?_ (fun _ => ?_))
      | exact ih0 _ _ _
      | exact sackbutref01_Power.mono _ _
      | exact LeO.none _
      | refine LeO.ite ?_ ?_
      | refine LeO.bind ?_ (fun _ => ?_)
theorem sackbutlaw02_RiceShort.mono : ∀ a0 a1 k, LeO (sackbutlaw02_RiceShort.f k a0 a1) (sackbutlaw02_RiceShort.f (k + 1) a0 a1) := by
  intro a0 a1 k
  have ih0 := sackbutlaw02_RiceShort.mono_l k
  unfold sackbutlaw02_RiceShort.f
  repeat' first
      | (with_reducible exact ih0 _ _ _)
      | (with_reducible exact sackbutref01_Power.mono _ _)
      | (with_reducible exact LeO.refl _)
      | (with_reducible exact LeO.none _)
      | (with_reducible refine LeO.ite ?_ ?_)
      | (with_reducible refine LeO.bind ?_ (fun _ => ?_))
      | exact ih0 _ _ _
      | exact sackbutref01_Power.mono _ _
      | exact LeO.none _
      | refine LeO.ite ?_ ?_
      | refine LeO.bind ?_ (fun _ => ?_)
set_option maxHeartbeats 8000000 in
set_option maxRecDepth 100000 in
theorem sackbutlaw02_RiceShort.calls (k : Nat) (a0 : Int) (a1 : Int) (r : Bool) (w : World) (h : sackbutlaw02_RiceShort.f k a0 a1 = some r) :
    Calls Try.prog 5 #[.int .i64 a0, .int .u8 a1] w fun e w' => e = .returned (.bool r) ∧ Below w.heap.size w w' := by
  have HB := Aside0.mk (Below.refl w.heap.size w)
  have H : ((sackbutlaw02_awake.f).bind fun t131 => (if t131 = true then (if a0 < (-8589934592) then (sackbutlaw02_RiceShort.j0 k a0 (wrap64 (Int.tmod a1 25)) true) else (sackbutlaw02_RiceShort.j0 k a0 (wrap64 (Int.tmod a1 25)) (decide (a0 > 8589934591)))) else (sackbutlaw02_RiceShort.j0 k a0 (wrap64 (Int.tmod a1 25)) true))) = some r := h
  clear h
  have HC3 := Aside0.mk H
  clear H
  go_enter Try.func5, Try.ntmps5
  go_upto_region 2 with (fail)
  go_cut [20] (fun v20 wc => ∃ (kq : Nat) (x20_2 : Bool), v20 = .bool x20_2 ∧ Aside0 (sackbutlaw02_RiceShort.j0 kq a0 (wrap64 (Int.tmod a1 25)) x20_2 = some r) ∧ Aside0 (kq ≤ k) ∧ Aside0 (Below w.heap.size w wc))
  case first =>
    have H := HC3.out
    clear HC3
    replace H := Option.bind_eq_some_iff.mp H
    obtain ⟨t131, A40, H⟩ := H
    replace H : (if t131 = true then (if a0 < (-8589934592) then (sackbutlaw02_RiceShort.j0 k a0 (wrap64 (Int.tmod a1 25)) true) else (sackbutlaw02_RiceShort.j0 k a0 (wrap64 (Int.tmod a1 25)) (decide (a0 > 8589934591)))) else (sackbutlaw02_RiceShort.j0 k a0 (wrap64 (Int.tmod a1 25)) true)) = some r := H
    have A4 := Aside0.mk A40
    clear A40
    by_cases c5 : t131 = true
    · subst c5
      have H1 : (if a0 < (-8589934592) then (sackbutlaw02_RiceShort.j0 k a0 (wrap64 (Int.tmod a1 25)) true) else (sackbutlaw02_RiceShort.j0 k a0 (wrap64 (Int.tmod a1 25)) (decide (a0 > 8589934591)))) = some r := by rw [if_pos rfl] at H; exact H
      clear H
      have H := H1
      clear H1
      by_cases c6 : a0 < (-8589934592)
      · rw [if_pos c6] at H
        have c6b0 : decide (a0 < (-8589934592)) = true := decide_eq_true c6
        clear c6
        (first | rw [c6b0] | (simp only [i64_w, i32_w]; rw [c6b0]) | skip)
        have H' := Aside0.mk H
        clear H
        go_wp2_with (first | ((with_reducible refine gate_callee (f := 21) rfl ?_); refine goesL_ (some 11) rfl rfl Try.func21 (by kernel_rfl) rfl #[] rfl (by (try simp only [List.map_toArray, List.map_cons, List.map_nil]); first | done | rfl | (simp only [List.length_drop, List.length_take]; rfl)) ?_; (with_reducible refine (sackbutlaw02_awake.calls  true _ A4.out).mono ?_); rintro e w7 ⟨rfl, hb⟩; refine ⟨_, rfl, ?_⟩; have n0_ := Aside0.mk (below_step (by repeat (first | (with_reducible first | exact HB.out | apply below_alloc | apply pw_below_drewN | apply below_drew1) | exact HB.out)) hb); clear HB; have HB := n0_; clear n0_; (try clear hb); (try clear hb2); (try clear hk); (try clear hi)))
        go_meet
        case rel => exact ⟨_, (true), (by first | rfl | (simp; done) | (simp [*]; done)), H', ⟨by first | omega | exact Nat.le_refl _⟩, ⟨by repeat (first | (with_reducible first | exact HB.out | apply below_alloc | apply pw_below_drewN | apply below_drew1) | exact HB.out)⟩⟩
      · rw [if_neg c6] at H
        have c6b0 : decide (a0 < (-8589934592)) = false := decide_eq_false c6
        clear c6
        (first | rw [c6b0] | (simp only [i64_w, i32_w]; rw [c6b0]) | skip)
        have H' := Aside0.mk H
        clear H
        go_wp2_with (first | ((with_reducible refine gate_callee (f := 21) rfl ?_); refine goesL_ (some 11) rfl rfl Try.func21 (by kernel_rfl) rfl #[] rfl (by (try simp only [List.map_toArray, List.map_cons, List.map_nil]); first | done | rfl | (simp only [List.length_drop, List.length_take]; rfl)) ?_; (with_reducible refine (sackbutlaw02_awake.calls  true _ A4.out).mono ?_); rintro e w8 ⟨rfl, hb⟩; refine ⟨_, rfl, ?_⟩; have n0_ := Aside0.mk (below_step (by repeat (first | (with_reducible first | exact HB.out | apply below_alloc | apply pw_below_drewN | apply below_drew1) | exact HB.out)) hb); clear HB; have HB := n0_; clear n0_; (try clear hb); (try clear hb2); (try clear hk); (try clear hi)))
        go_meet
        case rel => exact ⟨_, (decide (a0 > 8589934591)), (by first | rfl | (simp; done) | (simp [*]; done)), H', ⟨by first | omega | exact Nat.le_refl _⟩, ⟨by repeat (first | (with_reducible first | exact HB.out | apply below_alloc | apply pw_below_drewN | apply below_drew1) | exact HB.out)⟩⟩
    · replace c5 := Bool.eq_false_iff.mpr c5
      subst c5
      have H1 : (sackbutlaw02_RiceShort.j0 k a0 (wrap64 (Int.tmod a1 25)) true) = some r := by rw [if_neg (show ¬ (false = true) by decide)] at H; exact H
      clear H
      have H := H1
      clear H1
      have H' := Aside0.mk H
      clear H
      go_wp2_with (first | ((with_reducible refine gate_callee (f := 21) rfl ?_); refine goesL_ (some 11) rfl rfl Try.func21 (by kernel_rfl) rfl #[] rfl (by (try simp only [List.map_toArray, List.map_cons, List.map_nil]); first | done | rfl | (simp only [List.length_drop, List.length_take]; rfl)) ?_; (with_reducible refine (sackbutlaw02_awake.calls  false _ A4.out).mono ?_); rintro e w9 ⟨rfl, hb⟩; refine ⟨_, rfl, ?_⟩; have n0_ := Aside0.mk (below_step (by repeat (first | (with_reducible first | exact HB.out | apply below_alloc | apply pw_below_drewN | apply below_drew1) | exact HB.out)) hb); clear HB; have HB := n0_; clear n0_; (try clear hb); (try clear hb2); (try clear hk); (try clear hi)))
      go_meet
      case rel => exact ⟨_, (true), (by first | rfl | (simp; done) | (simp [*]; done)), H', ⟨by first | omega | exact Nat.le_refl _⟩, ⟨by repeat (first | (with_reducible first | exact HB.out | apply below_alloc | apply pw_below_drewN | apply below_drew1) | exact HB.out)⟩⟩
  case rest =>
    clear HC3
    try clear c2
    try clear p2
    try clear c5
    try clear c6
    try clear c6b0
    try clear p6
    obtain ⟨kq, x20_2, rfl, HA, HJ2, HB⟩ := hcut
    cases kq with
    | zero => exact absurd HA.out (by simp [sackbutlaw02_RiceShort.j0])
    | succ kj2 =>
      have H := HA.out
      clear HA
      simp only [sackbutlaw02_RiceShort.j0] at H
      by_cases c10 : x20_2 = true
      · subst c10
        have H1 : ((sackbutlaw02_awake.f).bind fun t132 => (some t132)) = some r := by rw [if_pos rfl] at H; exact H
        clear H
        have H := H1
        clear H1
        replace H := Option.bind_eq_some_iff.mp H
        obtain ⟨t132, A110, H⟩ := H
        replace H : (some t132) = some r := H
        have A11 := Aside0.mk A110
        clear A110
        obtain rfl := Option.some.inj H
        go_wp2_with (first | ((with_reducible refine gate_callee (f := 21) rfl ?_); refine goesL_ (some 21) rfl rfl Try.func21 (by kernel_rfl) rfl #[] rfl (by (try simp only [List.map_toArray, List.map_cons, List.map_nil]); first | done | rfl | (simp only [List.length_drop, List.length_take]; rfl)) ?_; (with_reducible refine (sackbutlaw02_awake.calls  t132 _ A11.out).mono ?_); rintro e w12 ⟨rfl, hb⟩; refine ⟨_, rfl, ?_⟩; have n0_ := Aside0.mk (below_step (by repeat (first | (with_reducible first | exact HB.out | apply below_alloc | apply pw_below_drewN | apply below_drew1) | exact HB.out)) hb); clear HB; have HB := n0_; clear n0_; (try clear hb); (try clear hb2); (try clear hk); (try clear hi)))
        go_ret
        exact ⟨by first | rfl | (simp [errW_none, errW_some] <;> rfl) | (simp [*, errW_none, errW_some] <;> rfl), by repeat (first | (with_reducible first | exact HB.out | apply below_alloc | apply pw_below_drewN | apply below_drew1) | exact HB.out)⟩
      · replace c10 := Bool.eq_false_iff.mpr c10
        subst c10
        have H1 : ((rice_Cost.f a0 (wrap64 (Int.tmod a1 25))).bind fun t133 => ((sackbutref01_Power.f kj2 (wrap64 (Int.tmod a1 25))).bind fun t134 => (if a0 < t134 then ((sackbutref01_Power.f kj2 (wrap64 (Int.tmod a1 25))).bind fun t135 => (if t133 ≥ 1 then (if t133 ≤ 59 then (if (a0 ≥ (wrap64 (-t135))) then (some (decide (t133 ≤ (wrap64 ((wrap64 (Int.tmod a1 25)) + 2))))) else (some true)) else (some false)) else (some false))) else (if t133 ≥ 1 then (if t133 ≤ 59 then (some true) else (some false)) else (some false))))) = some r := by rw [if_neg (show ¬ (false = true) by decide)] at H; exact H
        clear H
        have H := H1
        clear H1
        replace H := Option.bind_eq_some_iff.mp H
        obtain ⟨t133, A130, H⟩ := H
        replace H : ((sackbutref01_Power.f kj2 (wrap64 (Int.tmod a1 25))).bind fun t134 => (if a0 < t134 then ((sackbutref01_Power.f kj2 (wrap64 (Int.tmod a1 25))).bind fun t135 => (if t133 ≥ 1 then (if t133 ≤ 59 then (if (a0 ≥ (wrap64 (-t135))) then (some (decide (t133 ≤ (wrap64 ((wrap64 (Int.tmod a1 25)) + 2))))) else (some true)) else (some false)) else (some false))) else (if t133 ≥ 1 then (if t133 ≤ 59 then (some true) else (some false)) else (some false)))) = some r := H
        have A13 := Aside0.mk A130
        clear A130
        replace H := Option.bind_eq_some_iff.mp H
        obtain ⟨t134, A140, H⟩ := H
        replace H : (if a0 < t134 then ((sackbutref01_Power.f kj2 (wrap64 (Int.tmod a1 25))).bind fun t135 => (if t133 ≥ 1 then (if t133 ≤ 59 then (if (a0 ≥ (wrap64 (-t135))) then (some (decide (t133 ≤ (wrap64 ((wrap64 (Int.tmod a1 25)) + 2))))) else (some true)) else (some false)) else (some false))) else (if t133 ≥ 1 then (if t133 ≤ 59 then (some true) else (some false)) else (some false))) = some r := H
        have A14 := Aside0.mk A140
        clear A140
        by_cases c15 : a0 < t134
        · rw [if_pos c15] at H
          have c15b0 : decide (a0 < t134) = true := decide_eq_true c15
          clear c15
          replace H := Option.bind_eq_some_iff.mp H
          obtain ⟨t135, A160, H⟩ := H
          replace H : (if t133 ≥ 1 then (if t133 ≤ 59 then (if (a0 ≥ (wrap64 (-t135))) then (some (decide (t133 ≤ (wrap64 ((wrap64 (Int.tmod a1 25)) + 2))))) else (some true)) else (some false)) else (some false)) = some r := H
          have A16 := Aside0.mk A160
          clear A160
          by_cases c17 : t133 ≥ 1
          · rw [if_pos c17] at H
            have c17b0 : decide (1 ≤ t133) = true := decide_eq_true c17
            clear c17
            by_cases c18 : t133 ≤ 59
            · rw [if_pos c18] at H
              have c18b0 : decide (t133 ≤ 59) = true := decide_eq_true c18
              clear c18
              by_cases c19 : (a0 ≥ (wrap64 (-t135)))
              · rw [if_pos c19] at H
                have c19b0 : decide ((wrap64 (-t135)) ≤ a0) = true := decide_eq_true c19
                clear c19
                obtain rfl := Option.some.inj H
                go_wp2_with (first | ((with_reducible refine gate_callee (f := 22) rfl ?_); refine goesL_ (some 24) rfl rfl Try.func22 (by kernel_rfl) rfl #[.int .i64 a0, .int .i64 (wrap64 (Int.tmod a1 25))] rfl (by (try simp only [List.map_toArray, List.map_cons, List.map_nil]); first | done | rfl | (simp only [List.length_drop, List.length_take]; rfl)) ?_; (with_reducible refine (rice_Cost.calls a0 (wrap64 (Int.tmod a1 25)) t133 _ A13.out).mono ?_); rintro e w' ⟨rfl, ⟨nd, rfl⟩⟩; refine ⟨_, rfl, ?_⟩) | ((with_reducible refine gate_callee (f := 23) rfl ?_); refine goesL_ (some 27) rfl rfl Try.func23 (by kernel_rfl) rfl #[.int .i64 (wrap64 (Int.tmod a1 25))] rfl (by (try simp only [List.map_toArray, List.map_cons, List.map_nil]); first | done | rfl | (simp only [List.length_drop, List.length_take]; rfl)) ?_; (with_reducible refine (sackbutref01_Power.calls kj2 (wrap64 (Int.tmod a1 25)) t134 _ A14.out).mono ?_); rintro e w' ⟨rfl, ⟨nd, rfl⟩⟩; refine ⟨_, rfl, ?_⟩) | (go_at_call 23; (with_reducible refine (sackbutref01_Power.calls kj2 (wrap64 (Int.tmod a1 25)) t135 _ A16.out).mono ?_); rintro e w' ⟨rfl, ⟨nd, rfl⟩⟩))
                go_ret
                exact ⟨by first | rfl | (simp [errW_none, errW_some] <;> rfl) | (simp [*, errW_none, errW_some] <;> rfl), by repeat (first | (with_reducible first | exact HB.out | apply below_alloc | apply pw_below_drewN | apply below_drew1) | exact HB.out)⟩
              · rw [if_neg c19] at H
                have c19b0 : decide ((wrap64 (-t135)) ≤ a0) = false := decide_eq_false c19
                clear c19
                obtain rfl := Option.some.inj H
                go_wp2_with (first | ((with_reducible refine gate_callee (f := 22) rfl ?_); refine goesL_ (some 24) rfl rfl Try.func22 (by kernel_rfl) rfl #[.int .i64 a0, .int .i64 (wrap64 (Int.tmod a1 25))] rfl (by (try simp only [List.map_toArray, List.map_cons, List.map_nil]); first | done | rfl | (simp only [List.length_drop, List.length_take]; rfl)) ?_; (with_reducible refine (rice_Cost.calls a0 (wrap64 (Int.tmod a1 25)) t133 _ A13.out).mono ?_); rintro e w' ⟨rfl, ⟨nd, rfl⟩⟩; refine ⟨_, rfl, ?_⟩) | ((with_reducible refine gate_callee (f := 23) rfl ?_); refine goesL_ (some 27) rfl rfl Try.func23 (by kernel_rfl) rfl #[.int .i64 (wrap64 (Int.tmod a1 25))] rfl (by (try simp only [List.map_toArray, List.map_cons, List.map_nil]); first | done | rfl | (simp only [List.length_drop, List.length_take]; rfl)) ?_; (with_reducible refine (sackbutref01_Power.calls kj2 (wrap64 (Int.tmod a1 25)) t134 _ A14.out).mono ?_); rintro e w' ⟨rfl, ⟨nd, rfl⟩⟩; refine ⟨_, rfl, ?_⟩) | (go_at_call 23; (with_reducible refine (sackbutref01_Power.calls kj2 (wrap64 (Int.tmod a1 25)) t135 _ A16.out).mono ?_); rintro e w' ⟨rfl, ⟨nd, rfl⟩⟩))
                go_ret
                exact ⟨by first | rfl | (simp [errW_none, errW_some] <;> rfl) | (simp [*, errW_none, errW_some] <;> rfl), by repeat (first | (with_reducible first | exact HB.out | apply below_alloc | apply pw_below_drewN | apply below_drew1) | exact HB.out)⟩
            · rw [if_neg c18] at H
              have c18b0 : decide (t133 ≤ 59) = false := decide_eq_false c18
              clear c18
              obtain rfl := Option.some.inj H
              go_wp2_with (first | ((with_reducible refine gate_callee (f := 22) rfl ?_); refine goesL_ (some 24) rfl rfl Try.func22 (by kernel_rfl) rfl #[.int .i64 a0, .int .i64 (wrap64 (Int.tmod a1 25))] rfl (by (try simp only [List.map_toArray, List.map_cons, List.map_nil]); first | done | rfl | (simp only [List.length_drop, List.length_take]; rfl)) ?_; (with_reducible refine (rice_Cost.calls a0 (wrap64 (Int.tmod a1 25)) t133 _ A13.out).mono ?_); rintro e w' ⟨rfl, ⟨nd, rfl⟩⟩; refine ⟨_, rfl, ?_⟩) | ((with_reducible refine gate_callee (f := 23) rfl ?_); refine goesL_ (some 27) rfl rfl Try.func23 (by kernel_rfl) rfl #[.int .i64 (wrap64 (Int.tmod a1 25))] rfl (by (try simp only [List.map_toArray, List.map_cons, List.map_nil]); first | done | rfl | (simp only [List.length_drop, List.length_take]; rfl)) ?_; (with_reducible refine (sackbutref01_Power.calls kj2 (wrap64 (Int.tmod a1 25)) t134 _ A14.out).mono ?_); rintro e w' ⟨rfl, ⟨nd, rfl⟩⟩; refine ⟨_, rfl, ?_⟩) | (go_at_call 23; (with_reducible refine (sackbutref01_Power.calls kj2 (wrap64 (Int.tmod a1 25)) t135 _ A16.out).mono ?_); rintro e w' ⟨rfl, ⟨nd, rfl⟩⟩))
              go_ret
              exact ⟨by first | rfl | (simp [errW_none, errW_some] <;> rfl) | (simp [*, errW_none, errW_some] <;> rfl), by repeat (first | (with_reducible first | exact HB.out | apply below_alloc | apply pw_below_drewN | apply below_drew1) | exact HB.out)⟩
          · rw [if_neg c17] at H
            have c17b0 : decide (1 ≤ t133) = false := decide_eq_false c17
            clear c17
            obtain rfl := Option.some.inj H
            go_wp2_with (first | ((with_reducible refine gate_callee (f := 22) rfl ?_); refine goesL_ (some 24) rfl rfl Try.func22 (by kernel_rfl) rfl #[.int .i64 a0, .int .i64 (wrap64 (Int.tmod a1 25))] rfl (by (try simp only [List.map_toArray, List.map_cons, List.map_nil]); first | done | rfl | (simp only [List.length_drop, List.length_take]; rfl)) ?_; (with_reducible refine (rice_Cost.calls a0 (wrap64 (Int.tmod a1 25)) t133 _ A13.out).mono ?_); rintro e w' ⟨rfl, ⟨nd, rfl⟩⟩; refine ⟨_, rfl, ?_⟩) | ((with_reducible refine gate_callee (f := 23) rfl ?_); refine goesL_ (some 27) rfl rfl Try.func23 (by kernel_rfl) rfl #[.int .i64 (wrap64 (Int.tmod a1 25))] rfl (by (try simp only [List.map_toArray, List.map_cons, List.map_nil]); first | done | rfl | (simp only [List.length_drop, List.length_take]; rfl)) ?_; (with_reducible refine (sackbutref01_Power.calls kj2 (wrap64 (Int.tmod a1 25)) t134 _ A14.out).mono ?_); rintro e w' ⟨rfl, ⟨nd, rfl⟩⟩; refine ⟨_, rfl, ?_⟩) | (go_at_call 23; (with_reducible refine (sackbutref01_Power.calls kj2 (wrap64 (Int.tmod a1 25)) t135 _ A16.out).mono ?_); rintro e w' ⟨rfl, ⟨nd, rfl⟩⟩))
            go_ret
            exact ⟨by first | rfl | (simp [errW_none, errW_some] <;> rfl) | (simp [*, errW_none, errW_some] <;> rfl), by repeat (first | (with_reducible first | exact HB.out | apply below_alloc | apply pw_below_drewN | apply below_drew1) | exact HB.out)⟩
        · rw [if_neg c15] at H
          have c15b0 : decide (a0 < t134) = false := decide_eq_false c15
          clear c15
          by_cases c20 : t133 ≥ 1
          · rw [if_pos c20] at H
            have c20b0 : decide (1 ≤ t133) = true := decide_eq_true c20
            clear c20
            by_cases c21 : t133 ≤ 59
            · rw [if_pos c21] at H
              have c21b0 : decide (t133 ≤ 59) = true := decide_eq_true c21
              clear c21
              obtain rfl := Option.some.inj H
              go_wp2_with (first | ((with_reducible refine gate_callee (f := 22) rfl ?_); refine goesL_ (some 24) rfl rfl Try.func22 (by kernel_rfl) rfl #[.int .i64 a0, .int .i64 (wrap64 (Int.tmod a1 25))] rfl (by (try simp only [List.map_toArray, List.map_cons, List.map_nil]); first | done | rfl | (simp only [List.length_drop, List.length_take]; rfl)) ?_; (with_reducible refine (rice_Cost.calls a0 (wrap64 (Int.tmod a1 25)) t133 _ A13.out).mono ?_); rintro e w' ⟨rfl, ⟨nd, rfl⟩⟩; refine ⟨_, rfl, ?_⟩) | ((with_reducible refine gate_callee (f := 23) rfl ?_); refine goesL_ (some 27) rfl rfl Try.func23 (by kernel_rfl) rfl #[.int .i64 (wrap64 (Int.tmod a1 25))] rfl (by (try simp only [List.map_toArray, List.map_cons, List.map_nil]); first | done | rfl | (simp only [List.length_drop, List.length_take]; rfl)) ?_; (with_reducible refine (sackbutref01_Power.calls kj2 (wrap64 (Int.tmod a1 25)) t134 _ A14.out).mono ?_); rintro e w' ⟨rfl, ⟨nd, rfl⟩⟩; refine ⟨_, rfl, ?_⟩))
              go_ret
              exact ⟨by first | rfl | (simp [errW_none, errW_some] <;> rfl) | (simp [*, errW_none, errW_some] <;> rfl), by repeat (first | (with_reducible first | exact HB.out | apply below_alloc | apply pw_below_drewN | apply below_drew1) | exact HB.out)⟩
            · rw [if_neg c21] at H
              have c21b0 : decide (t133 ≤ 59) = false := decide_eq_false c21
              clear c21
              obtain rfl := Option.some.inj H
              go_wp2_with (first | ((with_reducible refine gate_callee (f := 22) rfl ?_); refine goesL_ (some 24) rfl rfl Try.func22 (by kernel_rfl) rfl #[.int .i64 a0, .int .i64 (wrap64 (Int.tmod a1 25))] rfl (by (try simp only [List.map_toArray, List.map_cons, List.map_nil]); first | done | rfl | (simp only [List.length_drop, List.length_take]; rfl)) ?_; (with_reducible refine (rice_Cost.calls a0 (wrap64 (Int.tmod a1 25)) t133 _ A13.out).mono ?_); rintro e w' ⟨rfl, ⟨nd, rfl⟩⟩; refine ⟨_, rfl, ?_⟩) | ((with_reducible refine gate_callee (f := 23) rfl ?_); refine goesL_ (some 27) rfl rfl Try.func23 (by kernel_rfl) rfl #[.int .i64 (wrap64 (Int.tmod a1 25))] rfl (by (try simp only [List.map_toArray, List.map_cons, List.map_nil]); first | done | rfl | (simp only [List.length_drop, List.length_take]; rfl)) ?_; (with_reducible refine (sackbutref01_Power.calls kj2 (wrap64 (Int.tmod a1 25)) t134 _ A14.out).mono ?_); rintro e w' ⟨rfl, ⟨nd, rfl⟩⟩; refine ⟨_, rfl, ?_⟩))
              go_ret
              exact ⟨by first | rfl | (simp [errW_none, errW_some] <;> rfl) | (simp [*, errW_none, errW_some] <;> rfl), by repeat (first | (with_reducible first | exact HB.out | apply below_alloc | apply pw_below_drewN | apply below_drew1) | exact HB.out)⟩
          · rw [if_neg c20] at H
            have c20b0 : decide (1 ≤ t133) = false := decide_eq_false c20
            clear c20
            obtain rfl := Option.some.inj H
            go_wp2_with (first | ((with_reducible refine gate_callee (f := 22) rfl ?_); refine goesL_ (some 24) rfl rfl Try.func22 (by kernel_rfl) rfl #[.int .i64 a0, .int .i64 (wrap64 (Int.tmod a1 25))] rfl (by (try simp only [List.map_toArray, List.map_cons, List.map_nil]); first | done | rfl | (simp only [List.length_drop, List.length_take]; rfl)) ?_; (with_reducible refine (rice_Cost.calls a0 (wrap64 (Int.tmod a1 25)) t133 _ A13.out).mono ?_); rintro e w' ⟨rfl, ⟨nd, rfl⟩⟩; refine ⟨_, rfl, ?_⟩) | ((with_reducible refine gate_callee (f := 23) rfl ?_); refine goesL_ (some 27) rfl rfl Try.func23 (by kernel_rfl) rfl #[.int .i64 (wrap64 (Int.tmod a1 25))] rfl (by (try simp only [List.map_toArray, List.map_cons, List.map_nil]); first | done | rfl | (simp only [List.length_drop, List.length_take]; rfl)) ?_; (with_reducible refine (sackbutref01_Power.calls kj2 (wrap64 (Int.tmod a1 25)) t134 _ A14.out).mono ?_); rintro e w' ⟨rfl, ⟨nd, rfl⟩⟩; refine ⟨_, rfl, ?_⟩))
            go_ret
            exact ⟨by first | rfl | (simp [errW_none, errW_some] <;> rfl) | (simp [*, errW_none, errW_some] <;> rfl), by repeat (first | (with_reducible first | exact HB.out | apply below_alloc | apply pw_below_drewN | apply below_drew1) | exact HB.out)⟩

/-! ### sackbutref02_Fold: function 24 -/
def sackbutref02_Fold.f (a0 : Int) : Option (Int) := if a0 < 0 then (some (wrap64 ((wrap64 ((wrap64 (-(wrap64 (a0 + 1)))) * 2)) + 1))) else (some (wrap64 (a0 * 2)))
set_option maxHeartbeats 8000000 in
set_option maxRecDepth 100000 in
theorem sackbutref02_Fold.calls (a0 : Int) (r : Int) (w : World) (h : sackbutref02_Fold.f a0 = some r) :
    Calls Try.prog 24 #[.int .i64 a0] w fun e w' => e = .returned (.int .i64 r) ∧ Drawn0 w w' := by
  have H : (if a0 < 0 then (some (wrap64 ((wrap64 ((wrap64 (-(wrap64 (a0 + 1)))) * 2)) + 1))) else (some (wrap64 (a0 * 2)))) = some r := h
  clear h
  by_cases c2 : a0 < 0
  · rw [if_pos c2] at H
    have c2b0 : decide (a0 < 0) = true := decide_eq_true c2
    clear c2
    obtain rfl := Option.some.inj H
    go_enter Try.func24, Try.ntmps24
    go_wp2
    go_ret
    exact ⟨by first | rfl | (simp; done) | (simp [*]; done), by repeat (first | exact Drawn0.refl _ | apply Drawn0.step)⟩
  · rw [if_neg c2] at H
    have c2b0 : decide (a0 < 0) = false := decide_eq_false c2
    clear c2
    obtain rfl := Option.some.inj H
    go_enter Try.func24, Try.ntmps24
    go_wp2
    go_ret
    exact ⟨by first | rfl | (simp; done) | (simp [*]; done), by repeat (first | exact Drawn0.refl _ | apply Drawn0.step)⟩

end Go.Proofs.Ytgglnmpjajnkaaa.P
