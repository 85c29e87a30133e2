/- Printed by a program of ours out of Lean's own print of the translation: functions and their contracts. -/
import Derived.Test.YtoglefgjiaoopaaPx0
import Derived.Test.YtoglefgjiaoopaaPx14
import Derived.Test.YtoglefgjiaoopaaHRes
namespace Go.Proofs.Ytoglefgjiaoopaa.P
open Go.RowKit Go.Proofs.YtoglefgjiaoopaaW.PrintWords Go.Proofs.YtoglefgjiaoopaaW.PrintLast Go.Proofs.YtoglefgjiaoopaaW.PrintMore
attribute [local go_sem] max2_int min2_int max_two min_two max_three min_three max_four min_four   -- for this text's walks alone
set_option linter.unusedVariables false
set_option linter.unusedSimpArgs false

/-! ### sackbutlaw07_FilterStill: function 10 -/
mutual
def sackbutlaw07_FilterStill.j0 : Nat → List Int → Bool → Option (Bool)
  | 0, _, _ => none
  | k + 1, x0, x14 => if x14 = true then ((sackbutlaw07_awake.f k).bind fun t253 => (some t253)) else ((filter_Residuals.f k (([(-64)] : List Int)) x0).bind fun bt257 => (if bt257.2 = 0 then (sackbutlaw07_FilterStill.l0 k x0 bt257.1 x0 (x0.length : Int) 0) else (some (bt257.2 == 9))))
def sackbutlaw07_FilterStill.l0 : Nat → List Int → List Int → List Int → Int → Int → Option (Bool)
  | 0, _, _, _, _, _ => none
  | k + 1, x0, x3, x26, x27, x28 => if x28 < x27 then (if 0 ≤ x28 then (if x28 < (x26.length : Int) then (if x28 > 0 then (if 0 ≤ (wrap64 (x28 - 1)) then (if (wrap64 (x28 - 1)) < (x0.length : Int) then (if x28 < (x3.length : Int) then (if (rd x3 x28) = (wrap64 ((rd x26 x28) - (rd x0 (wrap64 (x28 - 1))))) then (sackbutlaw07_FilterStill.l0 k x0 x3 x26 x27 (wrap64 (x28 + 1))) else (some false)) else (none)) else (none)) else (none)) else (if x28 < (x3.length : Int) then (if (rd x3 x28) = (rd x26 x28) then (sackbutlaw07_FilterStill.l0 k x0 x3 x26 x27 (wrap64 (x28 + 1))) else (some false)) else (none))) else (none)) else (none)) else (some ((x3.length : Int) == (x0.length : Int)))
end
def sackbutlaw07_FilterStill.f (k : Nat) (l0 : List Int) : Option (Bool) := (sackbutlaw07_awake.f k).bind fun t252 => (if t252 = true then (sackbutlaw07_FilterStill.j0 k l0 (decide ((l0.length : Int) > 60))) else (sackbutlaw07_FilterStill.j0 k l0 true))
theorem sackbutlaw07_FilterStill.mono_l : ∀ k, (∀ y0 y1, LeO (sackbutlaw07_FilterStill.j0 k y0 y1) (sackbutlaw07_FilterStill.j0 (k + 1) y0 y1)) ∧ (∀ y0 y1 y2 y3 y4, LeO (sackbutlaw07_FilterStill.l0 k y0 y1 y2 y3 y4) (sackbutlaw07_FilterStill.l0 (k + 1) y0 y1 y2 y3 y4))
  | 0 => ⟨fun _ _ r h => by simp [sackbutlaw07_FilterStill.j0] at h, fun _ _ _ _ _ r h => by simp [sackbutlaw07_FilterStill.l0] at h⟩
  | k + 1 => by
    obtain ⟨ih0, ih1⟩ := sackbutlaw07_FilterStill.mono_l k
    refine ⟨?_, ?_⟩
    · intro y0 y1
      unfold sackbutlaw07_FilterStill.j0
      repeat' first
      | (with_reducible exact ih0 _ _)
      | (with_reducible exact ih1 _ _ _ _ _)
      | (with_reducible exact filter_Residuals.mono _ _ _)
      | (with_reducible exact sackbutlaw07_awake.mono _)
      | (with_reducible exact LeO.refl _)
      | (with_reducible exact LeO.none _)
      | (with_reducible refine LeO.ite ?_ ?_)
      | (with_reducible refine LeO.bind ?_ (fun _ => ?_))
      | exact ih0 _ _
      | exact ih1 _ _ _ _ _
      | exact filter_Residuals.mono _ _ _
      | exact sackbutlaw07_awake.mono _
      | exact LeO.none _
      | refine LeO.ite ?_ ?_
      | refine LeO.bind ?_ (fun _ => ?_)
    · intro y0 y1 y2 y3 y4
      unfold sackbutlaw07_FilterStill.l0
      repeat' first
      | (with_reducible exact ih0 _ _)
      | (with_reducible exact ih1 _ _ _ _ _)
      | (with_reducible exact filter_Residuals.mono _ _ _)
      | (with_reducible exact sackbutlaw07_awake.mono _)
      | (with_reducible exact LeO.refl _)
      | (with_reducible exact LeO.none _)
      | (with_reducible refine LeO.ite ?_ ?_)
      | (with_reducible refine LeO.bind ?_ (fun _ => ?_))
      | exact ih0 _ _
      | exact ih1 _ _ _ _ _
      | exact filter_Residuals.mono _ _ _
      | exact sackbutlaw07_awake.mono _
      | exact LeO.none _
      | refine LeO.ite ?_ ?_
      | refine LeO.bind ?_ (fun _ => ?_)
theorem sackbutlaw07_FilterStill.mono : ∀ a0 k, LeO (sackbutlaw07_FilterStill.f k a0) (sackbutlaw07_FilterStill.f (k + 1) a0) := by
  intro a0 k
  obtain ⟨ih0, ih1⟩ := sackbutlaw07_FilterStill.mono_l k
  unfold sackbutlaw07_FilterStill.f
  repeat' first
      | (with_reducible exact ih0 _ _)
      | (with_reducible exact ih1 _ _ _ _ _)
      | (with_reducible exact filter_Residuals.mono _ _ _)
      | (with_reducible exact sackbutlaw07_awake.mono _)
      | (with_reducible exact LeO.refl _)
      | (with_reducible exact LeO.none _)
      | (with_reducible refine LeO.ite ?_ ?_)
      | (with_reducible refine LeO.bind ?_ (fun _ => ?_))
      | exact ih0 _ _
      | exact ih1 _ _ _ _ _
      | exact filter_Residuals.mono _ _ _
      | exact sackbutlaw07_awake.mono _
      | exact LeO.none _
      | refine LeO.ite ?_ ?_
      | refine LeO.bind ?_ (fun _ => ?_)
set_option maxHeartbeats 8000000 in
set_option maxRecDepth 100000 in
theorem sackbutlaw07_FilterStill.calls (k : Nat) (A0 : Option Addr) (c0 : Nat) (l0 : List Int) (r : Bool) (w : World) (hr0 : Kd.C (Kd.int .i64) w A0 l0.length l0) (hc0 : l0.length ≤ c0) (h : sackbutlaw07_FilterStill.f k l0 = some r) :
    Calls Try.prog 10 #[.slice A0 l0.length c0] w fun e w' => e = .returned (.bool r) ∧ Below w.heap.size w w' := by
  have HR0 := Aside0.mk hr0
  have HC0 := Aside0.mk hc0
  clear hr0 hc0
  have HB := Aside0.mk (Below.refl w.heap.size w)
  have H : ((sackbutlaw07_awake.f k).bind fun t252 => (if t252 = true then (sackbutlaw07_FilterStill.j0 k l0 (decide ((l0.length : Int) > 60))) else (sackbutlaw07_FilterStill.j0 k l0 true))) = some r := h
  clear h
  have HC2 := Aside0.mk H
  clear H
  go_enter Try.func10, Try.ntmps10
  go_upto_region 1 with (fail)
  go_cut [14] (fun v14 wc => ∃ (kq : Nat) (x14_1 : Bool), v14 = .bool x14_1 ∧ Aside0 (sackbutlaw07_FilterStill.j0 kq l0 x14_1 = some r) ∧ Aside0 (kq ≤ k) ∧ Aside0 (Below w.heap.size w wc))
  case first =>
    have H := HC2.out
    clear HC2
    replace H := Option.bind_eq_some_iff.mp H
    obtain ⟨t252, A30, H⟩ := H
    replace H : (if t252 = true then (sackbutlaw07_FilterStill.j0 k l0 (decide ((l0.length : Int) > 60))) else (sackbutlaw07_FilterStill.j0 k l0 true)) = some r := H
    have A3 := Aside0.mk A30
    clear A30
    by_cases c4 : t252 = true
    · subst c4
      have H1 : (sackbutlaw07_FilterStill.j0 k l0 (decide ((l0.length : Int) > 60))) = some r := by rw [if_pos rfl] at H; exact H
      clear H
      have H := H1
      clear H1
      have H' := Aside0.mk H
      clear H
      go_wp2_with (first | ((with_reducible refine gate_callee (f := 31) rfl ?_); refine goesL_ (some 8) rfl rfl Try.func31 (by kernel_rfl) rfl #[] rfl (by (try simp only [List.map_toArray, List.map_cons, List.map_nil]); first | done | rfl | (simp only [List.length_drop, List.length_take]; rfl)) ?_; (with_reducible refine (sackbutlaw07_awake.calls k  true _ A3.out).mono ?_); rintro e w5 ⟨rfl, hb⟩; refine ⟨_, rfl, ?_⟩; have n0_ := Aside0.mk (below_step (by repeat (first | (with_reducible first | exact HB.out | apply below_alloc | apply pw_below_drewN | apply below_drew1) | exact HB.out)) hb); clear HB; have HB := n0_; clear n0_; (try clear hb); (try clear hb2); (try clear hk); (try clear hi)))
      go_meet
      case rel => exact ⟨_, (decide ((l0.length : Int) > 60)), (by first | rfl | (simp; done) | (simp [*]; done)), H', ⟨by first | omega | exact Nat.le_refl _⟩, ⟨by repeat (first | (with_reducible first | exact HB.out | apply below_alloc | apply pw_below_drewN | apply below_drew1) | exact HB.out)⟩⟩
    · replace c4 := Bool.eq_false_iff.mpr c4
      subst c4
      have H1 : (sackbutlaw07_FilterStill.j0 k l0 true) = some r := by rw [if_neg (show ¬ (false = true) by decide)] at H; exact H
      clear H
      have H := H1
      clear H1
      have H' := Aside0.mk H
      clear H
      go_wp2_with (first | ((with_reducible refine gate_callee (f := 31) rfl ?_); refine goesL_ (some 8) rfl rfl Try.func31 (by kernel_rfl) rfl #[] rfl (by (try simp only [List.map_toArray, List.map_cons, List.map_nil]); first | done | rfl | (simp only [List.length_drop, List.length_take]; rfl)) ?_; (with_reducible refine (sackbutlaw07_awake.calls k  false _ A3.out).mono ?_); rintro e w6 ⟨rfl, hb⟩; refine ⟨_, rfl, ?_⟩; have n0_ := Aside0.mk (below_step (by repeat (first | (with_reducible first | exact HB.out | apply below_alloc | apply pw_below_drewN | apply below_drew1) | exact HB.out)) hb); clear HB; have HB := n0_; clear n0_; (try clear hb); (try clear hb2); (try clear hk); (try clear hi)))
      go_meet
      case rel => exact ⟨_, (true), (by first | rfl | (simp; done) | (simp [*]; done)), H', ⟨by first | omega | exact Nat.le_refl _⟩, ⟨by repeat (first | (with_reducible first | exact HB.out | apply below_alloc | apply pw_below_drewN | apply below_drew1) | exact HB.out)⟩⟩
  case rest =>
    clear HC2
    try clear c1
    try clear p2
    try clear c3
    try clear c4
    obtain ⟨kq, x14_1, rfl, HA, HJ1, HB⟩ := hcut
    cases kq with
    | zero => exact absurd HA.out (by simp [sackbutlaw07_FilterStill.j0])
    | succ kj1 =>
      have H := HA.out
      clear HA
      simp only [sackbutlaw07_FilterStill.j0] at H
      by_cases c7 : x14_1 = true
      · subst c7
        have H1 : ((sackbutlaw07_awake.f kj1).bind fun t253 => (some t253)) = some r := by rw [if_pos rfl] at H; exact H
        clear H
        have H := H1
        clear H1
        replace H := Option.bind_eq_some_iff.mp H
        obtain ⟨t253, A80, H⟩ := H
        replace H : (some t253) = some r := H
        have A8 := Aside0.mk A80
        clear A80
        obtain rfl := Option.some.inj H
        go_wp2_with (first | ((with_reducible refine gate_callee (f := 31) rfl ?_); refine goesL_ (some 15) rfl rfl Try.func31 (by kernel_rfl) rfl #[] rfl (by (try simp only [List.map_toArray, List.map_cons, List.map_nil]); first | done | rfl | (simp only [List.length_drop, List.length_take]; rfl)) ?_; (with_reducible refine (sackbutlaw07_awake.calls kj1  t253 _ A8.out).mono ?_); rintro e w9 ⟨rfl, hb⟩; refine ⟨_, rfl, ?_⟩; have n0_ := Aside0.mk (below_step (by repeat (first | (with_reducible first | exact HB.out | apply below_alloc | apply pw_below_drewN | apply below_drew1) | exact HB.out)) hb); clear HB; have HB := n0_; clear n0_; (try clear hb); (try clear hb2); (try clear hk); (try clear hi)))
        go_ret
        exact ⟨by first | rfl | (simp [errW_none, errW_some] <;> rfl) | (simp [*, errW_none, errW_some] <;> rfl), by repeat (first | (with_reducible first | exact HB.out | apply below_alloc | apply pw_below_drewN | apply below_drew1) | exact HB.out)⟩
      · replace c7 := Bool.eq_false_iff.mpr c7
        subst c7
        have H1 : ((filter_Residuals.f kj1 (([(-64)] : List Int)) l0).bind fun bt257 => (if bt257.2 = 0 then (sackbutlaw07_FilterStill.l0 kj1 l0 bt257.1 l0 (l0.length : Int) 0) else (some (bt257.2 == 9)))) = some r := by rw [if_neg (show ¬ (false = true) by decide)] at H; exact H
        clear H
        have H := H1
        clear H1
        obtain ⟨y254, hy254⟩ : ∃ y_ : List Int, y_ = (([(-64)] : List Int)) := ⟨_, rfl⟩
        replace H : ((filter_Residuals.f kj1 y254 l0).bind fun bt257 => (if bt257.2 = 0 then (sackbutlaw07_FilterStill.l0 kj1 l0 bt257.1 l0 (l0.length : Int) 0) else (some (bt257.2 == 9)))) = some r := by first | (rw [hy254]; with_reducible exact H) | (have H2_ := (Option.bind_some _ _).symm.trans H; rw [hy254]; with_reducible exact H2_) | (have H2_ := (Option.bind_some _ _).symm.trans H; with_reducible exact H2_) | with_reducible exact H | (rw [hy254]; exact H) | exact H
        have Ny254 := Aside0.mk hy254
        clear hy254
        replace H := Option.bind_eq_some_iff.mp H
        obtain ⟨⟨t257, t258⟩, A100, H⟩ := H
        replace H : (if t258 = 0 then (sackbutlaw07_FilterStill.l0 kj1 l0 t257 l0 (l0.length : Int) 0) else (some (t258 == 9))) = some r := H
        have A10 := Aside0.mk A100
        clear A100
        by_cases c11 : t258 = 0
        · rw [if_pos c11] at H
          have c11b0 : (t258 == 0) = true := beq_iff_eq.mpr c11
          have c11b1 : (t258 != 0) = false := bne_eq_false_iff_eq.mpr c11
          clear c11
          have H' := Aside0.mk H
          clear H
          go_wp2_with (first | ((with_reducible refine gate_dst (N := 17) rfl ?_); (try (refine gate_guard (by rfl) ?_; dsimp only)); refine Kd.R_lit (Kd.int .i64) _ 3 ?hg (N := 17) ?hd (xs := ([(-64)] : List Int)) (inner := [.int .i64 (-64)]) (ok := fun _ => True) (okp := fun _ => True) ?hr ?hp (fun _ hk => hk) trivial (Below.refl _ _) (Nat.le_refl _) (by simp) ?_; (case hd => rfl); (case hg => rfl); (case hr => first | (go_simp; done) | (go_simp; rfl)); (case hp => exact (Reps.one (show Kd.M (Kd.int .i64) _ _ _ (-64) [.int .i64 (-64)] from rfl) (Reps.none _ _))); intro v255 w12 ho13 hb hg_ hnew_; clear hg_ hnew_; (first | rw [← Ny254.out] at ho13 | (simp only [Int.reduceToNat] at ho13; rw [← Ny254.out] at ho13)); have n0_ := Aside0.mk (Kd.R_lower ho13 (below_size (by repeat (first | (with_reducible first | exact HB.out | apply below_alloc | apply pw_below_drewN | apply below_drew1) | exact HB.out)))); have n1_ := Aside0.mk (below_step (by repeat (first | (with_reducible first | exact HB.out | apply below_alloc | apply pw_below_drewN | apply below_drew1) | exact HB.out)) hb); clear HB; have HO256 := n0_; have HB := n1_; clear n0_ n1_; clear hb ho13; obtain ⟨Ao14, co14, eo14⟩ := Kd.R_slice HO256.out; subst eo14) | ((with_reducible refine gate_callee (f := 33) rfl ?_); refine goesL_ (some 19) rfl rfl Try.func33 (by kernel_rfl) rfl #[.slice Ao14 y254.length co14, .slice A0 l0.length c0] rfl (by (try simp only [List.map_toArray, List.map_cons, List.map_nil]); first | done | rfl | (simp only [List.length_drop, List.length_take]; rfl)) ?_; (with_reducible refine (filter_Residuals.calls kj1 _ _ y254 _ _ l0 t257 t258 _ ?side1 ?side2 ?side3 ?side4 A10.out).mono ?_); (case side1 => repeat (first | exact (Kd.R_reads' HO256.out).2.2 | (with_reducible refine Kd.C_alloc ?_ _) | (with_reducible refine Kd.C_drewN ?_ _) | (with_reducible refine Kd.C_drew ?_))); (case side2 => exact (Kd.R_reads' HO256.out).2.1); (case side3 => repeat (first | exact (Kd.C_below HR0.out HB.out) | (with_reducible refine Kd.C_alloc ?_ _) | (with_reducible refine Kd.C_drewN ?_ _) | (with_reducible refine Kd.C_drew ?_))); (case side4 => exact HC0.out); rintro e w15 ⟨v259, rfl, ho0, hb⟩; refine ⟨_, rfl, ?_⟩; have n0_ := Aside0.mk (Kd.R_elder' (by (with_reducible repeat (first | apply Kd.R_alloc | apply Kd.R_drewN | apply Kd.R_drew)); exact HO256.out) (Kd.R_base ho0) hb); have n1_ := Aside0.mk (Kd.R_lower (Kd.R_new' ho0 (Kd.R_lt (by (with_reducible repeat (first | apply Kd.R_alloc | apply Kd.R_drewN | apply Kd.R_drew)); exact HO256.out))) (below_size (by repeat (first | (with_reducible first | exact HB.out | apply below_alloc | apply pw_below_drewN | apply below_drew1) | exact HB.out)))); have n2_ := Aside0.mk (below_step (by repeat (first | (with_reducible first | exact HB.out | apply below_alloc | apply pw_below_drewN | apply below_drew1) | exact HB.out)) hb); clear HO256; clear HB; have HO256 := n0_; have HO260 := n1_; have HB := n2_; clear n0_ n1_ n2_; (try clear hb); (try clear hb2); (try clear hk); (try clear hi); (try clear ho0)))
          go_loopg [28] kj1 (fun kq v28 w' => ∃ (x28_2 : Int), v28 = .int .i64 x28_2 ∧ Aside0 (sackbutlaw07_FilterStill.l0 kq l0 t257 l0 (l0.length : Int) x28_2 = some r) ∧ Aside0 (kq ≤ kj1) ∧ Aside0 (Kd.R (Kd.int .i64) 3 w' w.heap.size (fun _ => True) v259 t257) ∧ Aside0 (Below w.heap.size w w'))
          case atStart => exact ⟨(0), (by first | rfl | (simp; done) | (simp [*]; done)), H', ⟨Nat.le_refl _⟩, ⟨by (with_reducible repeat (first | apply Kd.R_alloc | apply Kd.R_drewN | apply Kd.R_drew)); exact Kd.R_mono HO260.out (fun _ hk => trivial)⟩, ⟨by repeat (first | (with_reducible first | exact HB.out | apply below_alloc | apply pw_below_drewN | apply below_drew1) | exact HB.out)⟩⟩
          case round =>
            clear H'
            try clear c1
            try clear p2
            try clear c3
            try clear c4
            try clear c7
            try clear c10
            try clear c11
            try clear c11b0
            try clear c11b1
            try clear p2
            obtain ⟨x28_2, rfl, HA, HK2, HO_3, HB⟩ := hrel
            cases gk with
            | zero => exact absurd HA.out (by simp [sackbutlaw07_FilterStill.l0])
            | succ k2 =>
              have H := HA.out
              clear HA
              simp only [sackbutlaw07_FilterStill.l0] at H
              by_cases c16 : x28_2 < (l0.length : Int)
              · rw [if_pos c16] at H
                have c16b0 : decide (x28_2 < (l0.length : Int)) = true := decide_eq_true c16
                clear c16
                by_cases c17 : 0 ≤ x28_2
                · rw [if_pos c17] at H
                  have c17b0 : decide (0 ≤ x28_2) = true := decide_eq_true c17
                  clear c17
                  by_cases c18 : x28_2 < (l0.length : Int)
                  · rw [if_pos c18] at H
                    have c18b0 : decide (x28_2 < (l0.length : Int)) = true := decide_eq_true c18
                    clear c18
                    by_cases c19 : x28_2 > 0
                    · rw [if_pos c19] at H
                      have c19b0 : decide (0 < x28_2) = true := decide_eq_true c19
                      clear c19
                      obtain ⟨ji20, hji20⟩ : ∃ j_ : Int, (wrap64 (x28_2 - 1)) = j_ := ⟨_, rfl⟩
                      replace H : (if 0 ≤ (ji20) then (if (ji20) < (l0.length : Int) then (if x28_2 < (t257.length : Int) then (if (rd t257 x28_2) = (wrap64 ((rd l0 x28_2) - (rd l0 (ji20)))) then (sackbutlaw07_FilterStill.l0 k2 l0 t257 l0 (l0.length : Int) (wrap64 (x28_2 + 1))) else (some false)) else (none)) else (none)) else (none)) = some r := by first | (rw [hji20] at H; exact H) | (simp only [hji20] at H ⊢; exact H)
                      have hji20w : (IntKind.i64.wrap (x28_2 - 1)) = ji20 := (i64_w _).trans hji20
                      by_cases c21 : 0 ≤ (ji20)
                      · rw [if_pos c21] at H
                        have c21b0 : decide (0 ≤ (ji20)) = true := decide_eq_true c21
                        clear c21
                        by_cases c22 : (ji20) < (l0.length : Int)
                        · rw [if_pos c22] at H
                          have c22b0 : decide ((ji20) < (l0.length : Int)) = true := decide_eq_true c22
                          clear c22
                          by_cases c23 : x28_2 < (t257.length : Int)
                          · rw [if_pos c23] at H
                            have c23b0 : decide (x28_2 < (t257.length : Int)) = true := decide_eq_true c23
                            clear c23
                            by_cases c24 : (rd t257 x28_2) = (wrap64 ((rd l0 x28_2) - (rd l0 (ji20))))
                            · rw [if_pos c24] at H
                              have c24b0 : ((rd t257 x28_2) == (wrap64 ((rd l0 x28_2) - (rd l0 (ji20))))) = true := beq_iff_eq.mpr c24
                              have c24b1 : ((rd t257 x28_2) != (wrap64 ((rd l0 x28_2) - (rd l0 (ji20))))) = false := bne_eq_false_iff_eq.mpr c24
                              clear c24
                              have H' := Aside0.mk H
                              clear H
                              have p261 : 0 ≤ (x28_2 : Int) := of_decide_eq_true (by first | (with_reducible assumption) | assumption)
                              have q261 : x28_2 < (l0.length : Int) := of_decide_eq_true (by first | (with_reducible assumption) | assumption)
                              obtain ⟨ad261, e261, hx261_0⟩ := Kd.at_int HR0.out x28_2 p261 q261
                              cases e261
                              replace hx261_0 := (HB.out.cell (World.block_lt_of_cell? w _ hx261_0)).trans hx261_0
                              replace p261 := eq_true p261
                              replace q261 := eq_true q261
                              have p262 : 0 ≤ ((ji20) : Int) := of_decide_eq_true (by first | (with_reducible assumption) | assumption)
                              have q262 : (ji20) < (l0.length : Int) := of_decide_eq_true (by first | (with_reducible assumption) | assumption)
                              obtain ⟨ad262, e262, hx262_0⟩ := Kd.at_int HR0.out (ji20) p262 q262
                              obtain rfl : ad261 = ad262 := (by injection e262)
                              replace hx262_0 := (HB.out.cell (World.block_lt_of_cell? w _ hx262_0)).trans hx262_0
                              replace p262 := eq_true p262
                              replace q262 := eq_true q262
                              obtain ⟨Ao25, co25, eo25⟩ := Kd.R_slice HO_3.out
                              subst eo25
                              have p263 : 0 ≤ (x28_2 : Int) := of_decide_eq_true (by first | (with_reducible assumption) | assumption)
                              have q263 : x28_2 < (t257.length : Int) := of_decide_eq_true (by first | (with_reducible assumption) | assumption)
                              obtain ⟨ad263, e263, hx263_0⟩ := Kd.at_int (Kd.R_reads' HO_3.out).2.2 x28_2 p263 q263
                              cases e263
                              replace p263 := eq_true p263
                              replace q263 := eq_true q263
                              go_wp2
                              go_roundg k2
                              case measure => have := HJ1.out; have := HK2.out; omega
                              case rel => exact ⟨(wrap64 (x28_2 + 1)), (by first | rfl | (simp; done) | (simp [*]; done)), H', ⟨by have := HJ1.out; have := HK2.out; omega⟩, ⟨by (with_reducible repeat (first | apply Kd.R_alloc | apply Kd.R_drewN | apply Kd.R_drew)); exact HO_3.out⟩, ⟨by repeat (first | (with_reducible first | exact HB.out | apply below_alloc | apply pw_below_drewN | apply below_drew1) | exact HB.out)⟩⟩
                            · rw [if_neg c24] at H
                              have c24b0 : ((rd t257 x28_2) == (wrap64 ((rd l0 x28_2) - (rd l0 (ji20))))) = false := beq_eq_false_iff_ne.mpr c24
                              have c24b1 : ((rd t257 x28_2) != (wrap64 ((rd l0 x28_2) - (rd l0 (ji20))))) = true := bne_iff_ne.mpr c24
                              obtain rfl := Option.some.inj H
                              have p261 : 0 ≤ (x28_2 : Int) := of_decide_eq_true (by first | (with_reducible assumption) | assumption)
                              have q261 : x28_2 < (l0.length : Int) := of_decide_eq_true (by first | (with_reducible assumption) | assumption)
                              obtain ⟨ad261, e261, hx261_0⟩ := Kd.at_int HR0.out x28_2 p261 q261
                              cases e261
                              replace hx261_0 := (HB.out.cell (World.block_lt_of_cell? w _ hx261_0)).trans hx261_0
                              replace p261 := eq_true p261
                              replace q261 := eq_true q261
                              have p262 : 0 ≤ ((ji20) : Int) := of_decide_eq_true (by first | (with_reducible assumption) | assumption)
                              have q262 : (ji20) < (l0.length : Int) := of_decide_eq_true (by first | (with_reducible assumption) | assumption)
                              obtain ⟨ad262, e262, hx262_0⟩ := Kd.at_int HR0.out (ji20) p262 q262
                              obtain rfl : ad261 = ad262 := (by injection e262)
                              replace hx262_0 := (HB.out.cell (World.block_lt_of_cell? w _ hx262_0)).trans hx262_0
                              replace p262 := eq_true p262
                              replace q262 := eq_true q262
                              obtain ⟨Ao26, co26, eo26⟩ := Kd.R_slice HO_3.out
                              subst eo26
                              have p263 : 0 ≤ (x28_2 : Int) := of_decide_eq_true (by first | (with_reducible assumption) | assumption)
                              have q263 : x28_2 < (t257.length : Int) := of_decide_eq_true (by first | (with_reducible assumption) | assumption)
                              obtain ⟨ad263, e263, hx263_0⟩ := Kd.at_int (Kd.R_reads' HO_3.out).2.2 x28_2 p263 q263
                              cases e263
                              replace p263 := eq_true p263
                              replace q263 := eq_true q263
                              go_wp2
                              go_ret
                              exact ⟨by first | rfl | (simp [errW_none, errW_some] <;> rfl) | (simp only [← hji20]; first | rfl | (simp [errW_none, errW_some] <;> rfl)) | (simp [*, errW_none, errW_some] <;> rfl), by repeat (first | (with_reducible first | exact HB.out | apply below_alloc | apply pw_below_drewN | apply below_drew1) | exact HB.out)⟩
                          · rw [if_neg c23] at H
                            exact absurd H (by simp)
                        · rw [if_neg c22] at H
                          exact absurd H (by simp)
                      · rw [if_neg c21] at H
                        exact absurd H (by simp)
                    · rw [if_neg c19] at H
                      have c19b0 : decide (0 < x28_2) = false := decide_eq_false c19
                      clear c19
                      by_cases c27 : x28_2 < (t257.length : Int)
                      · rw [if_pos c27] at H
                        have c27b0 : decide (x28_2 < (t257.length : Int)) = true := decide_eq_true c27
                        clear c27
                        by_cases c28 : (rd t257 x28_2) = (rd l0 x28_2)
                        · rw [if_pos c28] at H
                          have c28b0 : ((rd t257 x28_2) == (rd l0 x28_2)) = true := beq_iff_eq.mpr c28
                          have c28b1 : ((rd t257 x28_2) != (rd l0 x28_2)) = false := bne_eq_false_iff_eq.mpr c28
                          clear c28
                          have H' := Aside0.mk H
                          clear H
                          have p261 : 0 ≤ (x28_2 : Int) := of_decide_eq_true (by first | (with_reducible assumption) | assumption)
                          have q261 : x28_2 < (l0.length : Int) := of_decide_eq_true (by first | (with_reducible assumption) | assumption)
                          obtain ⟨ad261, e261, hx261_0⟩ := Kd.at_int HR0.out x28_2 p261 q261
                          cases e261
                          replace hx261_0 := (HB.out.cell (World.block_lt_of_cell? w _ hx261_0)).trans hx261_0
                          replace p261 := eq_true p261
                          replace q261 := eq_true q261
                          obtain ⟨Ao29, co29, eo29⟩ := Kd.R_slice HO_3.out
                          subst eo29
                          have p264 : 0 ≤ (x28_2 : Int) := of_decide_eq_true (by first | (with_reducible assumption) | assumption)
                          have q264 : x28_2 < (t257.length : Int) := of_decide_eq_true (by first | (with_reducible assumption) | assumption)
                          obtain ⟨ad264, e264, hx264_0⟩ := Kd.at_int (Kd.R_reads' HO_3.out).2.2 x28_2 p264 q264
                          cases e264
                          replace p264 := eq_true p264
                          replace q264 := eq_true q264
                          go_wp2
                          go_roundg k2
                          case measure => have := HJ1.out; have := HK2.out; omega
                          case rel => exact ⟨(wrap64 (x28_2 + 1)), (by first | rfl | (simp; done) | (simp [*]; done)), H', ⟨by have := HJ1.out; have := HK2.out; omega⟩, ⟨by (with_reducible repeat (first | apply Kd.R_alloc | apply Kd.R_drewN | apply Kd.R_drew)); exact HO_3.out⟩, ⟨by repeat (first | (with_reducible first | exact HB.out | apply below_alloc | apply pw_below_drewN | apply below_drew1) | exact HB.out)⟩⟩
                        · rw [if_neg c28] at H
                          have c28b0 : ((rd t257 x28_2) == (rd l0 x28_2)) = false := beq_eq_false_iff_ne.mpr c28
                          have c28b1 : ((rd t257 x28_2) != (rd l0 x28_2)) = true := bne_iff_ne.mpr c28
                          obtain rfl := Option.some.inj H
                          have p261 : 0 ≤ (x28_2 : Int) := of_decide_eq_true (by first | (with_reducible assumption) | assumption)
                          have q261 : x28_2 < (l0.length : Int) := of_decide_eq_true (by first | (with_reducible assumption) | assumption)
                          obtain ⟨ad261, e261, hx261_0⟩ := Kd.at_int HR0.out x28_2 p261 q261
                          cases e261
                          replace hx261_0 := (HB.out.cell (World.block_lt_of_cell? w _ hx261_0)).trans hx261_0
                          replace p261 := eq_true p261
                          replace q261 := eq_true q261
                          obtain ⟨Ao30, co30, eo30⟩ := Kd.R_slice HO_3.out
                          subst eo30
                          have p264 : 0 ≤ (x28_2 : Int) := of_decide_eq_true (by first | (with_reducible assumption) | assumption)
                          have q264 : x28_2 < (t257.length : Int) := of_decide_eq_true (by first | (with_reducible assumption) | assumption)
                          obtain ⟨ad264, e264, hx264_0⟩ := Kd.at_int (Kd.R_reads' HO_3.out).2.2 x28_2 p264 q264
                          cases e264
                          replace p264 := eq_true p264
                          replace q264 := eq_true q264
                          go_wp2
                          go_ret
                          exact ⟨by first | rfl | (simp [errW_none, errW_some] <;> rfl) | (simp [*, errW_none, errW_some] <;> rfl), by repeat (first | (with_reducible first | exact HB.out | apply below_alloc | apply pw_below_drewN | apply below_drew1) | exact HB.out)⟩
                      · rw [if_neg c27] at H
                        exact absurd H (by simp)
                  · rw [if_neg c18] at H
                    exact absurd H (by simp)
                · rw [if_neg c17] at H
                  exact absurd H (by simp)
              · rw [if_neg c16] at H
                have c16b0 : decide (x28_2 < (l0.length : Int)) = false := decide_eq_false c16
                clear c16
                obtain rfl := Option.some.inj H
                obtain ⟨Ao31, co31, eo31⟩ := Kd.R_slice HO_3.out
                subst eo31
                go_wp2
                go_ret
                exact ⟨by first | rfl | (simp [errW_none, errW_some] <;> rfl) | (simp [*, errW_none, errW_some] <;> rfl), by repeat (first | (with_reducible first | exact HB.out | apply below_alloc | apply pw_below_drewN | apply below_drew1) | exact HB.out)⟩
        · rw [if_neg c11] at H
          have c11b0 : (t258 == 0) = false := beq_eq_false_iff_ne.mpr c11
          have c11b1 : (t258 != 0) = true := bne_iff_ne.mpr c11
          obtain rfl := Option.some.inj H
          go_wp2_with (first | ((with_reducible refine gate_dst (N := 17) rfl ?_); (try (refine gate_guard (by rfl) ?_; dsimp only)); refine Kd.R_lit (Kd.int .i64) _ 3 ?hg (N := 17) ?hd (xs := ([(-64)] : List Int)) (inner := [.int .i64 (-64)]) (ok := fun _ => True) (okp := fun _ => True) ?hr ?hp (fun _ hk => hk) trivial (Below.refl _ _) (Nat.le_refl _) (by simp) ?_; (case hd => rfl); (case hg => rfl); (case hr => first | (go_simp; done) | (go_simp; rfl)); (case hp => exact (Reps.one (show Kd.M (Kd.int .i64) _ _ _ (-64) [.int .i64 (-64)] from rfl) (Reps.none _ _))); intro v255 w32 ho33 hb hg_ hnew_; clear hg_ hnew_; (first | rw [← Ny254.out] at ho33 | (simp only [Int.reduceToNat] at ho33; rw [← Ny254.out] at ho33)); have n0_ := Aside0.mk (Kd.R_lower ho33 (below_size (by repeat (first | (with_reducible first | exact HB.out | apply below_alloc | apply pw_below_drewN | apply below_drew1) | exact HB.out)))); have n1_ := Aside0.mk (below_step (by repeat (first | (with_reducible first | exact HB.out | apply below_alloc | apply pw_below_drewN | apply below_drew1) | exact HB.out)) hb); clear HB; have HO256 := n0_; have HB := n1_; clear n0_ n1_; clear hb ho33; obtain ⟨Ao34, co34, eo34⟩ := Kd.R_slice HO256.out; subst eo34) | ((with_reducible refine gate_callee (f := 33) rfl ?_); refine goesL_ (some 19) rfl rfl Try.func33 (by kernel_rfl) rfl #[.slice Ao34 y254.length co34, .slice A0 l0.length c0] rfl (by (try simp only [List.map_toArray, List.map_cons, List.map_nil]); first | done | rfl | (simp only [List.length_drop, List.length_take]; rfl)) ?_; (with_reducible refine (filter_Residuals.calls kj1 _ _ y254 _ _ l0 t257 t258 _ ?side1 ?side2 ?side3 ?side4 A10.out).mono ?_); (case side1 => repeat (first | exact (Kd.R_reads' HO256.out).2.2 | (with_reducible refine Kd.C_alloc ?_ _) | (with_reducible refine Kd.C_drewN ?_ _) | (with_reducible refine Kd.C_drew ?_))); (case side2 => exact (Kd.R_reads' HO256.out).2.1); (case side3 => repeat (first | exact (Kd.C_below HR0.out HB.out) | (with_reducible refine Kd.C_alloc ?_ _) | (with_reducible refine Kd.C_drewN ?_ _) | (with_reducible refine Kd.C_drew ?_))); (case side4 => exact HC0.out); rintro e w35 ⟨v259, rfl, ho0, hb⟩; refine ⟨_, rfl, ?_⟩; have n0_ := Aside0.mk (Kd.R_elder' (by (with_reducible repeat (first | apply Kd.R_alloc | apply Kd.R_drewN | apply Kd.R_drew)); exact HO256.out) (Kd.R_base ho0) hb); have n1_ := Aside0.mk (Kd.R_lower (Kd.R_new' ho0 (Kd.R_lt (by (with_reducible repeat (first | apply Kd.R_alloc | apply Kd.R_drewN | apply Kd.R_drew)); exact HO256.out))) (below_size (by repeat (first | (with_reducible first | exact HB.out | apply below_alloc | apply pw_below_drewN | apply below_drew1) | exact HB.out)))); have n2_ := Aside0.mk (below_step (by repeat (first | (with_reducible first | exact HB.out | apply below_alloc | apply pw_below_drewN | apply below_drew1) | exact HB.out)) hb); clear HO256; clear HB; have HO256 := n0_; have HO260 := n1_; have HB := n2_; clear n0_ n1_ n2_; (try clear hb); (try clear hb2); (try clear hk); (try clear hi); (try clear ho0)))
          go_ret
          exact ⟨by first | rfl | (simp [errW_none, errW_some] <;> rfl) | (simp [*, errW_none, errW_some] <;> rfl), by repeat (first | (with_reducible first | exact HB.out | apply below_alloc | apply pw_below_drewN | apply below_drew1) | exact HB.out)⟩

end Go.Proofs.Ytoglefgjiaoopaa.P
