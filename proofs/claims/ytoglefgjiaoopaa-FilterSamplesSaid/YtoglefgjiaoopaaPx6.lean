/- Printed by a program of ours out of Lean's own print of the translation: functions and their contracts. -/
import Derived.Test.YtoglefgjiaoopaaPx0
import Derived.Test.YtoglefgjiaoopaaPx1
import Derived.Test.YtoglefgjiaoopaaPx3
import Derived.Test.YtoglefgjiaoopaaPx5
import Derived.Test.YtoglefgjiaoopaaHCoefs
namespace Go.Proofs.Ytoglefgjiaoopaa.P
open Go.RowKit Go.Proofs.YtoglefgjiaoopaaW.PrintWords Go.Proofs.YtoglefgjiaoopaaW.PrintLast Go.Proofs.YtoglefgjiaoopaaW.PrintMore
attribute [local go_sem] max2_int min2_int max_two min_two max_three min_three max_four min_four   -- for this text's walks alone
set_option linter.unusedVariables false
set_option linter.unusedSimpArgs false

/-! ### sackbutlaw06_LatticeSilent: function 6 -/
mutual
def sackbutlaw06_LatticeSilent.j0 : Nat → List Int → List Int → Bool → Option (Bool)
  | 0, _, _, _ => none
  | k + 1, x0, x1, x30 => if x30 = true then ((sackbutlaw06_awake.f k).bind fun t155 => (some t155)) else (sackbutlaw06_LatticeSilent.l0 k x0 x1 x1 (x1.length : Int) 0)
def sackbutlaw06_LatticeSilent.l0 : Nat → List Int → List Int → List Int → Int → Int → Option (Bool)
  | 0, _, _, _, _, _ => none
  | k + 1, x0, x1, x32, x33, x34 => if x34 < x33 then (if 0 ≤ x34 then (if x34 < (x32.length : Int) then (if (rd x32 x34) > 67108864 then (some true) else (if (rd x32 x34) < (-67108864) then (some true) else (sackbutlaw06_LatticeSilent.l0 k x0 x1 x32 x33 (wrap64 (x34 + 1))))) else (none)) else (none)) else ((lattice_Coefs.f k x0).bind fun t157 => ((some (([] : List Int) : List Int)).bind fun y160 => (if y160.length + x0.length < 17592186044416 then ((some (y160 ++ x0 : List Int)).bind fun y163 => (if y163.length < 17592186044416 then ((lattice_Coefs.f k (y163 ++ [0])).bind fun t169 => (if (t157.length : Int) = (x0.length : Int) then (sackbutlaw06_LatticeSilent.j2 k x0 x1 t157 t169 ((t169.length : Int) != (wrap64 ((x0.length : Int) + 1)))) else (sackbutlaw06_LatticeSilent.j2 k x0 x1 t157 t169 true))) else (none))) else (none))))
def sackbutlaw06_LatticeSilent.j2 : Nat → List Int → List Int → List Int → List Int → Bool → Option (Bool)
  | 0, _, _, _, _, _ => none
  | k + 1, x0, x1, x7, x8, x65 => if x65 = true then (some false) else (if 0 ≤ (x0.length : Int) then (if (x0.length : Int) ≤ (x8.length : Int) then ((sackbutref01_Same.f k (x8.take ((x0.length : Int) : Int).toNat) x7).bind fun t176 => (if t176 = true then (if (x0.length : Int) < (x8.length : Int) then (if (rd x8 (x0.length : Int)) = 0 then ((lattice_Predict.f k x7 x1).bind fun t178 => ((lattice_Predict.f k x8 x1).bind fun t179 => (some (t178 == t179)))) else (some false)) else (none)) else (some false))) else (none)) else (none))
end
def sackbutlaw06_LatticeSilent.f (k : Nat) (l0 : List Int) (l1 : List Int) : Option (Bool) := (sackbutlaw06_awake.f k).bind fun t153 => (if t153 = true then ((sackbutref06_Good.f k l0).bind fun t154 => (if t154 = true then (if (l0.length : Int) < 2 then (sackbutlaw06_LatticeSilent.j0 k l0 l1 true) else (if (l0.length : Int) > 15 then (sackbutlaw06_LatticeSilent.j0 k l0 l1 true) else (sackbutlaw06_LatticeSilent.j0 k l0 l1 (decide ((l1.length : Int) > 40))))) else (sackbutlaw06_LatticeSilent.j0 k l0 l1 true))) else (sackbutlaw06_LatticeSilent.j0 k l0 l1 true))
theorem sackbutlaw06_LatticeSilent.mono_l : ∀ k, (∀ y0 y1 y2, LeO (sackbutlaw06_LatticeSilent.j0 k y0 y1 y2) (sackbutlaw06_LatticeSilent.j0 (k + 1) y0 y1 y2)) ∧ (∀ y0 y1 y2 y3 y4, LeO (sackbutlaw06_LatticeSilent.l0 k y0 y1 y2 y3 y4) (sackbutlaw06_LatticeSilent.l0 (k + 1) y0 y1 y2 y3 y4)) ∧ (∀ y0 y1 y2 y3 y4, LeO (sackbutlaw06_LatticeSilent.j2 k y0 y1 y2 y3 y4) (sackbutlaw06_LatticeSilent.j2 (k + 1) y0 y1 y2 y3 y4))
  | 0 => ⟨fun _ _ _ r h => by simp [sackbutlaw06_LatticeSilent.j0] at h, fun _ _ _ _ _ r h => by simp [sackbutlaw06_LatticeSilent.l0] at h, fun _ _ _ _ _ r h => by simp [sackbutlaw06_LatticeSilent.j2] at h⟩
  | k + 1 => by
    obtain ⟨ih0, ih1, ih2⟩ := sackbutlaw06_LatticeSilent.mono_l k
    refine ⟨?_, ?_, ?_⟩
    · intro y0 y1 y2
      unfold sackbutlaw06_LatticeSilent.j0
      repeat' first
      | (with_reducible exact ih0 _ _ _)
      | (with_reducible exact ih1 _ _ _ _ _)
      | (with_reducible exact ih2 _ _ _ _ _)
      | (with_reducible exact lattice_Coefs.mono _ _)
      | (with_reducible exact lattice_Predict.mono _ _ _)
      | (with_reducible exact sackbutlaw06_awake.mono _)
      | (with_reducible exact sackbutref01_Same.mono _ _ _)
      | (with_reducible exact sackbutref06_Good.mono _ _)
      | (with_reducible exact LeO.refl _)
      | (with_reducible exact LeO.none _)
      | (with_reducible refine LeO.ite ?_ ?_)
      | (with_reducible refine LeO.bind ?_ (fun _ => ?_))
      | exact ih0 _ _ _
      | exact ih1 _ _ _ _ _
      | exact ih2 _ _ _ _ _
      | exact lattice_Coefs.mono _ _
      | exact lattice_Predict.mono _ _ _
      | exact sackbutlaw06_awake.mono _
      | exact sackbutref01_Same.mono _ _ _
      | exact sackbutref06_Good.mono _ _
      | exact LeO.none _
      | refine LeO.ite ?_ ?_
      | refine LeO.bind ?_ (fun _ => ?_)
    · intro y0 y1 y2 y3 y4
      unfold sackbutlaw06_LatticeSilent.l0
      repeat' first
      | (with_reducible exact ih0 _ _ _)
      | (with_reducible exact ih1 _ _ _ _ _)
      | (with_reducible exact ih2 _ _ _ _ _)
      | (with_reducible exact lattice_Coefs.mono _ _)
      | (with_reducible exact lattice_Predict.mono _ _ _)
      | (with_reducible exact sackbutlaw06_awake.mono _)
      | (with_reducible exact sackbutref01_Same.mono _ _ _)
      | (with_reducible exact sackbutref06_Good.mono _ _)
      | (with_reducible exact LeO.refl _)
      | (with_reducible exact LeO.none _)
      | (with_reducible refine LeO.ite ?_ ?_)
      | (with_reducible refine LeO.bind ?_ (fun _ => ?_))
      | exact ih0 _ _ _
      | exact ih1 _ _ _ _ _
      | exact ih2 _ _ _ _ _
      | exact lattice_Coefs.mono _ _
      | exact lattice_Predict.mono _ _ _
      | exact sackbutlaw06_awake.mono _
      | exact sackbutref01_Same.mono _ _ _
      | exact sackbutref06_Good.mono _ _
      | exact LeO.none _
      | refine LeO.ite ?_ ?_
      | refine LeO.bind ?_ (fun _ => ?_)
    · intro y0 y1 y2 y3 y4
      unfold sackbutlaw06_LatticeSilent.j2
      repeat' first
      | (with_reducible exact ih0 _ _ _)
      | (with_reducible exact ih1 _ _ _ _ _)
      | (with_reducible exact ih2 _ _ _ _ _)
      | (with_reducible exact lattice_Coefs.mono _ _)
      | (with_reducible exact lattice_Predict.mono _ _ _)
      | (with_reducible exact sackbutlaw06_awake.mono _)
      | (with_reducible exact sackbutref01_Same.mono _ _ _)
      | (with_reducible exact sackbutref06_Good.mono _ _)
      | (with_reducible exact LeO.refl _)
      | (with_reducible exact LeO.none _)
      | (with_reducible refine LeO.ite ?_ ?_)
      | (with_reducible refine LeO.bind ?_ (fun _ => ?_))
      | exact ih0 _ _ _
      | exact ih1 _ _ _ _ _
      | exact ih2 _ _ _ _ _
      | exact lattice_Coefs.mono _ _
      | exact lattice_Predict.mono _ _ _
      | exact sackbutlaw06_awake.mono _
      | exact sackbutref01_Same.mono _ _ _
      | exact sackbutref06_Good.mono _ _
      | exact LeO.none _
      | refine LeO.ite ?_ ?_
      | refine LeO.bind ?_ (fun _ => ?_)
theorem sackbutlaw06_LatticeSilent.mono : ∀ a0 a1 k, LeO (sackbutlaw06_LatticeSilent.f k a0 a1) (sackbutlaw06_LatticeSilent.f (k + 1) a0 a1) := by
  intro a0 a1 k
  obtain ⟨ih0, ih1, ih2⟩ := sackbutlaw06_LatticeSilent.mono_l k
  unfold sackbutlaw06_LatticeSilent.f
  repeat' first
      | (with_reducible exact ih0 _ _ _)
      | (with_reducible exact ih1 _ _ _ _ _)
      | (with_reducible exact ih2 _ _ _ _ _)
      | (with_reducible exact lattice_Coefs.mono _ _)
      | (with_reducible exact lattice_Predict.mono _ _ _)
      | (with_reducible exact sackbutlaw06_awake.mono _)
      | (with_reducible exact sackbutref01_Same.mono _ _ _)
      | (with_reducible exact sackbutref06_Good.mono _ _)
      | (with_reducible exact LeO.refl _)
      | (with_reducible exact LeO.none _)
      | (with_reducible refine LeO.ite ?_ ?_)
      | (with_reducible refine LeO.bind ?_ (fun _ => ?_))
      | exact ih0 _ _ _
      | exact ih1 _ _ _ _ _
      | exact ih2 _ _ _ _ _
      | exact lattice_Coefs.mono _ _
      | exact lattice_Predict.mono _ _ _
      | exact sackbutlaw06_awake.mono _
      | exact sackbutref01_Same.mono _ _ _
      | exact sackbutref06_Good.mono _ _
      | exact LeO.none _
      | refine LeO.ite ?_ ?_
      | refine LeO.bind ?_ (fun _ => ?_)
set_option maxHeartbeats 8000000 in
set_option maxRecDepth 100000 in
theorem sackbutlaw06_LatticeSilent.calls (k : Nat) (A0 : Option Addr) (c0 : Nat) (l0 : List Int) (A1 : Option Addr) (c1 : Nat) (l1 : List Int) (r : Bool) (w : World) (hr0 : Kd.C (Kd.int .i64) w A0 l0.length l0) (hc0 : l0.length ≤ c0) (hr1 : Kd.C (Kd.int .i64) w A1 l1.length l1) (hc1 : l1.length ≤ c1) (h : sackbutlaw06_LatticeSilent.f k l0 l1 = some r) :
    Calls Try.prog 6 #[.slice A0 l0.length c0, .slice A1 l1.length c1] w fun e w' => e = .returned (.bool r) ∧ Below w.heap.size w w' := by
  have HR0 := Aside0.mk hr0
  have HC0 := Aside0.mk hc0
  clear hr0 hc0
  have HR1 := Aside0.mk hr1
  have HC1 := Aside0.mk hc1
  clear hr1 hc1
  have HB := Aside0.mk (Below.refl w.heap.size w)
  have H : ((sackbutlaw06_awake.f k).bind fun t153 => (if t153 = true then ((sackbutref06_Good.f k l0).bind fun t154 => (if t154 = true then (if (l0.length : Int) < 2 then (sackbutlaw06_LatticeSilent.j0 k l0 l1 true) else (if (l0.length : Int) > 15 then (sackbutlaw06_LatticeSilent.j0 k l0 l1 true) else (sackbutlaw06_LatticeSilent.j0 k l0 l1 (decide ((l1.length : Int) > 40))))) else (sackbutlaw06_LatticeSilent.j0 k l0 l1 true))) else (sackbutlaw06_LatticeSilent.j0 k l0 l1 true))) = some r := h
  clear h
  have HC3 := Aside0.mk H
  clear H
  go_enter Try.func6, Try.ntmps6
  go_upto_region 1 with (fail)
  go_cut [30] (fun v30 wc => ∃ (kq : Nat) (x30_2 : Bool), v30 = .bool x30_2 ∧ Aside0 (sackbutlaw06_LatticeSilent.j0 kq l0 l1 x30_2 = some r) ∧ Aside0 (kq ≤ k) ∧ Aside0 (Below w.heap.size w wc))
  case first =>
    have H := HC3.out
    clear HC3
    replace H := Option.bind_eq_some_iff.mp H
    obtain ⟨t153, A40, H⟩ := H
    replace H : (if t153 = true then ((sackbutref06_Good.f k l0).bind fun t154 => (if t154 = true then (if (l0.length : Int) < 2 then (sackbutlaw06_LatticeSilent.j0 k l0 l1 true) else (if (l0.length : Int) > 15 then (sackbutlaw06_LatticeSilent.j0 k l0 l1 true) else (sackbutlaw06_LatticeSilent.j0 k l0 l1 (decide ((l1.length : Int) > 40))))) else (sackbutlaw06_LatticeSilent.j0 k l0 l1 true))) else (sackbutlaw06_LatticeSilent.j0 k l0 l1 true)) = some r := H
    have A4 := Aside0.mk A40
    clear A40
    by_cases c5 : t153 = true
    · subst c5
      have H1 : ((sackbutref06_Good.f k l0).bind fun t154 => (if t154 = true then (if (l0.length : Int) < 2 then (sackbutlaw06_LatticeSilent.j0 k l0 l1 true) else (if (l0.length : Int) > 15 then (sackbutlaw06_LatticeSilent.j0 k l0 l1 true) else (sackbutlaw06_LatticeSilent.j0 k l0 l1 (decide ((l1.length : Int) > 40))))) else (sackbutlaw06_LatticeSilent.j0 k l0 l1 true))) = some r := by rw [if_pos rfl] at H; exact H
      clear H
      have H := H1
      clear H1
      replace H := Option.bind_eq_some_iff.mp H
      obtain ⟨t154, A60, H⟩ := H
      replace H : (if t154 = true then (if (l0.length : Int) < 2 then (sackbutlaw06_LatticeSilent.j0 k l0 l1 true) else (if (l0.length : Int) > 15 then (sackbutlaw06_LatticeSilent.j0 k l0 l1 true) else (sackbutlaw06_LatticeSilent.j0 k l0 l1 (decide ((l1.length : Int) > 40))))) else (sackbutlaw06_LatticeSilent.j0 k l0 l1 true)) = some r := H
      have A6 := Aside0.mk A60
      clear A60
      by_cases c7 : t154 = true
      · subst c7
        have H1 : (if (l0.length : Int) < 2 then (sackbutlaw06_LatticeSilent.j0 k l0 l1 true) else (if (l0.length : Int) > 15 then (sackbutlaw06_LatticeSilent.j0 k l0 l1 true) else (sackbutlaw06_LatticeSilent.j0 k l0 l1 (decide ((l1.length : Int) > 40))))) = some r := by rw [if_pos rfl] at H; exact H
        clear H
        have H := H1
        clear H1
        by_cases c8 : (l0.length : Int) < 2
        · rw [if_pos c8] at H
          have c8b0 : decide ((l0.length : Int) < 2) = true := decide_eq_true c8
          have c8b1 : decide (l0.length < 2) = true := decide_eq_true (by omega)
          clear c8
          (first | rw [c8b0] | (simp only [i64_w, i32_w]; rw [c8b0]) | skip)
          have H' := Aside0.mk H
          clear H
          go_wp2_with (first | ((with_reducible refine gate_callee (f := 15) rfl ?_); refine goesL_ (some 9) rfl rfl Try.func15 (by kernel_rfl) rfl #[] rfl (by (try simp only [List.map_toArray, List.map_cons, List.map_nil]); first | done | rfl | (simp only [List.length_drop, List.length_take]; rfl)) ?_; (with_reducible refine (sackbutlaw06_awake.calls k  true _ A4.out).mono ?_); rintro e w9 ⟨rfl, hb⟩; refine ⟨_, rfl, ?_⟩; have n0_ := Aside0.mk (below_step (by repeat (first | (with_reducible first | exact HB.out | apply below_alloc | apply pw_below_drewN | apply below_drew1) | exact HB.out)) hb); clear HB; have HB := n0_; clear n0_; (try clear hb); (try clear hb2); (try clear hk); (try clear hi)) | (go_at_call 16; (with_reducible refine (sackbutref06_Good.calls k _ _ l0 true _ ?side1 ?side2 A6.out).mono ?_); (case side1 => repeat (first | exact (Kd.C_below HR0.out HB.out) | (with_reducible refine Kd.C_alloc ?_ _) | (with_reducible refine Kd.C_drewN ?_ _) | (with_reducible refine Kd.C_drew ?_))); (case side2 => exact HC0.out); rintro e w' ⟨rfl, ⟨nd, rfl⟩⟩))
          go_meet
          case rel => exact ⟨_, (true), (by first | rfl | (simp; done) | (simp [*]; done)), H', ⟨by first | omega | exact Nat.le_refl _⟩, ⟨by repeat (first | (with_reducible first | exact HB.out | apply below_alloc | apply pw_below_drewN | apply below_drew1) | exact HB.out)⟩⟩
        · rw [if_neg c8] at H
          have c8b0 : decide ((l0.length : Int) < 2) = false := decide_eq_false c8
          have c8b1 : decide (l0.length < 2) = false := decide_eq_false (by omega)
          clear c8
          (first | rw [c8b0] | (simp only [i64_w, i32_w]; rw [c8b0]) | skip)
          by_cases c10 : (l0.length : Int) > 15
          · rw [if_pos c10] at H
            have c10b0 : decide (15 < (l0.length : Int)) = true := decide_eq_true c10
            have c10b1 : decide (15 < l0.length) = true := decide_eq_true (by omega)
            clear c10
            have H' := Aside0.mk H
            clear H
            go_wp2_with (first | ((with_reducible refine gate_callee (f := 15) rfl ?_); refine goesL_ (some 9) rfl rfl Try.func15 (by kernel_rfl) rfl #[] rfl (by (try simp only [List.map_toArray, List.map_cons, List.map_nil]); first | done | rfl | (simp only [List.length_drop, List.length_take]; rfl)) ?_; (with_reducible refine (sackbutlaw06_awake.calls k  true _ A4.out).mono ?_); rintro e w11 ⟨rfl, hb⟩; refine ⟨_, rfl, ?_⟩; have n0_ := Aside0.mk (below_step (by repeat (first | (with_reducible first | exact HB.out | apply below_alloc | apply pw_below_drewN | apply below_drew1) | exact HB.out)) hb); clear HB; have HB := n0_; clear n0_; (try clear hb); (try clear hb2); (try clear hk); (try clear hi)) | (go_at_call 16; (with_reducible refine (sackbutref06_Good.calls k _ _ l0 true _ ?side1 ?side2 A6.out).mono ?_); (case side1 => repeat (first | exact (Kd.C_below HR0.out HB.out) | (with_reducible refine Kd.C_alloc ?_ _) | (with_reducible refine Kd.C_drewN ?_ _) | (with_reducible refine Kd.C_drew ?_))); (case side2 => exact HC0.out); rintro e w' ⟨rfl, ⟨nd, rfl⟩⟩))
            go_meet
            case rel => exact ⟨_, (true), (by first | rfl | (simp; done) | (simp [*]; done)), H', ⟨by first | omega | exact Nat.le_refl _⟩, ⟨by repeat (first | (with_reducible first | exact HB.out | apply below_alloc | apply pw_below_drewN | apply below_drew1) | exact HB.out)⟩⟩
          · rw [if_neg c10] at H
            have c10b0 : decide (15 < (l0.length : Int)) = false := decide_eq_false c10
            have c10b1 : decide (15 < l0.length) = false := decide_eq_false (by omega)
            clear c10
            have H' := Aside0.mk H
            clear H
            go_wp2_with (first | ((with_reducible refine gate_callee (f := 15) rfl ?_); refine goesL_ (some 9) rfl rfl Try.func15 (by kernel_rfl) rfl #[] rfl (by (try simp only [List.map_toArray, List.map_cons, List.map_nil]); first | done | rfl | (simp only [List.length_drop, List.length_take]; rfl)) ?_; (with_reducible refine (sackbutlaw06_awake.calls k  true _ A4.out).mono ?_); rintro e w12 ⟨rfl, hb⟩; refine ⟨_, rfl, ?_⟩; have n0_ := Aside0.mk (below_step (by repeat (first | (with_reducible first | exact HB.out | apply below_alloc | apply pw_below_drewN | apply below_drew1) | exact HB.out)) hb); clear HB; have HB := n0_; clear n0_; (try clear hb); (try clear hb2); (try clear hk); (try clear hi)) | (go_at_call 16; (with_reducible refine (sackbutref06_Good.calls k _ _ l0 true _ ?side1 ?side2 A6.out).mono ?_); (case side1 => repeat (first | exact (Kd.C_below HR0.out HB.out) | (with_reducible refine Kd.C_alloc ?_ _) | (with_reducible refine Kd.C_drewN ?_ _) | (with_reducible refine Kd.C_drew ?_))); (case side2 => exact HC0.out); rintro e w' ⟨rfl, ⟨nd, rfl⟩⟩))
            go_meet
            case rel => exact ⟨_, (decide ((l1.length : Int) > 40)), (by first | rfl | (simp; done) | (simp [*]; done)), H', ⟨by first | omega | exact Nat.le_refl _⟩, ⟨by repeat (first | (with_reducible first | exact HB.out | apply below_alloc | apply pw_below_drewN | apply below_drew1) | exact HB.out)⟩⟩
      · replace c7 := Bool.eq_false_iff.mpr c7
        subst c7
        have H1 : (sackbutlaw06_LatticeSilent.j0 k l0 l1 true) = some r := by rw [if_neg (show ¬ (false = true) by decide)] at H; exact H
        clear H
        have H := H1
        clear H1
        have H' := Aside0.mk H
        clear H
        go_wp2_with (first | ((with_reducible refine gate_callee (f := 15) rfl ?_); refine goesL_ (some 9) rfl rfl Try.func15 (by kernel_rfl) rfl #[] rfl (by (try simp only [List.map_toArray, List.map_cons, List.map_nil]); first | done | rfl | (simp only [List.length_drop, List.length_take]; rfl)) ?_; (with_reducible refine (sackbutlaw06_awake.calls k  true _ A4.out).mono ?_); rintro e w13 ⟨rfl, hb⟩; refine ⟨_, rfl, ?_⟩; have n0_ := Aside0.mk (below_step (by repeat (first | (with_reducible first | exact HB.out | apply below_alloc | apply pw_below_drewN | apply below_drew1) | exact HB.out)) hb); clear HB; have HB := n0_; clear n0_; (try clear hb); (try clear hb2); (try clear hk); (try clear hi)) | (go_at_call 16; (with_reducible refine (sackbutref06_Good.calls k _ _ l0 false _ ?side1 ?side2 A6.out).mono ?_); (case side1 => repeat (first | exact (Kd.C_below HR0.out HB.out) | (with_reducible refine Kd.C_alloc ?_ _) | (with_reducible refine Kd.C_drewN ?_ _) | (with_reducible refine Kd.C_drew ?_))); (case side2 => exact HC0.out); rintro e w' ⟨rfl, ⟨nd, rfl⟩⟩))
        go_meet
        case rel => exact ⟨_, (true), (by first | rfl | (simp; done) | (simp [*]; done)), H', ⟨by first | omega | exact Nat.le_refl _⟩, ⟨by repeat (first | (with_reducible first | exact HB.out | apply below_alloc | apply pw_below_drewN | apply below_drew1) | exact HB.out)⟩⟩
    · replace c5 := Bool.eq_false_iff.mpr c5
      subst c5
      have H1 : (sackbutlaw06_LatticeSilent.j0 k l0 l1 true) = some r := by rw [if_neg (show ¬ (false = true) by decide)] at H; exact H
      clear H
      have H := H1
      clear H1
      have H' := Aside0.mk H
      clear H
      go_wp2_with (first | ((with_reducible refine gate_callee (f := 15) rfl ?_); refine goesL_ (some 9) rfl rfl Try.func15 (by kernel_rfl) rfl #[] rfl (by (try simp only [List.map_toArray, List.map_cons, List.map_nil]); first | done | rfl | (simp only [List.length_drop, List.length_take]; rfl)) ?_; (with_reducible refine (sackbutlaw06_awake.calls k  false _ A4.out).mono ?_); rintro e w14 ⟨rfl, hb⟩; refine ⟨_, rfl, ?_⟩; have n0_ := Aside0.mk (below_step (by repeat (first | (with_reducible first | exact HB.out | apply below_alloc | apply pw_below_drewN | apply below_drew1) | exact HB.out)) hb); clear HB; have HB := n0_; clear n0_; (try clear hb); (try clear hb2); (try clear hk); (try clear hi)))
      go_meet
      case rel => exact ⟨_, (true), (by first | rfl | (simp; done) | (simp [*]; done)), H', ⟨by first | omega | exact Nat.le_refl _⟩, ⟨by repeat (first | (with_reducible first | exact HB.out | apply below_alloc | apply pw_below_drewN | apply below_drew1) | exact HB.out)⟩⟩
  case rest =>
    clear HC3
    try clear c1
    try clear p2
    try clear c5
    try clear c6
    try clear c7
    try clear c8
    try clear c8b0
    try clear c8b1
    try clear c10
    try clear c10b0
    try clear c10b1
    obtain ⟨kq, x30_2, rfl, HA, HJ2, HB⟩ := hcut
    cases kq with
    | zero => exact absurd HA.out (by simp [sackbutlaw06_LatticeSilent.j0])
    | succ kj2 =>
      have H := HA.out
      clear HA
      simp only [sackbutlaw06_LatticeSilent.j0] at H
      by_cases c15 : x30_2 = true
      · subst c15
        have H1 : ((sackbutlaw06_awake.f kj2).bind fun t155 => (some t155)) = some r := by rw [if_pos rfl] at H; exact H
        clear H
        have H := H1
        clear H1
        replace H := Option.bind_eq_some_iff.mp H
        obtain ⟨t155, A160, H⟩ := H
        replace H : (some t155) = some r := H
        have A16 := Aside0.mk A160
        clear A160
        obtain rfl := Option.some.inj H
        go_wp2_with (first | ((with_reducible refine gate_callee (f := 15) rfl ?_); refine goesL_ (some 31) rfl rfl Try.func15 (by kernel_rfl) rfl #[] rfl (by (try simp only [List.map_toArray, List.map_cons, List.map_nil]); first | done | rfl | (simp only [List.length_drop, List.length_take]; rfl)) ?_; (with_reducible refine (sackbutlaw06_awake.calls kj2  t155 _ A16.out).mono ?_); rintro e w17 ⟨rfl, hb⟩; refine ⟨_, rfl, ?_⟩; have n0_ := Aside0.mk (below_step (by repeat (first | (with_reducible first | exact HB.out | apply below_alloc | apply pw_below_drewN | apply below_drew1) | exact HB.out)) hb); clear HB; have HB := n0_; clear n0_; (try clear hb); (try clear hb2); (try clear hk); (try clear hi)))
        go_ret
        exact ⟨by first | rfl | (simp [errW_none, errW_some] <;> rfl) | (simp [*, errW_none, errW_some] <;> rfl), by repeat (first | (with_reducible first | exact HB.out | apply below_alloc | apply pw_below_drewN | apply below_drew1) | exact HB.out)⟩
      · replace c15 := Bool.eq_false_iff.mpr c15
        subst c15
        have H1 : (sackbutlaw06_LatticeSilent.l0 kj2 l0 l1 l1 (l1.length : Int) 0) = some r := by rw [if_neg (show ¬ (false = true) by decide)] at H; exact H
        clear H
        have H := H1
        clear H1
        have H' := Aside0.mk H
        clear H
        go_wp2
        go_loopg [34] kj2 (fun kq v34 w' => ∃ (x34_2 : Int), v34 = .int .i64 x34_2 ∧ Aside0 (sackbutlaw06_LatticeSilent.l0 kq l0 l1 l1 (l1.length : Int) x34_2 = some r) ∧ Aside0 (kq ≤ kj2) ∧ Aside0 (Below w.heap.size w w'))
        case atStart => exact ⟨(0), (by first | rfl | (simp; done) | (simp [*]; done)), H', ⟨Nat.le_refl _⟩, ⟨by repeat (first | (with_reducible first | exact HB.out | apply below_alloc | apply pw_below_drewN | apply below_drew1) | exact HB.out)⟩⟩
        case round =>
          clear H'
          try clear c1
          try clear p2
          try clear c5
          try clear c6
          try clear c7
          try clear c8
          try clear c8b0
          try clear c8b1
          try clear c10
          try clear c10b0
          try clear c10b1
          try clear c15
          try clear p2
          obtain ⟨x34_2, rfl, HA, HK2, HB⟩ := hrel
          cases gk with
          | zero => exact absurd HA.out (by simp [sackbutlaw06_LatticeSilent.l0])
          | succ k2 =>
            have H := HA.out
            clear HA
            simp only [sackbutlaw06_LatticeSilent.l0] at H
            by_cases c18 : x34_2 < (l1.length : Int)
            · rw [if_pos c18] at H
              have c18b0 : decide (x34_2 < (l1.length : Int)) = true := decide_eq_true c18
              clear c18
              by_cases c19 : 0 ≤ x34_2
              · rw [if_pos c19] at H
                have c19b0 : decide (0 ≤ x34_2) = true := decide_eq_true c19
                clear c19
                by_cases c20 : x34_2 < (l1.length : Int)
                · rw [if_pos c20] at H
                  have c20b0 : decide (x34_2 < (l1.length : Int)) = true := decide_eq_true c20
                  clear c20
                  by_cases c21 : (rd l1 x34_2) > 67108864
                  · rw [if_pos c21] at H
                    have c21b0 : decide (67108864 < (rd l1 x34_2)) = true := decide_eq_true c21
                    clear c21
                    obtain rfl := Option.some.inj H
                    have p156 : 0 ≤ (x34_2 : Int) := of_decide_eq_true (by first | (with_reducible assumption) | assumption)
                    have q156 : x34_2 < (l1.length : Int) := of_decide_eq_true (by first | (with_reducible assumption) | assumption)
                    obtain ⟨ad156, e156, hx156_0⟩ := Kd.at_int HR1.out x34_2 p156 q156
                    cases e156
                    replace hx156_0 := (HB.out.cell (World.block_lt_of_cell? w _ hx156_0)).trans hx156_0
                    replace p156 := eq_true p156
                    replace q156 := eq_true q156
                    go_wp2
                    go_ret
                    exact ⟨by first | rfl | (simp [errW_none, errW_some] <;> rfl) | (simp [*, errW_none, errW_some] <;> rfl), by repeat (first | (with_reducible first | exact HB.out | apply below_alloc | apply pw_below_drewN | apply below_drew1) | exact HB.out)⟩
                  · rw [if_neg c21] at H
                    have c21b0 : decide (67108864 < (rd l1 x34_2)) = false := decide_eq_false c21
                    clear c21
                    by_cases c22 : (rd l1 x34_2) < (-67108864)
                    · rw [if_pos c22] at H
                      have c22b0 : decide ((rd l1 x34_2) < (-67108864)) = true := decide_eq_true c22
                      clear c22
                      obtain rfl := Option.some.inj H
                      have p156 : 0 ≤ (x34_2 : Int) := of_decide_eq_true (by first | (with_reducible assumption) | assumption)
                      have q156 : x34_2 < (l1.length : Int) := of_decide_eq_true (by first | (with_reducible assumption) | assumption)
                      obtain ⟨ad156, e156, hx156_0⟩ := Kd.at_int HR1.out x34_2 p156 q156
                      cases e156
                      replace hx156_0 := (HB.out.cell (World.block_lt_of_cell? w _ hx156_0)).trans hx156_0
                      replace p156 := eq_true p156
                      replace q156 := eq_true q156
                      go_wp2
                      go_ret
                      exact ⟨by first | rfl | (simp [errW_none, errW_some] <;> rfl) | (simp [*, errW_none, errW_some] <;> rfl), by repeat (first | (with_reducible first | exact HB.out | apply below_alloc | apply pw_below_drewN | apply below_drew1) | exact HB.out)⟩
                    · rw [if_neg c22] at H
                      have c22b0 : decide ((rd l1 x34_2) < (-67108864)) = false := decide_eq_false c22
                      clear c22
                      have H' := Aside0.mk H
                      clear H
                      have p156 : 0 ≤ (x34_2 : Int) := of_decide_eq_true (by first | (with_reducible assumption) | assumption)
                      have q156 : x34_2 < (l1.length : Int) := of_decide_eq_true (by first | (with_reducible assumption) | assumption)
                      obtain ⟨ad156, e156, hx156_0⟩ := Kd.at_int HR1.out x34_2 p156 q156
                      cases e156
                      replace hx156_0 := (HB.out.cell (World.block_lt_of_cell? w _ hx156_0)).trans hx156_0
                      replace p156 := eq_true p156
                      replace q156 := eq_true q156
                      go_wp2
                      go_roundg k2
                      case measure => have := HJ2.out; have := HK2.out; omega
                      case rel => exact ⟨(wrap64 (x34_2 + 1)), (by first | rfl | (simp; done) | (simp [*]; done)), H', ⟨by have := HJ2.out; have := HK2.out; omega⟩, ⟨by repeat (first | (with_reducible first | exact HB.out | apply below_alloc | apply pw_below_drewN | apply below_drew1) | exact HB.out)⟩⟩
                · rw [if_neg c20] at H
                  exact absurd H (by simp)
              · rw [if_neg c19] at H
                exact absurd H (by simp)
            · rw [if_neg c18] at H
              have c18b0 : decide (x34_2 < (l1.length : Int)) = false := decide_eq_false c18
              clear c18
              replace H := Option.bind_eq_some_iff.mp H
              obtain ⟨t157, A230, H⟩ := H
              replace H : ((some (([] : List Int) : List Int)).bind fun y160 => (if y160.length + l0.length < 17592186044416 then ((some (y160 ++ l0 : List Int)).bind fun y163 => (if y163.length < 17592186044416 then ((lattice_Coefs.f k2 (y163 ++ [0])).bind fun t169 => (if (t157.length : Int) = (l0.length : Int) then (sackbutlaw06_LatticeSilent.j2 k2 l0 l1 t157 t169 ((t169.length : Int) != (wrap64 ((l0.length : Int) + 1)))) else (sackbutlaw06_LatticeSilent.j2 k2 l0 l1 t157 t169 true))) else (none))) else (none))) = some r := H
              have A23 := Aside0.mk A230
              clear A230
              obtain ⟨y160, hy160⟩ : ∃ y_ : List Int, y_ = (([] : List Int)) := ⟨_, rfl⟩
              replace H : (if y160.length + l0.length < 17592186044416 then ((some (y160 ++ l0 : List Int)).bind fun y163 => (if y163.length < 17592186044416 then ((lattice_Coefs.f k2 (y163 ++ [0])).bind fun t169 => (if (t157.length : Int) = (l0.length : Int) then (sackbutlaw06_LatticeSilent.j2 k2 l0 l1 t157 t169 ((t169.length : Int) != (wrap64 ((l0.length : Int) + 1)))) else (sackbutlaw06_LatticeSilent.j2 k2 l0 l1 t157 t169 true))) else (none))) else (none)) = some r := by first | (rw [hy160]; with_reducible exact H) | (have H2_ := (Option.bind_some _ _).symm.trans H; rw [hy160]; with_reducible exact H2_) | (have H2_ := (Option.bind_some _ _).symm.trans H; with_reducible exact H2_) | with_reducible exact H | (rw [hy160]; exact H) | exact H
              have Ny160 := Aside0.mk hy160
              clear hy160
              by_cases c24 : y160.length + l0.length < 17592186044416
              · rw [if_pos c24] at H
                have LMc24 := Aside0.mk c24
                clear c24
                obtain ⟨y163, hy163⟩ : ∃ y_ : List Int, y_ = (y160 ++ l0) := ⟨_, rfl⟩
                replace H : (if y163.length < 17592186044416 then ((lattice_Coefs.f k2 (y163 ++ [0])).bind fun t169 => (if (t157.length : Int) = (l0.length : Int) then (sackbutlaw06_LatticeSilent.j2 k2 l0 l1 t157 t169 ((t169.length : Int) != (wrap64 ((l0.length : Int) + 1)))) else (sackbutlaw06_LatticeSilent.j2 k2 l0 l1 t157 t169 true))) else (none)) = some r := by first | (rw [hy163]; with_reducible exact H) | (have H2_ := (Option.bind_some _ _).symm.trans H; rw [hy163]; with_reducible exact H2_) | (have H2_ := (Option.bind_some _ _).symm.trans H; with_reducible exact H2_) | with_reducible exact H | (rw [hy163]; exact H) | exact H
                have Ny163 := Aside0.mk hy163
                clear hy163
                by_cases c25 : y163.length < 17592186044416
                · rw [if_pos c25] at H
                  have LMc25 := Aside0.mk c25
                  clear c25
                  obtain ⟨y166, hy166⟩ : ∃ y_ : List Int, y_ = (y163 ++ [0]) := ⟨_, rfl⟩
                  replace H : ((lattice_Coefs.f k2 y166).bind fun t169 => (if (t157.length : Int) = (l0.length : Int) then (sackbutlaw06_LatticeSilent.j2 k2 l0 l1 t157 t169 ((t169.length : Int) != (wrap64 ((l0.length : Int) + 1)))) else (sackbutlaw06_LatticeSilent.j2 k2 l0 l1 t157 t169 true))) = some r := by first | (rw [hy166]; with_reducible exact H) | (have H2_ := (Option.bind_some _ _).symm.trans H; rw [hy166]; with_reducible exact H2_) | (have H2_ := (Option.bind_some _ _).symm.trans H; with_reducible exact H2_) | with_reducible exact H | (rw [hy166]; exact H) | exact H
                  have Ny166 := Aside0.mk hy166
                  clear hy166
                  replace H := Option.bind_eq_some_iff.mp H
                  obtain ⟨t169, A260, H⟩ := H
                  replace H : (if (t157.length : Int) = (l0.length : Int) then (sackbutlaw06_LatticeSilent.j2 k2 l0 l1 t157 t169 ((t169.length : Int) != (wrap64 ((l0.length : Int) + 1)))) else (sackbutlaw06_LatticeSilent.j2 k2 l0 l1 t157 t169 true)) = some r := H
                  have A26 := Aside0.mk A260
                  clear A260
                  have HC27 := Aside0.mk H
                  clear H
                  go_upto_region 11 with (first | ((with_reducible refine gate_callee (f := 25) rfl ?_); refine goesL_ (some 46) rfl rfl Try.func25 (by kernel_rfl) rfl #[.slice A0 l0.length c0] rfl (by (try simp only [List.map_toArray, List.map_cons, List.map_nil]); first | done | rfl | (simp only [List.length_drop, List.length_take]; rfl)) ?_; (with_reducible refine (lattice_Coefs.calls k2 _ _ l0 t157 _ ?side1 ?side2 A23.out).mono ?_); (case side1 => repeat (first | exact (Kd.C_below HR0.out HB.out) | (with_reducible refine Kd.C_alloc ?_ _) | (with_reducible refine Kd.C_drewN ?_ _) | (with_reducible refine Kd.C_drew ?_))); (case side2 => exact HC0.out); rintro e w28 ⟨v158, rfl, ho0, hb⟩; refine ⟨_, rfl, ?_⟩; have n0_ := Aside0.mk (Kd.R_lower ho0 (below_size (by repeat (first | (with_reducible first | exact HB.out | apply below_alloc | apply pw_below_drewN | apply below_drew1) | exact HB.out)))); have n1_ := Aside0.mk (below_step (by repeat (first | (with_reducible first | exact HB.out | apply below_alloc | apply pw_below_drewN | apply below_drew1) | exact HB.out)) hb); clear HB; have HO159 := n0_; have HB := n1_; clear n0_ n1_; (try clear hb); (try clear hb2); (try clear hk); (try clear hi); (try clear ho0)) | ((with_reducible refine gate_dst (N := 47) rfl ?_); (try (refine gate_guard (by rfl) ?_; dsimp only)); refine Kd.R_lit (Kd.int .i64) _ 3 ?hg (N := 47) ?hd (xs := ([] : List Int)) (inner := []) (ok := fun _ => True) (okp := fun _ => True) ?hr ?hp (fun _ hk => hk) trivial (Below.refl _ _) (Nat.le_refl _) (by simp) ?_; (case hd => rfl); (case hg => rfl); (case hr => first | (go_simp; done) | (go_simp; rfl)); (case hp => exact (Reps.none _ _)); intro v161 w29 ho30 hb hg_ hnew_; clear hg_ hnew_; (first | rw [← Ny160.out] at ho30 | (simp only [Int.reduceToNat] at ho30; rw [← Ny160.out] at ho30)); have n0_ := Aside0.mk (Kd.R_elder' (by (with_reducible repeat (first | apply Kd.R_alloc | apply Kd.R_drewN | apply Kd.R_drew)); exact HO159.out) (Kd.R_base ho30) hb); have n1_ := Aside0.mk (Kd.R_lower (Kd.R_new' ho30 (Kd.R_lt (by (with_reducible repeat (first | apply Kd.R_alloc | apply Kd.R_drewN | apply Kd.R_drew)); exact HO159.out))) (below_size (by repeat (first | (with_reducible first | exact HB.out | apply below_alloc | apply pw_below_drewN | apply below_drew1) | exact HB.out)))); have n2_ := Aside0.mk (below_step (by repeat (first | (with_reducible first | exact HB.out | apply below_alloc | apply pw_below_drewN | apply below_drew1) | exact HB.out)) hb); clear HO159; clear HB; have HO159 := n0_; have HO162 := n1_; have HB := n2_; clear n0_ n1_ n2_; clear hb ho30) | ((with_reducible refine gate_builtin (b := .append) (xs := #[.tmp 47, .tmp 48]) rfl ?_); (try (refine gate_guard (by rfl) ?_; dsimp only)); at_builtin; refine Kd.R_append_rows (Kd.int .i64) (w0 := w) w.heap.size rfl (.tmp 47) (.tmp 48) 22 3 (.int .i64 0) 8 rfl Try.underlying22 info3 rfl (by decide) (by omega) v161 y160 l0 _ _ _ (fun k_ => some k_ ≠ (v158 : Value).ownBlock) (fun _ => False) rfl rfl ?aO ?aR (fun _ _ h => h) (fun _ h => h.elim) ?aF ?aB ?aS ?aL ?_; (case aR => repeat (first | exact (Kd.C_below HR0.out HB.out) | (with_reducible refine Kd.C_alloc ?_ _) | (with_reducible refine Kd.C_drewN ?_ _) | (with_reducible refine Kd.C_drew ?_))); (case aB => exact (by repeat (first | (with_reducible first | exact HB.out | apply below_alloc | apply pw_below_drewN | apply below_drew1) | exact HB.out))); (case aF => exact (fun k_ hk => Kd.fresh' (Kd.R_lt (by (with_reducible repeat (first | apply Kd.R_alloc | apply Kd.R_drewN | apply Kd.R_drew)); exact HO159.out)) k_ hk)); (case aO => exact (by (with_reducible repeat (first | apply Kd.R_alloc | apply Kd.R_drewN | apply Kd.R_drew)); exact Kd.R_mono HO162.out (fun _ hk => hk.2))); (case aS => exact (below_size (by repeat (first | (with_reducible first | exact HB.out | apply below_alloc | apply pw_below_drewN | apply below_drew1) | exact HB.out)))); (case aL => have := LMc24.out; omega); intro v164 w31 ho hb hg hat; rw [← Ny163.out] at ho; have n0_ := Aside0.mk (Kd.R_after (ok := (fun _ => True)) (by (with_reducible repeat (first | apply Kd.R_alloc | apply Kd.R_drewN | apply Kd.R_drew)); exact HO159.out) hg hat); have n1_ := Aside0.mk (hb); have n2_ := Aside0.mk (ho); clear HO159; clear HB; clear HO162; have HO159 := n0_; have HB := n1_; have HO165 := n2_; clear n0_ n1_ n2_; clear ho hb hg hat) | ((with_reducible refine gate_builtin (b := .append) (xs := #[.tmp 49, .tmp 50]) rfl ?_); (try (refine gate_guard (by rfl) ?_; dsimp only)); at_builtin; refine Kd.R_append (Kd.int .i64) (w0 := w) w.heap.size rfl (.tmp 49) (.tmp 50) 22 3 (.int .i64 0) 8 rfl Try.underlying22 info3 rfl (by decide) (by omega) v164 y163 0 [.int .i64 0] (fun k_ => some k_ ≠ (v158 : Value).ownBlock) (fun _ => False) rfl rfl ?aP (fun _ hk => hk.elim) ?aF ?aO ?aB ?aS ?aL ?_; (case aP => exact rfl); (case aB => exact (by repeat (first | (with_reducible first | exact HB.out | apply below_alloc | apply pw_below_drewN | apply below_drew1) | exact HB.out))); (case aF => exact (fun k_ hk => Kd.fresh' (Kd.R_lt (by (with_reducible repeat (first | apply Kd.R_alloc | apply Kd.R_drewN | apply Kd.R_drew)); exact HO159.out)) k_ hk)); (case aO => exact (by (with_reducible repeat (first | apply Kd.R_alloc | apply Kd.R_drewN | apply Kd.R_drew)); exact HO165.out)); (case aS => exact (below_size (by repeat (first | (with_reducible first | exact HB.out | apply below_alloc | apply pw_below_drewN | apply below_drew1) | exact HB.out)))); (case aL => have := LMc25.out; omega); intro v167 w32 ho hb hg hat; rw [← Ny166.out] at ho; have n0_ := Aside0.mk (Kd.R_after (ok := (fun _ => True)) (by (with_reducible repeat (first | apply Kd.R_alloc | apply Kd.R_drewN | apply Kd.R_drew)); exact HO159.out) hg hat); have n1_ := Aside0.mk (hb); have n2_ := Aside0.mk (ho); clear HO159; clear HB; clear HO165; have HO159 := n0_; have HB := n1_; have HO168 := n2_; clear n0_ n1_ n2_; clear ho hb hg hat; obtain ⟨Ao33, co33, eo33⟩ := Kd.R_slice HO168.out; subst eo33) | ((with_reducible refine gate_callee (f := 25) rfl ?_); refine goesL_ (some 52) rfl rfl Try.func25 (by kernel_rfl) rfl #[.slice Ao33 y166.length co33] rfl (by (try simp only [List.map_toArray, List.map_cons, List.map_nil]); first | done | rfl | (simp only [List.length_drop, List.length_take]; rfl)) ?_; (with_reducible refine (lattice_Coefs.calls k2 _ _ y166 t169 _ ?side1 ?side2 A26.out).mono ?_); (case side1 => repeat (first | exact (Kd.R_reads' HO168.out).2.2 | (with_reducible refine Kd.C_alloc ?_ _) | (with_reducible refine Kd.C_drewN ?_ _) | (with_reducible refine Kd.C_drew ?_))); (case side2 => exact (Kd.R_reads' HO168.out).2.1); rintro e w34 ⟨v170, rfl, ho0, hb⟩; refine ⟨_, rfl, ?_⟩; have n0_ := Aside0.mk (Kd.R_elder' (by (with_reducible repeat (first | apply Kd.R_alloc | apply Kd.R_drewN | apply Kd.R_drew)); exact HO159.out) (Kd.R_base ho0) hb); have n1_ := Aside0.mk (Kd.R_elder' (by (with_reducible repeat (first | apply Kd.R_alloc | apply Kd.R_drewN | apply Kd.R_drew)); exact HO168.out) (Kd.R_base ho0) hb); have n2_ := Aside0.mk (Kd.R_lower (Kd.R_new' (Kd.R_new' ho0 (Kd.R_lt (by (with_reducible repeat (first | apply Kd.R_alloc | apply Kd.R_drewN | apply Kd.R_drew)); exact HO159.out))) (Kd.R_lt (by (with_reducible repeat (first | apply Kd.R_alloc | apply Kd.R_drewN | apply Kd.R_drew)); exact HO168.out))) (below_size (by repeat (first | (with_reducible first | exact HB.out | apply below_alloc | apply pw_below_drewN | apply below_drew1) | exact HB.out)))); have n3_ := Aside0.mk (below_step (by repeat (first | (with_reducible first | exact HB.out | apply below_alloc | apply pw_below_drewN | apply below_drew1) | exact HB.out)) hb); clear HO159; clear HO168; clear HB; have HO159 := n0_; have HO168 := n1_; have HO171 := n2_; have HB := n3_; clear n0_ n1_ n2_ n3_; (try clear hb); (try clear hb2); (try clear hk); (try clear hi); (try clear ho0)))
                  (try simp only [Act.put, List.setIfInBounds_toArray, List.set_cons_zero, List.set_cons_succ])
                  go_cut [65] (fun v65 wc => ∃ (kq : Nat) (x65_26 : Bool), v65 = .bool x65_26 ∧ Aside0 (sackbutlaw06_LatticeSilent.j2 kq l0 l1 t157 t169 x65_26 = some r) ∧ Aside0 (kq ≤ k2) ∧ Aside0 (Kd.R (Kd.int .i64) 3 wc w.heap.size (fun k_ => some k_ ≠ (v170 : Value).ownBlock) v158 t157) ∧ Aside0 (Kd.R (Kd.int .i64) 3 wc w.heap.size (fun k_ => some k_ ≠ (v158 : Value).ownBlock) v170 t169) ∧ Aside0 (Below w.heap.size w wc))
                  case first =>
                    have H := HC27.out
                    clear HC27
                    by_cases c35 : (t157.length : Int) = (l0.length : Int)
                    · rw [if_pos c35] at H
                      have c35b0 : ((t157.length : Int) == (l0.length : Int)) = true := beq_iff_eq.mpr c35
                      have c35b1 : ((t157.length : Int) != (l0.length : Int)) = false := bne_eq_false_iff_eq.mpr c35
                      have c35b2 : (t157.length == l0.length) = true := by first | simpa using c35 | (simp at c35 ⊢; omega)
                      clear c35
                      (first | rw [c35b0] | (simp only [i64_w, i32_w]; rw [c35b0]) | skip)
                      have H' := Aside0.mk H
                      clear H
                      obtain ⟨Ao36, co36, eo36⟩ := Kd.R_slice HO159.out
                      subst eo36
                      obtain ⟨Ao37, co37, eo37⟩ := Kd.R_slice HO171.out
                      subst eo37
                      go_wp2
                      go_meet
                      case rel => exact ⟨_, (((t169.length : Int) != (wrap64 ((l0.length : Int) + 1)))), (by first | rfl | (simp; done) | (simp [*]; done)), H', ⟨by have := HJ2.out; have := HK2.out; first | omega | exact Nat.le_refl _⟩, ⟨by (with_reducible repeat (first | apply Kd.R_alloc | apply Kd.R_drewN | apply Kd.R_drew)); exact Kd.R_mono HO159.out (fun _ hk => hk.2)⟩, ⟨by (with_reducible repeat (first | apply Kd.R_alloc | apply Kd.R_drewN | apply Kd.R_drew)); exact Kd.R_mono HO171.out (fun _ hk => hk.1.2)⟩, ⟨by repeat (first | (with_reducible first | exact HB.out | apply below_alloc | apply pw_below_drewN | apply below_drew1) | exact HB.out)⟩⟩
                    · rw [if_neg c35] at H
                      have c35b0 : ((t157.length : Int) == (l0.length : Int)) = false := beq_eq_false_iff_ne.mpr c35
                      have c35b1 : ((t157.length : Int) != (l0.length : Int)) = true := bne_iff_ne.mpr c35
                      have c35b2 : (t157.length == l0.length) = false := by first | simpa using c35 | (simp at c35 ⊢; omega)
                      (first | rw [c35b0] | (simp only [i64_w, i32_w]; rw [c35b0]) | skip)
                      have H' := Aside0.mk H
                      clear H
                      obtain ⟨Ao38, co38, eo38⟩ := Kd.R_slice HO159.out
                      subst eo38
                      go_wp2
                      go_meet
                      case rel => exact ⟨_, (true), (by first | rfl | (simp; done) | (simp [*]; done)), H', ⟨by have := HJ2.out; have := HK2.out; first | omega | exact Nat.le_refl _⟩, ⟨by (with_reducible repeat (first | apply Kd.R_alloc | apply Kd.R_drewN | apply Kd.R_drew)); exact Kd.R_mono HO159.out (fun _ hk => hk.2)⟩, ⟨by (with_reducible repeat (first | apply Kd.R_alloc | apply Kd.R_drewN | apply Kd.R_drew)); exact Kd.R_mono HO171.out (fun _ hk => hk.1.2)⟩, ⟨by repeat (first | (with_reducible first | exact HB.out | apply below_alloc | apply pw_below_drewN | apply below_drew1) | exact HB.out)⟩⟩
                  case rest =>
                    clear HC27
                    try clear c1
                    try clear p1
                    try clear q1
                    try clear hx1
                    try clear c2
                    try clear p2
                    try clear c3
                    try clear c5
                    try clear c6
                    try clear p6
                    try clear c7
                    try clear c8
                    try clear c8b0
                    try clear c8b1
                    try clear c10
                    try clear c10b0
                    try clear c10b1
                    try clear c15
                    try clear p15
                    try clear q15
                    try clear hx15
                    try clear c18
                    try clear c18b0
                    try clear c19
                    try clear c19b0
                    try clear c20
                    try clear c20b0
                    try clear c21
                    try clear c21b0
                    try clear c22
                    try clear c22b0
                    try clear c24
                    try clear c25
                    try clear c35
                    try clear c35b0
                    try clear c35b1
                    try clear c35b2
                    try clear hx156_0
                    try clear p156
                    try clear p2
                    try clear q156
                    obtain ⟨kq, x65_26, rfl, HA, HJ26, HO_7, HO_8, HB⟩ := hcut
                    cases kq with
                    | zero => exact absurd HA.out (by simp [sackbutlaw06_LatticeSilent.j2])
                    | succ kj26 =>
                      have H := HA.out
                      clear HA
                      simp only [sackbutlaw06_LatticeSilent.j2] at H
                      by_cases c39 : x65_26 = true
                      · subst c39
                        have H1 : (some false) = some r := by rw [if_pos rfl] at H; exact H
                        clear H
                        have H := H1
                        clear H1
                        obtain rfl := Option.some.inj H
                        go_wp2
                        go_ret
                        exact ⟨by first | rfl | (simp [errW_none, errW_some] <;> rfl) | (simp [*, errW_none, errW_some] <;> rfl), by repeat (first | (with_reducible first | exact HB.out | apply below_alloc | apply pw_below_drewN | apply below_drew1) | exact HB.out)⟩
                      · replace c39 := Bool.eq_false_iff.mpr c39
                        subst c39
                        have H1 : (if 0 ≤ (l0.length : Int) then (if (l0.length : Int) ≤ (t169.length : Int) then ((sackbutref01_Same.f kj26 (t169.take ((l0.length : Int) : Int).toNat) t157).bind fun t176 => (if t176 = true then (if (l0.length : Int) < (t169.length : Int) then (if (rd t169 (l0.length : Int)) = 0 then ((lattice_Predict.f kj26 t157 l1).bind fun t178 => ((lattice_Predict.f kj26 t169 l1).bind fun t179 => (some (t178 == t179)))) else (some false)) else (none)) else (some false))) else (none)) else (none)) = some r := by rw [if_neg (show ¬ (false = true) by decide)] at H; exact H
                        clear H
                        have H := H1
                        clear H1
                        by_cases c40 : 0 ≤ (l0.length : Int)
                        · rw [if_pos c40] at H
                          have c40b0 := eq_true c40
                          have c40b1 : decide (0 ≤ (l0.length : Int)) = true := decide_eq_true c40
                          clear c40
                          by_cases c41 : (l0.length : Int) ≤ (t169.length : Int)
                          · rw [if_pos c41] at H
                            have c41b0 := eq_true c41
                            have c41b1 : decide ((l0.length : Int) ≤ (t169.length : Int)) = true := decide_eq_true c41
                            clear c41
                            obtain ⟨y172, hy172⟩ : ∃ y_ : List Int, y_ = (t169.take ((l0.length : Int) : Int).toNat) := ⟨_, rfl⟩
                            replace H : ((sackbutref01_Same.f kj26 y172 t157).bind fun t176 => (if t176 = true then (if (l0.length : Int) < (t169.length : Int) then (if (rd t169 (l0.length : Int)) = 0 then ((lattice_Predict.f kj26 t157 l1).bind fun t178 => ((lattice_Predict.f kj26 t169 l1).bind fun t179 => (some (t178 == t179)))) else (some false)) else (none)) else (some false))) = some r := by first | (rw [hy172]; with_reducible exact H) | (have H2_ := (Option.bind_some _ _).symm.trans H; rw [hy172]; with_reducible exact H2_) | (have H2_ := (Option.bind_some _ _).symm.trans H; with_reducible exact H2_) | with_reducible exact H | (rw [hy172]; exact H) | exact H
                            have Ny172 := Aside0.mk hy172
                            clear hy172
                            replace H := Option.bind_eq_some_iff.mp H
                            obtain ⟨t176, A420, H⟩ := H
                            replace H : (if t176 = true then (if (l0.length : Int) < (t169.length : Int) then (if (rd t169 (l0.length : Int)) = 0 then ((lattice_Predict.f kj26 t157 l1).bind fun t178 => ((lattice_Predict.f kj26 t169 l1).bind fun t179 => (some (t178 == t179)))) else (some false)) else (none)) else (some false)) = some r := H
                            have A42 := Aside0.mk A420
                            clear A420
                            by_cases c43 : t176 = true
                            · subst c43
                              have H1 : (if (l0.length : Int) < (t169.length : Int) then (if (rd t169 (l0.length : Int)) = 0 then ((lattice_Predict.f kj26 t157 l1).bind fun t178 => ((lattice_Predict.f kj26 t169 l1).bind fun t179 => (some (t178 == t179)))) else (some false)) else (none)) = some r := by rw [if_pos rfl] at H; exact H
                              clear H
                              have H := H1
                              clear H1
                              by_cases c44 : (l0.length : Int) < (t169.length : Int)
                              · rw [if_pos c44] at H
                                have c44b0 : decide ((l0.length : Int) < (t169.length : Int)) = true := decide_eq_true c44
                                have c44b1 : decide (l0.length < t169.length) = true := decide_eq_true (Int.ofNat_lt.mp c44)
                                clear c44
                                by_cases c45 : (rd t169 (l0.length : Int)) = 0
                                · rw [if_pos c45] at H
                                  have c45b0 : ((rd t169 (l0.length : Int)) == 0) = true := beq_iff_eq.mpr c45
                                  have c45b1 : ((rd t169 (l0.length : Int)) != 0) = false := bne_eq_false_iff_eq.mpr c45
                                  clear c45
                                  replace H := Option.bind_eq_some_iff.mp H
                                  obtain ⟨t178, A460, H⟩ := H
                                  replace H : ((lattice_Predict.f kj26 t169 l1).bind fun t179 => (some (t178 == t179))) = some r := H
                                  have A46 := Aside0.mk A460
                                  clear A460
                                  replace H := Option.bind_eq_some_iff.mp H
                                  obtain ⟨t179, A470, H⟩ := H
                                  replace H : (some (t178 == t179)) = some r := H
                                  have A47 := Aside0.mk A470
                                  clear A470
                                  obtain rfl := Option.some.inj H
                                  obtain ⟨Ao49, co49, eo49⟩ := Kd.R_slice HO_8.out
                                  subst eo49
                                  have q48 : ((l0.length : Int) : Int) ≤ ((t169.length : Int) : Int) := of_decide_eq_true (by first | (with_reducible assumption) | assumption)
                                  obtain ⟨i048, hi048, _, hsz48, _⟩ := info_parts info3
                                  have hroom48 : t169.length ≤ co49 := (Kd.R_reads' HO_8.out).2.1
                                  have hC48 : Kd.C (Kd.int .i64) _ Ao49 t169.length t169 := (Kd.R_reads' HO_8.out).2.2
                                  have hcut48 := cut_to (P := Try.prog) 22 3 .i64 Try.underlying22 hi048 Ao49 t169.length co49 (l0.length : Int) (of_decide_eq_true (by first | (with_reducible assumption) | assumption)) q48 hroom48
                                  have hr48 := Kd.C_take (m := ((l0.length : Int) : Int).toNat) hC48 (by omega)
                                  have hy48 : y172.length = ((l0.length : Int) : Int).toNat := (by rw [Ny172.out, List.length_take]; omega)
                                  rw [← Ny172.out] at hr48
                                  rw [← hy48] at hcut48
                                  have HR175 := Aside0.mk hr48
                                  have HC175 := Aside0.mk (show y172.length ≤ co49 from by omega)
                                  clear hr48 hC48 hroom48 hi048 hsz48
                                  have KY48 := Aside0.mk hy48
                                  clear hy48
                                  have KL48 := Aside0.mk (show ((l0.length : Int) : Int).toNat ≤ t169.length from by omega)
                                  replace q48 := eq_true q48
                                  obtain ⟨Ao50, co50, eo50⟩ := Kd.R_slice HO_7.out
                                  subst eo50
                                  go_wp2_with (first | ((with_reducible refine gate_callee (f := 19) rfl ?_); refine goesL_ (some 71) rfl rfl Try.func19 (by kernel_rfl) rfl #[.slice Ao49 y172.length co49, .slice Ao50 t157.length co50] rfl (by (try simp only [List.map_toArray, List.map_cons, List.map_nil]); first | done | rfl | (simp only [List.length_drop, List.length_take]; rfl)) ?_; (with_reducible refine (sackbutref01_Same.calls kj26 _ _ y172 _ _ t157 true _ ?side1 ?side2 ?side3 ?side4 A42.out).mono ?_); (case side1 => repeat (first | exact (by repeat (first | (with_reducible exact HR175.out) | (with_reducible refine Kd.C_alloc ?_ _) | (with_reducible refine Kd.C_drewN ?_ _) | (with_reducible refine Kd.C_drew ?_) | exact HR175.out)) | (with_reducible refine Kd.C_alloc ?_ _) | (with_reducible refine Kd.C_drewN ?_ _) | (with_reducible refine Kd.C_drew ?_))); (case side2 => exact HC175.out); (case side3 => repeat (first | exact (Kd.R_reads' HO_7.out).2.2 | (with_reducible refine Kd.C_alloc ?_ _) | (with_reducible refine Kd.C_drewN ?_ _) | (with_reducible refine Kd.C_drew ?_))); (case side4 => exact (Kd.R_reads' HO_7.out).2.1); rintro e w' ⟨rfl, ⟨nd, rfl⟩⟩; refine ⟨_, rfl, ?_⟩; have p177 : 0 ≤ ((l0.length : Int) : Int) := of_decide_eq_true (by first | (with_reducible assumption) | assumption); have q177 : (l0.length : Int) < (t169.length : Int) := of_decide_eq_true (by first | (with_reducible assumption) | assumption); obtain ⟨ad177, e177, hx177_0⟩ := Kd.at_int (Kd.R_reads' HO_8.out).2.2 (l0.length : Int) p177 q177; cases e177; (try simp only [Go.IntWalk.toNatUp] at hx177_0); replace p177 := eq_true p177; replace q177 := eq_true q177) | (go_at_call 23; (with_reducible refine (lattice_Predict.calls kj26 _ _ t157 _ _ l1 t178 _ ?side1 ?side2 ?side3 ?side4 A46.out).mono ?_); (case side1 => repeat (first | exact (Kd.R_reads' HO_7.out).2.2 | (with_reducible refine Kd.C_alloc ?_ _) | (with_reducible refine Kd.C_drewN ?_ _) | (with_reducible refine Kd.C_drew ?_))); (case side2 => exact (Kd.R_reads' HO_7.out).2.1); (case side3 => repeat (first | exact (Kd.C_below HR1.out (by repeat (first | (with_reducible first | exact HB.out | apply below_alloc | apply pw_below_drewN | apply below_drew1) | exact HB.out))) | (with_reducible refine Kd.C_alloc ?_ _) | (with_reducible refine Kd.C_drewN ?_ _) | (with_reducible refine Kd.C_drew ?_))); (case side4 => exact HC1.out); rintro e w51 ⟨rfl, hb⟩; have n0_ := Aside0.mk (Kd.R_below (by (with_reducible repeat (first | apply Kd.R_alloc | apply Kd.R_drewN | apply Kd.R_drew)); exact HO_7.out) hb); have n1_ := Aside0.mk (Kd.R_below (by (with_reducible repeat (first | apply Kd.R_alloc | apply Kd.R_drewN | apply Kd.R_drew)); exact HO_8.out) hb); have n2_ := Aside0.mk (Kd.C_below (by repeat (first | (with_reducible exact HR175.out) | (with_reducible refine Kd.C_alloc ?_ _) | (with_reducible refine Kd.C_drewN ?_ _) | (with_reducible refine Kd.C_drew ?_) | exact HR175.out)) hb); have n3_ := Aside0.mk (below_step (by repeat (first | (with_reducible first | exact HB.out | apply below_alloc | apply pw_below_drewN | apply below_drew1) | exact HB.out)) hb); clear HO_7; clear HO_8; clear HR175; clear HB; have HO_7 := n0_; have HO_8 := n1_; have HR175 := n2_; have HB := n3_; clear n0_ n1_ n2_ n3_; (try clear hb); (try clear hb2); (try clear hk); (try clear hi)) | (go_at_call 23; (with_reducible refine (lattice_Predict.calls kj26 _ _ t169 _ _ l1 t179 _ ?side1 ?side2 ?side3 ?side4 A47.out).mono ?_); (case side1 => repeat (first | exact (Kd.R_reads' HO_8.out).2.2 | (with_reducible refine Kd.C_alloc ?_ _) | (with_reducible refine Kd.C_drewN ?_ _) | (with_reducible refine Kd.C_drew ?_))); (case side2 => exact (Kd.R_reads' HO_8.out).2.1); (case side3 => repeat (first | exact (Kd.C_below HR1.out HB.out) | (with_reducible refine Kd.C_alloc ?_ _) | (with_reducible refine Kd.C_drewN ?_ _) | (with_reducible refine Kd.C_drew ?_))); (case side4 => exact HC1.out); rintro e w52 ⟨rfl, hb⟩; have n0_ := Aside0.mk (Kd.R_below (by (with_reducible repeat (first | apply Kd.R_alloc | apply Kd.R_drewN | apply Kd.R_drew)); exact HO_7.out) hb); have n1_ := Aside0.mk (Kd.R_below (by (with_reducible repeat (first | apply Kd.R_alloc | apply Kd.R_drewN | apply Kd.R_drew)); exact HO_8.out) hb); have n2_ := Aside0.mk (Kd.C_below (by repeat (first | (with_reducible exact HR175.out) | (with_reducible refine Kd.C_alloc ?_ _) | (with_reducible refine Kd.C_drewN ?_ _) | (with_reducible refine Kd.C_drew ?_) | exact HR175.out)) hb); have n3_ := Aside0.mk (below_step (by repeat (first | (with_reducible first | exact HB.out | apply below_alloc | apply pw_below_drewN | apply below_drew1) | exact HB.out)) hb); clear HO_7; clear HO_8; clear HR175; clear HB; have HO_7 := n0_; have HO_8 := n1_; have HR175 := n2_; have HB := n3_; clear n0_ n1_ n2_ n3_; (try clear hb); (try clear hb2); (try clear hk); (try clear hi)))
                                  go_ret
                                  exact ⟨by first | rfl | (simp [errW_none, errW_some] <;> rfl) | (simp [*, errW_none, errW_some] <;> rfl), by repeat (first | (with_reducible first | exact HB.out | apply below_alloc | apply pw_below_drewN | apply below_drew1) | exact HB.out)⟩
                                · rw [if_neg c45] at H
                                  have c45b0 : ((rd t169 (l0.length : Int)) == 0) = false := beq_eq_false_iff_ne.mpr c45
                                  have c45b1 : ((rd t169 (l0.length : Int)) != 0) = true := bne_iff_ne.mpr c45
                                  obtain rfl := Option.some.inj H
                                  obtain ⟨Ao54, co54, eo54⟩ := Kd.R_slice HO_8.out
                                  subst eo54
                                  have q53 : ((l0.length : Int) : Int) ≤ ((t169.length : Int) : Int) := of_decide_eq_true (by first | (with_reducible assumption) | assumption)
                                  obtain ⟨i053, hi053, _, hsz53, _⟩ := info_parts info3
                                  have hroom53 : t169.length ≤ co54 := (Kd.R_reads' HO_8.out).2.1
                                  have hC53 : Kd.C (Kd.int .i64) _ Ao54 t169.length t169 := (Kd.R_reads' HO_8.out).2.2
                                  have hcut53 := cut_to (P := Try.prog) 22 3 .i64 Try.underlying22 hi053 Ao54 t169.length co54 (l0.length : Int) (of_decide_eq_true (by first | (with_reducible assumption) | assumption)) q53 hroom53
                                  have hr53 := Kd.C_take (m := ((l0.length : Int) : Int).toNat) hC53 (by omega)
                                  have hy53 : y172.length = ((l0.length : Int) : Int).toNat := (by rw [Ny172.out, List.length_take]; omega)
                                  rw [← Ny172.out] at hr53
                                  rw [← hy53] at hcut53
                                  have HR175 := Aside0.mk hr53
                                  have HC175 := Aside0.mk (show y172.length ≤ co54 from by omega)
                                  clear hr53 hC53 hroom53 hi053 hsz53
                                  have KY53 := Aside0.mk hy53
                                  clear hy53
                                  have KL53 := Aside0.mk (show ((l0.length : Int) : Int).toNat ≤ t169.length from by omega)
                                  replace q53 := eq_true q53
                                  obtain ⟨Ao55, co55, eo55⟩ := Kd.R_slice HO_7.out
                                  subst eo55
                                  go_wp2_with (first | ((with_reducible refine gate_callee (f := 19) rfl ?_); refine goesL_ (some 71) rfl rfl Try.func19 (by kernel_rfl) rfl #[.slice Ao54 y172.length co54, .slice Ao55 t157.length co55] rfl (by (try simp only [List.map_toArray, List.map_cons, List.map_nil]); first | done | rfl | (simp only [List.length_drop, List.length_take]; rfl)) ?_; (with_reducible refine (sackbutref01_Same.calls kj26 _ _ y172 _ _ t157 true _ ?side1 ?side2 ?side3 ?side4 A42.out).mono ?_); (case side1 => repeat (first | exact (by repeat (first | (with_reducible exact HR175.out) | (with_reducible refine Kd.C_alloc ?_ _) | (with_reducible refine Kd.C_drewN ?_ _) | (with_reducible refine Kd.C_drew ?_) | exact HR175.out)) | (with_reducible refine Kd.C_alloc ?_ _) | (with_reducible refine Kd.C_drewN ?_ _) | (with_reducible refine Kd.C_drew ?_))); (case side2 => exact HC175.out); (case side3 => repeat (first | exact (Kd.R_reads' HO_7.out).2.2 | (with_reducible refine Kd.C_alloc ?_ _) | (with_reducible refine Kd.C_drewN ?_ _) | (with_reducible refine Kd.C_drew ?_))); (case side4 => exact (Kd.R_reads' HO_7.out).2.1); rintro e w' ⟨rfl, ⟨nd, rfl⟩⟩; refine ⟨_, rfl, ?_⟩; have p177 : 0 ≤ ((l0.length : Int) : Int) := of_decide_eq_true (by first | (with_reducible assumption) | assumption); have q177 : (l0.length : Int) < (t169.length : Int) := of_decide_eq_true (by first | (with_reducible assumption) | assumption); obtain ⟨ad177, e177, hx177_0⟩ := Kd.at_int (Kd.R_reads' HO_8.out).2.2 (l0.length : Int) p177 q177; cases e177; (try simp only [Go.IntWalk.toNatUp] at hx177_0); replace p177 := eq_true p177; replace q177 := eq_true q177))
                                  go_ret
                                  exact ⟨by first | rfl | (simp [errW_none, errW_some] <;> rfl) | (simp [*, errW_none, errW_some] <;> rfl), by repeat (first | (with_reducible first | exact HB.out | apply below_alloc | apply pw_below_drewN | apply below_drew1) | exact HB.out)⟩
                              · rw [if_neg c44] at H
                                exact absurd H (by simp)
                            · replace c43 := Bool.eq_false_iff.mpr c43
                              subst c43
                              have H1 : (some false) = some r := by rw [if_neg (show ¬ (false = true) by decide)] at H; exact H
                              clear H
                              have H := H1
                              clear H1
                              obtain rfl := Option.some.inj H
                              obtain ⟨Ao57, co57, eo57⟩ := Kd.R_slice HO_8.out
                              subst eo57
                              have q56 : ((l0.length : Int) : Int) ≤ ((t169.length : Int) : Int) := of_decide_eq_true (by first | (with_reducible assumption) | assumption)
                              obtain ⟨i056, hi056, _, hsz56, _⟩ := info_parts info3
                              have hroom56 : t169.length ≤ co57 := (Kd.R_reads' HO_8.out).2.1
                              have hC56 : Kd.C (Kd.int .i64) _ Ao57 t169.length t169 := (Kd.R_reads' HO_8.out).2.2
                              have hcut56 := cut_to (P := Try.prog) 22 3 .i64 Try.underlying22 hi056 Ao57 t169.length co57 (l0.length : Int) (of_decide_eq_true (by first | (with_reducible assumption) | assumption)) q56 hroom56
                              have hr56 := Kd.C_take (m := ((l0.length : Int) : Int).toNat) hC56 (by omega)
                              have hy56 : y172.length = ((l0.length : Int) : Int).toNat := (by rw [Ny172.out, List.length_take]; omega)
                              rw [← Ny172.out] at hr56
                              rw [← hy56] at hcut56
                              have HR175 := Aside0.mk hr56
                              have HC175 := Aside0.mk (show y172.length ≤ co57 from by omega)
                              clear hr56 hC56 hroom56 hi056 hsz56
                              have KY56 := Aside0.mk hy56
                              clear hy56
                              have KL56 := Aside0.mk (show ((l0.length : Int) : Int).toNat ≤ t169.length from by omega)
                              replace q56 := eq_true q56
                              obtain ⟨Ao58, co58, eo58⟩ := Kd.R_slice HO_7.out
                              subst eo58
                              go_wp2_with (first | ((with_reducible refine gate_callee (f := 19) rfl ?_); refine goesL_ (some 71) rfl rfl Try.func19 (by kernel_rfl) rfl #[.slice Ao57 y172.length co57, .slice Ao58 t157.length co58] rfl (by (try simp only [List.map_toArray, List.map_cons, List.map_nil]); first | done | rfl | (simp only [List.length_drop, List.length_take]; rfl)) ?_; (with_reducible refine (sackbutref01_Same.calls kj26 _ _ y172 _ _ t157 false _ ?side1 ?side2 ?side3 ?side4 A42.out).mono ?_); (case side1 => repeat (first | exact (by repeat (first | (with_reducible exact HR175.out) | (with_reducible refine Kd.C_alloc ?_ _) | (with_reducible refine Kd.C_drewN ?_ _) | (with_reducible refine Kd.C_drew ?_) | exact HR175.out)) | (with_reducible refine Kd.C_alloc ?_ _) | (with_reducible refine Kd.C_drewN ?_ _) | (with_reducible refine Kd.C_drew ?_))); (case side2 => exact HC175.out); (case side3 => repeat (first | exact (Kd.R_reads' HO_7.out).2.2 | (with_reducible refine Kd.C_alloc ?_ _) | (with_reducible refine Kd.C_drewN ?_ _) | (with_reducible refine Kd.C_drew ?_))); (case side4 => exact (Kd.R_reads' HO_7.out).2.1); rintro e w' ⟨rfl, ⟨nd, rfl⟩⟩; refine ⟨_, rfl, ?_⟩))
                              go_ret
                              exact ⟨by first | rfl | (simp [errW_none, errW_some] <;> rfl) | (simp [*, errW_none, errW_some] <;> rfl), by repeat (first | (with_reducible first | exact HB.out | apply below_alloc | apply pw_below_drewN | apply below_drew1) | exact HB.out)⟩
                          · rw [if_neg c41] at H
                            exact absurd H (by simp)
                        · rw [if_neg c40] at H
                          exact absurd H (by simp)
                · rw [if_neg c25] at H
                  exact absurd H (by simp)
              · rw [if_neg c24] at H
                exact absurd H (by simp)

/-! ### lattice_size: function 42 -/
def lattice_size.f (a0 : Int) : Option (Int) := some (mx a0 (wrap64 (-a0)))
set_option maxHeartbeats 8000000 in
set_option maxRecDepth 100000 in
theorem lattice_size.calls (a0 : Int) (r : Int) (w : World) (h : lattice_size.f a0 = some r) :
    Calls Try.prog 42 #[.int .i64 a0] w fun e w' => e = .returned (.int .i64 r) ∧ Below w.heap.size w w' := by
  have HB := Aside0.mk (Below.refl w.heap.size w)
  have H : (some (mx a0 (wrap64 (-a0)))) = some r := h
  clear h
  obtain ⟨ji2, hji2⟩ : ∃ j_ : Int, (mx a0 (wrap64 (-a0))) = j_ := ⟨_, rfl⟩
  replace H : (some ji2) = some r := by first | (rw [hji2] at H; exact H) | (simp only [hji2] at H ⊢; exact H)
  have hji2_ : (if a0 < (wrap64 (-a0)) then (wrap64 (-a0)) else a0) = ji2 := hji2
  obtain rfl := Option.some.inj H
  go_enter Try.func42, Try.ntmps42
  go_wp2
  go_ret
  exact ⟨by first | rfl | (simp [errW_none, errW_some] <;> rfl) | (simp only [← hji2]; first | rfl | (simp [errW_none, errW_some] <;> rfl)) | (simp [*, errW_none, errW_some] <;> rfl), by repeat (first | (with_reducible first | exact HB.out | apply below_alloc | apply pw_below_drewN | apply below_drew1) | exact HB.out)⟩

end Go.Proofs.Ytoglefgjiaoopaa.P
