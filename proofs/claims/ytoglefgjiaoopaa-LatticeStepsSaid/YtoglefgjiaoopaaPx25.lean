/- Printed by a program of ours out of Lean's own print of the translation: functions and their contracts. -/
import Derived.Test.YtoglefgjiaoopaaPx0
import Derived.Test.YtoglefgjiaoopaaPx1
namespace Go.Proofs.Ytoglefgjiaoopaa.P
open Go.RowKit Go.Proofs.YtoglefgjiaoopaaW.PrintWords Go.Proofs.YtoglefgjiaoopaaW.PrintLast Go.Proofs.YtoglefgjiaoopaaW.PrintMore
attribute [local go_sem] max2_int min2_int max_two min_two max_three min_three max_four min_four   -- for this text's walks alone
set_option linter.unusedVariables false
set_option linter.unusedSimpArgs false

/-! ### lattice_up: function 40 -/
def lattice_up.l0 : Nat → List Int → Int → List Int → List Int → Int → Int → Option (List Int)
  | 0, _, _, _, _, _, _ => none
  | k + 1, x0, x1, x5, x12, x13, x14 => if x14 < x13 then (if 0 ≤ x14 then (if x14 < (x12.length : Int) then (if 0 ≤ (wrap64 ((wrap64 ((x0.length : Int) - 1)) - x14)) then (if (wrap64 ((wrap64 ((x0.length : Int) - 1)) - x14)) < (x0.length : Int) then ((lattice_Round.f (wrap64 (x1 * (rd x0 (wrap64 ((wrap64 ((x0.length : Int) - 1)) - x14)))))).bind fun t385 => (if x14 < (x5.length : Int) then (lattice_up.l0 k x0 x1 (x5.set (x14 : Int).toNat (wrap64 ((rd x12 x14) + t385))) x12 x13 (wrap64 (x14 + 1))) else (none))) else (none)) else (none)) else (none)) else (none)) else (if 0 ≤ (x0.length : Int) then (if (x0.length : Int) < (x5.length : Int) then (some (x5.set ((x0.length : Int) : Int).toNat x1)) else (none)) else (none))
def lattice_up.f (k : Nat) (l0 : List Int) (a1 : Int) : Option (List Int) := if 0 ≤ (wrap64 ((l0.length : Int) + 1)) then (if (wrap64 ((l0.length : Int) + 1) : Int).toNat ≤ 35184372088832 then (lattice_up.l0 k l0 a1 (List.replicate (wrap64 ((l0.length : Int) + 1) : Int).toNat 0) l0 (l0.length : Int) 0) else (none)) else (none)
theorem lattice_up.mono_l : ∀ k, (∀ y0 y1 y2 y3 y4 y5, LeO (lattice_up.l0 k y0 y1 y2 y3 y4 y5) (lattice_up.l0 (k + 1) y0 y1 y2 y3 y4 y5))
  | 0 => fun _ _ _ _ _ _ r h => by simp [lattice_up.l0] at h
  | k + 1 => by
    have ih0 := lattice_up.mono_l k
    · intro y0 y1 y2 y3 y4 y5
      unfold lattice_up.l0
      repeat' first
      | (with_reducible exact ih0 _ _ _ _ _ _)
      | (with_reducible exact LeO.refl _)
      | (with_reducible exact LeO.none _)
      | (with_reducible refine LeO.ite ?_ ?_)
      | (with_reducible refine LeO.bind ?_ (fun _ => ?_))
      | exact ih0 _ _ _ _ _ _
      | exact LeO.none _
      | refine LeO.ite ?_ ?_
      | refine LeO.bind ?_ (fun _ => ?_)
theorem lattice_up.mono : ∀ a0 a1 k, LeO (lattice_up.f k a0 a1) (lattice_up.f (k + 1) a0 a1) := by
  intro a0 a1 k
  have ih0 := lattice_up.mono_l k
  unfold lattice_up.f
  repeat' first
      | (with_reducible exact ih0 _ _ _ _ _ _)
      | (with_reducible exact LeO.refl _)
      | (with_reducible exact LeO.none _)
      | (with_reducible refine LeO.ite ?_ ?_)
      | (with_reducible refine LeO.bind ?_ (fun _ => ?_))
      | exact ih0 _ _ _ _ _ _
      | exact LeO.none _
      | refine LeO.ite ?_ ?_
      | refine LeO.bind ?_ (fun _ => ?_)
set_option maxHeartbeats 8000000 in
set_option maxRecDepth 100000 in
theorem lattice_up.calls (k : Nat) (A0 : Option Addr) (c0 : Nat) (l0 : List Int) (a1 : Int) (r : List Int) (w : World) (hr0 : Kd.C (Kd.int .i64) w A0 l0.length l0) (hc0 : l0.length ≤ c0) (h : lattice_up.f k l0 a1 = some r) :
    Calls Try.prog 40 #[.slice A0 l0.length c0, .int .i64 a1] w fun e w' => ∃ v0_ : Value, e = .returned (v0_) ∧ Kd.R (Kd.int .i64) 3 w' w.heap.size (fun _ => True) v0_ r ∧ Below w.heap.size w w' := by
  have HR0 := Aside0.mk hr0
  have HC0 := Aside0.mk hc0
  clear hr0 hc0
  have HB := Aside0.mk (Below.refl w.heap.size w)
  have H : (if 0 ≤ (wrap64 ((l0.length : Int) + 1)) then (if (wrap64 ((l0.length : Int) + 1) : Int).toNat ≤ 35184372088832 then (lattice_up.l0 k l0 a1 (List.replicate (wrap64 ((l0.length : Int) + 1) : Int).toNat 0) l0 (l0.length : Int) 0) else (none)) else (none)) = some r := h
  clear h
  obtain ⟨ji3, hji3⟩ : ∃ j_ : Int, (wrap64 ((l0.length : Int) + 1)) = j_ := ⟨_, rfl⟩
  replace H : (if 0 ≤ (ji3) then (if (ji3 : Int).toNat ≤ 35184372088832 then (lattice_up.l0 k l0 a1 (List.replicate (ji3 : Int).toNat 0) l0 (l0.length : Int) 0) else (none)) else (none)) = some r := by first | (rw [hji3] at H; exact H) | (simp only [hji3] at H ⊢; exact H)
  have hji3w : (IntKind.i64.wrap ((l0.length : Int) + 1)) = ji3 := (i64_w _).trans hji3
  by_cases c4 : 0 ≤ (ji3)
  · rw [if_pos c4] at H
    have c4b0 := eq_true c4
    have c4b1 : decide (0 ≤ (ji3)) = true := decide_eq_true c4
    clear c4
    by_cases c5 : (ji3 : Int).toNat ≤ 35184372088832
    · rw [if_pos c5] at H
      have c5b0 := eq_true c5
      have c5b1 : decide ((ji3 : Int).toNat ≤ 35184372088832) = true := decide_eq_true c5
      clear c5
      obtain ⟨y380, hy380⟩ : ∃ y_ : List Int, y_ = (List.replicate (ji3 : Int).toNat 0) := ⟨_, rfl⟩
      replace H : (lattice_up.l0 k l0 a1 y380 l0 (l0.length : Int) 0) = some r := by first | (rw [hy380]; with_reducible exact H) | (have H2_ := (Option.bind_some _ _).symm.trans H; rw [hy380]; with_reducible exact H2_) | (have H2_ := (Option.bind_some _ _).symm.trans H; with_reducible exact H2_) | with_reducible exact H | (rw [hy380]; exact H) | exact H
      have Ny380 := Aside0.mk hy380
      clear hy380
      have H' := Aside0.mk H
      clear H
      go_enter Try.func40, Try.ntmps40
      go_wp2_with (first | ((with_reducible refine gate_dst (N := 11) rfl ?_); refine Kd.R_make (Kd.int .i64) _ 3 rfl (N := 11) rfl 22 _ _ rfl ji3 rfl rfl Try.underlying22 (.int .i64 0) 8 info3 rfl (by decide) (by omega) 0 (ok := fun _ => True) (okp := fun _ => True) rfl (fun _ hk => hk) trivial (of_decide_eq_true (by first | (with_reducible assumption) | assumption)) (Nat.le_trans (Nat.mul_le_mul_right _ (of_decide_eq_true (by first | (with_reducible assumption) | assumption) : ji3.toNat ≤ 35184372088832)) (by omega)) (Below.refl _ _) (Nat.le_refl _) ?_; intro v381 w6 ho7 hb hg_ hnew_; clear hg_ hnew_; (first | rw [← Ny380.out] at ho7 | (simp only [Int.reduceToNat] at ho7; rw [← Ny380.out] at ho7)); have n0_ := Aside0.mk (Kd.R_lower ho7 (below_size (by repeat (first | (with_reducible first | exact HB.out | apply below_alloc | apply pw_below_drewN | apply below_drew1) | exact HB.out)))); have n1_ := Aside0.mk (below_step (by repeat (first | (with_reducible first | exact HB.out | apply below_alloc | apply pw_below_drewN | apply below_drew1) | exact HB.out)) hb); clear HB; have HO382 := n0_; have HB := n1_; clear n0_ n1_; clear hb ho7))
      go_loopg [14] k (fun kq v14 w' => ∃ (x5_1 : List Int) (x14_1 : Int), v14 = .int .i64 x14_1 ∧ Aside0 (lattice_up.l0 kq l0 a1 x5_1 l0 (l0.length : Int) x14_1 = some r) ∧ Aside0 (kq ≤ k) ∧ Aside0 (Kd.R (Kd.int .i64) 3 w' w.heap.size (fun _ => True) v381 x5_1) ∧ Aside0 (Below w.heap.size w w'))
      case atStart => exact ⟨(y380), (0), (by first | rfl | (simp; done) | (simp [*]; done)), H', ⟨Nat.le_refl _⟩, ⟨by (with_reducible repeat (first | apply Kd.R_alloc | apply Kd.R_drewN | apply Kd.R_drew)); exact HO382.out⟩, ⟨by repeat (first | (with_reducible first | exact HB.out | apply below_alloc | apply pw_below_drewN | apply below_drew1) | exact HB.out)⟩⟩
      case round =>
        clear H'
        try clear p2
        try clear c4
        try clear c4b0
        try clear c4b1
        try clear c5
        try clear c5b0
        try clear c5b1
        try clear p6
        obtain ⟨x5_1, x14_1, rfl, HA, HK1, HO_5, HB⟩ := hrel
        cases gk with
        | zero => exact absurd HA.out (by simp [lattice_up.l0])
        | succ k1 =>
          have H := HA.out
          clear HA
          simp only [lattice_up.l0] at H
          by_cases c8 : x14_1 < (l0.length : Int)
          · rw [if_pos c8] at H
            have c8b0 : decide (x14_1 < (l0.length : Int)) = true := decide_eq_true c8
            clear c8
            by_cases c9 : 0 ≤ x14_1
            · rw [if_pos c9] at H
              have c9b0 : decide (0 ≤ x14_1) = true := decide_eq_true c9
              clear c9
              by_cases c10 : x14_1 < (l0.length : Int)
              · rw [if_pos c10] at H
                have c10b0 : decide (x14_1 < (l0.length : Int)) = true := decide_eq_true c10
                clear c10
                obtain ⟨ji11, hji11⟩ : ∃ j_ : Int, (wrap64 ((wrap64 ((l0.length : Int) - 1)) - x14_1)) = j_ := ⟨_, rfl⟩
                replace H : (if 0 ≤ (ji11) then (if (ji11) < (l0.length : Int) then ((lattice_Round.f (wrap64 (a1 * (rd l0 (ji11))))).bind fun t385 => (if x14_1 < (x5_1.length : Int) then (lattice_up.l0 k1 l0 a1 (x5_1.set (x14_1 : Int).toNat (wrap64 ((rd l0 x14_1) + t385))) l0 (l0.length : Int) (wrap64 (x14_1 + 1))) else (none))) else (none)) else (none)) = some r := by first | (rw [hji11] at H; exact H) | (simp only [hji11] at H ⊢; exact H)
                have hji11w : (IntKind.i64.wrap ((wrap64 ((l0.length : Int) - 1)) - x14_1)) = ji11 := (i64_w _).trans hji11
                by_cases c12 : 0 ≤ (ji11)
                · rw [if_pos c12] at H
                  have c12b0 : decide (0 ≤ (ji11)) = true := decide_eq_true c12
                  clear c12
                  by_cases c13 : (ji11) < (l0.length : Int)
                  · rw [if_pos c13] at H
                    have c13b0 : decide ((ji11) < (l0.length : Int)) = true := decide_eq_true c13
                    clear c13
                    replace H := Option.bind_eq_some_iff.mp H
                    obtain ⟨t385, A140, H⟩ := H
                    replace H : (if x14_1 < (x5_1.length : Int) then (lattice_up.l0 k1 l0 a1 (x5_1.set (x14_1 : Int).toNat (wrap64 ((rd l0 x14_1) + t385))) l0 (l0.length : Int) (wrap64 (x14_1 + 1))) else (none)) = some r := H
                    have A14 := Aside0.mk A140
                    clear A140
                    by_cases c15 : x14_1 < (x5_1.length : Int)
                    · rw [if_pos c15] at H
                      have c15b0 : decide (x14_1 < (x5_1.length : Int)) = true := decide_eq_true c15
                      clear c15
                      obtain ⟨y386, hy386⟩ : ∃ y_ : List Int, y_ = (x5_1.set (x14_1 : Int).toNat (wrap64 ((rd l0 x14_1) + t385))) := ⟨_, rfl⟩
                      replace H : (lattice_up.l0 k1 l0 a1 y386 l0 (l0.length : Int) (wrap64 (x14_1 + 1))) = some r := by first | (rw [hy386]; with_reducible exact H) | (have H2_ := (Option.bind_some _ _).symm.trans H; rw [hy386]; with_reducible exact H2_) | (have H2_ := (Option.bind_some _ _).symm.trans H; with_reducible exact H2_) | with_reducible exact H | (rw [hy386]; exact H) | exact H
                      have Ny386 := Aside0.mk hy386
                      clear hy386
                      have H' := Aside0.mk H
                      clear H
                      have p383 : 0 ≤ (x14_1 : Int) := of_decide_eq_true (by first | (with_reducible assumption) | assumption)
                      have q383 : x14_1 < (l0.length : Int) := of_decide_eq_true (by first | (with_reducible assumption) | assumption)
                      obtain ⟨ad383, e383, hx383_0⟩ := Kd.at_int HR0.out x14_1 p383 q383
                      cases e383
                      replace hx383_0 := (HB.out.cell (World.block_lt_of_cell? w _ hx383_0)).trans hx383_0
                      replace p383 := eq_true p383
                      replace q383 := eq_true q383
                      have p384 : 0 ≤ ((ji11) : Int) := of_decide_eq_true (by first | (with_reducible assumption) | assumption)
                      have q384 : (ji11) < (l0.length : Int) := of_decide_eq_true (by first | (with_reducible assumption) | assumption)
                      obtain ⟨ad384, e384, hx384_0⟩ := Kd.at_int HR0.out (ji11) p384 q384
                      obtain rfl : ad383 = ad384 := (by injection e384)
                      replace hx384_0 := (HB.out.cell (World.block_lt_of_cell? w _ hx384_0)).trans hx384_0
                      replace p384 := eq_true p384
                      replace q384 := eq_true q384
                      go_wp2_with (first | ((with_reducible refine gate_callee (f := 21) rfl ?_); refine goesL_ (some 32) rfl rfl Try.func21 (by kernel_rfl) rfl #[.int .i64 (wrap64 (a1 * (rd l0 (ji11))))] rfl (by (try simp only [List.map_toArray, List.map_cons, List.map_nil]); first | done | (simp only [hji11]; rfl) | rfl | (simp only [List.length_drop, List.length_take]; rfl)) ?_; (with_reducible refine (lattice_Round.calls (wrap64 (a1 * (rd l0 (ji11)))) t385 _ A14.out).mono ?_); rintro e w' ⟨rfl, ⟨nd, rfl⟩⟩; refine ⟨_, rfl, ?_⟩; (try (rw [drewN_self wr]; generalize hq_ : World.drewN wr _ = wr; have n0_ : Aside0 (Kd.R (Kd.int .i64) 3 wr w.heap.size (fun _ => True) v381 x5_1) := ⟨by rw [← hq_]; exact (by (with_reducible repeat (first | apply Kd.R_alloc | apply Kd.R_drewN | apply Kd.R_drew)); exact HO_5.out)⟩; have n1_ : Aside0 (Below w.heap.size w wr) := ⟨by rw [← hq_]; exact (by repeat (first | (with_reducible first | exact HB.out | apply below_alloc | apply pw_below_drewN | apply below_drew1) | exact HB.out))⟩; clear HO_5 HB hq_; have HO_5 := n0_; have HB := n1_; clear n0_ n1_)); have p16 : 0 ≤ (x14_1 : Int) := of_decide_eq_true (by first | (with_reducible assumption) | assumption); have q16 : (x14_1 : Int) < ((x5_1.length : Int) : Int) := of_decide_eq_true (by first | (with_reducible assumption) | assumption); obtain ⟨go16, co16, eo16, gb16, gl16, cl16, HG16⟩ := Kd.R_form HO_5.out (by omega); (first | cases eo16 | (injection eo16 with ea_ en_ ec_; (first | subst ea_ | (injection ea_ with ea_; subst ea_)); subst ec_; clear en_)); have GB16 := Aside0.mk gb16; have GG16 := Aside0.mk HG16; clear gb16 gl16 HG16; obtain ⟨hx16_0, hf16_0⟩ := Kd.R_celln 0 HO_5.out (x14_1 : Int) p16 q16; replace p16 := eq_true p16; replace q16 := eq_true q16; obtain ⟨hy17_, hz17_⟩ := Kd.R_celln 0 HO_5.out (x14_1 : Int) (of_decide_eq_true (by first | (with_reducible assumption) | assumption)) (of_decide_eq_true (by first | (with_reducible assumption) | assumption)); have HP17 := Kd.R_putg HO_5.out (x14_1 : Int) (wrap64 ((rd l0 x14_1) + t385))) | ((with_reducible refine gate_store (t := 3) (p := 34) rfl ?_); refine store_event (t := 3) (p := 34) (v := ?vo_w18) (w1 := (wr.setCell ⟨go16, (x14_1 : Int).toNat, none⟩ (.int .i64 (wrap64 ((rd l0 x14_1) + t385))))) ?hg ?ho ?hn ?hr ?_; (case ho => rfl); (case hg => rfl); (case hn => rfl); (case hr => first | (go_simp; done) | (go_simp; rfl)); intro w18 hw; have hg : wr.grownBy w18 (some go16) := (by rw [hw]; exact HP17.2); have hp_ : Kd.R (Kd.int .i64) 3 w18 w.heap.size (fun _ => True) (.slice (some ⟨go16, 0, none⟩) x5_1.length co16) y386 := (by rw [hw, Ny386.out]; exact HP17.1); clear HP17; have n0_ := Aside0.mk (hp_); have n1_ := Aside0.mk ((by rw [hw]; exact below_set (HB.out) GB16.out : Below w.heap.size w w18)); clear HO_5; clear HB; have HO_5 := n0_; have HB := n1_; clear n0_ n1_; clear hg hw hp_))
                      go_roundg k1
                      case measure => have := HK1.out; omega
                      case rel => exact ⟨(y386), (wrap64 (x14_1 + 1)), (by first | rfl | (simp; done) | (simp [*]; done)), H', ⟨by have := HK1.out; omega⟩, ⟨by (with_reducible repeat (first | apply Kd.R_alloc | apply Kd.R_drewN | apply Kd.R_drew)); exact HO_5.out⟩, ⟨by repeat (first | (with_reducible first | exact HB.out | apply below_alloc | apply pw_below_drewN | apply below_drew1) | exact HB.out)⟩⟩
                    · rw [if_neg c15] at H
                      exact absurd H (by simp)
                  · rw [if_neg c13] at H
                    exact absurd H (by simp)
                · rw [if_neg c12] at H
                  exact absurd H (by simp)
              · rw [if_neg c10] at H
                exact absurd H (by simp)
            · rw [if_neg c9] at H
              exact absurd H (by simp)
          · rw [if_neg c8] at H
            have c8b0 : decide (x14_1 < (l0.length : Int)) = false := decide_eq_false c8
            clear c8
            by_cases c19 : 0 ≤ (l0.length : Int)
            · rw [if_pos c19] at H
              have c19b0 : decide (0 ≤ (l0.length : Int)) = true := decide_eq_true c19
              have c19b1 : decide (0 ≤ l0.length) = true := decide_eq_true (by omega)
              clear c19
              by_cases c20 : (l0.length : Int) < (x5_1.length : Int)
              · rw [if_pos c20] at H
                have c20b0 : decide ((l0.length : Int) < (x5_1.length : Int)) = true := decide_eq_true c20
                have c20b1 : decide (l0.length < x5_1.length) = true := decide_eq_true (Int.ofNat_lt.mp c20)
                clear c20
                obtain ⟨y387, hy387⟩ : ∃ y_ : List Int, y_ = (x5_1.set ((l0.length : Int) : Int).toNat a1) := ⟨_, rfl⟩
                replace H : (some y387) = some r := by first | (rw [hy387]; with_reducible exact H) | (have H2_ := (Option.bind_some _ _).symm.trans H; rw [hy387]; with_reducible exact H2_) | (have H2_ := (Option.bind_some _ _).symm.trans H; with_reducible exact H2_) | with_reducible exact H | (rw [hy387]; exact H) | exact H
                have Ny387 := Aside0.mk hy387
                clear hy387
                obtain rfl := Option.some.inj H
                have p21 : 0 ≤ ((l0.length : Int) : Int) := of_decide_eq_true (by first | (with_reducible assumption) | assumption)
                have q21 : ((l0.length : Int) : Int) < ((x5_1.length : Int) : Int) := of_decide_eq_true (by first | (with_reducible assumption) | assumption)
                obtain ⟨go21, co21, eo21, gb21, gl21, cl21, HG21⟩ := Kd.R_form HO_5.out (by omega)
                (first | cases eo21 | (injection eo21 with ea_ en_ ec_; (first | subst ea_ | (injection ea_ with ea_; subst ea_)); subst ec_; clear en_))
                have GB21 := Aside0.mk gb21
                have GG21 := Aside0.mk HG21
                clear gb21 gl21 HG21
                obtain ⟨hx21_0, hf21_0⟩ := Kd.R_celln 0 HO_5.out ((l0.length : Int) : Int) p21 q21
                have hx21_0n := hx21_0
                (try simp only [Int.toNat_natCast] at hx21_0n)
                have hf21_0n := hf21_0
                (try simp only [Int.toNat_natCast] at hf21_0n)
                replace p21 := eq_true p21
                replace q21 := eq_true q21
                have q21n := q21
                (try simp only [Int.ofNat_lt] at q21n)
                have HP22 := Kd.R_putg HO_5.out ((l0.length : Int) : Int) a1
                go_wp2_with (first | ((with_reducible refine gate_store (t := 3) (p := 40) rfl ?_); refine store_event (t := 3) (p := 40) (v := ?vo_w23) (w1 := (wr.setCell ⟨go21, ((l0.length : Int) : Int).toNat, none⟩ (.int .i64 a1))) ?hg ?ho ?hn ?hr ?_; (case ho => rfl); (case hg => rfl); (case hn => rfl); (case hr => first | (go_simp; done) | (go_simp; rfl)); intro w23 hw; have hg : wr.grownBy w23 (some go21) := (by rw [hw]; exact HP22.2); have hp_ : Kd.R (Kd.int .i64) 3 w23 w.heap.size (fun _ => True) (.slice (some ⟨go21, 0, none⟩) x5_1.length co21) y387 := (by rw [hw, Ny387.out]; exact HP22.1); clear HP22; have n0_ := Aside0.mk (hp_); have n1_ := Aside0.mk ((by rw [hw]; exact below_set (HB.out) GB21.out : Below w.heap.size w w23)); clear HO_5; clear HB; have HO_5 := n0_; have HB := n1_; clear n0_ n1_; clear hg hw hp_))
                go_ret
                exact ⟨_, by first | rfl | (simp [errW_none, errW_some] <;> rfl) | (simp only [← hji3]; first | rfl | (simp [errW_none, errW_some] <;> rfl)) | (simp [*, errW_none, errW_some] <;> rfl), by (with_reducible repeat (first | apply Kd.R_alloc | apply Kd.R_drewN | apply Kd.R_drew)); exact HO_5.out, by repeat (first | (with_reducible first | exact HB.out | apply below_alloc | apply pw_below_drewN | apply below_drew1) | exact HB.out)⟩
              · rw [if_neg c20] at H
                exact absurd H (by simp)
            · rw [if_neg c19] at H
              exact absurd H (by simp)
    · rw [if_neg c5] at H
      exact absurd H (by simp)
  · rw [if_neg c4] at H
    exact absurd H (by simp)

-- NOT PRINTED: function 41 (slices_Clone_int_int)

end Go.Proofs.Ytoglefgjiaoopaa.P
