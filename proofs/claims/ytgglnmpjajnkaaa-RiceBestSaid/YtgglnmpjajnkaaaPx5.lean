/- Printed by a program of ours out of Lean's own print of the translation: functions and their contracts. -/
import Derived.Test.YtgglnmpjajnkaaaPx0
import Derived.Test.YtgglnmpjajnkaaaPx3
import Derived.Test.YtgglnmpjajnkaaaPx4
import Derived.Test.YtgglnmpjajnkaaaHAwake1
import Derived.Test.YtgglnmpjajnkaaaHEnd
namespace Go.Proofs.Ytgglnmpjajnkaaa.P
open Go.RowKit Go.Proofs.YtgglnmpjajnkaaaW.PrintWords Go.Proofs.YtgglnmpjajnkaaaW.PrintLast Go.Proofs.YtgglnmpjajnkaaaW.PrintMore
attribute [local go_sem] max2_int min2_int max_two min_two max_three min_three max_four min_four   -- for this text's walks alone
set_option linter.unusedVariables false
set_option linter.unusedSimpArgs false

/-! ### pipe_Reader_Fail: function 31 -/
def pipe_Reader_Fail.f (s0_0 : List Int) (s0_1 : Int) (s0_2 : Int) : Option (Int × Int × Int) := some (s0_2, s0_1, s0_2)
set_option maxHeartbeats 8000000 in
set_option maxRecDepth 100000 in
theorem pipe_Reader_Fail.calls (g : Nat) (s0_0 : List Int) (s0_1 : Int) (s0_2 : Int) (r1 : Int) (r2 : Int) (r3 : Int) (w0 w : World) (hI : IsS75 w0 w g s0_0 s0_1 s0_2) (hB : Below w0.heap.size w0 w) (h : pipe_Reader_Fail.f s0_0 s0_1 s0_2 = some (r1, r2, r3)) :
    Calls Try.prog 31 #[.pointer (some ⟨g, 0, none⟩)] w fun e w' => e = .returned (.int .i64 r1) ∧ IsS75 w0 w' g s0_0 r2 r3 ∧ Below w0.heap.size w0 w' ∧ KeepBut w w' g none := by
  have HI0 := Aside0.mk hI
  have HK := Aside0.mk (KeepBut.refl w g none)
  have HL := Aside0.mk hB.size
  clear hI
  have HW0 := Aside0.mk hB.size
  have HB := Aside0.mk hB
  clear hB
  have H : (some (s0_2, s0_1, s0_2)) = some (r1, r2, r3) := h
  clear h
  simp only [Option.some.injEq, Prod.mk.injEq] at H
  obtain ⟨rfl, rfl, rfl⟩ := H
  obtain ⟨ASz2_0, cSz2_0, HGz2, hgz2, HSz2_0⟩ := HI0.out
  have hcz2_0 := cellS75_0 HGz2
  have hcz2_1 := cellS75_1 HGz2
  have hcz2_2 := cellS75_2 HGz2
  have hfz2_1 := blk_frozen HGz2 1
  have hfz2_2 := blk_frozen HGz2 2
  clear HGz2 hgz2
  go_enter Try.func31, Try.ntmps31
  go_wp2
  go_ret
  exact ⟨by first | rfl | (simp [errW_none, errW_some] <;> rfl) | (simp [*, errW_none, errW_some] <;> rfl), by repeat (first | (with_reducible first | exact HI0.out | apply IsS75.alloc | apply IsS75.drewN | apply IsS75.drew | apply IsS75.set_1 | apply IsS75.set_2) | exact HI0.out), by repeat (first | (with_reducible first | exact HB.out | apply below_alloc | apply pw_below_drewN | apply below_drew1 | refine below_set ?_ (IsS75.ge HI0.out)) | exact HB.out), by repeat (first | (with_reducible first | exact HK.out | apply KeepBut.set_ | apply keep_drewN | apply keep_drew | apply keep_alloc) | exact HK.out)⟩

/-! ### sackbutlaw01_PipeEnds: function 8 -/
mutual
def sackbutlaw01_PipeEnds.j0 : Nat → List Int → Int → Bool → Option (Bool)
  | 0, _, _, _ => none
  | k + 1, x0, x1, x17 => if x17 = true then ((sackbutlaw01_awake.f).bind fun t165 => (some t165)) else ((pipe_Open.f x0).bind fun bt166 => ((sackbutref01_Bits.f k x0).bind fun t170 => (if (wrap64 ((t170.size : Int) + 1)) = 0 then (none) else (sackbutlaw01_PipeEnds.l0 k t170 (Int.tmod (wrap64 (x1)) (wrap64 ((t170.size : Int) + 1))) (Int.tmod (wrap64 (x1)) (wrap64 ((t170.size : Int) + 1))) 0 bt166.1 bt166.2.1 bt166.2.2))))
def sackbutlaw01_PipeEnds.l0 : Nat → ByteArray → Int → Int → Int → List Int → Int → Int → Option (Bool)
  | 0, _, _, _, _, _, _, _ => none
  | k + 1, x6, x7, x31, x32, x170000, x170001, x170002 => if x32 < x31 then ((pipe_Reader_Take.f k x170000 x170001 x170002 1).bind fun bt171 => (sackbutlaw01_PipeEnds.l0 k x6 x7 x31 (wrap64 (x32 + 1)) x170000 bt171.2.1 bt171.2.2)) else (if 0 ≤ x7 then (if x7 ≤ (x6.size : Int) then (sackbutlaw01_PipeEnds.l1 k (x6.extract (x7 : Int).toNat x6.size) 0 ((x6.extract (x7 : Int).toNat x6.size).size : Int) 0 x170000 x170001 x170002) else (none)) else (none))
def sackbutlaw01_PipeEnds.l1 : Nat → ByteArray → Int → Int → Int → List Int → Int → Int → Option (Bool)
  | 0, _, _, _, _, _, _, _ => none
  | k + 1, x8, x9, x41, x42, x170000, x170001, x170002 => if x42 < x41 then (if 0 ≤ x42 then (if x42 < (x8.size : Int) then (if (bt x8 x42) = 49 then (sackbutlaw01_PipeEnds.l1 k x8 5 x41 (wrap64 (x42 + 1)) x170000 x170001 x170002) else (sackbutlaw01_PipeEnds.l1 k x8 x9 x41 (wrap64 (x42 + 1)) x170000 x170001 x170002)) else (none)) else (none)) else (if (x8.size : Int) ≥ 8 then ((pipe_Reader_End.f k x170000 x170001 x170002).bind fun bt174 => (if bt174.1 = 4 then ((pipe_Reader_Left.f x170000 bt174.2.1 bt174.2.2).bind fun bt177 => (if bt177.1 = (x8.size : Int) then ((pipe_Reader_Fail.f x170000 bt177.2.1 bt177.2.2).bind fun bt180 => (some (bt180.1 == 0))) else (some false))) else (some false))) else ((pipe_Reader_End.f k x170000 x170001 x170002).bind fun bt183 => (if bt183.1 = x9 then ((pipe_Reader_Left.f x170000 bt183.2.1 bt183.2.2).bind fun bt186 => (if bt186.1 = (x8.size : Int) then ((pipe_Reader_Fail.f x170000 bt186.2.1 bt186.2.2).bind fun bt189 => (some (bt189.1 == 0))) else (some false))) else (some false))))
end
def sackbutlaw01_PipeEnds.f (k : Nat) (l0 : List Int) (a1 : Int) : Option (Bool) := (sackbutlaw01_awake.f).bind fun t164 => (if t164 = true then (sackbutlaw01_PipeEnds.j0 k l0 a1 (decide ((l0.length : Int) > 100))) else (sackbutlaw01_PipeEnds.j0 k l0 a1 true))
theorem sackbutlaw01_PipeEnds.mono_l : ∀ k, (∀ y0 y1 y2, LeO (sackbutlaw01_PipeEnds.j0 k y0 y1 y2) (sackbutlaw01_PipeEnds.j0 (k + 1) y0 y1 y2)) ∧ (∀ y0 y1 y2 y3 y4 y5 y6, LeO (sackbutlaw01_PipeEnds.l0 k y0 y1 y2 y3 y4 y5 y6) (sackbutlaw01_PipeEnds.l0 (k + 1) y0 y1 y2 y3 y4 y5 y6)) ∧ (∀ y0 y1 y2 y3 y4 y5 y6, LeO (sackbutlaw01_PipeEnds.l1 k y0 y1 y2 y3 y4 y5 y6) (sackbutlaw01_PipeEnds.l1 (k + 1) y0 y1 y2 y3 y4 y5 y6))
  | 0 => ⟨fun _ _ _ r h => by simp [sackbutlaw01_PipeEnds.j0] at h, fun _ _ _ _ _ _ _ r h => by simp [sackbutlaw01_PipeEnds.l0] at h, fun _ _ _ _ _ _ _ r h => by simp [sackbutlaw01_PipeEnds.l1] at h⟩
  | k + 1 => by
    obtain ⟨ih0, ih1, ih2⟩ := sackbutlaw01_PipeEnds.mono_l k
    refine ⟨?_, ?_, ?_⟩
    · intro y0 y1 y2
      unfold sackbutlaw01_PipeEnds.j0
      repeat' first
      | (with_reducible exact ih0 _ _ _)
      | (with_reducible exact ih1 _ _ _ _ _ _ _)
      | (with_reducible exact ih2 _ _ _ _ _ _ _)
      | (with_reducible exact pipe_Reader_End.mono _ _ _ _)
      | (with_reducible exact pipe_Reader_Take.mono _ _ _ _ _)
      | (with_reducible exact sackbutref01_Bits.mono _ _)
      | (with_reducible exact LeO.refl _)
      | (with_reducible exact LeO.none _)
      | (with_reducible refine LeO.ite ?_ ?_)
      | (with_reducible refine LeO.bind ?_ (fun _ => ?_))
      | exact ih0 _ _ _
      | exact ih1 _ _ _ _ _ _ _
      | exact ih2 _ _ _ _ _ _ _
      | exact pipe_Reader_End.mono _ _ _ _
      | exact pipe_Reader_Take.mono _ _ _ _ _
      | exact sackbutref01_Bits.mono _ _
      | exact LeO.none _
      | refine LeO.ite ?_ ?_
      | refine LeO.bind ?_ (fun _ => ?_)
    · intro y0 y1 y2 y3 y4 y5 y6
      unfold sackbutlaw01_PipeEnds.l0
      repeat' first
      | (with_reducible exact ih0 _ _ _)
      | (with_reducible exact ih1 _ _ _ _ _ _ _)
      | (with_reducible exact ih2 _ _ _ _ _ _ _)
      | (with_reducible exact pipe_Reader_End.mono _ _ _ _)
      | (with_reducible exact pipe_Reader_Take.mono _ _ _ _ _)
      | (with_reducible exact sackbutref01_Bits.mono _ _)
      | (with_reducible exact LeO.refl _)
      | (with_reducible exact LeO.none _)
      | (with_reducible refine LeO.ite ?_ ?_)
      | (with_reducible refine LeO.bind ?_ (fun _ => ?_))
      | exact ih0 _ _ _
      | exact ih1 _ _ _ _ _ _ _
      | exact ih2 _ _ _ _ _ _ _
      | exact pipe_Reader_End.mono _ _ _ _
      | exact pipe_Reader_Take.mono _ _ _ _ _
      | exact sackbutref01_Bits.mono _ _
      | exact LeO.none _
      | refine LeO.ite ?_ ?_
      | refine LeO.bind ?_ (fun _ => ?_)
    · intro y0 y1 y2 y3 y4 y5 y6
      unfold sackbutlaw01_PipeEnds.l1
      repeat' first
      | (with_reducible exact ih0 _ _ _)
      | (with_reducible exact ih1 _ _ _ _ _ _ _)
      | (with_reducible exact ih2 _ _ _ _ _ _ _)
      | (with_reducible exact pipe_Reader_End.mono _ _ _ _)
      | (with_reducible exact pipe_Reader_Take.mono _ _ _ _ _)
      | (with_reducible exact sackbutref01_Bits.mono _ _)
      | (with_reducible exact LeO.refl _)
      | (with_reducible exact LeO.none _)
      | (with_reducible refine LeO.ite ?_ ?_)
      | (with_reducible refine LeO.bind ?_ (fun _ => ?_))
      | exact ih0 _ _ _
      | exact ih1 _ _ _ _ _ _ _
      | exact ih2 _ _ _ _ _ _ _
      | exact pipe_Reader_End.mono _ _ _ _
      | exact pipe_Reader_Take.mono _ _ _ _ _
      | exact sackbutref01_Bits.mono _ _
      | exact LeO.none _
      | refine LeO.ite ?_ ?_
      | refine LeO.bind ?_ (fun _ => ?_)
theorem sackbutlaw01_PipeEnds.mono : ∀ a0 a1 k, LeO (sackbutlaw01_PipeEnds.f k a0 a1) (sackbutlaw01_PipeEnds.f (k + 1) a0 a1) := by
  intro a0 a1 k
  obtain ⟨ih0, ih1, ih2⟩ := sackbutlaw01_PipeEnds.mono_l k
  unfold sackbutlaw01_PipeEnds.f
  repeat' first
      | (with_reducible exact ih0 _ _ _)
      | (with_reducible exact ih1 _ _ _ _ _ _ _)
      | (with_reducible exact ih2 _ _ _ _ _ _ _)
      | (with_reducible exact pipe_Reader_End.mono _ _ _ _)
      | (with_reducible exact pipe_Reader_Take.mono _ _ _ _ _)
      | (with_reducible exact sackbutref01_Bits.mono _ _)
      | (with_reducible exact LeO.refl _)
      | (with_reducible exact LeO.none _)
      | (with_reducible refine LeO.ite ?_ ?_)
      | (with_reducible refine LeO.bind ?_ (fun _ => ?_))
      | exact ih0 _ _ _
      | exact ih1 _ _ _ _ _ _ _
      | exact ih2 _ _ _ _ _ _ _
      | exact pipe_Reader_End.mono _ _ _ _
      | exact pipe_Reader_Take.mono _ _ _ _ _
      | exact sackbutref01_Bits.mono _ _
      | exact LeO.none _
      | refine LeO.ite ?_ ?_
      | refine LeO.bind ?_ (fun _ => ?_)
set_option maxHeartbeats 8000000 in
set_option maxRecDepth 100000 in
theorem sackbutlaw01_PipeEnds.calls (k : Nat) (A0 : Option Addr) (c0 : Nat) (l0 : List Int) (a1 : Int) (r : Bool) (w : World) (hr0 : Kd.C (Kd.int .u8) w A0 l0.length l0) (hc0 : l0.length ≤ c0) (h : sackbutlaw01_PipeEnds.f k l0 a1 = some r) :
    Calls Try.prog 8 #[.slice A0 l0.length c0, .int .u16 a1] w fun e w' => e = .returned (.bool r) ∧ Below w.heap.size w w' := by
  have HR0 := Aside0.mk hr0
  have HC0 := Aside0.mk hc0
  clear hr0 hc0
  have HB := Aside0.mk (Below.refl w.heap.size w)
  have H : ((sackbutlaw01_awake.f).bind fun t164 => (if t164 = true then (sackbutlaw01_PipeEnds.j0 k l0 a1 (decide ((l0.length : Int) > 100))) else (sackbutlaw01_PipeEnds.j0 k l0 a1 true))) = some r := h
  clear h
  have HC3 := Aside0.mk H
  clear H
  go_enter Try.func8, Try.ntmps8
  go_upto_region 1 with (fail)
  go_cut [17] (fun v17 wc => ∃ (kq : Nat) (x17_2 : Bool), v17 = .bool x17_2 ∧ Aside0 (sackbutlaw01_PipeEnds.j0 kq l0 a1 x17_2 = some r) ∧ Aside0 (kq ≤ k) ∧ Aside0 (Below w.heap.size w wc))
  case first =>
    have H := HC3.out
    clear HC3
    replace H := Option.bind_eq_some_iff.mp H
    obtain ⟨t164, A40, H⟩ := H
    replace H : (if t164 = true then (sackbutlaw01_PipeEnds.j0 k l0 a1 (decide ((l0.length : Int) > 100))) else (sackbutlaw01_PipeEnds.j0 k l0 a1 true)) = some r := H
    have A4 := Aside0.mk A40
    clear A40
    by_cases c5 : t164 = true
    · subst c5
      have H1 : (sackbutlaw01_PipeEnds.j0 k l0 a1 (decide ((l0.length : Int) > 100))) = some r := by rw [if_pos rfl] at H; exact H
      clear H
      have H := H1
      clear H1
      have H' := Aside0.mk H
      clear H
      go_wp2_with (first | ((with_reducible refine gate_callee (f := 14) rfl ?_); refine goesL_ (some 11) rfl rfl Try.func14 (by kernel_rfl) rfl #[] rfl (by (try simp only [List.map_toArray, List.map_cons, List.map_nil]); first | done | rfl | (simp only [List.length_drop, List.length_take]; rfl)) ?_; (with_reducible refine (sackbutlaw01_awake.calls  true _ A4.out).mono ?_); rintro e w6 ⟨rfl, hb⟩; refine ⟨_, rfl, ?_⟩; have n0_ := Aside0.mk (below_step (by repeat (first | (with_reducible first | exact HB.out | apply below_alloc | apply pw_below_drewN | apply below_drew1) | exact HB.out)) hb); clear HB; have HB := n0_; clear n0_; (try clear hb); (try clear hb2); (try clear hk); (try clear hi)))
      go_meet
      case rel => exact ⟨_, (decide ((l0.length : Int) > 100)), (by first | rfl | (simp; done) | (simp [*]; done)), H', ⟨by first | omega | exact Nat.le_refl _⟩, ⟨by repeat (first | (with_reducible first | exact HB.out | apply below_alloc | apply pw_below_drewN | apply below_drew1) | exact HB.out)⟩⟩
    · replace c5 := Bool.eq_false_iff.mpr c5
      subst c5
      have H1 : (sackbutlaw01_PipeEnds.j0 k l0 a1 true) = some r := by rw [if_neg (show ¬ (false = true) by decide)] at H; exact H
      clear H
      have H := H1
      clear H1
      have H' := Aside0.mk H
      clear H
      go_wp2_with (first | ((with_reducible refine gate_callee (f := 14) rfl ?_); refine goesL_ (some 11) rfl rfl Try.func14 (by kernel_rfl) rfl #[] rfl (by (try simp only [List.map_toArray, List.map_cons, List.map_nil]); first | done | rfl | (simp only [List.length_drop, List.length_take]; rfl)) ?_; (with_reducible refine (sackbutlaw01_awake.calls  false _ A4.out).mono ?_); rintro e w7 ⟨rfl, hb⟩; refine ⟨_, rfl, ?_⟩; have n0_ := Aside0.mk (below_step (by repeat (first | (with_reducible first | exact HB.out | apply below_alloc | apply pw_below_drewN | apply below_drew1) | exact HB.out)) hb); clear HB; have HB := n0_; clear n0_; (try clear hb); (try clear hb2); (try clear hk); (try clear hi)))
      go_meet
      case rel => exact ⟨_, (true), (by first | rfl | (simp; done) | (simp [*]; done)), H', ⟨by first | omega | exact Nat.le_refl _⟩, ⟨by repeat (first | (with_reducible first | exact HB.out | apply below_alloc | apply pw_below_drewN | apply below_drew1) | exact HB.out)⟩⟩
  case rest =>
    clear HC3
    try clear c1
    try clear p2
    try clear c5
    obtain ⟨kq, x17_2, rfl, HA, HJ2, HB⟩ := hcut
    cases kq with
    | zero => exact absurd HA.out (by simp [sackbutlaw01_PipeEnds.j0])
    | succ kj2 =>
      have H := HA.out
      clear HA
      simp only [sackbutlaw01_PipeEnds.j0] at H
      by_cases c8 : x17_2 = true
      · subst c8
        have H1 : ((sackbutlaw01_awake.f).bind fun t165 => (some t165)) = some r := by rw [if_pos rfl] at H; exact H
        clear H
        have H := H1
        clear H1
        replace H := Option.bind_eq_some_iff.mp H
        obtain ⟨t165, A90, H⟩ := H
        replace H : (some t165) = some r := H
        have A9 := Aside0.mk A90
        clear A90
        obtain rfl := Option.some.inj H
        go_wp2_with (first | ((with_reducible refine gate_callee (f := 14) rfl ?_); refine goesL_ (some 18) rfl rfl Try.func14 (by kernel_rfl) rfl #[] rfl (by (try simp only [List.map_toArray, List.map_cons, List.map_nil]); first | done | rfl | (simp only [List.length_drop, List.length_take]; rfl)) ?_; (with_reducible refine (sackbutlaw01_awake.calls  t165 _ A9.out).mono ?_); rintro e w10 ⟨rfl, hb⟩; refine ⟨_, rfl, ?_⟩; have n0_ := Aside0.mk (below_step (by repeat (first | (with_reducible first | exact HB.out | apply below_alloc | apply pw_below_drewN | apply below_drew1) | exact HB.out)) hb); clear HB; have HB := n0_; clear n0_; (try clear hb); (try clear hb2); (try clear hk); (try clear hi)))
        go_ret
        exact ⟨by first | rfl | (simp [errW_none, errW_some] <;> rfl) | (simp [*, errW_none, errW_some] <;> rfl), by repeat (first | (with_reducible first | exact HB.out | apply below_alloc | apply pw_below_drewN | apply below_drew1) | exact HB.out)⟩
      · replace c8 := Bool.eq_false_iff.mpr c8
        subst c8
        have H1 : ((pipe_Open.f l0).bind fun bt166 => ((sackbutref01_Bits.f kj2 l0).bind fun t170 => (if (wrap64 ((t170.size : Int) + 1)) = 0 then (none) else (sackbutlaw01_PipeEnds.l0 kj2 t170 (Int.tmod (wrap64 (a1)) (wrap64 ((t170.size : Int) + 1))) (Int.tmod (wrap64 (a1)) (wrap64 ((t170.size : Int) + 1))) 0 bt166.1 bt166.2.1 bt166.2.2)))) = some r := by rw [if_neg (show ¬ (false = true) by decide)] at H; exact H
        clear H
        have H := H1
        clear H1
        replace H := Option.bind_eq_some_iff.mp H
        obtain ⟨⟨t166, t167, t168⟩, A110, H⟩ := H
        replace H : ((sackbutref01_Bits.f kj2 l0).bind fun t170 => (if (wrap64 ((t170.size : Int) + 1)) = 0 then (none) else (sackbutlaw01_PipeEnds.l0 kj2 t170 (Int.tmod (wrap64 (a1)) (wrap64 ((t170.size : Int) + 1))) (Int.tmod (wrap64 (a1)) (wrap64 ((t170.size : Int) + 1))) 0 t166 t167 t168))) = some r := H
        have A11 := Aside0.mk A110
        clear A110
        replace H := Option.bind_eq_some_iff.mp H
        obtain ⟨t170, A120, H⟩ := H
        replace H : (if (wrap64 ((t170.size : Int) + 1)) = 0 then (none) else (sackbutlaw01_PipeEnds.l0 kj2 t170 (Int.tmod (wrap64 (a1)) (wrap64 ((t170.size : Int) + 1))) (Int.tmod (wrap64 (a1)) (wrap64 ((t170.size : Int) + 1))) 0 t166 t167 t168)) = some r := H
        have A12 := Aside0.mk A120
        clear A120
        by_cases c13 : (wrap64 ((t170.size : Int) + 1)) = 0
        · rw [if_pos c13] at H
          exact absurd H (by simp)
        · rw [if_neg c13] at H
          have c13b0 : ((wrap64 ((t170.size : Int) + 1)) == 0) = false := beq_eq_false_iff_ne.mpr c13
          have c13b1 : ((wrap64 ((t170.size : Int) + 1)) != 0) = true := bne_iff_ne.mpr c13
          have H' := Aside0.mk H
          clear H
          go_wp2_with (first | ((with_reducible refine gate_callee (f := 27) rfl ?_); refine goesL_ (some 20) rfl rfl Try.func27 (by kernel_rfl) rfl #[.slice A0 l0.length c0] rfl (by (try simp only [List.map_toArray, List.map_cons, List.map_nil]); first | done | rfl | (simp only [List.length_drop, List.length_take]; rfl)) ?_; (with_reducible refine (pipe_Open.calls _ _ l0 t166 t167 t168 w _ ?side1 ?side2 ?side3 A11.out).mono ?_); (case side1 => repeat (first | (with_reducible first | exact HB.out | apply below_alloc | apply pw_below_drewN | apply below_drew1) | exact HB.out)); (case side2 => exact HR0.out); (case side3 => exact HC0.out); rintro e w14 ⟨g169, rfl, hi, hb, hb2⟩; refine ⟨_, rfl, ?_⟩; have n0_ := Aside0.mk (hb); have n1_ := Aside0.mk (hi); clear HB; have HB := n0_; have HI169 := n1_; clear n0_ n1_; (try clear hb); (try clear hb2); (try clear hk); (try clear hi)) | ((with_reducible refine gate_callee (f := 20) rfl ?_); refine goesL_ (some 24) rfl rfl Try.func20 (by kernel_rfl) rfl #[.slice A0 l0.length c0] rfl (by (try simp only [List.map_toArray, List.map_cons, List.map_nil]); first | done | rfl | (simp only [List.length_drop, List.length_take]; rfl)) ?_; (with_reducible refine (sackbutref01_Bits.calls kj2 _ _ l0 t170 _ ?side1 ?side2 A12.out).mono ?_); (case side1 => repeat (first | exact (Kd.C_below HR0.out HB.out) | (with_reducible refine Kd.C_alloc ?_ _) | (with_reducible refine Kd.C_drewN ?_ _) | (with_reducible refine Kd.C_drew ?_))); (case side2 => exact HC0.out); rintro e w15 ⟨rfl, hb⟩; refine ⟨_, rfl, ?_⟩; have n0_ := Aside0.mk (IsS75.below (by repeat (first | (with_reducible first | exact HI169.out | apply IsS75.alloc | apply IsS75.drewN | apply IsS75.drew | apply IsS75.set_1 | apply IsS75.set_2) | exact HI169.out)) hb); have n1_ := Aside0.mk (below_step (by repeat (first | (with_reducible first | exact HB.out | apply below_alloc | apply pw_below_drewN | apply below_drew1 | refine below_set ?_ (IsS75.ge HI169.out)) | exact HB.out)) hb); clear HI169; clear HB; have HI169 := n0_; have HB := n1_; clear n0_ n1_; (try clear hb); (try clear hb2); (try clear hk); (try clear hi)))
          go_loopg [32] kj2 (fun kq v32 w' => ∃ (x32_2 : Int) (x170001_2 : Int) (x170002_2 : Int), v32 = .int .i64 x32_2 ∧ Aside0 (sackbutlaw01_PipeEnds.l0 kq t170 (Int.tmod (wrap64 (a1)) (wrap64 ((t170.size : Int) + 1))) (Int.tmod (wrap64 (a1)) (wrap64 ((t170.size : Int) + 1))) x32_2 t166 x170001_2 x170002_2 = some r) ∧ Aside0 (kq ≤ kj2) ∧ Aside0 (IsS75 w w' g169 t166 x170001_2 x170002_2) ∧ Aside0 (Below w.heap.size w w'))
          case atStart => exact ⟨(0), (t167), (t168), (by first | rfl | (simp; done) | (simp [*]; done)), H', ⟨Nat.le_refl _⟩, ⟨by repeat (first | (with_reducible first | exact HI169.out | apply IsS75.alloc | apply IsS75.drewN | apply IsS75.drew | apply IsS75.set_1 | apply IsS75.set_2) | exact HI169.out)⟩, ⟨by repeat (first | (with_reducible first | exact HB.out | apply below_alloc | apply pw_below_drewN | apply below_drew1 | refine below_set ?_ (IsS75.ge HI169.out)) | exact HB.out)⟩⟩
          case round =>
            clear H'
            try clear c1
            try clear c2
            try clear p2
            try clear c5
            try clear p6
            try clear c8
            try clear c13
            try clear c13b0
            try clear c13b1
            try clear c14
            try clear p2
            obtain ⟨x32_2, x170001_2, x170002_2, rfl, HA, HK2, HI169, HB⟩ := hrel
            cases gk with
            | zero => exact absurd HA.out (by simp [sackbutlaw01_PipeEnds.l0])
            | succ k2 =>
              have H := HA.out
              clear HA
              simp only [sackbutlaw01_PipeEnds.l0] at H
              by_cases c16 : x32_2 < (Int.tmod (wrap64 (a1)) (wrap64 ((t170.size : Int) + 1)))
              · rw [if_pos c16] at H
                have c16b0 : decide (x32_2 < (Int.tmod (wrap64 (a1)) (wrap64 ((t170.size : Int) + 1)))) = true := decide_eq_true c16
                clear c16
                replace H := Option.bind_eq_some_iff.mp H
                obtain ⟨⟨t171, t172, t173⟩, A170, H⟩ := H
                replace H : (sackbutlaw01_PipeEnds.l0 k2 t170 (Int.tmod (wrap64 (a1)) (wrap64 ((t170.size : Int) + 1))) (Int.tmod (wrap64 (a1)) (wrap64 ((t170.size : Int) + 1))) (wrap64 (x32_2 + 1)) t166 t172 t173) = some r := H
                have A17 := Aside0.mk A170
                clear A170
                have H' := Aside0.mk H
                clear H
                go_wp2_with (first | ((with_reducible refine gate_callee (f := 28) rfl ?_); refine goesL_ (some 35) rfl rfl Try.func28 (by kernel_rfl) rfl #[.pointer (some ⟨g169, 0, none⟩), .int .i64 1] rfl (by (try simp only [List.map_toArray, List.map_cons, List.map_nil]); first | done | rfl | (simp only [List.length_drop, List.length_take]; rfl)) ?_; (with_reducible refine (pipe_Reader_Take.calls k2 g169 t166 x170001_2 x170002_2 1 t171 t172 t173 w _ ?side1 ?side2 A17.out).mono ?_); (case side1 => repeat (first | (with_reducible first | exact HI169.out | apply IsS75.alloc | apply IsS75.drewN | apply IsS75.drew | apply IsS75.set_1 | apply IsS75.set_2) | exact HI169.out)); (case side2 => repeat (first | (with_reducible first | exact HB.out | apply below_alloc | apply pw_below_drewN | apply below_drew1 | refine below_set ?_ (IsS75.ge HI169.out)) | exact HB.out)); rintro e w18 ⟨rfl, hi, hb, hk⟩; refine ⟨_, rfl, ?_⟩; have n0_ := Aside0.mk (hb); have n1_ := Aside0.mk (hi); clear HB; clear HI169; have HB := n0_; have HI169 := n1_; clear n0_ n1_; (try clear hb); (try clear hb2); (try clear hk); (try clear hi)))
                go_roundg k2
                case measure => have := HJ2.out; have := HK2.out; omega
                case rel => exact ⟨(wrap64 (x32_2 + 1)), (t172), (t173), (by first | rfl | (simp; done) | (simp [*]; done)), H', ⟨by have := HJ2.out; have := HK2.out; omega⟩, ⟨by repeat (first | (with_reducible first | exact HI169.out | apply IsS75.alloc | apply IsS75.drewN | apply IsS75.drew | apply IsS75.set_1 | apply IsS75.set_2) | exact HI169.out)⟩, ⟨by repeat (first | (with_reducible first | exact HB.out | apply below_alloc | apply pw_below_drewN | apply below_drew1 | refine below_set ?_ (IsS75.ge HI169.out)) | exact HB.out)⟩⟩
              · rw [if_neg c16] at H
                have c16b0 : decide (x32_2 < (Int.tmod (wrap64 (a1)) (wrap64 ((t170.size : Int) + 1)))) = false := decide_eq_false c16
                clear c16
                obtain ⟨ji19, hji19⟩ : ∃ j_ : Int, (Int.tmod (wrap64 (a1)) (wrap64 ((t170.size : Int) + 1))) = j_ := ⟨_, rfl⟩
                replace H : (if 0 ≤ (ji19) then (if (ji19) ≤ (t170.size : Int) then (sackbutlaw01_PipeEnds.l1 k2 (t170.extract ((ji19) : Int).toNat t170.size) 0 ((t170.extract ((ji19) : Int).toNat t170.size).size : Int) 0 t166 x170001_2 x170002_2) else (none)) else (none)) = some r := by first | (rw [hji19] at H; exact H) | (simp only [hji19] at H ⊢; exact H)
                (try rw [hji19] at c16b0)
                by_cases c20 : 0 ≤ (ji19)
                · rw [if_pos c20] at H
                  have c20b0 := eq_true c20
                  have c20b1 : decide (0 ≤ (ji19)) = true := decide_eq_true c20
                  clear c20
                  by_cases c21 : (ji19) ≤ (t170.size : Int)
                  · rw [if_pos c21] at H
                    have c21b0 := eq_true c21
                    have c21b1 : decide ((ji19) ≤ (t170.size : Int)) = true := decide_eq_true c21
                    clear c21
                    have H' := Aside0.mk H
                    clear H
                    go_wp2
                    go_loopg [9, 42] k2 (fun kq v9 v42 w' => ∃ (x9_3 : Int) (x42_3 : Int), v9 = .int .i64 x9_3 ∧ v42 = .int .i64 x42_3 ∧ Aside0 (sackbutlaw01_PipeEnds.l1 kq (t170.extract ((ji19) : Int).toNat t170.size) x9_3 ((t170.extract ((ji19) : Int).toNat t170.size).size : Int) x42_3 t166 x170001_2 x170002_2 = some r) ∧ Aside0 (kq ≤ k2) ∧ Aside0 (IsS75 w w' g169 t166 x170001_2 x170002_2) ∧ Aside0 (Below w.heap.size w w'))
                    case atStart => exact ⟨(0), (0), (by first | rfl | (simp; done) | (simp [*]; done)), (by first | rfl | (simp; done) | (simp [*]; done)), H', ⟨Nat.le_refl _⟩, ⟨by repeat (first | (with_reducible first | exact HI169.out | apply IsS75.alloc | apply IsS75.drewN | apply IsS75.drew | apply IsS75.set_1 | apply IsS75.set_2) | exact HI169.out)⟩, ⟨by repeat (first | (with_reducible first | exact HB.out | apply below_alloc | apply pw_below_drewN | apply below_drew1 | refine below_set ?_ (IsS75.ge HI169.out)) | exact HB.out)⟩⟩
                    case round =>
                      clear H'
                      try clear c1
                      try clear c2
                      try clear p2
                      try clear c5
                      try clear p6
                      try clear c8
                      try clear c13
                      try clear c13b0
                      try clear c13b1
                      try clear c14
                      try clear c16
                      try clear c16b0
                      try clear c20
                      try clear c20b0
                      try clear c20b1
                      try clear c21
                      try clear c21b0
                      try clear c21b1
                      try clear p2
                      try clear p6
                      obtain ⟨x9_3, x42_3, rfl, rfl, HA, HK3, HI169, HB⟩ := hrel
                      cases gk with
                      | zero => exact absurd HA.out (by simp [sackbutlaw01_PipeEnds.l1])
                      | succ k3 =>
                        have H := HA.out
                        clear HA
                        simp only [sackbutlaw01_PipeEnds.l1] at H
                        by_cases c22 : x42_3 < ((t170.extract ((ji19) : Int).toNat t170.size).size : Int)
                        · rw [if_pos c22] at H
                          have c22b0 : decide (x42_3 < ((t170.extract ((ji19) : Int).toNat t170.size).size : Int)) = true := decide_eq_true c22
                          have c22b0s := c22b0
                          (try simp only [ByteArray.size_extract, Nat.min_self, Nat.sub_zero] at c22b0s)
                          clear c22
                          by_cases c23 : 0 ≤ x42_3
                          · rw [if_pos c23] at H
                            have c23b0 : decide (0 ≤ x42_3) = true := decide_eq_true c23
                            clear c23
                            by_cases c24 : x42_3 < ((t170.extract ((ji19) : Int).toNat t170.size).size : Int)
                            · rw [if_pos c24] at H
                              have c24b0 : decide (x42_3 < ((t170.extract ((ji19) : Int).toNat t170.size).size : Int)) = true := decide_eq_true c24
                              have c24b0s := c24b0
                              (try simp only [ByteArray.size_extract, Nat.min_self, Nat.sub_zero] at c24b0s)
                              clear c24
                              by_cases c26 : (bt (t170.extract ((ji19) : Int).toNat t170.size) x42_3) = 49
                              · rw [if_pos c26] at H
                                have c26b0 : ((bt (t170.extract ((ji19) : Int).toNat t170.size) x42_3) == 49) = true := beq_iff_eq.mpr c26
                                have c26b1 : ((bt (t170.extract ((ji19) : Int).toNat t170.size) x42_3) != 49) = false := bne_eq_false_iff_eq.mpr c26
                                clear c26
                                have H' := Aside0.mk H
                                clear H
                                have p25 : 0 ≤ (x42_3 : Int) := of_decide_eq_true (by first | (with_reducible assumption) | assumption)
                                have q25 : x42_3 < ((t170.extract ((ji19) : Int).toNat t170.size).size : Int) := of_decide_eq_true (by first | (with_reducible assumption) | assumption)
                                have hx25 := bt_at (t170.extract ((ji19) : Int).toNat t170.size) x42_3
                                replace p25 := eq_true p25
                                have p25s := p25
                                (try simp only [ByteArray.size_extract, Nat.min_self, Nat.sub_zero] at p25s)
                                replace q25 := eq_true q25
                                have q25s := q25
                                (try simp only [ByteArray.size_extract, Nat.min_self, Nat.sub_zero] at q25s)
                                go_wp2
                                go_roundg k3
                                case measure => have := HJ2.out; have := HK2.out; have := HK3.out; omega
                                case rel => exact ⟨(5), (wrap64 (x42_3 + 1)), (by first | rfl | (simp; done) | (simp [*]; done)), (by first | rfl | (simp; done) | (simp [*]; done)), H', ⟨by have := HJ2.out; have := HK2.out; have := HK3.out; omega⟩, ⟨by repeat (first | (with_reducible first | exact HI169.out | apply IsS75.alloc | apply IsS75.drewN | apply IsS75.drew | apply IsS75.set_1 | apply IsS75.set_2) | exact HI169.out)⟩, ⟨by repeat (first | (with_reducible first | exact HB.out | apply below_alloc | apply pw_below_drewN | apply below_drew1 | refine below_set ?_ (IsS75.ge HI169.out)) | exact HB.out)⟩⟩
                              · rw [if_neg c26] at H
                                have c26b0 : ((bt (t170.extract ((ji19) : Int).toNat t170.size) x42_3) == 49) = false := beq_eq_false_iff_ne.mpr c26
                                have c26b1 : ((bt (t170.extract ((ji19) : Int).toNat t170.size) x42_3) != 49) = true := bne_iff_ne.mpr c26
                                have H' := Aside0.mk H
                                clear H
                                have p25 : 0 ≤ (x42_3 : Int) := of_decide_eq_true (by first | (with_reducible assumption) | assumption)
                                have q25 : x42_3 < ((t170.extract ((ji19) : Int).toNat t170.size).size : Int) := of_decide_eq_true (by first | (with_reducible assumption) | assumption)
                                have hx25 := bt_at (t170.extract ((ji19) : Int).toNat t170.size) x42_3
                                replace p25 := eq_true p25
                                have p25s := p25
                                (try simp only [ByteArray.size_extract, Nat.min_self, Nat.sub_zero] at p25s)
                                replace q25 := eq_true q25
                                have q25s := q25
                                (try simp only [ByteArray.size_extract, Nat.min_self, Nat.sub_zero] at q25s)
                                go_wp2
                                go_roundg k3
                                case measure => have := HJ2.out; have := HK2.out; have := HK3.out; omega
                                case rel => exact ⟨(x9_3), (wrap64 (x42_3 + 1)), (by first | rfl | (simp; done) | (simp [*]; done)), (by first | rfl | (simp; done) | (simp [*]; done)), H', ⟨by have := HJ2.out; have := HK2.out; have := HK3.out; omega⟩, ⟨by repeat (first | (with_reducible first | exact HI169.out | apply IsS75.alloc | apply IsS75.drewN | apply IsS75.drew | apply IsS75.set_1 | apply IsS75.set_2) | exact HI169.out)⟩, ⟨by repeat (first | (with_reducible first | exact HB.out | apply below_alloc | apply pw_below_drewN | apply below_drew1 | refine below_set ?_ (IsS75.ge HI169.out)) | exact HB.out)⟩⟩
                            · rw [if_neg c24] at H
                              exact absurd H (by simp)
                          · rw [if_neg c23] at H
                            exact absurd H (by simp)
                        · rw [if_neg c22] at H
                          have c22b0 : decide (x42_3 < ((t170.extract ((ji19) : Int).toNat t170.size).size : Int)) = false := decide_eq_false c22
                          have c22b0s := c22b0
                          (try simp only [ByteArray.size_extract, Nat.min_self, Nat.sub_zero] at c22b0s)
                          clear c22
                          by_cases c27 : ((t170.extract ((ji19) : Int).toNat t170.size).size : Int) ≥ 8
                          · rw [if_pos c27] at H
                            have c27b0 : decide (8 ≤ ((t170.extract ((ji19) : Int).toNat t170.size).size : Int)) = true := decide_eq_true c27
                            have c27b0s := c27b0
                            (try simp only [ByteArray.size_extract, Nat.min_self, Nat.sub_zero] at c27b0s)
                            have c27b1 : decide (8 ≤ (t170.extract ((ji19) : Int).toNat t170.size).size) = true := decide_eq_true (by omega)
                            clear c27
                            replace H := Option.bind_eq_some_iff.mp H
                            obtain ⟨⟨t174, t175, t176⟩, A280, H⟩ := H
                            replace H : (if t174 = 4 then ((pipe_Reader_Left.f t166 t175 t176).bind fun bt177 => (if bt177.1 = ((t170.extract ((ji19) : Int).toNat t170.size).size : Int) then ((pipe_Reader_Fail.f t166 bt177.2.1 bt177.2.2).bind fun bt180 => (some (bt180.1 == 0))) else (some false))) else (some false)) = some r := H
                            have A28 := Aside0.mk A280
                            clear A280
                            by_cases c29 : t174 = 4
                            · rw [if_pos c29] at H
                              have c29b0 : (t174 == 4) = true := beq_iff_eq.mpr c29
                              have c29b1 : (t174 != 4) = false := bne_eq_false_iff_eq.mpr c29
                              clear c29
                              replace H := Option.bind_eq_some_iff.mp H
                              obtain ⟨⟨t177, t178, t179⟩, A300, H⟩ := H
                              replace H : (if t177 = ((t170.extract ((ji19) : Int).toNat t170.size).size : Int) then ((pipe_Reader_Fail.f t166 t178 t179).bind fun bt180 => (some (bt180.1 == 0))) else (some false)) = some r := H
                              have A30 := Aside0.mk A300
                              clear A300
                              by_cases c31 : t177 = ((t170.extract ((ji19) : Int).toNat t170.size).size : Int)
                              · rw [if_pos c31] at H
                                have c31b0 : (t177 == ((t170.extract ((ji19) : Int).toNat t170.size).size : Int)) = true := beq_iff_eq.mpr c31
                                have c31b0s := c31b0
                                (try simp only [ByteArray.size_extract, Nat.min_self, Nat.sub_zero] at c31b0s)
                                have c31b1 : (t177 != ((t170.extract ((ji19) : Int).toNat t170.size).size : Int)) = false := bne_eq_false_iff_eq.mpr c31
                                have c31b1s := c31b1
                                (try simp only [ByteArray.size_extract, Nat.min_self, Nat.sub_zero] at c31b1s)
                                clear c31
                                replace H := Option.bind_eq_some_iff.mp H
                                obtain ⟨⟨t180, t181, t182⟩, A320, H⟩ := H
                                replace H : (some (t180 == 0)) = some r := H
                                have A32 := Aside0.mk A320
                                clear A320
                                obtain rfl := Option.some.inj H
                                go_wp2_with (first | ((with_reducible refine gate_callee (f := 29) rfl ?_); refine goesL_ (some 54) rfl rfl Try.func29 (by kernel_rfl) rfl #[.pointer (some ⟨g169, 0, none⟩)] rfl (by (try simp only [List.map_toArray, List.map_cons, List.map_nil]); first | done | rfl | (simp only [List.length_drop, List.length_take]; rfl)) ?_; (with_reducible refine (pipe_Reader_End.calls k3 g169 t166 x170001_2 x170002_2 t174 t175 t176 w _ ?side1 ?side2 A28.out).mono ?_); (case side1 => repeat (first | (with_reducible first | exact HI169.out | apply IsS75.alloc | apply IsS75.drewN | apply IsS75.drew | apply IsS75.set_1 | apply IsS75.set_2) | exact HI169.out)); (case side2 => repeat (first | (with_reducible first | exact HB.out | apply below_alloc | apply pw_below_drewN | apply below_drew1 | refine below_set ?_ (IsS75.ge HI169.out)) | exact HB.out)); rintro e w33 ⟨rfl, hi, hb, hk⟩; refine ⟨_, rfl, ?_⟩; have n0_ := Aside0.mk (hb); have n1_ := Aside0.mk (hi); clear HB; clear HI169; have HB := n0_; have HI169 := n1_; clear n0_ n1_; (try clear hb); (try clear hb2); (try clear hk); (try clear hi)) | (go_at_call 30; (with_reducible refine (pipe_Reader_Left.calls g169 t166 t175 t176 t177 t178 t179 w _ ?side1 ?side2 A30.out).mono ?_); (case side1 => repeat (first | (with_reducible first | exact HI169.out | apply IsS75.alloc | apply IsS75.drewN | apply IsS75.drew | apply IsS75.set_1 | apply IsS75.set_2) | exact HI169.out)); (case side2 => repeat (first | (with_reducible first | exact HB.out | apply below_alloc | apply pw_below_drewN | apply below_drew1 | refine below_set ?_ (IsS75.ge HI169.out)) | exact HB.out)); rintro e w34 ⟨rfl, hi, hb, hk⟩; have n0_ := Aside0.mk (hb); have n1_ := Aside0.mk (hi); clear HB; clear HI169; have HB := n0_; have HI169 := n1_; clear n0_ n1_; (try clear hb); (try clear hb2); (try clear hk); (try clear hi)) | (go_at_call 31; (with_reducible refine (pipe_Reader_Fail.calls g169 t166 t178 t179 t180 t181 t182 w _ ?side1 ?side2 A32.out).mono ?_); (case side1 => repeat (first | (with_reducible first | exact HI169.out | apply IsS75.alloc | apply IsS75.drewN | apply IsS75.drew | apply IsS75.set_1 | apply IsS75.set_2) | exact HI169.out)); (case side2 => repeat (first | (with_reducible first | exact HB.out | apply below_alloc | apply pw_below_drewN | apply below_drew1 | refine below_set ?_ (IsS75.ge HI169.out)) | exact HB.out)); rintro e w35 ⟨rfl, hi, hb, hk⟩; have n0_ := Aside0.mk (hb); have n1_ := Aside0.mk (hi); clear HB; clear HI169; have HB := n0_; have HI169 := n1_; clear n0_ n1_; (try clear hb); (try clear hb2); (try clear hk); (try clear hi)))
                                go_ret
                                exact ⟨by first | rfl | (simp [errW_none, errW_some] <;> rfl) | (simp only [← hji19]; first | rfl | (simp [errW_none, errW_some] <;> rfl)) | (simp [*, errW_none, errW_some] <;> rfl), by repeat (first | (with_reducible first | exact HB.out | apply below_alloc | apply pw_below_drewN | apply below_drew1 | refine below_set ?_ (IsS75.ge HI169.out)) | exact HB.out)⟩
                              · rw [if_neg c31] at H
                                have c31b0 : (t177 == ((t170.extract ((ji19) : Int).toNat t170.size).size : Int)) = false := beq_eq_false_iff_ne.mpr c31
                                have c31b0s := c31b0
                                (try simp only [ByteArray.size_extract, Nat.min_self, Nat.sub_zero] at c31b0s)
                                have c31b1 : (t177 != ((t170.extract ((ji19) : Int).toNat t170.size).size : Int)) = true := bne_iff_ne.mpr c31
                                have c31b1s := c31b1
                                (try simp only [ByteArray.size_extract, Nat.min_self, Nat.sub_zero] at c31b1s)
                                obtain rfl := Option.some.inj H
                                go_wp2_with (first | ((with_reducible refine gate_callee (f := 29) rfl ?_); refine goesL_ (some 54) rfl rfl Try.func29 (by kernel_rfl) rfl #[.pointer (some ⟨g169, 0, none⟩)] rfl (by (try simp only [List.map_toArray, List.map_cons, List.map_nil]); first | done | rfl | (simp only [List.length_drop, List.length_take]; rfl)) ?_; (with_reducible refine (pipe_Reader_End.calls k3 g169 t166 x170001_2 x170002_2 t174 t175 t176 w _ ?side1 ?side2 A28.out).mono ?_); (case side1 => repeat (first | (with_reducible first | exact HI169.out | apply IsS75.alloc | apply IsS75.drewN | apply IsS75.drew | apply IsS75.set_1 | apply IsS75.set_2) | exact HI169.out)); (case side2 => repeat (first | (with_reducible first | exact HB.out | apply below_alloc | apply pw_below_drewN | apply below_drew1 | refine below_set ?_ (IsS75.ge HI169.out)) | exact HB.out)); rintro e w36 ⟨rfl, hi, hb, hk⟩; refine ⟨_, rfl, ?_⟩; have n0_ := Aside0.mk (hb); have n1_ := Aside0.mk (hi); clear HB; clear HI169; have HB := n0_; have HI169 := n1_; clear n0_ n1_; (try clear hb); (try clear hb2); (try clear hk); (try clear hi)) | (go_at_call 30; (with_reducible refine (pipe_Reader_Left.calls g169 t166 t175 t176 t177 t178 t179 w _ ?side1 ?side2 A30.out).mono ?_); (case side1 => repeat (first | (with_reducible first | exact HI169.out | apply IsS75.alloc | apply IsS75.drewN | apply IsS75.drew | apply IsS75.set_1 | apply IsS75.set_2) | exact HI169.out)); (case side2 => repeat (first | (with_reducible first | exact HB.out | apply below_alloc | apply pw_below_drewN | apply below_drew1 | refine below_set ?_ (IsS75.ge HI169.out)) | exact HB.out)); rintro e w37 ⟨rfl, hi, hb, hk⟩; have n0_ := Aside0.mk (hb); have n1_ := Aside0.mk (hi); clear HB; clear HI169; have HB := n0_; have HI169 := n1_; clear n0_ n1_; (try clear hb); (try clear hb2); (try clear hk); (try clear hi)))
                                go_ret
                                exact ⟨by first | rfl | (simp [errW_none, errW_some] <;> rfl) | (simp only [← hji19]; first | rfl | (simp [errW_none, errW_some] <;> rfl)) | (simp [*, errW_none, errW_some] <;> rfl), by repeat (first | (with_reducible first | exact HB.out | apply below_alloc | apply pw_below_drewN | apply below_drew1 | refine below_set ?_ (IsS75.ge HI169.out)) | exact HB.out)⟩
                            · rw [if_neg c29] at H
                              have c29b0 : (t174 == 4) = false := beq_eq_false_iff_ne.mpr c29
                              have c29b1 : (t174 != 4) = true := bne_iff_ne.mpr c29
                              obtain rfl := Option.some.inj H
                              go_wp2_with (first | ((with_reducible refine gate_callee (f := 29) rfl ?_); refine goesL_ (some 54) rfl rfl Try.func29 (by kernel_rfl) rfl #[.pointer (some ⟨g169, 0, none⟩)] rfl (by (try simp only [List.map_toArray, List.map_cons, List.map_nil]); first | done | rfl | (simp only [List.length_drop, List.length_take]; rfl)) ?_; (with_reducible refine (pipe_Reader_End.calls k3 g169 t166 x170001_2 x170002_2 t174 t175 t176 w _ ?side1 ?side2 A28.out).mono ?_); (case side1 => repeat (first | (with_reducible first | exact HI169.out | apply IsS75.alloc | apply IsS75.drewN | apply IsS75.drew | apply IsS75.set_1 | apply IsS75.set_2) | exact HI169.out)); (case side2 => repeat (first | (with_reducible first | exact HB.out | apply below_alloc | apply pw_below_drewN | apply below_drew1 | refine below_set ?_ (IsS75.ge HI169.out)) | exact HB.out)); rintro e w38 ⟨rfl, hi, hb, hk⟩; refine ⟨_, rfl, ?_⟩; have n0_ := Aside0.mk (hb); have n1_ := Aside0.mk (hi); clear HB; clear HI169; have HB := n0_; have HI169 := n1_; clear n0_ n1_; (try clear hb); (try clear hb2); (try clear hk); (try clear hi)))
                              go_ret
                              exact ⟨by first | rfl | (simp [errW_none, errW_some] <;> rfl) | (simp only [← hji19]; first | rfl | (simp [errW_none, errW_some] <;> rfl)) | (simp [*, errW_none, errW_some] <;> rfl), by repeat (first | (with_reducible first | exact HB.out | apply below_alloc | apply pw_below_drewN | apply below_drew1 | refine below_set ?_ (IsS75.ge HI169.out)) | exact HB.out)⟩
                          · rw [if_neg c27] at H
                            have c27b0 : decide (8 ≤ ((t170.extract ((ji19) : Int).toNat t170.size).size : Int)) = false := decide_eq_false c27
                            have c27b0s := c27b0
                            (try simp only [ByteArray.size_extract, Nat.min_self, Nat.sub_zero] at c27b0s)
                            have c27b1 : decide (8 ≤ (t170.extract ((ji19) : Int).toNat t170.size).size) = false := decide_eq_false (by omega)
                            clear c27
                            replace H := Option.bind_eq_some_iff.mp H
                            obtain ⟨⟨t183, t184, t185⟩, A390, H⟩ := H
                            replace H : (if t183 = x9_3 then ((pipe_Reader_Left.f t166 t184 t185).bind fun bt186 => (if bt186.1 = ((t170.extract ((ji19) : Int).toNat t170.size).size : Int) then ((pipe_Reader_Fail.f t166 bt186.2.1 bt186.2.2).bind fun bt189 => (some (bt189.1 == 0))) else (some false))) else (some false)) = some r := H
                            have A39 := Aside0.mk A390
                            clear A390
                            by_cases c40 : t183 = x9_3
                            · rw [if_pos c40] at H
                              have c40b0 : (t183 == x9_3) = true := beq_iff_eq.mpr c40
                              have c40b1 : (t183 != x9_3) = false := bne_eq_false_iff_eq.mpr c40
                              clear c40
                              replace H := Option.bind_eq_some_iff.mp H
                              obtain ⟨⟨t186, t187, t188⟩, A410, H⟩ := H
                              replace H : (if t186 = ((t170.extract ((ji19) : Int).toNat t170.size).size : Int) then ((pipe_Reader_Fail.f t166 t187 t188).bind fun bt189 => (some (bt189.1 == 0))) else (some false)) = some r := H
                              have A41 := Aside0.mk A410
                              clear A410
                              by_cases c42 : t186 = ((t170.extract ((ji19) : Int).toNat t170.size).size : Int)
                              · rw [if_pos c42] at H
                                have c42b0 : (t186 == ((t170.extract ((ji19) : Int).toNat t170.size).size : Int)) = true := beq_iff_eq.mpr c42
                                have c42b0s := c42b0
                                (try simp only [ByteArray.size_extract, Nat.min_self, Nat.sub_zero] at c42b0s)
                                have c42b1 : (t186 != ((t170.extract ((ji19) : Int).toNat t170.size).size : Int)) = false := bne_eq_false_iff_eq.mpr c42
                                have c42b1s := c42b1
                                (try simp only [ByteArray.size_extract, Nat.min_self, Nat.sub_zero] at c42b1s)
                                clear c42
                                replace H := Option.bind_eq_some_iff.mp H
                                obtain ⟨⟨t189, t190, t191⟩, A430, H⟩ := H
                                replace H : (some (t189 == 0)) = some r := H
                                have A43 := Aside0.mk A430
                                clear A430
                                obtain rfl := Option.some.inj H
                                go_wp2_with (first | ((with_reducible refine gate_callee (f := 29) rfl ?_); refine goesL_ (some 54) rfl rfl Try.func29 (by kernel_rfl) rfl #[.pointer (some ⟨g169, 0, none⟩)] rfl (by (try simp only [List.map_toArray, List.map_cons, List.map_nil]); first | done | rfl | (simp only [List.length_drop, List.length_take]; rfl)) ?_; (with_reducible refine (pipe_Reader_End.calls k3 g169 t166 x170001_2 x170002_2 t183 t184 t185 w _ ?side1 ?side2 A39.out).mono ?_); (case side1 => repeat (first | (with_reducible first | exact HI169.out | apply IsS75.alloc | apply IsS75.drewN | apply IsS75.drew | apply IsS75.set_1 | apply IsS75.set_2) | exact HI169.out)); (case side2 => repeat (first | (with_reducible first | exact HB.out | apply below_alloc | apply pw_below_drewN | apply below_drew1 | refine below_set ?_ (IsS75.ge HI169.out)) | exact HB.out)); rintro e w44 ⟨rfl, hi, hb, hk⟩; refine ⟨_, rfl, ?_⟩; have n0_ := Aside0.mk (hb); have n1_ := Aside0.mk (hi); clear HB; clear HI169; have HB := n0_; have HI169 := n1_; clear n0_ n1_; (try clear hb); (try clear hb2); (try clear hk); (try clear hi)) | (go_at_call 30; (with_reducible refine (pipe_Reader_Left.calls g169 t166 t184 t185 t186 t187 t188 w _ ?side1 ?side2 A41.out).mono ?_); (case side1 => repeat (first | (with_reducible first | exact HI169.out | apply IsS75.alloc | apply IsS75.drewN | apply IsS75.drew | apply IsS75.set_1 | apply IsS75.set_2) | exact HI169.out)); (case side2 => repeat (first | (with_reducible first | exact HB.out | apply below_alloc | apply pw_below_drewN | apply below_drew1 | refine below_set ?_ (IsS75.ge HI169.out)) | exact HB.out)); rintro e w45 ⟨rfl, hi, hb, hk⟩; have n0_ := Aside0.mk (hb); have n1_ := Aside0.mk (hi); clear HB; clear HI169; have HB := n0_; have HI169 := n1_; clear n0_ n1_; (try clear hb); (try clear hb2); (try clear hk); (try clear hi)) | (go_at_call 31; (with_reducible refine (pipe_Reader_Fail.calls g169 t166 t187 t188 t189 t190 t191 w _ ?side1 ?side2 A43.out).mono ?_); (case side1 => repeat (first | (with_reducible first | exact HI169.out | apply IsS75.alloc | apply IsS75.drewN | apply IsS75.drew | apply IsS75.set_1 | apply IsS75.set_2) | exact HI169.out)); (case side2 => repeat (first | (with_reducible first | exact HB.out | apply below_alloc | apply pw_below_drewN | apply below_drew1 | refine below_set ?_ (IsS75.ge HI169.out)) | exact HB.out)); rintro e w46 ⟨rfl, hi, hb, hk⟩; have n0_ := Aside0.mk (hb); have n1_ := Aside0.mk (hi); clear HB; clear HI169; have HB := n0_; have HI169 := n1_; clear n0_ n1_; (try clear hb); (try clear hb2); (try clear hk); (try clear hi)))
                                go_ret
                                exact ⟨by first | rfl | (simp [errW_none, errW_some] <;> rfl) | (simp only [← hji19]; first | rfl | (simp [errW_none, errW_some] <;> rfl)) | (simp [*, errW_none, errW_some] <;> rfl), by repeat (first | (with_reducible first | exact HB.out | apply below_alloc | apply pw_below_drewN | apply below_drew1 | refine below_set ?_ (IsS75.ge HI169.out)) | exact HB.out)⟩
                              · rw [if_neg c42] at H
                                have c42b0 : (t186 == ((t170.extract ((ji19) : Int).toNat t170.size).size : Int)) = false := beq_eq_false_iff_ne.mpr c42
                                have c42b0s := c42b0
                                (try simp only [ByteArray.size_extract, Nat.min_self, Nat.sub_zero] at c42b0s)
                                have c42b1 : (t186 != ((t170.extract ((ji19) : Int).toNat t170.size).size : Int)) = true := bne_iff_ne.mpr c42
                                have c42b1s := c42b1
                                (try simp only [ByteArray.size_extract, Nat.min_self, Nat.sub_zero] at c42b1s)
                                obtain rfl := Option.some.inj H
                                go_wp2_with (first | ((with_reducible refine gate_callee (f := 29) rfl ?_); refine goesL_ (some 54) rfl rfl Try.func29 (by kernel_rfl) rfl #[.pointer (some ⟨g169, 0, none⟩)] rfl (by (try simp only [List.map_toArray, List.map_cons, List.map_nil]); first | done | rfl | (simp only [List.length_drop, List.length_take]; rfl)) ?_; (with_reducible refine (pipe_Reader_End.calls k3 g169 t166 x170001_2 x170002_2 t183 t184 t185 w _ ?side1 ?side2 A39.out).mono ?_); (case side1 => repeat (first | (with_reducible first | exact HI169.out | apply IsS75.alloc | apply IsS75.drewN | apply IsS75.drew | apply IsS75.set_1 | apply IsS75.set_2) | exact HI169.out)); (case side2 => repeat (first | (with_reducible first | exact HB.out | apply below_alloc | apply pw_below_drewN | apply below_drew1 | refine below_set ?_ (IsS75.ge HI169.out)) | exact HB.out)); rintro e w47 ⟨rfl, hi, hb, hk⟩; refine ⟨_, rfl, ?_⟩; have n0_ := Aside0.mk (hb); have n1_ := Aside0.mk (hi); clear HB; clear HI169; have HB := n0_; have HI169 := n1_; clear n0_ n1_; (try clear hb); (try clear hb2); (try clear hk); (try clear hi)) | (go_at_call 30; (with_reducible refine (pipe_Reader_Left.calls g169 t166 t184 t185 t186 t187 t188 w _ ?side1 ?side2 A41.out).mono ?_); (case side1 => repeat (first | (with_reducible first | exact HI169.out | apply IsS75.alloc | apply IsS75.drewN | apply IsS75.drew | apply IsS75.set_1 | apply IsS75.set_2) | exact HI169.out)); (case side2 => repeat (first | (with_reducible first | exact HB.out | apply below_alloc | apply pw_below_drewN | apply below_drew1 | refine below_set ?_ (IsS75.ge HI169.out)) | exact HB.out)); rintro e w48 ⟨rfl, hi, hb, hk⟩; have n0_ := Aside0.mk (hb); have n1_ := Aside0.mk (hi); clear HB; clear HI169; have HB := n0_; have HI169 := n1_; clear n0_ n1_; (try clear hb); (try clear hb2); (try clear hk); (try clear hi)))
                                go_ret
                                exact ⟨by first | rfl | (simp [errW_none, errW_some] <;> rfl) | (simp only [← hji19]; first | rfl | (simp [errW_none, errW_some] <;> rfl)) | (simp [*, errW_none, errW_some] <;> rfl), by repeat (first | (with_reducible first | exact HB.out | apply below_alloc | apply pw_below_drewN | apply below_drew1 | refine below_set ?_ (IsS75.ge HI169.out)) | exact HB.out)⟩
                            · rw [if_neg c40] at H
                              have c40b0 : (t183 == x9_3) = false := beq_eq_false_iff_ne.mpr c40
                              have c40b1 : (t183 != x9_3) = true := bne_iff_ne.mpr c40
                              obtain rfl := Option.some.inj H
                              go_wp2_with (first | ((with_reducible refine gate_callee (f := 29) rfl ?_); refine goesL_ (some 54) rfl rfl Try.func29 (by kernel_rfl) rfl #[.pointer (some ⟨g169, 0, none⟩)] rfl (by (try simp only [List.map_toArray, List.map_cons, List.map_nil]); first | done | rfl | (simp only [List.length_drop, List.length_take]; rfl)) ?_; (with_reducible refine (pipe_Reader_End.calls k3 g169 t166 x170001_2 x170002_2 t183 t184 t185 w _ ?side1 ?side2 A39.out).mono ?_); (case side1 => repeat (first | (with_reducible first | exact HI169.out | apply IsS75.alloc | apply IsS75.drewN | apply IsS75.drew | apply IsS75.set_1 | apply IsS75.set_2) | exact HI169.out)); (case side2 => repeat (first | (with_reducible first | exact HB.out | apply below_alloc | apply pw_below_drewN | apply below_drew1 | refine below_set ?_ (IsS75.ge HI169.out)) | exact HB.out)); rintro e w49 ⟨rfl, hi, hb, hk⟩; refine ⟨_, rfl, ?_⟩; have n0_ := Aside0.mk (hb); have n1_ := Aside0.mk (hi); clear HB; clear HI169; have HB := n0_; have HI169 := n1_; clear n0_ n1_; (try clear hb); (try clear hb2); (try clear hk); (try clear hi)))
                              go_ret
                              exact ⟨by first | rfl | (simp [errW_none, errW_some] <;> rfl) | (simp only [← hji19]; first | rfl | (simp [errW_none, errW_some] <;> rfl)) | (simp [*, errW_none, errW_some] <;> rfl), by repeat (first | (with_reducible first | exact HB.out | apply below_alloc | apply pw_below_drewN | apply below_drew1 | refine below_set ?_ (IsS75.ge HI169.out)) | exact HB.out)⟩
                  · rw [if_neg c21] at H
                    exact absurd H (by simp)
                · rw [if_neg c20] at H
                  exact absurd H (by simp)

/-! ### rice_Total: function 34 -/
def rice_Total.l0 : Nat → Int → Int → List Int → Int → Int → Option (Int)
  | 0, _, _, _, _, _ => none
  | k + 1, x1, x5, x8, x9, x10 => if x10 < x9 then (if 0 ≤ x10 then (if x10 < (x8.length : Int) then ((rice_Cost.f (rd x8 x10) x1).bind fun t193 => (rice_Total.l0 k x1 (wrap64 (x5 + t193)) x8 x9 (wrap64 (x10 + 1)))) else (none)) else (none)) else (some x5)
def rice_Total.f (k : Nat) (l0 : List Int) (a1 : Int) : Option (Int) := rice_Total.l0 k a1 0 l0 (l0.length : Int) 0
theorem rice_Total.mono_l : ∀ k, (∀ y0 y1 y2 y3 y4, LeO (rice_Total.l0 k y0 y1 y2 y3 y4) (rice_Total.l0 (k + 1) y0 y1 y2 y3 y4))
  | 0 => fun _ _ _ _ _ r h => by simp [rice_Total.l0] at h
  | k + 1 => by
    have ih0 := rice_Total.mono_l k
    · intro y0 y1 y2 y3 y4
      unfold rice_Total.l0
      repeat' first
      | (with_reducible exact ih0 _ _ _ _ _)
      | (with_reducible exact LeO.refl _)
      | (with_reducible exact LeO.none _)
      | (with_reducible refine LeO.ite ?_ ?_)
      | (with_reducible refine LeO.bind ?_ (fun _ => ?_))
      | exact ih0 _ _ _ _ _
      | exact LeO.none _
      | refine LeO.ite ?_ ?_
      | refine LeO.bind ?_ (fun _ => ?_)
theorem rice_Total.mono : ∀ a0 a1 k, LeO (rice_Total.f k a0 a1) (rice_Total.f (k + 1) a0 a1) := by
  intro a0 a1 k
  have ih0 := rice_Total.mono_l k
  unfold rice_Total.f
  repeat' first
      | (with_reducible exact ih0 _ _ _ _ _)
      | (with_reducible exact LeO.refl _)
      | (with_reducible exact LeO.none _)
      | (with_reducible refine LeO.ite ?_ ?_)
      | (with_reducible refine LeO.bind ?_ (fun _ => ?_))
      | exact ih0 _ _ _ _ _
      | exact LeO.none _
      | refine LeO.ite ?_ ?_
      | refine LeO.bind ?_ (fun _ => ?_)
set_option maxHeartbeats 8000000 in
set_option maxRecDepth 100000 in
theorem rice_Total.calls (k : Nat) (A0 : Option Addr) (c0 : Nat) (l0 : List Int) (a1 : Int) (r : Int) (w : World) (hr0 : Kd.C (Kd.int .i64) w A0 l0.length l0) (hc0 : l0.length ≤ c0) (h : rice_Total.f k l0 a1 = some r) :
    Calls Try.prog 34 #[.slice A0 l0.length c0, .int .i64 a1] w fun e w' => e = .returned (.int .i64 r) ∧ Drawn0 w w' := by
  have HR0 := Aside0.mk hr0
  have HC0 := Aside0.mk hc0
  clear hr0 hc0
  have H : (rice_Total.l0 k a1 0 l0 (l0.length : Int) 0) = some r := h
  clear h
  have H' := Aside0.mk H
  clear H
  go_enter Try.func34, Try.ntmps34
  go_wp2
  go_loopg [5, 10] k (fun kq v5 v10 w' => ∃ (x5_1 : Int) (x10_1 : Int), v5 = .int .i64 x5_1 ∧ v10 = .int .i64 x10_1 ∧ Aside0 (rice_Total.l0 kq a1 x5_1 l0 (l0.length : Int) x10_1 = some r) ∧ Aside0 (kq ≤ k) ∧ Drawn0 w w')
  case atStart => exact ⟨(0), (0), (by first | rfl | (simp; done) | (simp [*]; done)), (by first | rfl | (simp; done) | (simp [*]; done)), H', ⟨Nat.le_refl _⟩, by repeat (first | exact Drawn0.refl _ | apply Drawn0.step)⟩
  case round =>
    clear H'
    try clear p2
    obtain ⟨x5_1, x10_1, rfl, rfl, HA, HK1, ⟨m1, rfl⟩⟩ := hrel
    cases gk with
    | zero => exact absurd HA.out (by simp [rice_Total.l0])
    | succ k1 =>
      have H := HA.out
      clear HA
      simp only [rice_Total.l0] at H
      by_cases c3 : x10_1 < (l0.length : Int)
      · rw [if_pos c3] at H
        have c3b0 : decide (x10_1 < (l0.length : Int)) = true := decide_eq_true c3
        clear c3
        by_cases c4 : 0 ≤ x10_1
        · rw [if_pos c4] at H
          have c4b0 : decide (0 ≤ x10_1) = true := decide_eq_true c4
          clear c4
          by_cases c5 : x10_1 < (l0.length : Int)
          · rw [if_pos c5] at H
            have c5b0 : decide (x10_1 < (l0.length : Int)) = true := decide_eq_true c5
            clear c5
            replace H := Option.bind_eq_some_iff.mp H
            obtain ⟨t193, A60, H⟩ := H
            replace H : (rice_Total.l0 k1 a1 (wrap64 (x5_1 + t193)) l0 (l0.length : Int) (wrap64 (x10_1 + 1))) = some r := H
            have A6 := Aside0.mk A60
            clear A60
            have H' := Aside0.mk H
            clear H
            have p192 : 0 ≤ (x10_1 : Int) := of_decide_eq_true (by first | (with_reducible assumption) | assumption)
            have q192 : x10_1 < (l0.length : Int) := of_decide_eq_true (by first | (with_reducible assumption) | assumption)
            obtain ⟨ad192, e192, hx192_0⟩ := Kd.at_int HR0.out x10_1 p192 q192
            cases e192
            replace p192 := eq_true p192
            replace q192 := eq_true q192
            go_wp2_with (first | ((with_reducible refine gate_callee (f := 22) rfl ?_); refine goesL_ (some 17) rfl rfl Try.func22 (by kernel_rfl) rfl #[.int .i64 (rd l0 x10_1), .int .i64 a1] rfl (by (try simp only [List.map_toArray, List.map_cons, List.map_nil]); first | done | rfl | (simp only [List.length_drop, List.length_take]; rfl)) ?_; (with_reducible refine (rice_Cost.calls (rd l0 x10_1) a1 t193 _ A6.out).mono ?_); rintro e w' ⟨rfl, ⟨nd, rfl⟩⟩; refine ⟨_, rfl, ?_⟩))
            go_roundg k1
            case measure => have := HK1.out; omega
            case rel => exact ⟨(wrap64 (x5_1 + t193)), (wrap64 (x10_1 + 1)), (by first | rfl | (simp; done) | (simp [*]; done)), (by first | rfl | (simp; done) | (simp [*]; done)), H', ⟨by have := HK1.out; omega⟩, by repeat (first | exact Drawn0.refl _ | apply Drawn0.step)⟩
          · rw [if_neg c5] at H
            exact absurd H (by simp)
        · rw [if_neg c4] at H
          exact absurd H (by simp)
      · rw [if_neg c3] at H
        have c3b0 : decide (x10_1 < (l0.length : Int)) = false := decide_eq_false c3
        clear c3
        obtain rfl := Option.some.inj H
        go_wp2
        go_ret
        exact ⟨by first | rfl | (simp; done) | (simp [*]; done), by repeat (first | exact Drawn0.refl _ | apply Drawn0.step)⟩

-- NOT PRINTED: function 63 (heap_up)

-- NOT PRINTED: function 56 (heap_Push)

end Go.Proofs.Ytgglnmpjajnkaaa.P
