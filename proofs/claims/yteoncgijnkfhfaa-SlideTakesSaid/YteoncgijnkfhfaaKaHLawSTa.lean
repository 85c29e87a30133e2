/- The law SlideTakes, walked. -/
import Derived.Test.YteoncgijnkfhfaaKaPx0
import Derived.Test.YteoncgijnkfhfaaKaHLawSTaF
import Derived.Test.YteoncgijnkfhfaaKaUSame
import Derived.Test.YteoncgijnkfhfaaKaUSTake
namespace Go.Proofs.Yteoncgijnkfhfaa.P
open Go.RowKit Go.Proofs.YteoncgijnkfhfaaW.PrintWords Go.Proofs.YteoncgijnkfhfaaW.PrintLast Go.Proofs.YteoncgijnkfhfaaW.PrintMore Go.Proofs.Yteoncgijnkfhfaa.Pure
set_option linter.unusedVariables false
set_option linter.unusedSimpArgs false
def sackbutlaw03_SlideTakes.T8 : Bool × List (List Nat × List Nat) := (true, [([], []), ([0], [0]), ([], []), ([2], [2]), ([1, 3], [1, 3]), ([4, 1], [4]), ([5], [5]), ([5], [5]), ([6, 7, 5, 5], [5, 6, 7]), ([5, 8], [5, 8]), ([9, 8], [9]), ([10], [10]), ([10], [10]), ([11, 12, 10, 10], [10, 11, 12]), ([10, 13], [10, 13]), ([14, 13], [14]), ([15], [15]), ([16, 15], [15, 16]), ([17, 15], [15, 17]), ([18, 15, 15], [15, 18]), ([19], [19]), ([20, 19, 19], [19, 20]), ([19], [19]), ([22, 19], [19, 22]), ([23, 19], [19, 23]), ([21, 24, 19], [19, 21, 24]), ([19, 25, 15], [15, 19, 25]), ([15, 26], [15, 26]), ([27, 21, 0, 1, 2, 3, 4, 5, 6, 7, 8, 9, 10, 11, 12, 13, 14, 15, 16, 17, 18, 19, 20, 21, 22, 23, 24, 25, 26, 27], [27])])
def sackbutlaw03_SlideTakes.B8 : List Nat := [0, 1, 0, 4, 15, 31, 63, 63, 255, 511, 1023, 2047, 2047, 8191, 16383, 32767, 65535, 131071, 262143, 524287, 1048575, 2097151, 1048575, 5242879, 13631487, 33554431, 67108863, 134217727, 268435455]
theorem sackbutlaw03_SlideTakes.tab8 : rtab .any (opsOf Try.f6 8) = sackbutlaw03_SlideTakes.T8 := by kernel_rfl
theorem sackbutlaw03_SlideTakes.bits8 : waitsOk sackbutlaw03_SlideTakes.T8.2 sackbutlaw03_SlideTakes.B8 = true := by kernel_rfl
set_option maxHeartbeats 8000000 in
theorem left_q (w W : World) (g : Nat) (b : List Int) (p e x : Int) (h : IsS74 w W g b p e) (hB : Below w.heap.size w W) (hf : pipe_Reader_Left.f b p e = some (x, p, e)) : Calls Try.prog 25 #[.pointer (some ⟨g, 0, none⟩)] W fun e_ w' => e_ = .returned (.int .i64 x) ∧ Below W.heap.size W w' := by
  obtain ⟨A, c, hb, _⟩ := h
  have hx : wrap64 (wrap64 ((b.length : Int) * 8) - p) = x := by
    unfold pipe_Reader_Left.f at hf
    injection hf with hf
    injection hf
  have hc : ∀ n, (W.drewN n).cell? ⟨g, 0, none⟩ = some (.slice A b.length c) := fun n => (blk_cell (w := W.drewN n) hb 0).trans rfl
  have hd : ∀ n, (W.drewN n).cell? ⟨g, 1, none⟩ = some (.int .i64 p) := fun n => (blk_cell (w := W.drewN n) hb 1).trans rfl
  have HX := Aside0.mk hx
  clear hb hf hx hB
  go_enter Try.func25, Try.ntmps25
  go_wp2
  go_quiet (fail)
  go_wp2
  go_ret
  refine ⟨?_, pw_below_drewN (Below.refl _ _) _⟩
  rw [← HX.out]
  first | rfl | (simp only [i64_w]; rfl)
set_option maxHeartbeats 8000000 in
set_option maxRecDepth 100000 in
theorem stakes_any (A : Option Addr) (c : Nat) (bl : List Int) (n : Int) (L Kl : List Int) (P p e ra : Int) (t : ByteArray) (w : World) (hl : bl.length ≤ 120) (hA : Kd.C (Kd.int .u8) w A bl.length bl) (hc : bl.length ≤ c)
    (hs : slide_Take.f 200000 bl 0 0 n = some (L, P, Kl, p, e)) (ho : sackbutref01_Open.f 2000 bl = some (txt (unpack bl), ra, 0)) (hr : sackbutref03_Take.f 200000 (txt (unpack bl)) ra 0 n = some (t, ra, e, L, P, Kl)) (hsm : sackbutref01_Same.f 5000 L L = some true) (hsk : sackbutref03_Same.f 5000 P Kl P Kl = some true) (hlf : e = 0 → pipe_Reader_Left.f bl p 0 = some ((t.size : Int), p, 0)) :
    Calls Try.prog 6 #[.slice A bl.length c, .int .i64 n] w fun e w' => e = .returned (.bool true) ∧ Below w.heap.size w w' := by
  have hd : decide ((120 : Int) < (bl.length : Int)) = false := by simp; omega
  have HA := Aside0.mk hA
  have HC := Aside0.mk hc
  have HS := Aside0.mk hs
  have HO := Aside0.mk ho
  have HR := Aside0.mk hr
  have HSM := Aside0.mk hsm
  have HSK := Aside0.mk hsk
  have HLF0 := Aside0.mk hlf
  clear hl hA hc hs ho hr hsm hsk hlf
  generalize txt (unpack bl) = bt0 at HO HR
  go_enter Try.func6, Try.ntmps6
  go_wp2_with fail
  (with_reducible refine (sackbutlaw03_awake.calls true _ rfl).mono ?_)
  rintro ee w1 ⟨rfl, hb1⟩
  have HB1 := Aside0.mk hb1
  clear hb1
  go_wp2_with fail
  (with_reducible refine (pipe_Open.calls A c bl bl 0 0 w w1 HB1.out HA.out HC.out rfl).mono ?_)
  rintro ee w2 ⟨g, rfl, hi2, hb2, hbb2⟩
  have HI2 := Aside0.mk hi2
  have HB2 := Aside0.mk hb2
  clear hi2 hb2 hbb2
  go_wp2_with fail
  (with_reducible refine (slide_Take.calls 200000 g bl 0 0 n L P Kl p e w w2 HI2.out HB2.out HS.out).mono ?_)
  rintro ee w3 ⟨v0, v2, rfl, ho0, ho2, hi3, hb3, hk3⟩
  have hR0 := own_CS (Kd.own_of_R ho0)
  have hR2 := own_CS (Kd.own_of_R ho2)
  obtain ⟨Av, cv, rfl, hcv, hRv⟩ := hR0
  obtain ⟨Ak, ck, rfl, hck, hRk⟩ := hR2
  have HRV := Aside0.mk hRv
  have HRK := Aside0.mk hRk
  have HCV := Aside0.mk (And.intro hcv hck)
  have HI3 := Aside0.mk (hi3.alloc (.cells #[.int .i64 P, .slice Ak Kl.length ck] 24))
  have HB3 := Aside0.mk (below_alloc hb3 (.cells #[.int .i64 P, .slice Ak Kl.length ck] 24))
  have HX3 := Aside0.mk (blk_new w3 (.cells #[.int .i64 P, .slice Ak Kl.length ck] 24))
  have HRV3 := Aside0.mk (Kd.C_alloc HRV.out (.cells #[.int .i64 P, .slice Ak Kl.length ck] 24))
  have HRK3 := Aside0.mk (Kd.C_alloc HRK.out (.cells #[.int .i64 P, .slice Ak Kl.length ck] 24))
  clear ho0 ho2 hi3 hb3 hk3 hRv hRk hcv hck HRV HRK HI2 HB2
  go_wp2_with fail
  generalize w3.alloc (.cells #[.int .i64 P, .slice Ak Kl.length ck] 24) = w4 at HI3 HB3 HX3 HRV3 HRK3 ⊢
  obtain ⟨b7, hb7⟩ : ∃ q, w3.heap.size = q := ⟨_, rfl⟩
  rw [hb7] at HX3 ⊢
  clear hb7
  (with_reducible refine (sackbutref01_Open.calls 2000 A c bl bt0 ra 0 w4 (Kd.C_below HA.out HB3.out) HC.out HO.out).mono ?_)
  rintro ee w5 ⟨rfl, hb5⟩
  have HI5 := Aside0.mk (HI3.out.below hb5)
  have HB5 := Aside0.mk (below_then HB3.out HB3.out.size hb5)
  have HX5 := Aside0.mk (blk_below HX3.out hb5)
  have HRV5 := Aside0.mk (Kd.C_below HRV3.out hb5)
  have HRK5 := Aside0.mk (Kd.C_below HRK3.out hb5)
  clear hb5 HI3 HB3 HX3 HRV3 HRK3
  go_wp2_with fail
  (with_reducible refine (sackbutref03_Take.calls 200000 bt0 ra 0 n t ra e L P Kl w5 HR.out).mono ?_)
  rintro ee w6 ⟨v3, v5, rfl, ho3, ho5, hb6⟩
  obtain ⟨Aw, cw, rfl, hcw, hRw⟩ := own_CS (Kd.own_of_R ho3)
  obtain ⟨Al, cl, rfl, hcl, hRl⟩ := own_CS (Kd.own_of_R ho5)
  have hs6 : w5.heap.size ≤ w6.heap.size := hb6.size
  have hb67 := below_alloc (below_alloc (Below.refl w6.heap.size w6) (.cells #[.string t, .int .i64 ra, .int .i64 e] 44)) (.cells #[.int .i64 P, .slice Al Kl.length cl] 30)
  have hx10 := blk_new (w6.alloc (.cells #[.string t, .int .i64 ra, .int .i64 e] 44)) (.cells #[.int .i64 P, .slice Al Kl.length cl] 30)
  rw [World.size_alloc] at hx10
  have HF := Aside0.mk (show Fx w ((w6.alloc (.cells #[.string t, .int .i64 ra, .int .i64 e] 44)).alloc (.cells #[.int .i64 P, .slice Al Kl.length cl] 30)) g bl p e b7 w6.heap.size (w6.heap.size + 1) L Kl P ra t Av cv Aw cw Ak ck Al cl from
    ⟨(HI5.out.below hb6).below hb67, below_then (below_then HB5.out HB5.out.size hb6) (Nat.le_trans HB5.out.size hs6) hb67, blk_below (blk_below HX5.out hb6) hb67, blk_alloc (blk_new _ _) _, hx10, ⟨Kd.C_below (Kd.C_below HRV5.out hb6) hb67, HCV.out.1⟩, ⟨Kd.C_below hRw hb67, hcw⟩, ⟨Kd.C_below (Kd.C_below HRK5.out hb6) hb67, HCV.out.2⟩, ⟨Kd.C_below hRl hb67, hcl⟩⟩)
  have HNE := Aside0.mk (show w6.heap.size ≠ g by have := HI5.out.lt; omega)
  clear ho3 ho5 hb6 hRw hRl hcw hcl hb67 hx10 HI5 HB5 HX5 HRV5 HRK5 hs6
  go_upto_region 8 with fail
  generalize ((w6.alloc (.cells #[.string t, .int .i64 ra, .int .i64 e] 44)).alloc (.cells #[.int .i64 P, .slice Al Kl.length cl] 30)) = w7 at HF ⊢
  obtain ⟨b10, hb10⟩ : ∃ q, w6.heap.size + 1 = q := ⟨_, rfl⟩
  obtain ⟨b8, hb8⟩ : ∃ q, w6.heap.size = q := ⟨_, rfl⟩
  rw [hb10] at HF ⊢
  rw [hb8] at HF HNE ⊢
  clear hb10 hb8
  replace HF := Aside0.mk (HF.out.below (below_drew1 (Below.refl w7.heap.size w7)))
  by_cases he0 : e = 0
  · have HLF : Aside0 (pipe_Reader_Left.f bl p e = some ((t.size : Int), p, e)) := ⟨by have := HLF0.out he0; rw [he0]; exact this⟩
    have HE0 : Aside0 ((e != 0) = false) := ⟨by simp [he0]⟩
    clear he0 HLF0
    refine start_ (n := 29) (S := fun w' => True) (ds := []) #[false, false, false, false, false, false, false, false, false, false, false, false, false, false, false, false, false, false, false, false, false, false, false, false, false, false, false, false, false] (by kernel_rfl) rfl rfl trivial (fun hHeld => ?_)
    refine with_tabW sackbutlaw03_SlideTakes.tab8 sackbutlaw03_SlideTakes.bits8 (fun HT_ HW_ => ?_)
    obtain ⟨wd, hwd⟩ : ∃ wd, w7.drew = wd := ⟨_, rfl⟩
    rw [hwd]
    have HFD : Aside0 (Fx w wd g bl p e b7 b8 b10 L Kl P ra t Av cv Aw cw Ak ck Al cl) := ⟨by rw [← hwd]; exact HF.out⟩
    clear hwd hHeld
    refine inv_at [0, 1, 2, 3, 4, 5, 6, 7, 8, 9, 10, 11, 12, 13, 14, 15, 16, 17, 18, 19, 20, 21, 22, 23, 24, 25, 26, 27, 28] (fun a0_ b a w' => a = putSel a0_ b [(0, 37, .pointer (some ⟨g, 0, none⟩)), (1, 38, .int .i64 e), (2, 39, .pointer (some ⟨b8, 2, none⟩)), (3, 40, .int .i64 e), (4, 41, .bool true), (5, 42, .bool true), (6, 43, .slice Av L.length cv), (7, 44, .slice Aw L.length cw), (8, 45, .bool true), (9, 46, .bool true), (10, 47, .bool true), (11, 48, .agg #[.int .i64 P, .slice Ak Kl.length ck]), (12, 49, .agg #[.int .i64 P, .slice Al Kl.length cl]), (13, 50, .bool true), (14, 51, .bool true), (15, 52, .bool true), (16, 53, .pointer (some ⟨b8, 2, none⟩)), (17, 54, .int .i64 e), (18, 55, .bool false), (19, 56, .bool false), (20, 57, .pointer (some ⟨g, 0, none⟩)), (21, 58, .int .i64 (t.size : Int)), (22, 59, .pointer (some ⟨b8, 0, none⟩)), (23, 60, .string t), (24, 61, .int .i64 (t.size : Int)), (25, 62, .bool true), (26, 63, .bool true), (27, 64, .bool true), (28, 4, .bool true)] ∧ (Fx w w' g bl p e b7 b8 b10 L Kl P ra t Av cv Aw cw Ak ck Al cl)) HT_.out HW_.out (by kernel_rfl) (by kernel_rfl) ?_ ?_ ?_
    · exact ⟨by simp only [putSel, Bool.false_eq_true, if_false], HFD.out⟩
    · skip
      refine steps_cons ?_ ?_
      · rintro b a w' ⟨ha, Q_FF⟩ hb_ hon hoff
        refine ⟨_, rfl, fun K hK => ?_⟩
        have e5 : a.tmps[5]? = some (.pointer (some ⟨g, 0, none⟩)) := by rw [ha]; exact (putSel_off rfl).trans rfl
        replace ha := Aside0.mk ha
        have FF := Aside0.mk Q_FF
        refine value_ (w1 := w') (v := .pointer (some ⟨g, 0, none⟩)) (by rfl) rfl ?_ ?_
        · go_simp
          (try simp only [i64_w])
          try rfl
        refine hK.out _ _ ⟨(by rw [ha.out]; exact putSel_upk 0 hb_ rfl rfl rfl), Q_FF⟩
      refine steps_cons ?_ ?_
      · rintro b a w' ⟨ha, Q_FF⟩ hb_ hon hoff
        refine ⟨_, rfl, fun K hK => ?_⟩
        have e37 : a.tmps[37]? = some (.pointer (some ⟨g, 0, none⟩)) := by rw [ha]; exact putSel_on (e := (0, 37, .pointer (some ⟨g, 0, none⟩))) 0 rfl rfl (hon 0 (by kernel_rfl)) rfl
        replace ha := Aside0.mk ha
        have FF := Aside0.mk Q_FF
        refine goes_ Try.func23 (by kernel_rfl) rfl #[.pointer (some ⟨g, 0, none⟩)] (by rfl) rfl rfl (by first | (simp only [List.map_toArray, List.map_cons, List.map_nil, Act.eval, Array.getD_eq_getD_getElem?, Option.getD_some, e37]; done) | (simp only [List.map_toArray, List.map_cons, List.map_nil, Act.eval, Array.getD_eq_getD_getElem?, Option.getD_some, e37]; rfl)) ?_
        (with_reducible refine (fail_q w w' g bl p e FF.out.is).mono ?_)
        rintro e w1_ ⟨rfl, rfl⟩
        refine ⟨_, rfl, ?_⟩
        refine hK.out _ _ ⟨(by rw [ha.out]; exact putSel_upk 1 hb_ rfl rfl rfl), Q_FF⟩
      refine steps_cons ?_ ?_
      · rintro b a w' ⟨ha, Q_FF⟩ hb_ hon hoff
        refine ⟨_, rfl, fun K hK => ?_⟩
        have e8 : a.tmps[8]? = some (.pointer (some ⟨b8, 0, none⟩)) := by rw [ha]; exact (putSel_off rfl).trans rfl
        replace ha := Aside0.mk ha
        have FF := Aside0.mk Q_FF
        refine value_ (w1 := w') (v := .pointer (some ⟨b8, 2, none⟩)) (by rfl) rfl ?_ ?_
        · go_simp
          (try simp only [i64_w])
          try rfl
        refine hK.out _ _ ⟨(by rw [ha.out]; exact putSel_upk 2 hb_ rfl rfl rfl), Q_FF⟩
      refine steps_cons ?_ ?_
      · rintro b a w' ⟨ha, Q_FF⟩ hb_ hon hoff
        refine ⟨_, rfl, fun K hK => ?_⟩
        have e39 : a.tmps[39]? = some (.pointer (some ⟨b8, 2, none⟩)) := by rw [ha]; exact putSel_on (e := (2, 39, .pointer (some ⟨b8, 2, none⟩))) 2 rfl rfl (hon 2 (by kernel_rfl)) rfl
        replace ha := Aside0.mk ha
        have FF := Aside0.mk Q_FF
        have q8_ : w'.cell? ⟨b8, 2, none⟩ = some (.int .i64 e) := (blk_cell FF.out.x8 2).trans rfl
        refine value_ (w1 := w') (v := .int .i64 e) (by rfl) rfl ?_ ?_
        · go_simp
          (try simp only [i64_w])
          try rfl
        refine hK.out _ _ ⟨(by rw [ha.out]; exact putSel_upk 3 hb_ rfl rfl rfl), Q_FF⟩
      refine steps_cons ?_ ?_
      · rintro b a w' ⟨ha, Q_FF⟩ hb_ hon hoff
        refine ⟨_, rfl, fun K hK => ?_⟩
        have e38 : a.tmps[38]? = some (.int .i64 e) := by rw [ha]; exact putSel_on (e := (1, 38, .int .i64 e)) 1 rfl rfl (hon 1 (by kernel_rfl)) rfl
        have e40 : a.tmps[40]? = some (.int .i64 e) := by rw [ha]; exact putSel_on (e := (3, 40, .int .i64 e)) 3 rfl rfl (hon 3 (by kernel_rfl)) rfl
        replace ha := Aside0.mk ha
        have FF := Aside0.mk Q_FF
        refine value_ (w1 := w') (v := .bool true) (by rfl) rfl ?_ ?_
        · go_simp
          (try simp only [i64_w])
          try rfl
        refine hK.out _ _ ⟨(by rw [ha.out]; exact putSel_upk 4 hb_ rfl rfl rfl), Q_FF⟩
      refine steps_cons ?_ ?_
      · rintro b a w' ⟨ha, Q_FF⟩ hb_ hon hoff
        refine ⟨_, rfl, fun K hK => ?_⟩
        have e41 : a.tmps[41]? = some (.bool true) := by rw [ha]; exact putSel_on (e := (4, 41, .bool true)) 4 rfl rfl (hon 4 (by kernel_rfl)) rfl
        replace ha := Aside0.mk ha
        have FF := Aside0.mk Q_FF
        refine value_ (w1 := w') (v := .bool true) (by rfl) rfl ?_ ?_
        · go_simp
          (try simp only [i64_w])
          try rfl
        refine hK.out _ _ ⟨(by rw [ha.out]; exact putSel_upk 5 hb_ rfl rfl rfl), Q_FF⟩
      refine steps_cons ?_ ?_
      · rintro b a w' ⟨ha, Q_FF⟩ hb_ hon hoff
        refine ⟨_, rfl, fun K hK => ?_⟩
        have e6 : a.tmps[6]? = some (.slice Av L.length cv) := by rw [ha]; exact (putSel_off rfl).trans rfl
        have e42 : a.tmps[42]? = some (.bool true) := by rw [ha]; exact putSel_on (e := (5, 42, .bool true)) 5 rfl rfl (hon 5 (by kernel_rfl)) rfl
        replace ha := Aside0.mk ha
        have FF := Aside0.mk Q_FF
        refine value_ (w1 := w') (v := .slice Av L.length cv) (wanted_on rfl rfl rfl (e42.trans (by first | rfl | (simp [*]; done)))) rfl ?_ ?_
        · go_simp
          (try simp only [i64_w])
          try rfl
        refine hK.out _ _ ⟨(by rw [ha.out]; exact putSel_upk 6 hb_ rfl rfl rfl), Q_FF⟩
      refine steps_cons ?_ ?_
      · rintro b a w' ⟨ha, Q_FF⟩ hb_ hon hoff
        refine ⟨_, rfl, fun K hK => ?_⟩
        have e9 : a.tmps[9]? = some (.slice Aw L.length cw) := by rw [ha]; exact (putSel_off rfl).trans rfl
        have e42 : a.tmps[42]? = some (.bool true) := by rw [ha]; exact putSel_on (e := (5, 42, .bool true)) 5 rfl rfl (hon 5 (by kernel_rfl)) rfl
        replace ha := Aside0.mk ha
        have FF := Aside0.mk Q_FF
        refine value_ (w1 := w') (v := .slice Aw L.length cw) (wanted_on rfl rfl rfl (e42.trans (by first | rfl | (simp [*]; done)))) rfl ?_ ?_
        · go_simp
          (try simp only [i64_w])
          try rfl
        refine hK.out _ _ ⟨(by rw [ha.out]; exact putSel_upk 7 hb_ rfl rfl rfl), Q_FF⟩
      refine steps_cons ?_ ?_
      · rintro b a w' ⟨ha, Q_FF⟩ hb_ hon hoff
        refine ⟨_, rfl, fun K hK => ?_⟩
        have e43 : a.tmps[43]? = some (.slice Av L.length cv) := by rw [ha]; exact putSel_on (e := (6, 43, .slice Av L.length cv)) 6 rfl rfl (hon 6 (by kernel_rfl)) rfl
        have e44 : a.tmps[44]? = some (.slice Aw L.length cw) := by rw [ha]; exact putSel_on (e := (7, 44, .slice Aw L.length cw)) 7 rfl rfl (hon 7 (by kernel_rfl)) rfl
        have e42 : a.tmps[42]? = some (.bool true) := by rw [ha]; exact putSel_on (e := (5, 42, .bool true)) 5 rfl rfl (hon 5 (by kernel_rfl)) rfl
        replace ha := Aside0.mk ha
        have FF := Aside0.mk Q_FF
        refine goes_ Try.func24 (by kernel_rfl) rfl #[.slice Av L.length cv, .slice Aw L.length cw] (wanted_on rfl rfl rfl (e42.trans (by first | rfl | (simp [*]; done)))) rfl rfl (by first | (simp only [List.map_toArray, List.map_cons, List.map_nil, Act.eval, Array.getD_eq_getD_getElem?, Option.getD_some, e43, e44, e42]; done) | (simp only [List.map_toArray, List.map_cons, List.map_nil, Act.eval, Array.getD_eq_getD_getElem?, Option.getD_some, e43, e44, e42]; rfl)) ?_
        (with_reducible refine (sackbutref01_Same.calls 5000 Av cv L Aw cw L true w' FF.out.rv.1 FF.out.rv.2 FF.out.rw.1 FF.out.rw.2 HSM.out).mono ?_)
        rintro e w1_ ⟨rfl, hbl_⟩
        refine ⟨_, rfl, ?_⟩
        refine hK.out _ _ ⟨(by rw [ha.out]; exact putSel_upk 8 hb_ rfl rfl rfl), FF.out.below hbl_.below⟩
      refine steps_cons ?_ ?_
      · rintro b a w' ⟨ha, Q_FF⟩ hb_ hon hoff
        refine ⟨_, rfl, fun K hK => ?_⟩
        have e42 : a.tmps[42]? = some (.bool true) := by rw [ha]; exact putSel_on (e := (5, 42, .bool true)) 5 rfl rfl (hon 5 (by kernel_rfl)) rfl
        have e45 : a.tmps[45]? = some (.bool true) := by rw [ha]; exact putSel_on (e := (8, 45, .bool true)) 8 rfl rfl (hon 8 (by kernel_rfl)) rfl
        replace ha := Aside0.mk ha
        have FF := Aside0.mk Q_FF
        refine value_ (w1 := w') (v := .bool true) (by rfl) rfl ?_ ?_
        · go_simp
          (try simp only [i64_w])
          try rfl
        refine hK.out _ _ ⟨(by rw [ha.out]; exact putSel_upk 9 hb_ rfl rfl rfl), Q_FF⟩
      refine steps_cons ?_ ?_
      · rintro b a w' ⟨ha, Q_FF⟩ hb_ hon hoff
        refine ⟨_, rfl, fun K hK => ?_⟩
        have e46 : a.tmps[46]? = some (.bool true) := by rw [ha]; exact putSel_on (e := (9, 46, .bool true)) 9 rfl rfl (hon 9 (by kernel_rfl)) rfl
        replace ha := Aside0.mk ha
        have FF := Aside0.mk Q_FF
        refine value_ (w1 := w') (v := .bool true) (by rfl) rfl ?_ ?_
        · go_simp
          (try simp only [i64_w])
          try rfl
        refine hK.out _ _ ⟨(by rw [ha.out]; exact putSel_upk 10 hb_ rfl rfl rfl), Q_FF⟩
      refine steps_cons ?_ ?_
      · rintro b a w' ⟨ha, Q_FF⟩ hb_ hon hoff
        refine ⟨_, rfl, fun K hK => ?_⟩
        have e7 : a.tmps[7]? = some (.pointer (some ⟨b7, 0, none⟩)) := by rw [ha]; exact (putSel_off rfl).trans rfl
        have e47 : a.tmps[47]? = some (.bool true) := by rw [ha]; exact putSel_on (e := (10, 47, .bool true)) 10 rfl rfl (hon 10 (by kernel_rfl)) rfl
        replace ha := Aside0.mk ha
        have FF := Aside0.mk Q_FF
        have q8_ : w'.cell? ⟨b7, 0, none⟩ = some (.int .i64 P) := (blk_cell FF.out.x7 0).trans rfl
        have q9_ : w'.cell? ⟨b7, 1, none⟩ = some (.slice Ak Kl.length ck) := (blk_cell FF.out.x7 1).trans rfl
        refine value_ (w1 := w') (v := .agg #[.int .i64 P, .slice Ak Kl.length ck]) (wanted_on rfl rfl rfl (e47.trans (by first | rfl | (simp [*]; done)))) rfl ?_ ?_
        · go_simp
          (try simp only [i64_w])
          try rfl
        refine hK.out _ _ ⟨(by rw [ha.out]; exact putSel_upk 11 hb_ rfl rfl rfl), Q_FF⟩
      refine steps_cons ?_ ?_
      · rintro b a w' ⟨ha, Q_FF⟩ hb_ hon hoff
        refine ⟨_, rfl, fun K hK => ?_⟩
        have e10 : a.tmps[10]? = some (.pointer (some ⟨b10, 0, none⟩)) := by rw [ha]; exact (putSel_off rfl).trans rfl
        have e47 : a.tmps[47]? = some (.bool true) := by rw [ha]; exact putSel_on (e := (10, 47, .bool true)) 10 rfl rfl (hon 10 (by kernel_rfl)) rfl
        replace ha := Aside0.mk ha
        have FF := Aside0.mk Q_FF
        have q8_ : w'.cell? ⟨b10, 0, none⟩ = some (.int .i64 P) := (blk_cell FF.out.x10 0).trans rfl
        have q9_ : w'.cell? ⟨b10, 1, none⟩ = some (.slice Al Kl.length cl) := (blk_cell FF.out.x10 1).trans rfl
        refine value_ (w1 := w') (v := .agg #[.int .i64 P, .slice Al Kl.length cl]) (wanted_on rfl rfl rfl (e47.trans (by first | rfl | (simp [*]; done)))) rfl ?_ ?_
        · go_simp
          (try simp only [i64_w])
          try rfl
        refine hK.out _ _ ⟨(by rw [ha.out]; exact putSel_upk 12 hb_ rfl rfl rfl), Q_FF⟩
      refine steps_cons ?_ ?_
      · rintro b a w' ⟨ha, Q_FF⟩ hb_ hon hoff
        refine ⟨_, rfl, fun K hK => ?_⟩
        have e48 : a.tmps[48]? = some (.agg #[.int .i64 P, .slice Ak Kl.length ck]) := by rw [ha]; exact putSel_on (e := (11, 48, .agg #[.int .i64 P, .slice Ak Kl.length ck])) 11 rfl rfl (hon 11 (by kernel_rfl)) rfl
        have e49 : a.tmps[49]? = some (.agg #[.int .i64 P, .slice Al Kl.length cl]) := by rw [ha]; exact putSel_on (e := (12, 49, .agg #[.int .i64 P, .slice Al Kl.length cl])) 12 rfl rfl (hon 12 (by kernel_rfl)) rfl
        have e47 : a.tmps[47]? = some (.bool true) := by rw [ha]; exact putSel_on (e := (10, 47, .bool true)) 10 rfl rfl (hon 10 (by kernel_rfl)) rfl
        replace ha := Aside0.mk ha
        have FF := Aside0.mk Q_FF
        refine goes_ Try.func14 (by kernel_rfl) rfl #[.agg #[.int .i64 P, .slice Ak Kl.length ck], .agg #[.int .i64 P, .slice Al Kl.length cl]] (wanted_on rfl rfl rfl (e47.trans (by first | rfl | (simp [*]; done)))) rfl rfl (by first | (simp only [List.map_toArray, List.map_cons, List.map_nil, Act.eval, Array.getD_eq_getD_getElem?, Option.getD_some, e48, e49, e47]; done) | (simp only [List.map_toArray, List.map_cons, List.map_nil, Act.eval, Array.getD_eq_getD_getElem?, Option.getD_some, e48, e49, e47]; rfl)) ?_
        (with_reducible refine (sackbutref03_Same.calls 5000 P Ak ck Kl P Al cl Kl true w' FF.out.rk.1 FF.out.rk.2 FF.out.rl.1 FF.out.rl.2 HSK.out).mono ?_)
        rintro e w1_ ⟨rfl, hbl_⟩
        refine ⟨_, rfl, ?_⟩
        refine hK.out _ _ ⟨(by rw [ha.out]; exact putSel_upk 13 hb_ rfl rfl rfl), FF.out.below hbl_⟩
      refine steps_cons ?_ ?_
      · rintro b a w' ⟨ha, Q_FF⟩ hb_ hon hoff
        refine ⟨_, rfl, fun K hK => ?_⟩
        have e47 : a.tmps[47]? = some (.bool true) := by rw [ha]; exact putSel_on (e := (10, 47, .bool true)) 10 rfl rfl (hon 10 (by kernel_rfl)) rfl
        have e50 : a.tmps[50]? = some (.bool true) := by rw [ha]; exact putSel_on (e := (13, 50, .bool true)) 13 rfl rfl (hon 13 (by kernel_rfl)) rfl
        replace ha := Aside0.mk ha
        have FF := Aside0.mk Q_FF
        refine value_ (w1 := w') (v := .bool true) (by rfl) rfl ?_ ?_
        · go_simp
          (try simp only [i64_w])
          try rfl
        refine hK.out _ _ ⟨(by rw [ha.out]; exact putSel_upk 14 hb_ rfl rfl rfl), Q_FF⟩
      refine steps_cons ?_ ?_
      · rintro b a w' ⟨ha, Q_FF⟩ hb_ hon hoff
        refine ⟨_, rfl, fun K hK => ?_⟩
        have e51 : a.tmps[51]? = some (.bool true) := by rw [ha]; exact putSel_on (e := (14, 51, .bool true)) 14 rfl rfl (hon 14 (by kernel_rfl)) rfl
        replace ha := Aside0.mk ha
        have FF := Aside0.mk Q_FF
        refine value_ (w1 := w') (v := .bool true) (by rfl) rfl ?_ ?_
        · go_simp
          (try simp only [i64_w])
          try rfl
        refine hK.out _ _ ⟨(by rw [ha.out]; exact putSel_upk 15 hb_ rfl rfl rfl), Q_FF⟩
      refine steps_cons ?_ ?_
      · rintro b a w' ⟨ha, Q_FF⟩ hb_ hon hoff
        refine ⟨_, rfl, fun K hK => ?_⟩
        have e8 : a.tmps[8]? = some (.pointer (some ⟨b8, 0, none⟩)) := by rw [ha]; exact (putSel_off rfl).trans rfl
        have e52 : a.tmps[52]? = some (.bool true) := by rw [ha]; exact putSel_on (e := (15, 52, .bool true)) 15 rfl rfl (hon 15 (by kernel_rfl)) rfl
        replace ha := Aside0.mk ha
        have FF := Aside0.mk Q_FF
        refine value_ (w1 := w') (v := .pointer (some ⟨b8, 2, none⟩)) (wanted_on rfl rfl rfl (e52.trans (by first | rfl | (simp [*]; done)))) rfl ?_ ?_
        · go_simp
          (try simp only [i64_w])
          try rfl
        refine hK.out _ _ ⟨(by rw [ha.out]; exact putSel_upk 16 hb_ rfl rfl rfl), Q_FF⟩
      refine steps_cons ?_ ?_
      · rintro b a w' ⟨ha, Q_FF⟩ hb_ hon hoff
        refine ⟨_, rfl, fun K hK => ?_⟩
        have e53 : a.tmps[53]? = some (.pointer (some ⟨b8, 2, none⟩)) := by rw [ha]; exact putSel_on (e := (16, 53, .pointer (some ⟨b8, 2, none⟩))) 16 rfl rfl (hon 16 (by kernel_rfl)) rfl
        have e52 : a.tmps[52]? = some (.bool true) := by rw [ha]; exact putSel_on (e := (15, 52, .bool true)) 15 rfl rfl (hon 15 (by kernel_rfl)) rfl
        replace ha := Aside0.mk ha
        have FF := Aside0.mk Q_FF
        have q8_ : w'.cell? ⟨b8, 2, none⟩ = some (.int .i64 e) := (blk_cell FF.out.x8 2).trans rfl
        refine value_ (w1 := w') (v := .int .i64 e) (wanted_on rfl rfl rfl (e52.trans (by first | rfl | (simp [*]; done)))) rfl ?_ ?_
        · go_simp
          (try simp only [i64_w])
          try rfl
        refine hK.out _ _ ⟨(by rw [ha.out]; exact putSel_upk 17 hb_ rfl rfl rfl), Q_FF⟩
      refine steps_cons ?_ ?_
      · rintro b a w' ⟨ha, Q_FF⟩ hb_ hon hoff
        refine ⟨_, rfl, fun K hK => ?_⟩
        have e54 : a.tmps[54]? = some (.int .i64 e) := by rw [ha]; exact putSel_on (e := (17, 54, .int .i64 e)) 17 rfl rfl (hon 17 (by kernel_rfl)) rfl
        have e52 : a.tmps[52]? = some (.bool true) := by rw [ha]; exact putSel_on (e := (15, 52, .bool true)) 15 rfl rfl (hon 15 (by kernel_rfl)) rfl
        replace ha := Aside0.mk ha
        have FF := Aside0.mk Q_FF
        have q8_ : (e != 0) = false := HE0.out
        refine value_ (w1 := w') (v := .bool false) (wanted_on rfl rfl rfl (e52.trans (by first | rfl | (simp [*]; done)))) rfl ?_ ?_
        · go_simp
          (try simp only [i64_w])
          try rfl
        refine hK.out _ _ ⟨(by rw [ha.out]; exact putSel_upk 18 hb_ rfl rfl rfl), Q_FF⟩
      refine steps_cons ?_ ?_
      · rintro b a w' ⟨ha, Q_FF⟩ hb_ hon hoff
        refine ⟨_, rfl, fun K hK => ?_⟩
        have e55 : a.tmps[55]? = some (.bool false) := by rw [ha]; exact putSel_on (e := (18, 55, .bool false)) 18 rfl rfl (hon 18 (by kernel_rfl)) rfl
        have e52 : a.tmps[52]? = some (.bool true) := by rw [ha]; exact putSel_on (e := (15, 52, .bool true)) 15 rfl rfl (hon 15 (by kernel_rfl)) rfl
        replace ha := Aside0.mk ha
        have FF := Aside0.mk Q_FF
        refine value_ (w1 := w') (v := .bool false) (wanted_on rfl rfl rfl (e52.trans (by first | rfl | (simp [*]; done)))) rfl ?_ ?_
        · go_simp
          (try simp only [i64_w])
          try rfl
        refine hK.out _ _ ⟨(by rw [ha.out]; exact putSel_upk 19 hb_ rfl rfl rfl), Q_FF⟩
      refine steps_cons ?_ ?_
      · rintro b a w' ⟨ha, Q_FF⟩ hb_ hon hoff
        refine ⟨_, rfl, fun K hK => ?_⟩
        have e5 : a.tmps[5]? = some (.pointer (some ⟨g, 0, none⟩)) := by rw [ha]; exact (putSel_off rfl).trans rfl
        have e56 : a.tmps[56]? = some (.bool false) := by rw [ha]; exact putSel_on (e := (19, 56, .bool false)) 19 rfl rfl (hon 19 (by kernel_rfl)) rfl
        replace ha := Aside0.mk ha
        have FF := Aside0.mk Q_FF
        refine value_ (w1 := w') (v := .pointer (some ⟨g, 0, none⟩)) (wanted_on rfl rfl rfl (e56.trans (by first | rfl | (simp [*]; done)))) rfl ?_ ?_
        · go_simp
          (try simp only [i64_w])
          try rfl
        refine hK.out _ _ ⟨(by rw [ha.out]; exact putSel_upk 20 hb_ rfl rfl rfl), Q_FF⟩
      refine steps_cons ?_ ?_
      · rintro b a w' ⟨ha, Q_FF⟩ hb_ hon hoff
        refine ⟨_, rfl, fun K hK => ?_⟩
        have e57 : a.tmps[57]? = some (.pointer (some ⟨g, 0, none⟩)) := by rw [ha]; exact putSel_on (e := (20, 57, .pointer (some ⟨g, 0, none⟩))) 20 rfl rfl (hon 20 (by kernel_rfl)) rfl
        have e56 : a.tmps[56]? = some (.bool false) := by rw [ha]; exact putSel_on (e := (19, 56, .bool false)) 19 rfl rfl (hon 19 (by kernel_rfl)) rfl
        replace ha := Aside0.mk ha
        have FF := Aside0.mk Q_FF
        refine goes_ Try.func25 (by kernel_rfl) rfl #[.pointer (some ⟨g, 0, none⟩)] (wanted_on rfl rfl rfl (e56.trans (by first | rfl | (simp [*]; done)))) rfl rfl (by first | (simp only [List.map_toArray, List.map_cons, List.map_nil, Act.eval, Array.getD_eq_getD_getElem?, Option.getD_some, e57, e56]; done) | (simp only [List.map_toArray, List.map_cons, List.map_nil, Act.eval, Array.getD_eq_getD_getElem?, Option.getD_some, e57, e56]; rfl)) ?_
        (with_reducible refine (left_q w w' g bl p e (t.size : Int) FF.out.is FF.out.bel HLF.out).mono ?_)
        rintro e w1_ ⟨rfl, hbl_⟩
        refine ⟨_, rfl, ?_⟩
        refine hK.out _ _ ⟨(by rw [ha.out]; exact putSel_upk 21 hb_ rfl rfl rfl), FF.out.below hbl_⟩
      refine steps_cons ?_ ?_
      · rintro b a w' ⟨ha, Q_FF⟩ hb_ hon hoff
        refine ⟨_, rfl, fun K hK => ?_⟩
        have e8 : a.tmps[8]? = some (.pointer (some ⟨b8, 0, none⟩)) := by rw [ha]; exact (putSel_off rfl).trans rfl
        have e56 : a.tmps[56]? = some (.bool false) := by rw [ha]; exact putSel_on (e := (19, 56, .bool false)) 19 rfl rfl (hon 19 (by kernel_rfl)) rfl
        replace ha := Aside0.mk ha
        have FF := Aside0.mk Q_FF
        refine value_ (w1 := w') (v := .pointer (some ⟨b8, 0, none⟩)) (wanted_on rfl rfl rfl (e56.trans (by first | rfl | (simp [*]; done)))) rfl ?_ ?_
        · go_simp
          (try simp only [i64_w])
          try rfl
        refine hK.out _ _ ⟨(by rw [ha.out]; exact putSel_upk 22 hb_ rfl rfl rfl), Q_FF⟩
      refine steps_cons ?_ ?_
      · rintro b a w' ⟨ha, Q_FF⟩ hb_ hon hoff
        refine ⟨_, rfl, fun K hK => ?_⟩
        have e59 : a.tmps[59]? = some (.pointer (some ⟨b8, 0, none⟩)) := by rw [ha]; exact putSel_on (e := (22, 59, .pointer (some ⟨b8, 0, none⟩))) 22 rfl rfl (hon 22 (by kernel_rfl)) rfl
        have e56 : a.tmps[56]? = some (.bool false) := by rw [ha]; exact putSel_on (e := (19, 56, .bool false)) 19 rfl rfl (hon 19 (by kernel_rfl)) rfl
        replace ha := Aside0.mk ha
        have FF := Aside0.mk Q_FF
        have q8_ : w'.cell? ⟨b8, 0, none⟩ = some (.string t) := (blk_cell FF.out.x8 0).trans rfl
        refine value_ (w1 := w') (v := .string t) (wanted_on rfl rfl rfl (e56.trans (by first | rfl | (simp [*]; done)))) rfl ?_ ?_
        · go_simp
          (try simp only [i64_w])
          try rfl
        refine hK.out _ _ ⟨(by rw [ha.out]; exact putSel_upk 23 hb_ rfl rfl rfl), Q_FF⟩
      refine steps_cons ?_ ?_
      · rintro b a w' ⟨ha, Q_FF⟩ hb_ hon hoff
        refine ⟨_, rfl, fun K hK => ?_⟩
        have e60 : a.tmps[60]? = some (.string t) := by rw [ha]; exact putSel_on (e := (23, 60, .string t)) 23 rfl rfl (hon 23 (by kernel_rfl)) rfl
        have e56 : a.tmps[56]? = some (.bool false) := by rw [ha]; exact putSel_on (e := (19, 56, .bool false)) 19 rfl rfl (hon 19 (by kernel_rfl)) rfl
        replace ha := Aside0.mk ha
        have FF := Aside0.mk Q_FF
        refine value_ (w1 := w') (v := .int .i64 (t.size : Int)) (wanted_on rfl rfl rfl (e56.trans (by first | rfl | (simp [*]; done)))) rfl ?_ ?_
        · go_simp
          (try simp only [i64_w])
          try rfl
        refine hK.out _ _ ⟨(by rw [ha.out]; exact putSel_upk 24 hb_ rfl rfl rfl), Q_FF⟩
      refine steps_cons ?_ ?_
      · rintro b a w' ⟨ha, Q_FF⟩ hb_ hon hoff
        refine ⟨_, rfl, fun K hK => ?_⟩
        have e58 : a.tmps[58]? = some (.int .i64 (t.size : Int)) := by rw [ha]; exact putSel_on (e := (21, 58, .int .i64 (t.size : Int))) 21 rfl rfl (hon 21 (by kernel_rfl)) rfl
        have e61 : a.tmps[61]? = some (.int .i64 (t.size : Int)) := by rw [ha]; exact putSel_on (e := (24, 61, .int .i64 (t.size : Int))) 24 rfl rfl (hon 24 (by kernel_rfl)) rfl
        have e56 : a.tmps[56]? = some (.bool false) := by rw [ha]; exact putSel_on (e := (19, 56, .bool false)) 19 rfl rfl (hon 19 (by kernel_rfl)) rfl
        replace ha := Aside0.mk ha
        have FF := Aside0.mk Q_FF
        refine value_ (w1 := w') (v := .bool true) (wanted_on rfl rfl rfl (e56.trans (by first | rfl | (simp [*]; done)))) rfl ?_ ?_
        · go_simp
          (try simp only [i64_w])
          try rfl
        refine hK.out _ _ ⟨(by rw [ha.out]; exact putSel_upk 25 hb_ rfl rfl rfl), Q_FF⟩
      refine steps_cons ?_ ?_
      · rintro b a w' ⟨ha, Q_FF⟩ hb_ hon hoff
        refine ⟨_, rfl, fun K hK => ?_⟩
        have e56 : a.tmps[56]? = some (.bool false) := by rw [ha]; exact putSel_on (e := (19, 56, .bool false)) 19 rfl rfl (hon 19 (by kernel_rfl)) rfl
        have e62 : a.tmps[62]? = some (.bool true) := by rw [ha]; exact putSel_on (e := (25, 62, .bool true)) 25 rfl rfl (hon 25 (by kernel_rfl)) rfl
        have e52 : a.tmps[52]? = some (.bool true) := by rw [ha]; exact putSel_on (e := (15, 52, .bool true)) 15 rfl rfl (hon 15 (by kernel_rfl)) rfl
        replace ha := Aside0.mk ha
        have FF := Aside0.mk Q_FF
        refine value_ (w1 := w') (v := .bool true) (wanted_on rfl rfl rfl (e52.trans (by first | rfl | (simp [*]; done)))) rfl ?_ ?_
        · go_simp
          (try simp only [i64_w])
          try rfl
        refine hK.out _ _ ⟨(by rw [ha.out]; exact putSel_upk 26 hb_ rfl rfl rfl), Q_FF⟩
      refine steps_cons ?_ ?_
      · rintro b a w' ⟨ha, Q_FF⟩ hb_ hon hoff
        refine ⟨_, rfl, fun K hK => ?_⟩
        have e52 : a.tmps[52]? = some (.bool true) := by rw [ha]; exact putSel_on (e := (15, 52, .bool true)) 15 rfl rfl (hon 15 (by kernel_rfl)) rfl
        have e63 : a.tmps[63]? = some (.bool true) := by rw [ha]; exact putSel_on (e := (26, 63, .bool true)) 26 rfl rfl (hon 26 (by kernel_rfl)) rfl
        replace ha := Aside0.mk ha
        have FF := Aside0.mk Q_FF
        refine value_ (w1 := w') (v := .bool true) (by rfl) rfl ?_ ?_
        · go_simp
          (try simp only [i64_w])
          try rfl
        refine hK.out _ _ ⟨(by rw [ha.out]; exact putSel_upk 27 hb_ rfl rfl rfl), Q_FF⟩
      refine steps_cons ?_ ?_
      · rintro b a w' ⟨ha, Q_FF⟩ hb_ hon hoff
        refine ⟨_, rfl, fun K hK => ?_⟩
        have e64 : a.tmps[64]? = some (.bool true) := by rw [ha]; exact putSel_on (e := (27, 64, .bool true)) 27 rfl rfl (hon 27 (by kernel_rfl)) rfl
        replace ha := Aside0.mk ha
        have FF := Aside0.mk Q_FF
        refine value_ (w1 := w') (v := .bool true) (by rfl) rfl ?_ ?_
        · go_simp
          (try simp only [i64_w])
          try rfl
        refine hK.out _ _ ⟨(by rw [ha.out]; exact putSel_upk 28 hb_ rfl rfl rfl), Q_FF⟩
      exact steps_nil
    · rintro b a w' hall ⟨ha, Q_FF⟩
      have hb0_ := hall 0 (by kernel_rfl)
      have hb1_ := hall 1 (by kernel_rfl)
      have hb2_ := hall 2 (by kernel_rfl)
      have hb3_ := hall 3 (by kernel_rfl)
      have hb4_ := hall 4 (by kernel_rfl)
      have hb5_ := hall 5 (by kernel_rfl)
      have hb6_ := hall 6 (by kernel_rfl)
      have hb7_ := hall 7 (by kernel_rfl)
      have hb8_ := hall 8 (by kernel_rfl)
      have hb9_ := hall 9 (by kernel_rfl)
      have hb10_ := hall 10 (by kernel_rfl)
      have hb11_ := hall 11 (by kernel_rfl)
      have hb12_ := hall 12 (by kernel_rfl)
      have hb13_ := hall 13 (by kernel_rfl)
      have hb14_ := hall 14 (by kernel_rfl)
      have hb15_ := hall 15 (by kernel_rfl)
      have hb16_ := hall 16 (by kernel_rfl)
      have hb17_ := hall 17 (by kernel_rfl)
      have hb18_ := hall 18 (by kernel_rfl)
      have hb19_ := hall 19 (by kernel_rfl)
      have hb20_ := hall 20 (by kernel_rfl)
      have hb21_ := hall 21 (by kernel_rfl)
      have hb22_ := hall 22 (by kernel_rfl)
      have hb23_ := hall 23 (by kernel_rfl)
      have hb24_ := hall 24 (by kernel_rfl)
      have hb25_ := hall 25 (by kernel_rfl)
      have hb26_ := hall 26 (by kernel_rfl)
      have hb27_ := hall 27 (by kernel_rfl)
      have hb28_ := hall 28 (by kernel_rfl)
      subst ha
      simp only [putSel, hb0_, hb1_, hb2_, hb3_, hb4_, hb5_, hb6_, hb7_, hb8_, hb9_, hb10_, hb11_, hb12_, hb13_, hb14_, hb15_, hb16_, hb17_, hb18_, hb19_, hb20_, hb21_, hb22_, hb23_, hb24_, hb25_, hb26_, hb27_, hb28_, if_true, Act.put, List.setIfInBounds_toArray, List.set_cons_zero, List.set_cons_succ]
      have FF := Aside0.mk Q_FF
      clear Q_FF
      clear hall hb0_ hb1_ hb2_ hb3_ hb4_ hb5_ hb6_ hb7_ hb8_ hb9_ hb10_ hb11_ hb12_ hb13_ hb14_ hb15_ hb16_ hb17_ hb18_ hb19_ hb20_ hb21_ hb22_ hb23_ hb24_ hb25_ hb26_ hb27_ hb28_
      have HBF := FF
      go_wp2
      go_ret
      exact ⟨rfl, HBF.out.bel⟩
  · have HE0 : Aside0 ((e != 0) = true) := ⟨by simp [he0]⟩
    clear he0 HLF0
    refine start_ (n := 29) (S := fun w' => True) (ds := []) #[false, false, false, false, false, false, false, false, false, false, false, false, false, false, false, false, false, false, false, false, false, false, false, false, false, false, false, false, false] (by kernel_rfl) rfl rfl trivial (fun hHeld => ?_)
    refine with_tabW sackbutlaw03_SlideTakes.tab8 sackbutlaw03_SlideTakes.bits8 (fun HT_ HW_ => ?_)
    obtain ⟨wd, hwd⟩ : ∃ wd, w7.drew = wd := ⟨_, rfl⟩
    rw [hwd]
    have HFD : Aside0 (Fx w wd g bl p e b7 b8 b10 L Kl P ra t Av cv Aw cw Ak ck Al cl) := ⟨by rw [← hwd]; exact HF.out⟩
    clear hwd hHeld
    refine inv_at [0, 1, 2, 3, 4, 5, 6, 7, 8, 9, 10, 11, 12, 13, 14, 15, 16, 17, 18, 19, 20, 21, 22, 23, 24, 25, 26, 27, 28] (fun a0_ b a w' => a = putSel a0_ b [(0, 37, .pointer (some ⟨g, 0, none⟩)), (1, 38, .int .i64 e), (2, 39, .pointer (some ⟨b8, 2, none⟩)), (3, 40, .int .i64 e), (4, 41, .bool true), (5, 42, .bool true), (6, 43, .slice Av L.length cv), (7, 44, .slice Aw L.length cw), (8, 45, .bool true), (9, 46, .bool true), (10, 47, .bool true), (11, 48, .agg #[.int .i64 P, .slice Ak Kl.length ck]), (12, 49, .agg #[.int .i64 P, .slice Al Kl.length cl]), (13, 50, .bool true), (14, 51, .bool true), (15, 52, .bool true), (16, 53, .pointer (some ⟨b8, 2, none⟩)), (17, 54, .int .i64 e), (18, 55, .bool true), (19, 56, .bool true), (20, 57, undef), (21, 58, undef), (22, 59, undef), (23, 60, undef), (24, 61, undef), (25, 62, undef), (26, 63, .bool true), (27, 64, .bool true), (28, 4, .bool true)] ∧ (Fx w w' g bl p e b7 b8 b10 L Kl P ra t Av cv Aw cw Ak ck Al cl)) HT_.out HW_.out (by kernel_rfl) (by kernel_rfl) ?_ ?_ ?_
    · exact ⟨by simp only [putSel, Bool.false_eq_true, if_false], HFD.out⟩
    · skip
      refine steps_cons ?_ ?_
      · rintro b a w' ⟨ha, Q_FF⟩ hb_ hon hoff
        refine ⟨_, rfl, fun K hK => ?_⟩
        have e5 : a.tmps[5]? = some (.pointer (some ⟨g, 0, none⟩)) := by rw [ha]; exact (putSel_off rfl).trans rfl
        replace ha := Aside0.mk ha
        have FF := Aside0.mk Q_FF
        refine value_ (w1 := w') (v := .pointer (some ⟨g, 0, none⟩)) (by rfl) rfl ?_ ?_
        · go_simp
          (try simp only [i64_w])
          try rfl
        refine hK.out _ _ ⟨(by rw [ha.out]; exact putSel_upk 0 hb_ rfl rfl rfl), Q_FF⟩
      refine steps_cons ?_ ?_
      · rintro b a w' ⟨ha, Q_FF⟩ hb_ hon hoff
        refine ⟨_, rfl, fun K hK => ?_⟩
        have e37 : a.tmps[37]? = some (.pointer (some ⟨g, 0, none⟩)) := by rw [ha]; exact putSel_on (e := (0, 37, .pointer (some ⟨g, 0, none⟩))) 0 rfl rfl (hon 0 (by kernel_rfl)) rfl
        replace ha := Aside0.mk ha
        have FF := Aside0.mk Q_FF
        refine goes_ Try.func23 (by kernel_rfl) rfl #[.pointer (some ⟨g, 0, none⟩)] (by rfl) rfl rfl (by first | (simp only [List.map_toArray, List.map_cons, List.map_nil, Act.eval, Array.getD_eq_getD_getElem?, Option.getD_some, e37]; done) | (simp only [List.map_toArray, List.map_cons, List.map_nil, Act.eval, Array.getD_eq_getD_getElem?, Option.getD_some, e37]; rfl)) ?_
        (with_reducible refine (fail_q w w' g bl p e FF.out.is).mono ?_)
        rintro e w1_ ⟨rfl, rfl⟩
        refine ⟨_, rfl, ?_⟩
        refine hK.out _ _ ⟨(by rw [ha.out]; exact putSel_upk 1 hb_ rfl rfl rfl), Q_FF⟩
      refine steps_cons ?_ ?_
      · rintro b a w' ⟨ha, Q_FF⟩ hb_ hon hoff
        refine ⟨_, rfl, fun K hK => ?_⟩
        have e8 : a.tmps[8]? = some (.pointer (some ⟨b8, 0, none⟩)) := by rw [ha]; exact (putSel_off rfl).trans rfl
        replace ha := Aside0.mk ha
        have FF := Aside0.mk Q_FF
        refine value_ (w1 := w') (v := .pointer (some ⟨b8, 2, none⟩)) (by rfl) rfl ?_ ?_
        · go_simp
          (try simp only [i64_w])
          try rfl
        refine hK.out _ _ ⟨(by rw [ha.out]; exact putSel_upk 2 hb_ rfl rfl rfl), Q_FF⟩
      refine steps_cons ?_ ?_
      · rintro b a w' ⟨ha, Q_FF⟩ hb_ hon hoff
        refine ⟨_, rfl, fun K hK => ?_⟩
        have e39 : a.tmps[39]? = some (.pointer (some ⟨b8, 2, none⟩)) := by rw [ha]; exact putSel_on (e := (2, 39, .pointer (some ⟨b8, 2, none⟩))) 2 rfl rfl (hon 2 (by kernel_rfl)) rfl
        replace ha := Aside0.mk ha
        have FF := Aside0.mk Q_FF
        have q8_ : w'.cell? ⟨b8, 2, none⟩ = some (.int .i64 e) := (blk_cell FF.out.x8 2).trans rfl
        refine value_ (w1 := w') (v := .int .i64 e) (by rfl) rfl ?_ ?_
        · go_simp
          (try simp only [i64_w])
          try rfl
        refine hK.out _ _ ⟨(by rw [ha.out]; exact putSel_upk 3 hb_ rfl rfl rfl), Q_FF⟩
      refine steps_cons ?_ ?_
      · rintro b a w' ⟨ha, Q_FF⟩ hb_ hon hoff
        refine ⟨_, rfl, fun K hK => ?_⟩
        have e38 : a.tmps[38]? = some (.int .i64 e) := by rw [ha]; exact putSel_on (e := (1, 38, .int .i64 e)) 1 rfl rfl (hon 1 (by kernel_rfl)) rfl
        have e40 : a.tmps[40]? = some (.int .i64 e) := by rw [ha]; exact putSel_on (e := (3, 40, .int .i64 e)) 3 rfl rfl (hon 3 (by kernel_rfl)) rfl
        replace ha := Aside0.mk ha
        have FF := Aside0.mk Q_FF
        refine value_ (w1 := w') (v := .bool true) (by rfl) rfl ?_ ?_
        · go_simp
          (try simp only [i64_w])
          try rfl
        refine hK.out _ _ ⟨(by rw [ha.out]; exact putSel_upk 4 hb_ rfl rfl rfl), Q_FF⟩
      refine steps_cons ?_ ?_
      · rintro b a w' ⟨ha, Q_FF⟩ hb_ hon hoff
        refine ⟨_, rfl, fun K hK => ?_⟩
        have e41 : a.tmps[41]? = some (.bool true) := by rw [ha]; exact putSel_on (e := (4, 41, .bool true)) 4 rfl rfl (hon 4 (by kernel_rfl)) rfl
        replace ha := Aside0.mk ha
        have FF := Aside0.mk Q_FF
        refine value_ (w1 := w') (v := .bool true) (by rfl) rfl ?_ ?_
        · go_simp
          (try simp only [i64_w])
          try rfl
        refine hK.out _ _ ⟨(by rw [ha.out]; exact putSel_upk 5 hb_ rfl rfl rfl), Q_FF⟩
      refine steps_cons ?_ ?_
      · rintro b a w' ⟨ha, Q_FF⟩ hb_ hon hoff
        refine ⟨_, rfl, fun K hK => ?_⟩
        have e6 : a.tmps[6]? = some (.slice Av L.length cv) := by rw [ha]; exact (putSel_off rfl).trans rfl
        have e42 : a.tmps[42]? = some (.bool true) := by rw [ha]; exact putSel_on (e := (5, 42, .bool true)) 5 rfl rfl (hon 5 (by kernel_rfl)) rfl
        replace ha := Aside0.mk ha
        have FF := Aside0.mk Q_FF
        refine value_ (w1 := w') (v := .slice Av L.length cv) (wanted_on rfl rfl rfl (e42.trans (by first | rfl | (simp [*]; done)))) rfl ?_ ?_
        · go_simp
          (try simp only [i64_w])
          try rfl
        refine hK.out _ _ ⟨(by rw [ha.out]; exact putSel_upk 6 hb_ rfl rfl rfl), Q_FF⟩
      refine steps_cons ?_ ?_
      · rintro b a w' ⟨ha, Q_FF⟩ hb_ hon hoff
        refine ⟨_, rfl, fun K hK => ?_⟩
        have e9 : a.tmps[9]? = some (.slice Aw L.length cw) := by rw [ha]; exact (putSel_off rfl).trans rfl
        have e42 : a.tmps[42]? = some (.bool true) := by rw [ha]; exact putSel_on (e := (5, 42, .bool true)) 5 rfl rfl (hon 5 (by kernel_rfl)) rfl
        replace ha := Aside0.mk ha
        have FF := Aside0.mk Q_FF
        refine value_ (w1 := w') (v := .slice Aw L.length cw) (wanted_on rfl rfl rfl (e42.trans (by first | rfl | (simp [*]; done)))) rfl ?_ ?_
        · go_simp
          (try simp only [i64_w])
          try rfl
        refine hK.out _ _ ⟨(by rw [ha.out]; exact putSel_upk 7 hb_ rfl rfl rfl), Q_FF⟩
      refine steps_cons ?_ ?_
      · rintro b a w' ⟨ha, Q_FF⟩ hb_ hon hoff
        refine ⟨_, rfl, fun K hK => ?_⟩
        have e43 : a.tmps[43]? = some (.slice Av L.length cv) := by rw [ha]; exact putSel_on (e := (6, 43, .slice Av L.length cv)) 6 rfl rfl (hon 6 (by kernel_rfl)) rfl
        have e44 : a.tmps[44]? = some (.slice Aw L.length cw) := by rw [ha]; exact putSel_on (e := (7, 44, .slice Aw L.length cw)) 7 rfl rfl (hon 7 (by kernel_rfl)) rfl
        have e42 : a.tmps[42]? = some (.bool true) := by rw [ha]; exact putSel_on (e := (5, 42, .bool true)) 5 rfl rfl (hon 5 (by kernel_rfl)) rfl
        replace ha := Aside0.mk ha
        have FF := Aside0.mk Q_FF
        refine goes_ Try.func24 (by kernel_rfl) rfl #[.slice Av L.length cv, .slice Aw L.length cw] (wanted_on rfl rfl rfl (e42.trans (by first | rfl | (simp [*]; done)))) rfl rfl (by first | (simp only [List.map_toArray, List.map_cons, List.map_nil, Act.eval, Array.getD_eq_getD_getElem?, Option.getD_some, e43, e44, e42]; done) | (simp only [List.map_toArray, List.map_cons, List.map_nil, Act.eval, Array.getD_eq_getD_getElem?, Option.getD_some, e43, e44, e42]; rfl)) ?_
        (with_reducible refine (sackbutref01_Same.calls 5000 Av cv L Aw cw L true w' FF.out.rv.1 FF.out.rv.2 FF.out.rw.1 FF.out.rw.2 HSM.out).mono ?_)
        rintro e w1_ ⟨rfl, hbl_⟩
        refine ⟨_, rfl, ?_⟩
        refine hK.out _ _ ⟨(by rw [ha.out]; exact putSel_upk 8 hb_ rfl rfl rfl), FF.out.below hbl_.below⟩
      refine steps_cons ?_ ?_
      · rintro b a w' ⟨ha, Q_FF⟩ hb_ hon hoff
        refine ⟨_, rfl, fun K hK => ?_⟩
        have e42 : a.tmps[42]? = some (.bool true) := by rw [ha]; exact putSel_on (e := (5, 42, .bool true)) 5 rfl rfl (hon 5 (by kernel_rfl)) rfl
        have e45 : a.tmps[45]? = some (.bool true) := by rw [ha]; exact putSel_on (e := (8, 45, .bool true)) 8 rfl rfl (hon 8 (by kernel_rfl)) rfl
        replace ha := Aside0.mk ha
        have FF := Aside0.mk Q_FF
        refine value_ (w1 := w') (v := .bool true) (by rfl) rfl ?_ ?_
        · go_simp
          (try simp only [i64_w])
          try rfl
        refine hK.out _ _ ⟨(by rw [ha.out]; exact putSel_upk 9 hb_ rfl rfl rfl), Q_FF⟩
      refine steps_cons ?_ ?_
      · rintro b a w' ⟨ha, Q_FF⟩ hb_ hon hoff
        refine ⟨_, rfl, fun K hK => ?_⟩
        have e46 : a.tmps[46]? = some (.bool true) := by rw [ha]; exact putSel_on (e := (9, 46, .bool true)) 9 rfl rfl (hon 9 (by kernel_rfl)) rfl
        replace ha := Aside0.mk ha
        have FF := Aside0.mk Q_FF
        refine value_ (w1 := w') (v := .bool true) (by rfl) rfl ?_ ?_
        · go_simp
          (try simp only [i64_w])
          try rfl
        refine hK.out _ _ ⟨(by rw [ha.out]; exact putSel_upk 10 hb_ rfl rfl rfl), Q_FF⟩
      refine steps_cons ?_ ?_
      · rintro b a w' ⟨ha, Q_FF⟩ hb_ hon hoff
        refine ⟨_, rfl, fun K hK => ?_⟩
        have e7 : a.tmps[7]? = some (.pointer (some ⟨b7, 0, none⟩)) := by rw [ha]; exact (putSel_off rfl).trans rfl
        have e47 : a.tmps[47]? = some (.bool true) := by rw [ha]; exact putSel_on (e := (10, 47, .bool true)) 10 rfl rfl (hon 10 (by kernel_rfl)) rfl
        replace ha := Aside0.mk ha
        have FF := Aside0.mk Q_FF
        have q8_ : w'.cell? ⟨b7, 0, none⟩ = some (.int .i64 P) := (blk_cell FF.out.x7 0).trans rfl
        have q9_ : w'.cell? ⟨b7, 1, none⟩ = some (.slice Ak Kl.length ck) := (blk_cell FF.out.x7 1).trans rfl
        refine value_ (w1 := w') (v := .agg #[.int .i64 P, .slice Ak Kl.length ck]) (wanted_on rfl rfl rfl (e47.trans (by first | rfl | (simp [*]; done)))) rfl ?_ ?_
        · go_simp
          (try simp only [i64_w])
          try rfl
        refine hK.out _ _ ⟨(by rw [ha.out]; exact putSel_upk 11 hb_ rfl rfl rfl), Q_FF⟩
      refine steps_cons ?_ ?_
      · rintro b a w' ⟨ha, Q_FF⟩ hb_ hon hoff
        refine ⟨_, rfl, fun K hK => ?_⟩
        have e10 : a.tmps[10]? = some (.pointer (some ⟨b10, 0, none⟩)) := by rw [ha]; exact (putSel_off rfl).trans rfl
        have e47 : a.tmps[47]? = some (.bool true) := by rw [ha]; exact putSel_on (e := (10, 47, .bool true)) 10 rfl rfl (hon 10 (by kernel_rfl)) rfl
        replace ha := Aside0.mk ha
        have FF := Aside0.mk Q_FF
        have q8_ : w'.cell? ⟨b10, 0, none⟩ = some (.int .i64 P) := (blk_cell FF.out.x10 0).trans rfl
        have q9_ : w'.cell? ⟨b10, 1, none⟩ = some (.slice Al Kl.length cl) := (blk_cell FF.out.x10 1).trans rfl
        refine value_ (w1 := w') (v := .agg #[.int .i64 P, .slice Al Kl.length cl]) (wanted_on rfl rfl rfl (e47.trans (by first | rfl | (simp [*]; done)))) rfl ?_ ?_
        · go_simp
          (try simp only [i64_w])
          try rfl
        refine hK.out _ _ ⟨(by rw [ha.out]; exact putSel_upk 12 hb_ rfl rfl rfl), Q_FF⟩
      refine steps_cons ?_ ?_
      · rintro b a w' ⟨ha, Q_FF⟩ hb_ hon hoff
        refine ⟨_, rfl, fun K hK => ?_⟩
        have e48 : a.tmps[48]? = some (.agg #[.int .i64 P, .slice Ak Kl.length ck]) := by rw [ha]; exact putSel_on (e := (11, 48, .agg #[.int .i64 P, .slice Ak Kl.length ck])) 11 rfl rfl (hon 11 (by kernel_rfl)) rfl
        have e49 : a.tmps[49]? = some (.agg #[.int .i64 P, .slice Al Kl.length cl]) := by rw [ha]; exact putSel_on (e := (12, 49, .agg #[.int .i64 P, .slice Al Kl.length cl])) 12 rfl rfl (hon 12 (by kernel_rfl)) rfl
        have e47 : a.tmps[47]? = some (.bool true) := by rw [ha]; exact putSel_on (e := (10, 47, .bool true)) 10 rfl rfl (hon 10 (by kernel_rfl)) rfl
        replace ha := Aside0.mk ha
        have FF := Aside0.mk Q_FF
        refine goes_ Try.func14 (by kernel_rfl) rfl #[.agg #[.int .i64 P, .slice Ak Kl.length ck], .agg #[.int .i64 P, .slice Al Kl.length cl]] (wanted_on rfl rfl rfl (e47.trans (by first | rfl | (simp [*]; done)))) rfl rfl (by first | (simp only [List.map_toArray, List.map_cons, List.map_nil, Act.eval, Array.getD_eq_getD_getElem?, Option.getD_some, e48, e49, e47]; done) | (simp only [List.map_toArray, List.map_cons, List.map_nil, Act.eval, Array.getD_eq_getD_getElem?, Option.getD_some, e48, e49, e47]; rfl)) ?_
        (with_reducible refine (sackbutref03_Same.calls 5000 P Ak ck Kl P Al cl Kl true w' FF.out.rk.1 FF.out.rk.2 FF.out.rl.1 FF.out.rl.2 HSK.out).mono ?_)
        rintro e w1_ ⟨rfl, hbl_⟩
        refine ⟨_, rfl, ?_⟩
        refine hK.out _ _ ⟨(by rw [ha.out]; exact putSel_upk 13 hb_ rfl rfl rfl), FF.out.below hbl_⟩
      refine steps_cons ?_ ?_
      · rintro b a w' ⟨ha, Q_FF⟩ hb_ hon hoff
        refine ⟨_, rfl, fun K hK => ?_⟩
        have e47 : a.tmps[47]? = some (.bool true) := by rw [ha]; exact putSel_on (e := (10, 47, .bool true)) 10 rfl rfl (hon 10 (by kernel_rfl)) rfl
        have e50 : a.tmps[50]? = some (.bool true) := by rw [ha]; exact putSel_on (e := (13, 50, .bool true)) 13 rfl rfl (hon 13 (by kernel_rfl)) rfl
        replace ha := Aside0.mk ha
        have FF := Aside0.mk Q_FF
        refine value_ (w1 := w') (v := .bool true) (by rfl) rfl ?_ ?_
        · go_simp
          (try simp only [i64_w])
          try rfl
        refine hK.out _ _ ⟨(by rw [ha.out]; exact putSel_upk 14 hb_ rfl rfl rfl), Q_FF⟩
      refine steps_cons ?_ ?_
      · rintro b a w' ⟨ha, Q_FF⟩ hb_ hon hoff
        refine ⟨_, rfl, fun K hK => ?_⟩
        have e51 : a.tmps[51]? = some (.bool true) := by rw [ha]; exact putSel_on (e := (14, 51, .bool true)) 14 rfl rfl (hon 14 (by kernel_rfl)) rfl
        replace ha := Aside0.mk ha
        have FF := Aside0.mk Q_FF
        refine value_ (w1 := w') (v := .bool true) (by rfl) rfl ?_ ?_
        · go_simp
          (try simp only [i64_w])
          try rfl
        refine hK.out _ _ ⟨(by rw [ha.out]; exact putSel_upk 15 hb_ rfl rfl rfl), Q_FF⟩
      refine steps_cons ?_ ?_
      · rintro b a w' ⟨ha, Q_FF⟩ hb_ hon hoff
        refine ⟨_, rfl, fun K hK => ?_⟩
        have e8 : a.tmps[8]? = some (.pointer (some ⟨b8, 0, none⟩)) := by rw [ha]; exact (putSel_off rfl).trans rfl
        have e52 : a.tmps[52]? = some (.bool true) := by rw [ha]; exact putSel_on (e := (15, 52, .bool true)) 15 rfl rfl (hon 15 (by kernel_rfl)) rfl
        replace ha := Aside0.mk ha
        have FF := Aside0.mk Q_FF
        refine value_ (w1 := w') (v := .pointer (some ⟨b8, 2, none⟩)) (wanted_on rfl rfl rfl (e52.trans (by first | rfl | (simp [*]; done)))) rfl ?_ ?_
        · go_simp
          (try simp only [i64_w])
          try rfl
        refine hK.out _ _ ⟨(by rw [ha.out]; exact putSel_upk 16 hb_ rfl rfl rfl), Q_FF⟩
      refine steps_cons ?_ ?_
      · rintro b a w' ⟨ha, Q_FF⟩ hb_ hon hoff
        refine ⟨_, rfl, fun K hK => ?_⟩
        have e53 : a.tmps[53]? = some (.pointer (some ⟨b8, 2, none⟩)) := by rw [ha]; exact putSel_on (e := (16, 53, .pointer (some ⟨b8, 2, none⟩))) 16 rfl rfl (hon 16 (by kernel_rfl)) rfl
        have e52 : a.tmps[52]? = some (.bool true) := by rw [ha]; exact putSel_on (e := (15, 52, .bool true)) 15 rfl rfl (hon 15 (by kernel_rfl)) rfl
        replace ha := Aside0.mk ha
        have FF := Aside0.mk Q_FF
        have q8_ : w'.cell? ⟨b8, 2, none⟩ = some (.int .i64 e) := (blk_cell FF.out.x8 2).trans rfl
        refine value_ (w1 := w') (v := .int .i64 e) (wanted_on rfl rfl rfl (e52.trans (by first | rfl | (simp [*]; done)))) rfl ?_ ?_
        · go_simp
          (try simp only [i64_w])
          try rfl
        refine hK.out _ _ ⟨(by rw [ha.out]; exact putSel_upk 17 hb_ rfl rfl rfl), Q_FF⟩
      refine steps_cons ?_ ?_
      · rintro b a w' ⟨ha, Q_FF⟩ hb_ hon hoff
        refine ⟨_, rfl, fun K hK => ?_⟩
        have e54 : a.tmps[54]? = some (.int .i64 e) := by rw [ha]; exact putSel_on (e := (17, 54, .int .i64 e)) 17 rfl rfl (hon 17 (by kernel_rfl)) rfl
        have e52 : a.tmps[52]? = some (.bool true) := by rw [ha]; exact putSel_on (e := (15, 52, .bool true)) 15 rfl rfl (hon 15 (by kernel_rfl)) rfl
        replace ha := Aside0.mk ha
        have FF := Aside0.mk Q_FF
        have q8_ : (e != 0) = true := HE0.out
        refine value_ (w1 := w') (v := .bool true) (wanted_on rfl rfl rfl (e52.trans (by first | rfl | (simp [*]; done)))) rfl ?_ ?_
        · go_simp
          (try simp only [i64_w])
          try rfl
        refine hK.out _ _ ⟨(by rw [ha.out]; exact putSel_upk 18 hb_ rfl rfl rfl), Q_FF⟩
      refine steps_cons ?_ ?_
      · rintro b a w' ⟨ha, Q_FF⟩ hb_ hon hoff
        refine ⟨_, rfl, fun K hK => ?_⟩
        have e55 : a.tmps[55]? = some (.bool true) := by rw [ha]; exact putSel_on (e := (18, 55, .bool true)) 18 rfl rfl (hon 18 (by kernel_rfl)) rfl
        have e52 : a.tmps[52]? = some (.bool true) := by rw [ha]; exact putSel_on (e := (15, 52, .bool true)) 15 rfl rfl (hon 15 (by kernel_rfl)) rfl
        replace ha := Aside0.mk ha
        have FF := Aside0.mk Q_FF
        refine value_ (w1 := w') (v := .bool true) (wanted_on rfl rfl rfl (e52.trans (by first | rfl | (simp [*]; done)))) rfl ?_ ?_
        · go_simp
          (try simp only [i64_w])
          try rfl
        refine hK.out _ _ ⟨(by rw [ha.out]; exact putSel_upk 19 hb_ rfl rfl rfl), Q_FF⟩
      refine steps_cons ?_ ?_
      · rintro b a w' ⟨ha, Q_FF⟩ hb_ hon hoff
        refine ⟨_, rfl, fun K hK => ?_⟩
        have e56 : a.tmps[56]? = some (.bool true) := by rw [ha]; exact putSel_on (e := (19, 56, .bool true)) 19 rfl rfl (hon 19 (by kernel_rfl)) rfl
        replace ha := Aside0.mk ha
        have FF := Aside0.mk Q_FF
        refine off_ (wanted_off rfl rfl rfl (e56.trans (by first | rfl | (simp [*]; done)))) ?_
        refine hK.out _ _ ⟨(by rw [ha.out]; exact putSel_upk 20 hb_ rfl rfl rfl), Q_FF⟩
      refine steps_cons ?_ ?_
      · rintro b a w' ⟨ha, Q_FF⟩ hb_ hon hoff
        refine ⟨_, rfl, fun K hK => ?_⟩
        have e56 : a.tmps[56]? = some (.bool true) := by rw [ha]; exact putSel_on (e := (19, 56, .bool true)) 19 rfl rfl (hon 19 (by kernel_rfl)) rfl
        replace ha := Aside0.mk ha
        have FF := Aside0.mk Q_FF
        refine off_ (wanted_off rfl rfl rfl (e56.trans (by first | rfl | (simp [*]; done)))) ?_
        refine hK.out _ _ ⟨(by rw [ha.out]; exact putSel_upk 21 hb_ rfl rfl rfl), Q_FF⟩
      refine steps_cons ?_ ?_
      · rintro b a w' ⟨ha, Q_FF⟩ hb_ hon hoff
        refine ⟨_, rfl, fun K hK => ?_⟩
        have e56 : a.tmps[56]? = some (.bool true) := by rw [ha]; exact putSel_on (e := (19, 56, .bool true)) 19 rfl rfl (hon 19 (by kernel_rfl)) rfl
        replace ha := Aside0.mk ha
        have FF := Aside0.mk Q_FF
        refine off_ (wanted_off rfl rfl rfl (e56.trans (by first | rfl | (simp [*]; done)))) ?_
        refine hK.out _ _ ⟨(by rw [ha.out]; exact putSel_upk 22 hb_ rfl rfl rfl), Q_FF⟩
      refine steps_cons ?_ ?_
      · rintro b a w' ⟨ha, Q_FF⟩ hb_ hon hoff
        refine ⟨_, rfl, fun K hK => ?_⟩
        have e56 : a.tmps[56]? = some (.bool true) := by rw [ha]; exact putSel_on (e := (19, 56, .bool true)) 19 rfl rfl (hon 19 (by kernel_rfl)) rfl
        replace ha := Aside0.mk ha
        have FF := Aside0.mk Q_FF
        refine off_ (wanted_off rfl rfl rfl (e56.trans (by first | rfl | (simp [*]; done)))) ?_
        refine hK.out _ _ ⟨(by rw [ha.out]; exact putSel_upk 23 hb_ rfl rfl rfl), Q_FF⟩
      refine steps_cons ?_ ?_
      · rintro b a w' ⟨ha, Q_FF⟩ hb_ hon hoff
        refine ⟨_, rfl, fun K hK => ?_⟩
        have e56 : a.tmps[56]? = some (.bool true) := by rw [ha]; exact putSel_on (e := (19, 56, .bool true)) 19 rfl rfl (hon 19 (by kernel_rfl)) rfl
        replace ha := Aside0.mk ha
        have FF := Aside0.mk Q_FF
        refine off_ (wanted_off rfl rfl rfl (e56.trans (by first | rfl | (simp [*]; done)))) ?_
        refine hK.out _ _ ⟨(by rw [ha.out]; exact putSel_upk 24 hb_ rfl rfl rfl), Q_FF⟩
      refine steps_cons ?_ ?_
      · rintro b a w' ⟨ha, Q_FF⟩ hb_ hon hoff
        refine ⟨_, rfl, fun K hK => ?_⟩
        have e56 : a.tmps[56]? = some (.bool true) := by rw [ha]; exact putSel_on (e := (19, 56, .bool true)) 19 rfl rfl (hon 19 (by kernel_rfl)) rfl
        replace ha := Aside0.mk ha
        have FF := Aside0.mk Q_FF
        refine off_ (wanted_off rfl rfl rfl (e56.trans (by first | rfl | (simp [*]; done)))) ?_
        refine hK.out _ _ ⟨(by rw [ha.out]; exact putSel_upk 25 hb_ rfl rfl rfl), Q_FF⟩
      refine steps_cons ?_ ?_
      · rintro b a w' ⟨ha, Q_FF⟩ hb_ hon hoff
        refine ⟨_, rfl, fun K hK => ?_⟩
        have e56 : a.tmps[56]? = some (.bool true) := by rw [ha]; exact putSel_on (e := (19, 56, .bool true)) 19 rfl rfl (hon 19 (by kernel_rfl)) rfl
        have e62 : a.tmps[62]? = some (undef) := by rw [ha]; exact putSel_on (e := (25, 62, undef)) 25 rfl rfl (hon 25 (by kernel_rfl)) rfl
        have e52 : a.tmps[52]? = some (.bool true) := by rw [ha]; exact putSel_on (e := (15, 52, .bool true)) 15 rfl rfl (hon 15 (by kernel_rfl)) rfl
        replace ha := Aside0.mk ha
        have FF := Aside0.mk Q_FF
        refine value_ (w1 := w') (v := .bool true) (wanted_on rfl rfl rfl (e52.trans (by first | rfl | (simp [*]; done)))) rfl ?_ ?_
        · go_simp
          (try simp only [i64_w])
          try rfl
        refine hK.out _ _ ⟨(by rw [ha.out]; exact putSel_upk 26 hb_ rfl rfl rfl), Q_FF⟩
      refine steps_cons ?_ ?_
      · rintro b a w' ⟨ha, Q_FF⟩ hb_ hon hoff
        refine ⟨_, rfl, fun K hK => ?_⟩
        have e52 : a.tmps[52]? = some (.bool true) := by rw [ha]; exact putSel_on (e := (15, 52, .bool true)) 15 rfl rfl (hon 15 (by kernel_rfl)) rfl
        have e63 : a.tmps[63]? = some (.bool true) := by rw [ha]; exact putSel_on (e := (26, 63, .bool true)) 26 rfl rfl (hon 26 (by kernel_rfl)) rfl
        replace ha := Aside0.mk ha
        have FF := Aside0.mk Q_FF
        refine value_ (w1 := w') (v := .bool true) (by rfl) rfl ?_ ?_
        · go_simp
          (try simp only [i64_w])
          try rfl
        refine hK.out _ _ ⟨(by rw [ha.out]; exact putSel_upk 27 hb_ rfl rfl rfl), Q_FF⟩
      refine steps_cons ?_ ?_
      · rintro b a w' ⟨ha, Q_FF⟩ hb_ hon hoff
        refine ⟨_, rfl, fun K hK => ?_⟩
        have e64 : a.tmps[64]? = some (.bool true) := by rw [ha]; exact putSel_on (e := (27, 64, .bool true)) 27 rfl rfl (hon 27 (by kernel_rfl)) rfl
        replace ha := Aside0.mk ha
        have FF := Aside0.mk Q_FF
        refine value_ (w1 := w') (v := .bool true) (by rfl) rfl ?_ ?_
        · go_simp
          (try simp only [i64_w])
          try rfl
        refine hK.out _ _ ⟨(by rw [ha.out]; exact putSel_upk 28 hb_ rfl rfl rfl), Q_FF⟩
      exact steps_nil
    · rintro b a w' hall ⟨ha, Q_FF⟩
      have hb0_ := hall 0 (by kernel_rfl)
      have hb1_ := hall 1 (by kernel_rfl)
      have hb2_ := hall 2 (by kernel_rfl)
      have hb3_ := hall 3 (by kernel_rfl)
      have hb4_ := hall 4 (by kernel_rfl)
      have hb5_ := hall 5 (by kernel_rfl)
      have hb6_ := hall 6 (by kernel_rfl)
      have hb7_ := hall 7 (by kernel_rfl)
      have hb8_ := hall 8 (by kernel_rfl)
      have hb9_ := hall 9 (by kernel_rfl)
      have hb10_ := hall 10 (by kernel_rfl)
      have hb11_ := hall 11 (by kernel_rfl)
      have hb12_ := hall 12 (by kernel_rfl)
      have hb13_ := hall 13 (by kernel_rfl)
      have hb14_ := hall 14 (by kernel_rfl)
      have hb15_ := hall 15 (by kernel_rfl)
      have hb16_ := hall 16 (by kernel_rfl)
      have hb17_ := hall 17 (by kernel_rfl)
      have hb18_ := hall 18 (by kernel_rfl)
      have hb19_ := hall 19 (by kernel_rfl)
      have hb20_ := hall 20 (by kernel_rfl)
      have hb21_ := hall 21 (by kernel_rfl)
      have hb22_ := hall 22 (by kernel_rfl)
      have hb23_ := hall 23 (by kernel_rfl)
      have hb24_ := hall 24 (by kernel_rfl)
      have hb25_ := hall 25 (by kernel_rfl)
      have hb26_ := hall 26 (by kernel_rfl)
      have hb27_ := hall 27 (by kernel_rfl)
      have hb28_ := hall 28 (by kernel_rfl)
      subst ha
      simp only [putSel, hb0_, hb1_, hb2_, hb3_, hb4_, hb5_, hb6_, hb7_, hb8_, hb9_, hb10_, hb11_, hb12_, hb13_, hb14_, hb15_, hb16_, hb17_, hb18_, hb19_, hb20_, hb21_, hb22_, hb23_, hb24_, hb25_, hb26_, hb27_, hb28_, if_true, Act.put, List.setIfInBounds_toArray, List.set_cons_zero, List.set_cons_succ]
      have FF := Aside0.mk Q_FF
      clear Q_FF
      clear hall hb0_ hb1_ hb2_ hb3_ hb4_ hb5_ hb6_ hb7_ hb8_ hb9_ hb10_ hb11_ hb12_ hb13_ hb14_ hb15_ hb16_ hb17_ hb18_ hb19_ hb20_ hb21_ hb22_ hb23_ hb24_ hb25_ hb26_ hb27_ hb28_
      have HBF := FF
      go_wp2
      go_ret
      exact ⟨rfl, HBF.out.bel⟩
theorem sackbutlaw03_SlideTakes.calls (A0 : Option Addr) (c0 : Nat) (l0 : List Int) (a1 : Int) (r : Bool) (w : World) (hr0 : Kd.C (Kd.int .u8) w A0 l0.length l0) (hc0 : l0.length ≤ c0) (h : sackbutlaw03_SlideTakes.f l0 a1 = some r) :
    Calls Try.prog 6 #[.slice A0 l0.length c0, .int .i64 a1] w fun e w' => e = .returned (.bool r) ∧ Below w.heap.size w w' := by
  unfold sackbutlaw03_SlideTakes.f at h
  by_cases ha : l0.all (fun x => decide (0 ≤ x) && decide (x ≤ 255)) = true
  case neg => rw [if_neg ha] at h; cases h
  rw [if_pos ha] at h
  cases h
  have h8 := all8S ha
  by_cases h0 : 120 < l0.length
  · exact stakes_long A0 c0 l0 a1 w h0
  have hul := unpack_length l0
  have h1 := slide_take_ok h8 (by omega) (List.suffix_refl (unpack l0)) a1 (k := 200000) (by omega)
  rw [pos_nil] at h1
  have h2 := ref_take_ok (s := unpack l0) (by omega) ((unpack l0).length : Int) a1 (k := 200000) (by omega)
  have h3 : sackbutref01_Open.f 2000 l0 = some (txt (unpack l0), ((unpack l0).length : Int), 0) := by
    unfold sackbutref01_Open.f
    rw [bits_ok h8 (by omega) (by omega), bs, txt_size]
  have hsuf := takeS_suf (unpack l0) a1
  have hlen := takeS_len (unpack l0) a1
  generalize takeS (unpack l0) a1 = T at h1 h2 hsuf hlen
  have hsm : sackbutref01_Same.f 5000 (endZ T.2 T.1).1 (endZ T.2 T.1).1 = some true := by rw [same_ok _ _ (by omega) (by omega), decide_eq_true rfl]
  have hsk : sackbutref03_Same.f 5000 (endZ T.2 T.1).2.1 (endZ T.2 T.1).2.2 (endZ T.2 T.1).2.1 (endZ T.2 T.1).2.2 = some true := by
    unfold sackbutref03_Same.f
    rw [if_pos rfl, same_ok _ _ (by omega) (by omega), bs, decide_eq_true rfl]
  exact stakes_any A0 c0 l0 a1 _ _ _ _ _ _ _ w (by omega) hr0 hc0 h1 h3 h2 hsm hsk (fun _ => by rw [left_ok (by omega) hsuf, txt_size])
end Go.Proofs.Yteoncgijnkfhfaa.P
