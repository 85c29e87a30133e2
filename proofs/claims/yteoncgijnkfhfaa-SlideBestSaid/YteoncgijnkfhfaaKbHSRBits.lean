/- The contract of the document's Bits of a list in parts. -/
import Derived.Test.YteoncgijnkfhfaaKbPx0
import Derived.Test.YteoncgijnkfhfaaKbPx4
import Derived.Sort.LoopGhostIn
namespace Go.Proofs.Yteoncgijnkfhfaa.P
open Go Go.RowKit Go.Proofs.YteoncgijnkfhfaaW.PrintWords Go.Proofs.YteoncgijnkfhfaaW.PrintLast Go.Proofs.YteoncgijnkfhfaaW.PrintMore
set_option linter.unusedVariables false
set_option linter.unusedSimpArgs false

/-- Two bits and the first parts' bits, as the document has them. -/
def refSum (k : Nat) (l ks : List Int) (sz : Nat) : Nat → Option Int
  | 0 => some 2
  | i + 1 => (refSum k l ks sz i).bind fun s => (sackbutref02_Total.f k ((l.drop (i * sz)).take sz) (rd ks i)).bind fun t => some (wrap64 (wrap64 (s + 5) + t))
theorem refSum_le {k : Nat} {l ks : List Int} {sz n : Nat} {s : Int} (h : refSum k l ks sz n = some s) (m : Nat) (hm : m ≤ n) : ∃ s', refSum k l ks sz m = some s' := by
  induction n generalizing s with
  | zero =>
    obtain rfl : m = 0 := by omega
    exact ⟨s, h⟩
  | succ n ih =>
    by_cases e : m = n + 1
    · subst e
      exact ⟨s, h⟩
    · rw [refSum] at h
      obtain ⟨ys, h1, _⟩ := Option.bind_eq_some_iff.mp h
      exact ih h1 (by omega)
def sackbutref03_Bits.f (k : Nat) (l : List Int) (p : Int) (ks : List Int) : Option Int :=
  if 0 < ks.length ∧ ks.length ≤ l.length ∧ l.length ≤ 1000000 then refSum k l ks (l.length / ks.length) ks.length else none
theorem part_CR {w : World} {A : Addr} {c : Nat} {l : List Int} {lo sz : Nat} (h : Kd.C (Kd.int .i64) w (some A) l.length l) (hc : l.length ≤ c) (hs : lo + sz ≤ l.length) (h0 : 0 < sz) : Kd.C (Kd.int .i64) w (some (A.add lo)) ((l.drop lo).take sz).length ((l.drop lo).take sz) := by
  have h1 := Kd.C_drop h (m := lo) (by omega) hc
  rw [if_neg (by omega)] at h1
  have h2 := Kd.C_take h1 (m := sz) (by rw [List.length_drop]; omega)
  have : (Kd.int IntKind.i64).sz = 1 := rfl
  rw [this, Nat.mul_one] at h2
  exact h2
theorem w64R {x : Int} (h0 : -9223372036854775808 ≤ x) (h1 : x ≤ 9223372036854775807) : wrap64 x = x := by unfold wrap64; omega
theorem mul_smallR {i sz n : Nat} (h : i * sz ≤ n) (hn : n ≤ 1000000) : wrap64 ((i : Int) * (sz : Int)) = ((i * sz : Nat) : Int) := by
  rw [show (i : Int) * (sz : Int) = ((i * sz : Nat) : Int) from (Int.natCast_mul i sz).symm]
  exact w64R (by omega) (by omega)
def sackbutref03_Bits.T6 : Bool × List (List Nat × List Nat) := (true, [([], []), ([0], [0]), ([], []), ([], []), ([], []), ([3, 4], [3, 4]), ([], []), ([6], [6]), ([], []), ([7, 8], [7, 8]), ([2, 5, 9], [2, 5, 9]), ([], []), ([11], [11]), ([], []), ([12, 13], [12, 13]), ([14], [14]), ([10, 15], [10, 15]), ([1, 16], [1, 16]), ([17, 16, 0, 1, 2, 3, 4, 5, 6, 7, 8, 9, 10, 11, 12, 13, 14, 15, 16, 17], [0, 17])])
def sackbutref03_Bits.B6 : List Nat := [0, 1, 0, 0, 0, 24, 0, 64, 0, 448, 1020, 0, 2048, 0, 14336, 30720, 65532, 131071, 262143]
theorem sackbutref03_Bits.tab6 : rtab .any (opsOf Try.f15 6) = sackbutref03_Bits.T6 := by kernel_rfl
theorem sackbutref03_Bits.bits6 : waitsOk sackbutref03_Bits.T6.2 sackbutref03_Bits.B6 = true := by kernel_rfl
set_option maxHeartbeats 8000000 in
set_option maxRecDepth 100000 in
theorem sackbutref03_Bits.calls (k : Nat) (A0 : Option Addr) (c0 : Nat) (l0 : List Int) (a1_0 : Int) (A1 : Option Addr) (c1 : Nat) (l1 : List Int) (r : Int) (w : World) (hr0 : Kd.C (Kd.int .i64) w A0 l0.length l0) (hc0 : l0.length ≤ c0) (hr1 : Kd.C (Kd.int .i64) w A1 l1.length l1) (hc1 : l1.length ≤ c1) (h : sackbutref03_Bits.f k l0 a1_0 l1 = some r) :
    Calls Try.prog 15 #[.slice A0 l0.length c0, .agg #[.int .i64 a1_0, .slice A1 l1.length c1]] w fun e w' => e = .returned (.int .i64 r) ∧ Below w.heap.size w w' := by
  unfold sackbutref03_Bits.f at h
  by_cases hg : 0 < l1.length ∧ l1.length ≤ l0.length ∧ l0.length ≤ 1000000
  case neg => rw [if_neg hg] at h; cases h
  rw [if_pos hg] at h
  obtain ⟨hl0, hl1, hl2⟩ := hg
  obtain ⟨A, rfl, _⟩ := Kd.at_int hr0 0 (by omega) (by omega)
  obtain ⟨ak, rfl, _⟩ := Kd.at_int hr1 0 (by omega) (by omega)
  obtain ⟨sz, hsz⟩ : ∃ q, l0.length / l1.length = q := ⟨_, rfl⟩
  have hs0 : 0 < sz := by rw [← hsz]; exact Nat.div_pos hl1 hl0
  have hmul : l1.length * sz ≤ l0.length := by rw [← hsz]; exact Nat.mul_div_le _ _
  rw [hsz] at h
  have hq : Int.tdiv (l0.length : Int) (l1.length : Int) = (sz : Int) := by rw [← hsz]; exact (Int.ofNat_tdiv _ _).symm
  have hne : (l1.length : Int) ≠ 0 := by omega
  have hszl : sz ≤ l0.length := by rw [← hsz]; exact Nat.div_le_self _ _
  have HWS : Aside0 (wrap64 (sz : Int) = (sz : Int)) := ⟨w64R (by omega) (by omega)⟩
  clear hszl
  have HSUM := Aside0.mk h
  have HR := Aside0.mk hr0
  have HR1 := Aside0.mk hr1
  have HC := Aside0.mk (And.intro hc0 hc1)
  have HL := Aside0.mk (And.intro hl0 (And.intro hl1 (And.intro hl2 (And.intro hs0 hmul))))
  have HX0 := Aside0.mk (blk_new w (.cells #[.int .i64 a1_0, .slice (some ak) l1.length c1] 30))
  have HB0 := Aside0.mk (below_alloc (Below.refl w.heap.size w) (.cells #[.int .i64 a1_0, .slice (some ak) l1.length c1] 30))
  clear h hr0 hr1 hc0 hc1 hl0 hl1 hl2 hs0 hmul hsz
  go_enter Try.func15, Try.ntmps15
  go_wp2_with fail
  generalize w.alloc (.cells #[.int .i64 a1_0, .slice (some ak) l1.length c1] 30) = w2 at HX0 HB0 ⊢
  obtain ⟨b3, hb3⟩ : ∃ q, w.heap.size = q := ⟨_, rfl⟩
  replace HX0 : Aside0 (w2.heap[b3]? = some (.cells #[.int .i64 a1_0, .slice (some ak) l1.length c1] 30 (0, 0))) := ⟨by rw [← hb3]; exact HX0.out⟩
  rw [hb3]
  clear hb3
  rw [HWS.out]
  clear hq hne
  go_loopg [6, 17] l1.length (fun kq v6 v17 wr => ∃ (i : Nat) (s : Int), v17 = .int .i64 i ∧ v6 = .int .i64 s ∧ kq + i = l1.length ∧ Aside0 (refSum k l0 l1 sz i = some s) ∧ Aside0 (Below w.heap.size w wr) ∧ Aside0 (wr.heap[b3]? = some (.cells #[.int .i64 a1_0, .slice (some ak) l1.length c1] 30 (0, 0))))
  case atStart => exact ⟨0, 2, rfl, rfl, by omega, ⟨rfl⟩, HB0, HX0⟩
  case round =>
    clear HB0 HX0
    obtain ⟨i, s, rfl, rfl, hk, HS, HB, HX⟩ := hrel
    by_cases hlt : i < l1.length
    · have hme : gk - 1 < gk := by omega
      have hdec : decide ((i : Int) < (l1.length : Int)) = true := decide_eq_true (by omega)
      obtain ⟨s', hs'⟩ := refSum_le HSUM.out (i + 1) (by omega)
      have HS2 := Aside0.mk hs'
      rw [refSum, HS.out, Option.bind_some] at hs'
      obtain ⟨t, ht, hs'⟩ := Option.bind_eq_some_iff.mp hs'
      obtain rfl := Option.some.inj hs'
      obtain ⟨hl0, hl1, hl2, hs0, hmul⟩ := HL.out
      obtain ⟨lo, hlo⟩ : ∃ q, i * sz = q := ⟨_, rfl⟩
      obtain ⟨up, hup⟩ : ∃ q, (i + 1) * sz = q := ⟨_, rfl⟩
      have hus : up = lo + sz := by rw [← hup, ← hlo, Nat.succ_mul]
      have hul : up ≤ l0.length := by rw [← hup]; exact Nat.le_trans (Nat.mul_le_mul_right sz (by omega)) hmul
      obtain ⟨hc0, hc1⟩ := HC.out
      have HM : Aside0 (wrap64 ((i : Int) * (sz : Int)) = (lo : Int) ∧ wrap64 ((i : Int) + 1) = (i : Int) + 1 ∧ wrap64 (((i : Int) + 1) * (sz : Int)) = (up : Int)) := ⟨by rw [mul_smallR (n := l0.length) (by omega) hl2, hlo], w64R (by omega) (by omega), by
        have := mul_smallR (i := i + 1) (sz := sz) (n := l0.length) (by omega) hl2
        rw [hup, Int.natCast_add, Int.natCast_one] at this
        exact this⟩
      have HSL : Aside0 ((0 ≤ (lo : Int)) = True ∧ (0 ≤ (up : Int)) = True ∧ (lo ≤ up) = True ∧ (up ≤ c0) = True ∧ (c0 = lo) = False ∧ (lo ≤ c0) = True) := ⟨eq_true (by omega), eq_true (by omega), eq_true (by omega), eq_true (by omega), eq_false (by omega), eq_true (by omega)⟩
      have HIX : Aside0 ((0 ≤ (i : Int)) = True ∧ ((i : Int) < (l1.length : Int)) = True ∧ (i < l1.length) = True) := ⟨eq_true (by omega), eq_true (by omega), eq_true hlt⟩
      obtain ⟨ak', hak, hka⟩ := Kd.at_int (Kd.C_below HR1.out HB.out) (i : Int) (by omega) (by omega)
      obtain rfl : ak = ak' := by injection hak
      rw [Int.toNat_natCast] at hka
      obtain ⟨kk, hkk⟩ : ∃ q, rd l1 i = q := ⟨_, rfl⟩
      rw [hkk] at hka ht
      rw [hlo] at ht
      have HKA := Aside0.mk hka
      have hpl : ((l0.drop lo).take sz).length = up - lo := by rw [List.length_take, List.length_drop]; omega
      have HTOT : Aside0 (∀ W, Below wr.heap.size wr W → Calls Try.prog 40 #[.slice (some (A.add lo)) (up - lo) (c0 - lo), .int .i64 kk] W fun e w' => e = .returned (.int .i64 t) ∧ Below W.heap.size W w') := ⟨by
        intro W hW
        have hC := part_CR (Kd.C_below (Kd.C_below HR.out HB.out) hW) hc0 (show lo + sz ≤ l0.length by omega) hs0
        have hcall := sackbutref02_Total.calls k (some (A.add lo)) (c0 - lo) _ kk t W hC (by rw [hpl]; omega) ht
        rw [hpl] at hcall
        exact hcall.mono fun _ _ h => ⟨h.1, h.2.below⟩⟩
      have HK := Aside0.mk hk
      have HIC := Aside0.mk (show (i : Int) + 1 = ((i + 1 : Nat) : Int) by omega)
      clear hs' ht hl0 hl1 hl2 hs0 hmul hlo hup hus hul hc0 hc1 hka hkk hpl hk hak
      go_upto_region 6 with fail
      refine start_ (n := 19) (S := fun w' => True) (ds := []) #[false, false, false, false, false, false, false, false, false, false, false, false, false, false, false, false, false, false, false] (by kernel_rfl) rfl rfl trivial (fun hHeld => ?_)
      refine with_tabW sackbutref03_Bits.tab6 sackbutref03_Bits.bits6 (fun HT_ HW_ => ?_)
      obtain ⟨wd, hwd⟩ : ∃ wd, wr.drew = wd := ⟨_, rfl⟩
      rw [hwd]
      have FBD : Aside0 (Below wr.heap.size wr wd) := ⟨by rw [← hwd]; exact below_drew1 (Below.refl wr.heap.size wr)⟩
      clear hwd hHeld
      refine inv_at [0, 1, 2, 3, 4, 5, 6, 7, 8, 9, 10, 11, 12, 13, 14, 15, 16, 17, 18] (fun a0_ b a w' => a = putSel a0_ b [(0, 20, .int .i64 s), (1, 21, .int .i64 (wrap64 (s + 5))), (2, 22, .slice (some A) l0.length c0), (3, 23, .int .i64 (i : Int)), (4, 24, .int .i64 (sz : Int)), (5, 25, .int .i64 (lo : Int)), (6, 26, .int .i64 (i : Int)), (7, 27, .int .i64 ((i : Int) + 1)), (8, 28, .int .i64 (sz : Int)), (9, 29, .int .i64 (up : Int)), (10, 30, .slice (some (A.add lo)) (up - lo) (c0 - lo)), (11, 31, .pointer (some ⟨b3, 1, none⟩)), (12, 32, .slice (some ak) l1.length c1), (13, 33, .int .i64 (i : Int)), (14, 34, .pointer (some (ak.add i))), (15, 35, .int .i64 kk), (16, 36, .int .i64 t), (17, 37, .int .i64 (wrap64 (wrap64 (s + 5) + t))), (18, 6, .int .i64 (wrap64 (wrap64 (s + 5) + t)))] ∧ (Below wr.heap.size wr w')) HT_.out HW_.out (by kernel_rfl) (by kernel_rfl) ?_ ?_ ?_
      · exact ⟨by simp only [putSel, Bool.false_eq_true, if_false], FBD.out⟩
      · skip
        refine steps_cons ?_ ?_
        · rintro b a w' ⟨ha, Q_FB⟩ hb_ hon hoff
          refine ⟨_, rfl, fun K hK => ?_⟩
          have e6 : a.tmps[6]? = some (.int .i64 s) := by rw [ha]; exact (putSel_not (hoff 18 (by kernel_rfl)) rfl).trans rfl
          replace ha := Aside0.mk ha
          have FB := Aside0.mk Q_FB
          refine value_ (w1 := w') (v := .int .i64 s) (by rfl) rfl ?_ ?_
          · go_simp
            (try simp only [i64_w])
            try rfl
          refine hK.out _ _ ⟨(by rw [ha.out]; exact putSel_upk 0 hb_ rfl rfl rfl), Q_FB⟩
        refine steps_cons ?_ ?_
        · rintro b a w' ⟨ha, Q_FB⟩ hb_ hon hoff
          refine ⟨_, rfl, fun K hK => ?_⟩
          have e20 : a.tmps[20]? = some (.int .i64 s) := by rw [ha]; exact putSel_on (e := (0, 20, .int .i64 s)) 0 rfl rfl (hon 0 (by kernel_rfl)) rfl
          replace ha := Aside0.mk ha
          have FB := Aside0.mk Q_FB
          refine value_ (w1 := w') (v := .int .i64 (wrap64 (s + 5))) (by rfl) rfl ?_ ?_
          · go_simp
            (try simp only [i64_w])
            try rfl
          refine hK.out _ _ ⟨(by rw [ha.out]; exact putSel_upk 1 hb_ rfl rfl rfl), Q_FB⟩
        refine steps_cons ?_ ?_
        · rintro b a w' ⟨ha, Q_FB⟩ hb_ hon hoff
          refine ⟨_, rfl, fun K hK => ?_⟩
          have e0 : a.tmps[0]? = some (.slice (some A) l0.length c0) := by rw [ha]; exact (putSel_off rfl).trans rfl
          replace ha := Aside0.mk ha
          have FB := Aside0.mk Q_FB
          refine value_ (w1 := w') (v := .slice (some A) l0.length c0) (by rfl) rfl ?_ ?_
          · go_simp
            (try simp only [i64_w])
            try rfl
          refine hK.out _ _ ⟨(by rw [ha.out]; exact putSel_upk 2 hb_ rfl rfl rfl), Q_FB⟩
        refine steps_cons ?_ ?_
        · rintro b a w' ⟨ha, Q_FB⟩ hb_ hon hoff
          refine ⟨_, rfl, fun K hK => ?_⟩
          have e7 : a.tmps[7]? = some (.int .i64 (i : Int)) := by rw [ha]; exact (putSel_off rfl).trans rfl
          replace ha := Aside0.mk ha
          have FB := Aside0.mk Q_FB
          refine value_ (w1 := w') (v := .int .i64 (i : Int)) (by rfl) rfl ?_ ?_
          · go_simp
            (try simp only [i64_w])
            try rfl
          refine hK.out _ _ ⟨(by rw [ha.out]; exact putSel_upk 3 hb_ rfl rfl rfl), Q_FB⟩
        refine steps_cons ?_ ?_
        · rintro b a w' ⟨ha, Q_FB⟩ hb_ hon hoff
          refine ⟨_, rfl, fun K hK => ?_⟩
          have e5 : a.tmps[5]? = some (.int .i64 (sz : Int)) := by rw [ha]; exact (putSel_off rfl).trans rfl
          replace ha := Aside0.mk ha
          have FB := Aside0.mk Q_FB
          refine value_ (w1 := w') (v := .int .i64 (sz : Int)) (by rfl) rfl ?_ ?_
          · go_simp
            (try simp only [i64_w])
            try rfl
          refine hK.out _ _ ⟨(by rw [ha.out]; exact putSel_upk 4 hb_ rfl rfl rfl), Q_FB⟩
        refine steps_cons ?_ ?_
        · rintro b a w' ⟨ha, Q_FB⟩ hb_ hon hoff
          refine ⟨_, rfl, fun K hK => ?_⟩
          have e23 : a.tmps[23]? = some (.int .i64 (i : Int)) := by rw [ha]; exact putSel_on (e := (3, 23, .int .i64 (i : Int))) 3 rfl rfl (hon 3 (by kernel_rfl)) rfl
          have e24 : a.tmps[24]? = some (.int .i64 (sz : Int)) := by rw [ha]; exact putSel_on (e := (4, 24, .int .i64 (sz : Int))) 4 rfl rfl (hon 4 (by kernel_rfl)) rfl
          replace ha := Aside0.mk ha
          have FB := Aside0.mk Q_FB
          have m1_ := HM.out.1
          refine value_ (w1 := w') (v := .int .i64 (lo : Int)) (by rfl) rfl ?_ ?_
          · go_simp
            first | exact m1_ | (simp only [i64_w]; exact m1_)
          refine hK.out _ _ ⟨(by rw [ha.out]; exact putSel_upk 5 hb_ rfl rfl rfl), Q_FB⟩
        refine steps_cons ?_ ?_
        · rintro b a w' ⟨ha, Q_FB⟩ hb_ hon hoff
          refine ⟨_, rfl, fun K hK => ?_⟩
          have e7 : a.tmps[7]? = some (.int .i64 (i : Int)) := by rw [ha]; exact (putSel_off rfl).trans rfl
          replace ha := Aside0.mk ha
          have FB := Aside0.mk Q_FB
          refine value_ (w1 := w') (v := .int .i64 (i : Int)) (by rfl) rfl ?_ ?_
          · go_simp
            (try simp only [i64_w])
            try rfl
          refine hK.out _ _ ⟨(by rw [ha.out]; exact putSel_upk 6 hb_ rfl rfl rfl), Q_FB⟩
        refine steps_cons ?_ ?_
        · rintro b a w' ⟨ha, Q_FB⟩ hb_ hon hoff
          refine ⟨_, rfl, fun K hK => ?_⟩
          have e26 : a.tmps[26]? = some (.int .i64 (i : Int)) := by rw [ha]; exact putSel_on (e := (6, 26, .int .i64 (i : Int))) 6 rfl rfl (hon 6 (by kernel_rfl)) rfl
          replace ha := Aside0.mk ha
          have FB := Aside0.mk Q_FB
          have m1_ := HM.out.2.1
          refine value_ (w1 := w') (v := .int .i64 ((i : Int) + 1)) (by rfl) rfl ?_ ?_
          · go_simp
            first | exact m1_ | (simp only [i64_w]; exact m1_)
          refine hK.out _ _ ⟨(by rw [ha.out]; exact putSel_upk 7 hb_ rfl rfl rfl), Q_FB⟩
        refine steps_cons ?_ ?_
        · rintro b a w' ⟨ha, Q_FB⟩ hb_ hon hoff
          refine ⟨_, rfl, fun K hK => ?_⟩
          have e5 : a.tmps[5]? = some (.int .i64 (sz : Int)) := by rw [ha]; exact (putSel_off rfl).trans rfl
          replace ha := Aside0.mk ha
          have FB := Aside0.mk Q_FB
          refine value_ (w1 := w') (v := .int .i64 (sz : Int)) (by rfl) rfl ?_ ?_
          · go_simp
            (try simp only [i64_w])
            try rfl
          refine hK.out _ _ ⟨(by rw [ha.out]; exact putSel_upk 8 hb_ rfl rfl rfl), Q_FB⟩
        refine steps_cons ?_ ?_
        · rintro b a w' ⟨ha, Q_FB⟩ hb_ hon hoff
          refine ⟨_, rfl, fun K hK => ?_⟩
          have e27 : a.tmps[27]? = some (.int .i64 ((i : Int) + 1)) := by rw [ha]; exact putSel_on (e := (7, 27, .int .i64 ((i : Int) + 1))) 7 rfl rfl (hon 7 (by kernel_rfl)) rfl
          have e28 : a.tmps[28]? = some (.int .i64 (sz : Int)) := by rw [ha]; exact putSel_on (e := (8, 28, .int .i64 (sz : Int))) 8 rfl rfl (hon 8 (by kernel_rfl)) rfl
          replace ha := Aside0.mk ha
          have FB := Aside0.mk Q_FB
          have m1_ := HM.out.2.2
          refine value_ (w1 := w') (v := .int .i64 (up : Int)) (by rfl) rfl ?_ ?_
          · go_simp
            first | exact m1_ | (simp only [i64_w]; exact m1_)
          refine hK.out _ _ ⟨(by rw [ha.out]; exact putSel_upk 9 hb_ rfl rfl rfl), Q_FB⟩
        refine steps_cons ?_ ?_
        · rintro b a w' ⟨ha, Q_FB⟩ hb_ hon hoff
          refine ⟨_, rfl, fun K hK => ?_⟩
          have e22 : a.tmps[22]? = some (.slice (some A) l0.length c0) := by rw [ha]; exact putSel_on (e := (2, 22, .slice (some A) l0.length c0)) 2 rfl rfl (hon 2 (by kernel_rfl)) rfl
          have e25 : a.tmps[25]? = some (.int .i64 (lo : Int)) := by rw [ha]; exact putSel_on (e := (5, 25, .int .i64 (lo : Int))) 5 rfl rfl (hon 5 (by kernel_rfl)) rfl
          have e29 : a.tmps[29]? = some (.int .i64 (up : Int)) := by rw [ha]; exact putSel_on (e := (9, 29, .int .i64 (up : Int))) 9 rfl rfl (hon 9 (by kernel_rfl)) rfl
          replace ha := Aside0.mk ha
          have FB := Aside0.mk Q_FB
          obtain ⟨h4_, h5_, h6_, h7_, h8_, h9_⟩ := HSL.out
          refine value_ (w1 := w') (v := .slice (some (A.add lo)) (up - lo) (c0 - lo)) (by rfl) rfl ?_ ?_
          · go_simp
            (try simp only [i64_w])
            try rfl
          refine hK.out _ _ ⟨(by rw [ha.out]; exact putSel_upk 10 hb_ rfl rfl rfl), Q_FB⟩
        refine steps_cons ?_ ?_
        · rintro b a w' ⟨ha, Q_FB⟩ hb_ hon hoff
          refine ⟨_, rfl, fun K hK => ?_⟩
          have e3 : a.tmps[3]? = some (.pointer (some ⟨b3, 0, none⟩)) := by rw [ha]; exact (putSel_off rfl).trans rfl
          replace ha := Aside0.mk ha
          have FB := Aside0.mk Q_FB
          refine value_ (w1 := w') (v := .pointer (some ⟨b3, 1, none⟩)) (by rfl) rfl ?_ ?_
          · go_simp
            (try simp only [i64_w])
            try rfl
          refine hK.out _ _ ⟨(by rw [ha.out]; exact putSel_upk 11 hb_ rfl rfl rfl), Q_FB⟩
        refine steps_cons ?_ ?_
        · rintro b a w' ⟨ha, Q_FB⟩ hb_ hon hoff
          refine ⟨_, rfl, fun K hK => ?_⟩
          have e31 : a.tmps[31]? = some (.pointer (some ⟨b3, 1, none⟩)) := by rw [ha]; exact putSel_on (e := (11, 31, .pointer (some ⟨b3, 1, none⟩))) 11 rfl rfl (hon 11 (by kernel_rfl)) rfl
          replace ha := Aside0.mk ha
          have FB := Aside0.mk Q_FB
          have q8_ : w'.cell? ⟨b3, 1, none⟩ = some (.slice (some ak) l1.length c1) := (blk_cell (blk_below HX.out FB.out) 1).trans rfl
          refine value_ (w1 := w') (v := .slice (some ak) l1.length c1) (by rfl) rfl ?_ ?_
          · go_simp
            (try simp only [i64_w])
            try rfl
          refine hK.out _ _ ⟨(by rw [ha.out]; exact putSel_upk 12 hb_ rfl rfl rfl), Q_FB⟩
        refine steps_cons ?_ ?_
        · rintro b a w' ⟨ha, Q_FB⟩ hb_ hon hoff
          refine ⟨_, rfl, fun K hK => ?_⟩
          have e7 : a.tmps[7]? = some (.int .i64 (i : Int)) := by rw [ha]; exact (putSel_off rfl).trans rfl
          replace ha := Aside0.mk ha
          have FB := Aside0.mk Q_FB
          refine value_ (w1 := w') (v := .int .i64 (i : Int)) (by rfl) rfl ?_ ?_
          · go_simp
            (try simp only [i64_w])
            try rfl
          refine hK.out _ _ ⟨(by rw [ha.out]; exact putSel_upk 13 hb_ rfl rfl rfl), Q_FB⟩
        refine steps_cons ?_ ?_
        · rintro b a w' ⟨ha, Q_FB⟩ hb_ hon hoff
          refine ⟨_, rfl, fun K hK => ?_⟩
          have e32 : a.tmps[32]? = some (.slice (some ak) l1.length c1) := by rw [ha]; exact putSel_on (e := (12, 32, .slice (some ak) l1.length c1)) 12 rfl rfl (hon 12 (by kernel_rfl)) rfl
          have e33 : a.tmps[33]? = some (.int .i64 (i : Int)) := by rw [ha]; exact putSel_on (e := (13, 33, .int .i64 (i : Int))) 13 rfl rfl (hon 13 (by kernel_rfl)) rfl
          replace ha := Aside0.mk ha
          have FB := Aside0.mk Q_FB
          obtain ⟨h4_, h5_, h6_⟩ := HIX.out
          refine value_ (w1 := w') (v := .pointer (some (ak.add i))) (by rfl) rfl ?_ ?_
          · go_simp
            (try simp only [i64_w])
            try rfl
          refine hK.out _ _ ⟨(by rw [ha.out]; exact putSel_upk 14 hb_ rfl rfl rfl), Q_FB⟩
        refine steps_cons ?_ ?_
        · rintro b a w' ⟨ha, Q_FB⟩ hb_ hon hoff
          refine ⟨_, rfl, fun K hK => ?_⟩
          have e34 : a.tmps[34]? = some (.pointer (some (ak.add i))) := by rw [ha]; exact putSel_on (e := (14, 34, .pointer (some (ak.add i)))) 14 rfl rfl (hon 14 (by kernel_rfl)) rfl
          replace ha := Aside0.mk ha
          have FB := Aside0.mk Q_FB
          have q8_ : w'.cell? (ak.add i) = some (.int .i64 kk) := (FB.out.cell (World.block_lt_of_cell? wr _ HKA.out)).trans HKA.out
          refine value_ (w1 := w') (v := .int .i64 kk) (by rfl) rfl ?_ ?_
          · go_simp
            (try simp only [i64_w])
            try rfl
          refine hK.out _ _ ⟨(by rw [ha.out]; exact putSel_upk 15 hb_ rfl rfl rfl), Q_FB⟩
        refine steps_cons ?_ ?_
        · rintro b a w' ⟨ha, Q_FB⟩ hb_ hon hoff
          refine ⟨_, rfl, fun K hK => ?_⟩
          have e30 : a.tmps[30]? = some (.slice (some (A.add lo)) (up - lo) (c0 - lo)) := by rw [ha]; exact putSel_on (e := (10, 30, .slice (some (A.add lo)) (up - lo) (c0 - lo))) 10 rfl rfl (hon 10 (by kernel_rfl)) rfl
          have e35 : a.tmps[35]? = some (.int .i64 kk) := by rw [ha]; exact putSel_on (e := (15, 35, .int .i64 kk)) 15 rfl rfl (hon 15 (by kernel_rfl)) rfl
          replace ha := Aside0.mk ha
          have FB := Aside0.mk Q_FB
          refine goes_ Try.func40 (by kernel_rfl) rfl #[.slice (some (A.add lo)) (up - lo) (c0 - lo), .int .i64 kk] (by rfl) rfl rfl (by first | (simp only [List.map_toArray, List.map_cons, List.map_nil, Act.eval, Array.getD_eq_getD_getElem?, Option.getD_some, e30, e35]; done) | (simp only [List.map_toArray, List.map_cons, List.map_nil, Act.eval, Array.getD_eq_getD_getElem?, Option.getD_some, e30, e35]; rfl)) ?_
          (with_reducible refine (HTOT.out w' FB.out).mono ?_)
          rintro e w1_ ⟨rfl, hbl_⟩
          refine ⟨_, rfl, ?_⟩
          refine hK.out _ _ ⟨(by rw [ha.out]; exact putSel_upk 16 hb_ rfl rfl rfl), below_then FB.out FB.out.size hbl_⟩
        refine steps_cons ?_ ?_
        · rintro b a w' ⟨ha, Q_FB⟩ hb_ hon hoff
          refine ⟨_, rfl, fun K hK => ?_⟩
          have e21 : a.tmps[21]? = some (.int .i64 (wrap64 (s + 5))) := by rw [ha]; exact putSel_on (e := (1, 21, .int .i64 (wrap64 (s + 5)))) 1 rfl rfl (hon 1 (by kernel_rfl)) rfl
          have e36 : a.tmps[36]? = some (.int .i64 t) := by rw [ha]; exact putSel_on (e := (16, 36, .int .i64 t)) 16 rfl rfl (hon 16 (by kernel_rfl)) rfl
          replace ha := Aside0.mk ha
          have FB := Aside0.mk Q_FB
          refine value_ (w1 := w') (v := .int .i64 (wrap64 (wrap64 (s + 5) + t))) (by rfl) rfl ?_ ?_
          · go_simp
            (try simp only [i64_w])
            try rfl
          refine hK.out _ _ ⟨(by rw [ha.out]; exact putSel_upk 17 hb_ rfl rfl rfl), Q_FB⟩
        refine steps_cons ?_ ?_
        · rintro b a w' ⟨ha, Q_FB⟩ hb_ hon hoff
          refine ⟨_, rfl, fun K hK => ?_⟩
          have e37 : a.tmps[37]? = some (.int .i64 (wrap64 (wrap64 (s + 5) + t))) := by rw [ha]; exact putSel_on (e := (17, 37, .int .i64 (wrap64 (wrap64 (s + 5) + t)))) 17 rfl rfl (hon 17 (by kernel_rfl)) rfl
          replace ha := Aside0.mk ha
          have FB := Aside0.mk Q_FB
          refine value_ (w1 := w') (v := .int .i64 (wrap64 (wrap64 (s + 5) + t))) (by rfl) rfl ?_ ?_
          · go_simp
            (try simp only [i64_w])
            try rfl
          refine hK.out _ _ ⟨(by rw [ha.out]; exact putSel_upk 18 hb_ rfl rfl rfl), Q_FB⟩
        exact steps_nil
      · rintro b a w' hall ⟨ha, Q_FB⟩
        have hb0_ := hall 0 (by kernel_rfl)
        have hb1_ := hall 1 (by kernel_rfl)
        have hb2_ := hall 2 (by kernel_rfl)
        have hb3_ := hall 3 (by kernel_rfl)
        have hb4_ := hall 4 (by kernel_rfl)
        have hb5_ := hall 5 (by kernel_rfl)
        have hb6_ := hall 6 (by kernel_rfl)
        have hb7_ := hall 7 (by kernel_rfl)
        have hb8_ := hall 8 (by kernel_rfl)
        have hb9_ := hall 9 (by kernel_rfl)
        have hb10_ := hall 10 (by kernel_rfl)
        have hb11_ := hall 11 (by kernel_rfl)
        have hb12_ := hall 12 (by kernel_rfl)
        have hb13_ := hall 13 (by kernel_rfl)
        have hb14_ := hall 14 (by kernel_rfl)
        have hb15_ := hall 15 (by kernel_rfl)
        have hb16_ := hall 16 (by kernel_rfl)
        have hb17_ := hall 17 (by kernel_rfl)
        have hb18_ := hall 18 (by kernel_rfl)
        subst ha
        simp only [putSel, hb0_, hb1_, hb2_, hb3_, hb4_, hb5_, hb6_, hb7_, hb8_, hb9_, hb10_, hb11_, hb12_, hb13_, hb14_, hb15_, hb16_, hb17_, hb18_, if_true, Act.put, List.setIfInBounds_toArray, List.set_cons_zero, List.set_cons_succ]
        have FB := Aside0.mk Q_FB
        clear Q_FB
        clear hall hb0_ hb1_ hb2_ hb3_ hb4_ hb5_ hb6_ hb7_ hb8_ hb9_ hb10_ hb11_ hb12_ hb13_ hb14_ hb15_ hb16_ hb17_ hb18_
        have HBF := Aside0.mk (below_then HB.out HB.out.size FB.out)
        have HXF := Aside0.mk (blk_below HX.out FB.out)
        have HWF := HM.out.2.1
        go_wp2
        go_roundg (gk - 1)
        case rel => exact ⟨i + 1, _, by first | rfl | rw [HM.out.2.1, HIC.out] | rw [HIC.out], rfl, by have := HK.out; omega, HS2, HBF, HXF⟩
        case measure => exact hme
    · have hii : i = l1.length := by omega
      have hdec : decide ((i : Int) < (l1.length : Int)) = false := decide_eq_false (by omega)
      have hr : s = r := by
        have h1 := HS.out
        rw [hii, HSUM.out] at h1
        exact (Option.some.inj h1).symm
      subst hr
      clear hii hk
      go_wp2
      go_ret
      exact ⟨rfl, HB.out⟩
end Go.Proofs.Yteoncgijnkfhfaa.P
