/- lag.Best. -/
import Derived.Test.YtofjckfdofkikaaPx0
import Derived.Test.YtofjckfdofkikaaHLInit
import Derived.Test.YtofjckfdofkikaaPx2
import Derived.Deep.QuietTactic
import Derived.BigQuiet
import Derived.Deep.RegionLaw
namespace Go.Proofs.Ytofjckfdofkikaa.P
open Go Go.RowKit Go.Proofs.YtofjckfdofkikaaW.PrintWords Go.Proofs.YtofjckfdofkikaaW.PrintLast Go.Proofs.YtofjckfdofkikaaW.PrintMore
set_option linter.unusedVariables false
set_option linter.unusedSimpArgs false

abbrev mkQ (r : Int × Int × Int) : QE := ⟨⟨r.1, r.2.1⟩, r.2.2⟩
/-- Behind m gains of one lag. -/
def gainL (k : Nat) (l : List Int) (a : Int) (xs : List QE) : Nat → Option (List QE)
  | 0 => some xs
  | m + 1 => (gainL k l a xs m).bind fun ys => (lag_try.f k a ((m + 1 : Nat) : Int) l).bind fun r => some (ys ++ [mkQ r])
/-- Behind m lags. -/
def lagL (k : Nat) (l : List Int) : Nat → Option (List QE)
  | 0 => (lag_try.f k 0 0 l).bind fun r => some [mkQ r]
  | m + 1 => (lagL k l m).bind fun xs => gainL k l ((m + 1 : Nat) : Int) xs 15
theorem gainL_mono (k : Nat) (l : List Int) (a : Int) (xs : List QE) : ∀ m, LeO (gainL k l a xs m) (gainL (k + 1) l a xs m)
  | 0 => LeO.refl _
  | m + 1 => LeO.bind (gainL_mono k l a xs m) (fun _ => LeO.bind (lag_try.mono _ _ _ _) (fun _ => LeO.refl _))
theorem lagL_mono (k : Nat) (l : List Int) : ∀ m, LeO (lagL k l m) (lagL (k + 1) l m)
  | 0 => LeO.bind (lag_try.mono _ _ _ _) (fun _ => LeO.refl _)
  | m + 1 => LeO.bind (lagL_mono k l m) (fun _ => gainL_mono _ _ _ _ _)
theorem gainL_length {k : Nat} {l : List Int} {a : Int} {xs : List QE} : ∀ (m : Nat) (ys : List QE), gainL k l a xs m = some ys → ys.length = xs.length + m := by
  intro m
  induction m with
  | zero => intro ys h; cases h; rfl
  | succ m ih =>
    intro ys h
    rw [gainL] at h
    obtain ⟨zs, h1, h⟩ := Option.bind_eq_some_iff.mp h
    obtain ⟨t, _, h⟩ := Option.bind_eq_some_iff.mp h
    cases h
    rw [List.length_append, ih zs h1]
    rfl
theorem lagL_length {k : Nat} {l : List Int} : ∀ (m : Nat) (ys : List QE), lagL k l m = some ys → ys.length = 1 + 15 * m := by
  intro m
  induction m with
  | zero =>
    intro ys h
    rw [lagL] at h
    obtain ⟨t, _, h⟩ := Option.bind_eq_some_iff.mp h
    cases h
    rfl
  | succ m ih =>
    intro ys h
    rw [lagL] at h
    obtain ⟨zs, h1, h⟩ := Option.bind_eq_some_iff.mp h
    rw [gainL_length _ _ h, ih zs h1]
    omega
theorem gainL_le {k : Nat} {l : List Int} {a : Int} {xs : List QE} {n : Nat} {ys : List QE} (h : gainL k l a xs n = some ys) (m : Nat) (hm : m ≤ n) : ∃ zs, gainL k l a xs m = some zs := by
  induction n generalizing ys with
  | zero =>
    obtain rfl : m = 0 := by omega
    exact ⟨ys, h⟩
  | succ n ih =>
    by_cases e : m = n + 1
    · subst e
      exact ⟨ys, h⟩
    · rw [gainL] at h
      obtain ⟨zs, h1, _⟩ := Option.bind_eq_some_iff.mp h
      exact ih h1 (by omega)
theorem lagL_le {k : Nat} {l : List Int} {n : Nat} {ys : List QE} (h : lagL k l n = some ys) (m : Nat) (hm : m ≤ n) : ∃ zs, lagL k l m = some zs := by
  induction n generalizing ys with
  | zero =>
    obtain rfl : m = 0 := by omega
    exact ⟨ys, h⟩
  | succ n ih =>
    by_cases e : m = n + 1
    · subst e
      exact ⟨ys, h⟩
    · rw [lagL] at h
      obtain ⟨zs, h1, _⟩ := Option.bind_eq_some_iff.mp h
      exact ih h1 (by omega)
def lag_Best.f (k : Nat) (l : List Int) : Option (Int × Int) := if l.length ≤ 60 then (lagL k l (l.length - 1)).bind fun xs => some ((getQ (initL xs.length (xs.length / 2) xs) 0).f0.f0, (getQ (initL xs.length (xs.length / 2) xs) 0).f0.f1) else none
theorem lag_Best.mono : ∀ a0 k, LeO (lag_Best.f k a0) (lag_Best.f (k + 1) a0) := fun a0 k => by
  unfold lag_Best.f
  split
  · exact LeO.bind (lagL_mono _ _ _) (fun _ => LeO.refl _)
  · exact LeO.refl _

set_option maxHeartbeats 8000000 in
set_option maxRecDepth 100000 in
theorem lag_Best.calls (k : Nat) (A0 : Option Addr) (c0 : Nat) (l0 : List Int) (r1 r2 : Int) (w : World) (hr0 : Kd.C (Kd.int .i64) w A0 l0.length l0) (hc0 : l0.length ≤ c0) (h : lag_Best.f k l0 = some (r1, r2)) :
    Calls Try.prog 31 #[.slice A0 l0.length c0] w fun e w' => e = .returned (.agg #[.int .i64 r1, .int .i64 r2]) ∧ Below w.heap.size w w' := by
  unfold lag_Best.f at h
  obtain h60 : l0.length ≤ 60 := by
    refine Decidable.byContradiction fun hn => ?_
    rw [if_neg hn] at h
    exact absurd h (by simp)
  rw [if_pos h60] at h
  obtain ⟨qs, hq, h⟩ := Option.bind_eq_some_iff.mp h
  have HF := Aside0.mk (Option.some.inj h)
  have HQF := Aside0.mk hq
  obtain ⟨x0, hx0⟩ := lagL_le hq 0 (Nat.zero_le _)
  rw [lagL] at hx0
  obtain ⟨⟨t1, t2, t3⟩, ht, hx0⟩ := Option.bind_eq_some_iff.mp hx0
  have HT := Aside0.mk ht
  have HR := Aside0.mk hr0
  clear h hq hr0 hx0 ht
  have hu := Try.underlying83
  have hu2 := Try.underlying35
  go_enter Try.func31, Try.ntmps31
  go_wp2_with fail
  have hb1 := below_alloc (Below.refl w.heap.size w) (.cells #[.int .i64 0, .int .i64 0] 35)
  have hn1 := blk_new w (.cells #[.int .i64 0, .int .i64 0] 35)
  have hz1 : (w.alloc (.cells #[.int .i64 0, .int .i64 0] 35)).heap.size = w.heap.size + 1 := Array.size_push _
  generalize w.alloc (.cells #[.int .i64 0, .int .i64 0] 35) = w1 at hb1 hn1 hz1 ⊢
  have HB1 := Aside0.mk hb1
  have HN1 := Aside0.mk hn1
  have HZ1 := Aside0.mk hz1
  clear hb1 hn1 hz1
  (with_reducible refine (lag_try.calls k 0 0 A0 c0 l0 t1 t2 t3 w1 (Kd.C_below HR.out HB1.out) hc0 HT.out).mono ?_)
  rintro e w2 ⟨rfl, hb2⟩
  have HB2 := Aside0.mk hb2
  clear hb2
  go_wp2_with fail
  have hq0 : IsQ ((w2.alloc (.cells #[.int .i64 t1, .int .i64 t2, .int .i64 t3] 83)).alloc (.cells #[.slice (some ⟨w2.heap.size, 0, none⟩) 1 1] 86)) w1.heap.size (w2.heap.size + 1) (.slice (some ⟨w2.heap.size, 0, none⟩) 1 1) [mkQ (t1, t2, t3)] :=
    ⟨by
      have h := blk_new (w2.alloc (.cells #[.int .i64 t1, .int .i64 t2, .int .i64 t3] 83)) (.cells #[.slice (some ⟨w2.heap.size, 0, none⟩) 1 1] 86)
      have hs : (w2.alloc (.cells #[.int .i64 t1, .int .i64 t2, .int .i64 t3] 83)).heap.size = w2.heap.size + 1 := Array.size_push _
      first | exact h | (rw [hs] at h; exact h), Nat.le_succ_of_le HB2.out.size, fun _ _ => trivial, [.int .i64 t1, .int .i64 t2, .int .i64 t3],
      ⟨rfl, .inr ⟨w2.heap.size, 1, #[.int .i64 t1, .int .i64 t2, .int .i64 t3], rfl, HB2.out.size, blk_alloc (blk_new w2 _) _, Nat.le_refl _, by decide, rfl, rfl⟩⟩,
      ⟨rfl, fun j p hj => by
        cases j with
        | zero =>
          obtain rfl : mkQ (t1, t2, t3) = p := by simpa using hj
          exact k83_mkM _ _ _ (mkQ (t1, t2, t3))
        | succ j => simp at hj⟩⟩
  have hb0 := below_alloc (below_alloc HB2.out (.cells #[.int .i64 t1, .int .i64 t2, .int .i64 t3] 83)) (.cells #[.slice (some ⟨w2.heap.size, 0, none⟩) 1 1] 86)
  have HQ0 := Aside0.mk hq0
  have HB0 := Aside0.mk hb0
  have HX0 : Aside0 (lagL k l0 0 = some [mkQ (t1, t2, t3)]) := ⟨by rw [lagL, HT.out]; rfl⟩
  have HZ := Aside0.mk HB2.out.size
  clear hq0 hb0
  obtain ⟨v0, hv0⟩ : ∃ v0, (Value.slice (some ⟨w2.heap.size, 0, none⟩) 1 1) = v0 := ⟨_, rfl⟩
  rw [hv0] at HQ0 HB0 ⊢
  obtain ⟨g, hg0⟩ : ∃ g, w2.heap.size + 1 = g := ⟨_, rfl⟩
  rw [hg0] at HQ0 ⊢
  generalize (w2.alloc (.cells #[.int .i64 t1, .int .i64 t2, .int .i64 t3] 83)).alloc (.cells #[v0] 86) = w3 at HQ0 HB0 ⊢
  clear hv0 hg0 HZ HB2
  go_loopg [4, 5] (l0.length - 1) (fun kk v4 v5 wr => ∃ (p : Nat) (xs : List QE) (v : Value), v4 = .int .i64 p ∧ 1 ≤ p ∧ kk + (p - 1) = l0.length - 1 ∧ Aside0 (lagL k l0 (p - 1) = some xs) ∧ Aside0 (IsQ wr w1.heap.size g v xs) ∧ Aside0 (Below w1.heap.size w1 wr))
  case atStart => exact ⟨1, [mkQ (t1, t2, t3)], v0, rfl, Nat.le_refl _, rfl, HX0, HQ0, HB0⟩
  case round =>
    clear HQ0 HB0 HX0
    obtain ⟨p, xs, v, rfl, hp1, hk, HX, HQ, HB⟩ := hrel
    have hxl := lagL_length _ _ HX.out
    have hp255 : decide ((p : Int) ≤ 255) = true := decide_eq_true (by omega)
    by_cases hlt : p < l0.length
    · have hme : gk - 1 < gk := by omega
      have hdec : decide ((p : Int) < (l0.length : Int)) = true := decide_eq_true (by omega)
      obtain ⟨ys, hys⟩ := lagL_le HQF.out p (by omega)
      obtain ⟨p0, rfl⟩ : ∃ p0, p = p0 + 1 := ⟨p - 1, by omega⟩
      rw [lagL, show p0 = p0 + 1 - 1 from rfl, HX.out, Option.bind_some] at hys
      have HG := Aside0.mk hys
      have HXL := Aside0.mk hxl
      have HGL := Aside0.mk (gainL_length _ _ hys)
      obtain ⟨pz, hpz⟩ : ∃ pz : Int, ((p0 + 1 : Nat) : Int) = pz := ⟨_, rfl⟩
      have HPZ := Aside0.mk hpz
      clear hys hxl
      rw [show p0 + 1 - 1 + 1 = p0 + 1 from rfl] at HG
      rw [hpz] at HG hdec hp255 ⊢
      clear hpz
      have HY : Aside0 (gainL k l0 pz xs 15 = some ys) := HG
      have HP0 := Aside0.mk (show p0 + 1 - 1 = p0 from rfl)
      have HLY : Aside0 (lagL k l0 (p0 + 1) = some ys) := ⟨by rw [lagL, show p0 = p0 + 1 - 1 from rfl, HX.out, Option.bind_some, show p0 + 1 - 1 + 1 = p0 + 1 from rfl, HPZ.out]; exact HG.out⟩
      have HK := Aside0.mk (And.intro hk hlt)
      clear hk hlt
      go_wp2_with fail
      go_loopg [5] 15 (fun kk v5 wr => ∃ (q : Nat) (qz : Int) (zs : List QE) (v : Value), v5 = .int .i64 qz ∧ Aside0 (qz = ((q + 1 : Nat) : Int)) ∧ kk + q = 15 ∧ Aside0 (gainL k l0 pz xs q = some zs) ∧ Aside0 (IsQ wr w1.heap.size g v zs) ∧ Aside0 (Below w1.heap.size w1 wr))
      case atStart => exact ⟨0, 1, xs, v, rfl, ⟨rfl⟩, rfl, ⟨rfl⟩, HQ, HB⟩
      case round =>
        clear HQ HB
        obtain ⟨q, qz, zs, v, rfl, HQZ, hkq, HZ, HQ, HB⟩ := hrel
        have HZL := Aside0.mk (gainL_length _ _ HZ.out)
        by_cases hltq : q < 15
        · have hmeq : gk - 1 < gk := by omega
          have hdecq : decide (qz ≤ 15) = true := decide_eq_true (by have := HQZ.out; omega)
          obtain ⟨us, hus⟩ := gainL_le HG.out (q + 1) (by omega)
          rw [gainL, HZ.out, Option.bind_some] at hus
          obtain ⟨⟨a1, a2, a3⟩, hta, hus⟩ := Option.bind_eq_some_iff.mp hus
          rw [← HQZ.out] at hta
          have HTA := Aside0.mk hta
          have HUS : Aside0 (gainL k l0 pz xs (q + 1) = some (zs ++ [mkQ (a1, a2, a3)])) := ⟨by rw [gainL, HZ.out, Option.bind_some, ← HQZ.out, hta]; rfl⟩
          have HL := Aside0.mk (show (zs.length + 1) * 24 ≤ 140737488355328 by have := HZL.out; have := HXL.out; have := HK.out; omega)
          have HKQ := Aside0.mk (And.intro hkq hltq)
          clear hus hta hkq hltq
          obtain ⟨hg, hbg, hR⟩ := HQ.out
          obtain ⟨A, c, rfl⟩ := Kd.R_slice hR
          have hcr := (blk_cell hg 0).trans rfl
          have HQd := Aside0.mk (show IsQ wr.drew w1.heap.size g (.slice A zs.length c) zs from ⟨blk_drew hg, hbg, Kd.R_drew hR⟩)
          have HBd := Aside0.mk (below_drew HB.out)
          have HRd := Aside0.mk (Kd.C_below HR.out (HB1.out.trans (HBd.out.mono HB1.out.size)))
          have HBG := Aside0.mk hbg
          clear hg hR hbg
          go_wp2_with fail
          go_region_law (first
            | (refine Kd.R_append_step kq (w0 := w1) w1.heap.size (by rfl) (.tmp 24) (.tmp 30) 86 83 (.agg #[.int .i64 0, .int .i64 0, .int .i64 0]) 24 rfl Try.underlying86 q_info rfl (by decide) (by decide) (.slice A zs.length c) zs (mkQ (a1, a2, a3)) [.int .i64 a1, .int .i64 a2, .int .i64 a3] (fun _ => True) (fun _ => False) rfl rfl HP4.out (fun _ hk => hk.elim) (fun _ _ => trivial) HQ4.out.2.2 HB4.out HS4.out HL.out ?_; intro v' w5 hr5 hbl5 hg5 hat5; obtain ⟨A5, c5, rfl⟩ := Kd.R_slice hr5; have hG5 := blk_grown HQ4.out.1 hg5 (Kd.R_ne HQ4.out.2.2 HQ4.out.1 (by decide)); have hc5 := (blk_cell hG5 0).trans rfl; have hf5 := blk_frozen hG5 0; have HG5 := Aside0.mk hG5; have HR5 := Aside0.mk hr5; have HB5 := Aside0.mk hbl5; clear hr5 hbl5 hg5 hat5 hG5)
            | (go_simp; (with_reducible refine (lag_try.calls k pz qz A0 c0 l0 a1 a2 a3 wr.drew HRd.out hc0 HTA.out).mono ?_); rintro e w4 ⟨rfl, hb4⟩; have HQ4 := Aside0.mk (isQ_below HQd.out hb4); have HB4 := Aside0.mk (HBd.out.trans (hb4.mono HBd.out.size)); have hc4 := (blk_cell HQ4.out.1 0).trans rfl; have hc4a := (blk_cell (blk_alloc HQ4.out.1 (.cells #[.int .i64 a1, .int .i64 a2, .int .i64 a3] 83)) 0).trans rfl; have HP4 := Aside0.mk (k83_mkM w4 w1.heap.size (fun _ => False) (mkQ (a1, a2, a3))); have HS4 := Aside0.mk (Nat.le_trans HQ4.out.2.1 (Nat.le_of_lt (blk_lt HQ4.out.1))); clear hb4))
          all_goals
            have hqc : (((q + 1 : Nat) : Int)) = qz := HQZ.out.symm
            have hqb : qz ≤ 100 := by have := HKQ.out; omega
            have hqb0 : 0 ≤ qz := by omega
            have HQB := Aside0.mk hqc
            clear hqc
            go_wp2
            go_roundg (gk - 1)
            case rel => exact ⟨q + 1, qz + 1, zs ++ [mkQ (a1, a2, a3)], _, rfl, ⟨by have := HQB.out; omega⟩, by have := HKQ.out; omega, HUS, ⟨by rw [show (zs ++ [mkQ (a1, a2, a3)]).length = zs.length + 1 by simp] at *; exact ⟨blk_put HG5.out 0 _ rfl, HBG.out, Kd.R_set HR5.out HG5.out (by decide) 0 _⟩⟩, ⟨HB5.out.setCell (p := ⟨g, 0, none⟩) HBG.out _⟩⟩
            case measure => exact hmeq
        · have hdecq : decide (qz ≤ 15) = false := decide_eq_false (by have := HQZ.out; omega)
          have hqq : q = 15 := by omega
          subst hqq
          have hzz : zs = ys := by have := HZ.out; rw [HG.out] at this; exact (Option.some.inj this).symm
          subst hzz
          have hpb : pz ≤ 100 := by have := HPZ.out; have := HK.out; omega
          have hpb0 : 0 ≤ pz := by have := HPZ.out; omega
          go_wp2
          go_roundg (l0.length - 1 - (p0 + 1))
          case rel => exact ⟨p0 + 2, zs, v, by first | rfl | (congr 1; have := HPZ.out; omega), by omega, by have := HK.out; omega, by rw [show p0 + 2 - 1 = p0 + 1 from rfl]; exact HLY, HQ, HB⟩
          case measure => have := HK.out; omega
    · have hdec : decide ((p : Int) < (l0.length : Int)) = false := decide_eq_false (by omega)
      have hpp : p - 1 = l0.length - 1 := by omega
      have hqs : xs = qs := by have := HX.out; rw [hpp, HQF.out] at this; exact (Option.some.inj this).symm
      subst hqs
      have HXN := Aside0.mk (show xs.length ≤ 1000 by have := h60; omega)
      have HXP := Aside0.mk (show 0 < xs.length by omega)
      have HSZ := Aside0.mk (Nat.le_trans HQ.out.2.1 (Nat.le_of_lt (blk_lt HQ.out.1)))
      clear hxl hpp
      go_wp2_with fail
      (with_reducible refine (heap_Init w1 wr w1.heap.size g v xs HXN.out HSZ.out HB.out HQ.out).mono ?_)
      rintro e w4 ⟨rfl, hq4, hb4⟩
      have HB4 := Aside0.mk hb4
      obtain ⟨zs, hzs⟩ : ∃ zs, initL xs.length (xs.length / 2) xs = zs := ⟨_, rfl⟩
      have hzl : zs.length = xs.length := by rw [← hzs, initL_length]
      rw [hzs] at hq4 HF
      obtain ⟨hg, hbg, hR⟩ := hq4
      obtain ⟨inner, hown⟩ := Kd.R_own hR
      obtain ⟨g2, cap, rfl, hgg, cur, hcur⟩ : ∃ g2 cap, v = .slice (some ⟨g2, 0, none⟩) zs.length cap ∧ w1.heap.size ≤ g2 ∧ ∃ cur, w4.heap[g2]? = some (.cells cur 83 (0, 0)) := by
        rcases hown.2 with ⟨_, h0⟩ | ⟨g2, cap, cur, h1, h2, h3, _⟩
        · have := HXP.out; omega
        · exact ⟨g2, cap, h1, h2, cur, h3⟩
      obtain ⟨A, c, he, hle, hC⟩ := Kd.R_reads hR
      cases he
      obtain ⟨ad, hA, hi0, hi1, hi2⟩ := at_T83 hC 0 (by omega) (by have := HXP.out; omega)
      cases hA
      have hc4 := (blk_cell hg 0).trans rfl
      have e0 : rd_T83 zs 0 = getQ zs 0 := rfl
      have hv : (getQ zs 0).f0.f0 = r1 ∧ (getQ zs 0).f0.f1 = r2 := by
        have := HF.out
        injection this with h1 h2
        exact ⟨h1, h2⟩
      rw [add0, e0, hv.1] at hi0
      rw [add0, e0, hv.2] at hi1
      change w4.cell? ⟨g2, 0, none⟩ = _ at hi0
      change w4.cell? ⟨g2, 1, none⟩ = _ at hi1
      have hres := blk_below HN1.out hb4
      have hpos : (0 < zs.length) = True := eq_true (by have := HXP.out; omega)
      have hpos1 : ((0 : Int) < (zs.length : Int)) = True := eq_true (by have := HXP.out; omega)
      have hrf := blk_frozen hres 0
      have hrf1 := blk_frozen hres 1
      have hrc := (blk_cell hres 0).trans rfl
      have hrc1 := (blk_cell hres 1).trans rfl
      clear e0 hR hg hown hcur hC inner hi2 hv hzl
      go_wp2_with fail
      have hBE := ((HB1.out.trans (HB4.out.mono HB1.out.size)).setCell (p := ⟨w.heap.size, 0, none⟩) (Nat.le_refl _) (.int .i64 r1)).setCell (p := ⟨w.heap.size, 1, none⟩) (Nat.le_refl _) (.int .i64 r2)
      refine bodyPost_ret (results_cell_row rfl _ _ w.heap.size 35 #[.int .i64 r1, .int .i64 r2] (0, 0) _ rfl (blk_put (cs := #[.int .i64 r1, .int .i64 0]) (blk_put (cs := #[.int .i64 0, .int .i64 0]) hres 0 _ rfl) 1 _ rfl) Try.underlying35 rfl (by kernel_rfl)) rfl ?_
      exact ⟨rfl, hBE⟩
end Go.Proofs.Ytofjckfdofkikaa.P
