/- filter.Least. -/
import Derived.Test.YtoglefgjiaoopaaPx0
import Derived.Test.YtoglefgjiaoopaaHTPush
import Derived.Test.YtoglefgjiaoopaaHRes
import Derived.Test.YtoglefgjiaoopaaPx1
import Derived.Deep.QuietTactic
import Derived.BigQuiet
namespace Go.Proofs.Ytoglefgjiaoopaa.P
open Go Go.RowKit Go.Proofs.YtoglefgjiaoopaaW.PrintWords Go.Proofs.YtoglefgjiaoopaaW.PrintLast Go.Proofs.YtoglefgjiaoopaaW.PrintMore
set_option linter.unusedVariables false
set_option linter.unusedSimpArgs false

/-- The queue behind n beginnings. -/
def leastQ (k : Nat) (l0 l1 : List Int) : Nat → Option (List QE)
  | 0 => some []
  | n + 1 => (leastQ k l0 l1 n).bind fun xs => (filter_Residuals.f k (l0.take n) l1).bind fun p => (filter_sum.f k p.1).bind fun t => some (pushL xs ⟨n, t⟩)
theorem leastQ_mono (k : Nat) (l0 l1 : List Int) : ∀ n, LeO (leastQ k l0 l1 n) (leastQ (k + 1) l0 l1 n)
  | 0 => LeO.refl _
  | n + 1 => LeO.bind (leastQ_mono k l0 l1 n) (fun _ => LeO.bind (filter_Residuals.mono _ _ _) (fun _ => LeO.bind (filter_sum.mono _ _) (fun _ => LeO.refl _)))
theorem leastQ_length (k : Nat) (l0 l1 : List Int) : ∀ (n : Nat) (xs : List QE), leastQ k l0 l1 n = some xs → xs.length = n := by
  intro n
  induction n with
  | zero => intro xs h; cases h; rfl
  | succ n ih =>
    intro xs h
    rw [leastQ] at h
    obtain ⟨ys, h1, h⟩ := Option.bind_eq_some_iff.mp h
    obtain ⟨p, _, h⟩ := Option.bind_eq_some_iff.mp h
    obtain ⟨t, _, h⟩ := Option.bind_eq_some_iff.mp h
    cases h
    rw [pushL_length, ih ys h1]
theorem leastQ_le {k : Nat} {l0 l1 : List Int} {n : Nat} {xs : List QE} (h : leastQ k l0 l1 n = some xs) (m : Nat) (hm : m ≤ n) : ∃ ys, leastQ k l0 l1 m = some ys := by
  induction n generalizing xs with
  | zero =>
    obtain rfl : m = 0 := by omega
    exact ⟨xs, h⟩
  | succ n ih =>
    by_cases e : m = n + 1
    · subst e
      exact ⟨xs, h⟩
    · rw [leastQ] at h
      obtain ⟨ys, h1, _⟩ := Option.bind_eq_some_iff.mp h
      exact ih h1 (by omega)
def filter_Least.f (k : Nat) (l0 l1 : List Int) : Option Int := if l0.length ≤ 800 then (leastQ k l0 l1 (l0.length + 1)).bind fun xs => some (getQ xs 0).f0 else none
theorem filter_Least.mono : ∀ a0 a1 k, LeO (filter_Least.f k a0 a1) (filter_Least.f (k + 1) a0 a1) := fun a0 a1 k => by
  unfold filter_Least.f
  split
  · exact LeO.bind (leastQ_mono _ _ _ _) (fun _ => LeO.refl _)
  · exact LeO.refl _

set_option maxHeartbeats 8000000 in
set_option maxRecDepth 100000 in
theorem filter_Least.calls (k : Nat) (A0 : Option Addr) (c0 : Nat) (l0 : List Int) (A1 : Option Addr) (c1 : Nat) (l1 : List Int) (r : Int) (w : World) (hr0 : Kd.C (Kd.int .i64) w A0 l0.length l0) (hc0 : l0.length ≤ c0) (hr1 : Kd.C (Kd.int .i64) w A1 l1.length l1) (hc1 : l1.length ≤ c1) (h : filter_Least.f k l0 l1 = some r) :
    Calls Try.prog 37 #[.slice A0 l0.length c0, .slice A1 l1.length c1] w fun e w' => e = .returned (.int .i64 r) ∧ Below w.heap.size w w' := by
  unfold filter_Least.f at h
  obtain h800 : l0.length ≤ 800 := by
    refine Decidable.byContradiction fun hn => ?_
    rw [if_neg hn] at h
    exact absurd h (by simp)
  rw [if_pos h800] at h
  obtain ⟨qs, hq, h⟩ := Option.bind_eq_some_iff.mp h
  have HF := Aside0.mk (Option.some.inj h)
  have HQF := Aside0.mk hq
  have HR0 := Aside0.mk hr0
  have HR1 := Aside0.mk hr1
  clear h hq hr0 hr1
  have hu := Try.underlying63
  go_enter Try.func37, Try.ntmps37
  go_wp2
  have hq0 : IsQ ((w.alloc (.cells #[] 63)).alloc (.cells #[.slice (some ⟨w.heap.size, 0, none⟩) 0 0] 60)) w.heap.size (w.heap.size + 1) (.slice (some ⟨w.heap.size, 0, none⟩) 0 0) [] :=
    ⟨by have h := blk_new (w.alloc (.cells #[] 63)) (.cells #[.slice (some ⟨w.heap.size, 0, none⟩) 0 0] 60); have hs : (w.alloc (.cells #[] 63)).heap.size = w.heap.size + 1 := Array.size_push _; first | exact h | (rw [hs] at h; exact h), Nat.le_succ _, fun _ _ => trivial, [], ⟨rfl, .inr ⟨w.heap.size, 0, #[], rfl, Nat.le_refl _, blk_alloc (blk_new w _) _, Nat.le_refl _, Nat.zero_le _, rfl, rfl⟩⟩, Reps.none _ _⟩
  have HQ0 := Aside0.mk hq0
  have HB0 := Aside0.mk (below_alloc (below_alloc (Below.refl w.heap.size w) (.cells #[] 63)) (.cells #[.slice (some ⟨w.heap.size, 0, none⟩) 0 0] 60))
  clear hq0
  go_loopg [6, 7, 8, 14] (l0.length + 1) (fun kk v6 v7 v8 v14 wr => ∃ (i : Nat) (xs : List QE) (v : Value), v14 = .int .i64 i ∧ kk + i = l0.length + 1 ∧ Aside0 (leastQ k l0 l1 i = some xs) ∧ Aside0 (IsQ wr w.heap.size (w.heap.size + 1) v xs) ∧ Aside0 (Below w.heap.size w wr))
  case atStart => exact ⟨0, [], _, rfl, rfl, ⟨rfl⟩, HQ0, HB0⟩
  case round =>
    clear HQ0 HB0
    obtain ⟨i, xs, v, rfl, hk, HX, HQ, HB⟩ := hrel
    have hxl := leastQ_length _ _ _ _ _ HX.out
    by_cases hlt : i < l0.length + 1
    · have hme : gk - 1 < gk := by omega
      have hdec : decide ((i : Int) < (l0.length : Int) + 1) = true := decide_eq_true (by omega)
      obtain ⟨ys, hys⟩ := leastQ_le HQF.out (i + 1) (by omega)
      rw [leastQ, HX.out, Option.bind_some] at hys
      obtain ⟨⟨p1, p2⟩, hp, hys⟩ := Option.bind_eq_some_iff.mp hys
      obtain ⟨t, ht, hys⟩ := Option.bind_eq_some_iff.mp hys
      have HP := Aside0.mk hp
      have HT := Aside0.mk ht
      have HY : Aside0 (leastQ k l0 l1 (i + 1) = some (pushL xs ⟨i, t⟩)) := ⟨by rw [leastQ, HX.out, Option.bind_some, hp, Option.bind_some, ht]; rfl⟩
      have HXL := Aside0.mk (show xs.length ≤ 900 by omega)
      have hic : i ≤ c0 := by omega
      obtain ⟨tk, htk⟩ : ∃ tk, l0.take i = tk := ⟨_, rfl⟩
      have hln : tk.length = i := by rw [← htk, List.length_take]; omega
      have hct := Kd.C_take (Kd.C_below HR0.out HB.out) (show i ≤ l0.length by omega)
      rw [htk] at hct HP
      have hcall := filter_Residuals.calls k A0 c0 tk A1 c1 l1 p1 p2 wr hct (by omega) (Kd.C_below HR1.out HB.out) hc1 HP.out
      rw [hln] at hcall
      have HC := Aside0.mk hcall
      clear hcall hct hln htk hp ht hys hxl
      go_wp2_with fail
      (with_reducible refine HC.out.mono ?_)
      rintro e w2 ⟨v2, rfl, hr2, hb2⟩
      obtain ⟨A2, c2, rfl, hle2, hC2⟩ := Kd.R_reads hr2
      have HQ2 := Aside0.mk (isQ_below HQ.out hb2)
      have HB2 := Aside0.mk (HB.out.trans (hb2.mono HB.out.size))
      have HS2 := Aside0.mk (Nat.le_trans HB.out.size hb2.size)
      have HC2 := Aside0.mk hC2
      clear hb2 hr2 hC2
      go_wp2_with fail
      (with_reducible refine (filter_sum.calls k A2 c2 p1 t w2 HC2.out hle2 HT.out).mono ?_)
      rintro e w3 ⟨rfl, hd3⟩
      have hb3 : Below w2.heap.size w2 w3 := by first | exact hd3 | exact hd3.below
      have HQ3 := Aside0.mk (isQ_below HQ2.out hb3)
      have HB3 := Aside0.mk (HB2.out.trans (hb3.mono HS2.out))
      have HS3 := Aside0.mk (Nat.le_trans HS2.out hb3.size)
      clear hb3 hd3
      go_wp2_with fail
      (with_reducible refine (heap_Push w w3 w.heap.size (w.heap.size + 1) v xs (i : Int) t HXL.out HS3.out HB3.out HQ3.out).mono ?_)
      rintro e w4 ⟨rfl, ⟨v4, hq4⟩, hb4⟩
      have HQ4 := Aside0.mk hq4
      have HB4 := Aside0.mk hb4
      have HIC := Aside0.mk (show (i : Int) + 1 = ((i + 1 : Nat) : Int) by omega)
      clear hq4 hb4
      go_wp2
      go_roundg (gk - 1)
      case rel => exact ⟨i + 1, pushL xs ⟨i, t⟩, v4, by first | rfl | rw [HIC.out], by omega, HY, HQ4, HB4⟩
      case measure => exact hme
    · have hii : i = l0.length + 1 := by omega
      have hdec : decide ((i : Int) < (l0.length : Int) + 1) = false := decide_eq_false (by omega)
      have hqs : xs = qs := by have := HX.out; rw [hii, HQF.out] at this; exact (Option.some.inj this).symm
      subst hqs
      obtain ⟨hg, hbg, hR⟩ := HQ.out
      obtain ⟨inner, hown⟩ := Kd.R_own hR
      obtain ⟨g, cap, rfl, hgg, cur, hcur⟩ : ∃ g cap, v = .slice (some ⟨g, 0, none⟩) xs.length cap ∧ w.heap.size ≤ g ∧ ∃ cur, wr.heap[g]? = some (.cells cur 63 (0, 0)) := by
        rcases hown.2 with ⟨_, h0⟩ | ⟨g, cap, cur, h1, h2, h3, _⟩
        · omega
        · exact ⟨g, cap, h1, h2, cur, h3⟩
      obtain ⟨A, c, he, hle, hC⟩ := Kd.R_reads hR
      cases he
      obtain ⟨ad, hA, hi0, hi1⟩ := at_T63 hC 0 (by omega) (by omega)
      cases hA
      have hc0 := (blk_cell hg 0).trans rfl
      have e0 : rd_T63 xs 0 = getQ xs 0 := rfl
      rw [add0, e0, HF.out] at hi0
      change wr.cell? ⟨g, 0, none⟩ = _ at hi0
      have HB' := HB
      have hpos : (0 < xs.length) = True := eq_true (by omega)
      have hpos1 : ((0 : Int) < (xs.length : Int)) = True := eq_true (by omega)
      clear e0 hR hg hown hcur hC hxl HQ HX HF HQF inner hi1 hii
      go_wp2
      first
        | (go_quiet (fail); go_wp2; go_ret)
        | go_ret
      exact ⟨rfl, HB'.out⟩
end Go.Proofs.Ytoglefgjiaoopaa.P
