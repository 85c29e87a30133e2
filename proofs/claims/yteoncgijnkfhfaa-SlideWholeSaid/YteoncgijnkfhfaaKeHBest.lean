/- container/heap's Push, and rice.Best. -/
import Derived.Test.YteoncgijnkfhfaaKePx0
import Derived.Test.YteoncgijnkfhfaaKeHUp
import Derived.Test.YteoncgijnkfhfaaKePx1
import Derived.Deep.QuietTactic
import Derived.BigQuiet
namespace Go.Proofs.Yteoncgijnkfhfaa.P
open Go Go.RowKit Go.Proofs.YteoncgijnkfhfaaW.PrintWords Go.Proofs.YteoncgijnkfhfaaW.PrintLast Go.Proofs.YteoncgijnkfhfaaW.PrintMore
set_option linter.unusedVariables false
set_option linter.unusedSimpArgs false

def pushL (xs : List QE) (x : QE) : List QE := upL (xs.length + 1) (xs ++ [x]) xs.length
theorem upL_length : ∀ (f : Nat) (xs : List QE) (j : Nat), (upL f xs j).length = xs.length := by
  intro f
  induction f with
  | zero => intro xs j; rfl
  | succ f ih =>
    intro xs j
    rw [upL]
    split
    · rfl
    · split
      · rw [ih, swapL_length]
      · rfl
theorem pushL_length (xs : List QE) (x : QE) : (pushL xs x).length = xs.length + 1 := by unfold pushL; rw [upL_length]; simp

set_option maxHeartbeats 8000000 in
set_option maxRecDepth 100000 in
theorem heap_Push (w0 w : World) (base g : Nat) (v : Value) (xs : List QE) (x0 x1 : Int) (hm : xs.length ≤ 900) (hb : base ≤ w.heap.size) (hB : Below base w0 w) (hQ : IsQ w base g v xs) :
    Calls Try.prog 76 #[.iface 103 (.pointer (some ⟨g, 0, none⟩)), .iface 105 (.agg #[.int .i64 x0, .int .i64 x1])] w fun e w' => e = .returned (.tuple #[]) ∧ (∃ v', IsQ w' base g v' (pushL xs ⟨x0, x1⟩)) ∧ Below base w0 w' := by
  have HQ := Aside0.mk hQ
  have HB := Aside0.mk hB
  have hmP := fun n => m_Push ⟨g, 0, none⟩ w n
  clear hQ hB
  go_enter Try.func76, Try.ntmps76
  go_wp2_with fail
  (with_reducible refine (q_Push w0 w base g v xs ⟨x0, x1⟩ (by omega) hb HB.out HQ.out).mono ?_)
  rintro e w1 ⟨rfl, ⟨v1, hq1⟩, hb1⟩
  obtain ⟨ys, hys⟩ : ∃ ys : List QE, xs ++ [⟨x0, x1⟩] = ys := ⟨_, rfl⟩
  have hl : ys.length = xs.length + 1 := by rw [← hys]; simp
  rw [hys] at hq1
  have HYS := Aside0.mk hys
  have HJ := Aside0.mk (show ((ys.length : Int) - 1) = (xs.length : Int) by omega)
  have hlb : ys.length ≤ 1000 := by omega
  have hlb1 : 1 ≤ ys.length := by omega
  have HJL := Aside0.mk (show xs.length < ys.length by omega)
  clear hys hl
  obtain ⟨hg1, hbg, hR1⟩ := hq1
  obtain ⟨A1, c1, rfl, hle1, hC1⟩ := Kd.R_reads hR1
  have hc1 := (blk_cell hg1 0).trans rfl
  have hmL := fun n => m_Len ⟨g, 0, none⟩ w1 n
  have HQ1 := Aside0.mk (show IsQ w1 base g (.slice A1 ys.length c1) ys from ⟨hg1, hbg, hR1⟩)
  have HB1 := Aside0.mk hb1
  have HBS := Aside0.mk (Nat.le_trans hbg (Nat.le_of_lt (blk_lt hg1)))
  have HC1 := Aside0.mk hC1
  clear hg1 hR1 hb1 hC1 hmP
  go_wp2_with fail
  (with_reducible refine (rice_queue_Len.calls A1 c1 ys _ w1 HC1.out hle1 rfl).mono ?_)
  rintro e w2 ⟨rfl, hd⟩
  have HQ2 := Aside0.mk (isQ_below HQ1.out hd.below)
  have HB2 := Aside0.mk (HB1.out.trans (hd.below.mono HBS.out))
  have hbs2 : base ≤ w2.heap.size := Nat.le_trans HBS.out hd.below.size
  clear hd hc1 hmL
  go_wp2_with fail
  rw [HJ.out]
  (with_reducible refine (heap_up w0 w2 base g _ ys xs.length HJL.out hlb hbs2 HB2.out HQ2.out).mono ?_)
  rintro e w3 ⟨rfl, hq3, hb3⟩
  have HQ3 := Aside0.mk hq3
  have HB3 := Aside0.mk hb3
  clear hq3 hb3
  go_wp2
  go_end0
  exact ⟨rfl, ⟨_, by unfold pushL; rw [HYS.out]; exact HQ3.out⟩, HB3.out⟩


/-- The queue behind n parameters. -/
def bestQ (k : Nat) (l : List Int) : Nat → Option (List QE)
  | 0 => some []
  | n + 1 => (bestQ k l n).bind fun xs => (rice_Total.f k l n).bind fun t => some (pushL xs ⟨n, t⟩)
theorem bestQ_length (k : Nat) (l : List Int) : ∀ (n : Nat) (xs : List QE), bestQ k l n = some xs → xs.length = n := by
  intro n
  induction n with
  | zero => intro xs h; cases h; rfl
  | succ n ih =>
    intro xs h
    rw [bestQ] at h
    obtain ⟨ys, h1, h⟩ := Option.bind_eq_some_iff.mp h
    obtain ⟨t, _, h⟩ := Option.bind_eq_some_iff.mp h
    cases h
    rw [pushL_length, ih ys h1]
theorem bestQ_le {k : Nat} {l : List Int} {n : Nat} {xs : List QE} (h : bestQ k l n = some xs) (m : Nat) (hm : m ≤ n) : ∃ ys, bestQ k l m = some ys := by
  induction n generalizing xs with
  | zero =>
    obtain rfl : m = 0 := by omega
    exact ⟨xs, h⟩
  | succ n ih =>
    by_cases e : m = n + 1
    · subst e
      exact ⟨xs, h⟩
    · rw [bestQ] at h
      obtain ⟨ys, h1, _⟩ := Option.bind_eq_some_iff.mp h
      exact ih h1 (by omega)
def rice_Best.f (k : Nat) (l : List Int) : Option (Int × Int) := (bestQ k l 25).bind fun xs => some ((getQ xs 0).f0, (getQ xs 0).f1)
set_option maxHeartbeats 8000000 in
set_option maxRecDepth 100000 in
theorem rice_Best.calls (k : Nat) (A0 : Option Addr) (c0 : Nat) (l0 : List Int) (r1 r2 : Int) (w : World) (hr0 : Kd.C (Kd.int .i64) w A0 l0.length l0) (hc0 : l0.length ≤ c0) (h : rice_Best.f k l0 = some (r1, r2)) :
    Calls Try.prog 61 #[.slice A0 l0.length c0] w fun e w' => e = .returned (.tuple #[.int .i64 r1, .int .i64 r2]) ∧ Below w.heap.size w w' := by
  obtain ⟨qs, hq, h⟩ := Option.bind_eq_some_iff.mp h
  have HF := Aside0.mk h
  have HQF := Aside0.mk hq
  have HR := Aside0.mk hr0
  clear h hq hr0
  have hu := Try.underlying105
  go_enter Try.func61, Try.ntmps61
  go_wp2
  have hq0 : IsQ (w.alloc (.cells #[.slice none 0 0] 101)) w.heap.size w.heap.size (.slice none 0 0) [] := ⟨blk_new w _, Nat.le_refl _, Kd.R_nil _ _ _ _ _⟩
  have HQ0 := Aside0.mk hq0
  have HB0 := Aside0.mk (below_alloc (Below.refl w.heap.size w) (.cells #[.slice none 0 0] 101))
  clear hq0
  go_loopg [5, 6] 25 (fun kk v5 v6 wr => ∃ (i : Nat) (xs : List QE) (v : Value), v6 = .int .i64 i ∧ kk + i = 25 ∧ Aside0 (bestQ k l0 i = some xs) ∧ Aside0 (IsQ wr w.heap.size w.heap.size v xs) ∧ Aside0 (Below w.heap.size w wr))
  case atStart => exact ⟨0, [], _, rfl, rfl, ⟨rfl⟩, HQ0, HB0⟩
  case round =>
    clear HQ0 HB0
    obtain ⟨i, xs, v, rfl, hk, HX, HQ, HB⟩ := hrel
    have hxl := bestQ_length _ _ _ _ HX.out
    by_cases hlt : i < 25
    · have hme : gk - 1 < gk := by omega
      have hdec : decide ((i : Int) < 25) = true := decide_eq_true (by omega)
      obtain ⟨ys, hys⟩ := bestQ_le HQF.out (i + 1) (by omega)
      rw [bestQ, HX.out, Option.bind_some] at hys
      obtain ⟨t, ht, hys⟩ := Option.bind_eq_some_iff.mp hys
      have HT := Aside0.mk ht
      have HY : Aside0 (bestQ k l0 (i + 1) = some (pushL xs ⟨i, t⟩)) := ⟨by rw [bestQ, HX.out, Option.bind_some, ht]; rfl⟩
      have HXL := Aside0.mk (show xs.length ≤ 900 by omega)
      clear ht hys hxl
      go_wp2_with fail
      (with_reducible refine (rice_Total.calls k A0 c0 l0 (i : Int) t wr (Kd.C_below HR.out HB.out) hc0 HT.out).mono ?_)
      rintro e w2 ⟨rfl, hd2⟩
      have hb2 := hd2.below
      have HQ2 := Aside0.mk (isQ_below HQ.out hb2)
      have HB2 := Aside0.mk (HB.out.trans (hb2.mono HB.out.size))
      have HS2 := Aside0.mk (Nat.le_trans HB.out.size hb2.size)
      clear hb2 hd2
      go_wp2_with fail
      (with_reducible refine (heap_Push w w2 w.heap.size w.heap.size v xs (i : Int) t HXL.out HS2.out HB2.out HQ2.out).mono ?_)
      rintro e w3 ⟨rfl, ⟨v3, hq3⟩, hb3⟩
      have HQ3 := Aside0.mk hq3
      have HB3 := Aside0.mk hb3
      have HIC := Aside0.mk (show (i : Int) + 1 = ((i + 1 : Nat) : Int) by omega)
      clear hq3 hb3
      go_wp2
      go_roundg (gk - 1)
      case rel => exact ⟨i + 1, pushL xs ⟨i, t⟩, v3, by first | rfl | rw [HIC.out], by omega, HY, HQ3, HB3⟩
      case measure => exact hme
    · have hii : i = 25 := by omega
      have hdec : decide ((i : Int) < 25) = false := decide_eq_false (by omega)
      subst hii
      have hqs : xs = qs := by have := HX.out; rw [HQF.out] at this; exact (Option.some.inj this).symm
      subst hqs
      obtain ⟨hg, hbg, hR⟩ := HQ.out
      obtain ⟨inner, hown⟩ := Kd.R_own hR
      obtain ⟨g, cap, rfl, hgg, cur, hcur⟩ : ∃ g cap, v = .slice (some ⟨g, 0, none⟩) xs.length cap ∧ w.heap.size ≤ g ∧ ∃ cur, wr.heap[g]? = some (.cells cur 105 (0, 0)) := by
        rcases hown.2 with ⟨_, h0⟩ | ⟨g, cap, cur, h1, h2, h3, _⟩
        · omega
        · exact ⟨g, cap, h1, h2, cur, h3⟩
      obtain ⟨A, c, he, hle, hC⟩ := Kd.R_reads hR
      cases he
      obtain ⟨ad, hA, hi0, hi1⟩ := at_T105 hC 0 (by omega) (by omega)
      cases hA
      have hc0 := (blk_cell hg 0).trans rfl
      have hv : (getQ xs 0).f0 = r1 ∧ (getQ xs 0).f1 = r2 := by
        have := HF.out
        injection this with this
        injection this with h1 h2
        exact ⟨h1, h2⟩
      have e0 : rd_T105 xs 0 = getQ xs 0 := rfl
      rw [add0, e0, hv.1] at hi0
      rw [add0, e0, hv.2] at hi1
      change wr.cell? ⟨g, 0, none⟩ = _ at hi0
      change wr.cell? ⟨g, 1, none⟩ = _ at hi1
      have HB' := HB
      have hpos : (0 < xs.length) = True := eq_true (by omega)
      have hpos1 : ((0 : Int) < (xs.length : Int)) = True := eq_true (by omega)
      clear hv e0 hR hg hown hcur hC hxl HQ HX HF HQF inner
      go_wp2
      go_quiet (fail)
      go_wp2
      go_ret2
      exact ⟨rfl, pw_below_drewN HB'.out _⟩
end Go.Proofs.Yteoncgijnkfhfaa.P
