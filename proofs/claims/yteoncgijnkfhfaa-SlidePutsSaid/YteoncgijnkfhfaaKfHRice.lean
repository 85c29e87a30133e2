/- The contract of the code of layer 2 that a number is put as. -/
import Derived.Test.YteoncgijnkfhfaaKfPx0
import Derived.Test.YteoncgijnkfhfaaKfHZeros
import Derived.Test.YteoncgijnkfhfaaKfPx1
namespace Go.Proofs.Yteoncgijnkfhfaa.P
open Go.RowKit Go.Proofs.YteoncgijnkfhfaaW.PrintWords Go.Proofs.YteoncgijnkfhfaaW.PrintLast Go.Proofs.YteoncgijnkfhfaaW.PrintMore
set_option linter.unusedVariables false
set_option linter.unusedSimpArgs false

def foldZ (n : Int) : Int := if n < 0 then -2 * n - 1 else 2 * n
def mayZ (n k : Int) : Bool := decide (-8589934592 ≤ n) && decide (n < 8589934592) && decide (0 ≤ k) && decide (k ≤ 24)
/-- The bits of a number's code. -/
def codeZ (n : Int) (k : Nat) : List Bool :=
  if foldZ n / 2 ^ k < 24 then (List.replicate (foldZ n / 2 ^ k).toNat false ++ [true]) ++ bitsOf (foldZ n % 2 ^ k) k else (List.replicate 24 false ++ [true]) ++ bitsOf (foldZ n) 34
theorem may_eq (n k : Int) : rice_may.f n k = some (mayZ n k) := by
  unfold rice_may.f mayZ
  by_cases h1 : n ≥ -8589934592
  · rw [if_pos h1]
    by_cases h2 : n < 8589934592
    · rw [if_pos h2]
      by_cases h3 : k ≥ 0
      · rw [if_pos h3, decide_eq_true h1, decide_eq_true h2, decide_eq_true h3]; rfl
      · rw [if_neg h3, decide_eq_false (show ¬ 0 ≤ k from h3)]; simp
    · rw [if_neg h2, decide_eq_false h2]; simp
  · rw [if_neg h1, decide_eq_false (show ¬ -8589934592 ≤ n from h1)]; simp
theorem fold_eq {n : Int} (h1 : -4000000000000000000 ≤ n) (h2 : n ≤ 4000000000000000000) : rice_Fold.f n = some (foldZ n) := by
  unfold rice_Fold.f foldZ
  split
  · next h => rw [show wrap64 (-2 * n) = -2 * n by unfold wrap64; omega, show wrap64 (-2 * n - 1) = -2 * n - 1 by unfold wrap64; omega]
  · next h => rw [show wrap64 (2 * n) = 2 * n by unfold wrap64; omega]
theorem foldZ_bound {n : Int} (h1 : -8589934592 ≤ n) (h2 : n < 8589934592) : 0 ≤ foldZ n ∧ foldZ n < 17179869184 := by unfold foldZ; split <;> omega
theorem isWr_drewN {w0 w : World} {g : Nat} {v : Value} {l : List Bool} (h : IsWr w0 w g v l) (n : Nat) : IsWr w0 (w.drewN n) g v l := h
theorem wrStep_drewN {w0 w : World} {g : Nat} {v : Value} (hB : Below w0.heap.size w0 w) (n : Nat) : WrStep w0 w (w.drewN n) g v v := ⟨pw_below_drewN hB n, (Kept.refl _ _).drewN n, .inl rfl⟩

set_option maxHeartbeats 8000000 in
set_option maxRecDepth 100000 in
theorem wr_ricePut (w0 w : World) (g : Nat) (v : Value) (l : List Bool) (n k : Int) (hB : Below w0.heap.size w0 w) (h : IsWr w0 w g v l) (hm : l.length ≤ 800000000) :
    Calls Try.prog 56 #[.pointer (some ⟨g, 0, none⟩), .int .i64 n, .int .i64 k] w (WrPost w0 w g v (if mayZ n k = true then l ++ codeZ n k.toNat else l) (.bool (mayZ n k))) := by
  have HW := Aside0.mk h
  have HB := Aside0.mk hB
  clear h hB
  cases hmay : mayZ n k with
  | false =>
    have HM := Aside0.mk hmay
    clear hmay
    rw [if_neg (by simp)]
    go_enter Try.func56, Try.ntmps56
    go_wp2_with fail
    (with_reducible refine (rice_may.calls n k false _ (by rw [may_eq, HM.out])).mono ?_)
    rintro e w1 ⟨rfl, hd⟩
    obtain ⟨nd, rfl⟩ := hd.out
    clear hd
    go_wp2
    go_ret
    exact ⟨rfl, v, isWr_drewN HW.out nd, wrStep_drewN HB.out nd⟩
  | true =>
    have HM := Aside0.mk hmay
    have hb : (-8589934592 ≤ n ∧ n < 8589934592) ∧ 0 ≤ k ∧ k ≤ 24 := by simp [mayZ] at hmay; omega
    obtain ⟨⟨hn1, hn2⟩, hk1, hk2⟩ := hb
    clear hmay
    rw [if_pos rfl]
    obtain ⟨m, rfl⟩ := Int.eq_ofNat_of_zero_le hk1
    rw [Int.toNat_natCast]
    have hz := foldZ_bound hn1 hn2
    have HF := Aside0.mk (fold_eq (n := n) (by omega) (by omega))
    obtain ⟨hz0, hz1⟩ := hz
    have HC := Aside0.mk (show codeZ n m = codeZ n m from rfl)
    have hcode : codeZ n m = if foldZ n / 2 ^ m < 24 then (List.replicate (foldZ n / 2 ^ m).toNat false ++ [true]) ++ bitsOf (foldZ n % 2 ^ m) m else (List.replicate 24 false ++ [true]) ++ bitsOf (foldZ n) 34 := rfl
    have HCODE := Aside0.mk hcode
    clear hcode
    have hq0 : 0 ≤ foldZ n / 2 ^ m := Int.ediv_nonneg hz0 (Int.pow_nonneg (by omega))
    have hpb := pow_bound (show m ≤ 62 by omega)
    have HP := Aside0.mk hpb
    have hw1 : wrap64 (2 ^ m) = 2 ^ m := by unfold wrap64; omega
    have hw2 : wrap64 (2 ^ m - 1) = 2 ^ m - 1 := by unfold wrap64; omega
    have hmask := i64_mask hz0 (show foldZ n < 9223372036854775808 by omega) (show m ≤ 62 by omega)
    have HMASK := Aside0.mk hmask
    have hrem0 : 0 ≤ foldZ n % 2 ^ m := Int.emod_nonneg _ (by omega)
    have hreml : foldZ n % 2 ^ m < 2 ^ m := Int.emod_lt_of_pos _ (by omega)
    have hok1 : putOk (foldZ n % 2 ^ m) m = true := by simp [putOk]; exact ⟨by omega, hreml⟩
    have hok2 : putOk (foldZ n) 34 = true := by simp [putOk]; omega
    have HR0 := Aside0.mk hrem0
    have HRL := Aside0.mk hreml
    have HOK1 := Aside0.mk hok1
    have HOK2 := Aside0.mk hok2
    clear hpb hmask hrem0 hreml hok1 hok2
    generalize foldZ n = z at *
    by_cases hq : z / 2 ^ m < 24
    · have hcd := HCODE.out
      rw [if_pos hq] at hcd
      rw [hcd]
      clear hcd
      go_enter Try.func56, Try.ntmps56
      go_wp2_with fail
      (with_reducible refine (rice_may.calls n m true _ (by rw [may_eq, HM.out])).mono ?_)
      rintro e w1 ⟨rfl, hd⟩
      obtain ⟨nd, rfl⟩ := hd.out
      clear hd
      go_wp2_with fail
      (with_reducible refine (rice_Fold.calls n z _ HF.out).mono ?_)
      rintro e w1 ⟨rfl, hd⟩
      obtain ⟨nd2, rfl⟩ := hd.out
      clear hd
      go_wp2_with fail
      have hzer := wr_Zeros w0 (w.drewN (nd + nd2)) g v l (z / 2 ^ m) (pw_below_drewN HB.out _) (isWr_drewN HW.out _) (by omega)
      rw [if_pos (show 0 ≤ z / 2 ^ m ∧ z / 2 ^ m ≤ 1000 by omega), decide_eq_true (show 0 ≤ z / 2 ^ m ∧ z / 2 ^ m ≤ 1000 by omega)] at hzer
      have HZER := Aside0.mk hzer
      clear hzer
      (with_reducible refine HZER.out.mono ?_)
      rintro e w1 ⟨rfl, v1, hi1, hs1⟩
      have HI1 := Aside0.mk hi1
      have HS1 := Aside0.mk ((wrStep_drewN HB.out (nd + nd2)).trans hs1)
      clear hi1 hs1 HZER
      go_wp2_with fail
      rw [HMASK.out, show IntKind.u64.wrap (z % 2 ^ m) = z % 2 ^ m by rw [u64_wrap]; exact Int.emod_eq_of_lt HR0.out (by have := HRL.out; have := HP.out; omega)]
      have hlen : (l ++ (List.replicate (z / 2 ^ m).toNat false ++ [true])).length ≤ 900000000 := by simp; omega
      have hput := wr_Put w0 w1 g v1 _ (z % 2 ^ m) m HR0.out (by have := HRL.out; have := HP.out; omega) HS1.out.below HI1.out hlen
      rw [HOK1.out, if_pos rfl, Int.toNat_natCast] at hput
      have HPUT := Aside0.mk hput
      clear hput hlen
      (with_reducible refine HPUT.out.mono ?_)
      rintro e w2 ⟨rfl, v2, hi2, hs2⟩
      have HI2 := Aside0.mk hi2
      have HS2 := Aside0.mk (HS1.out.trans hs2)
      clear hi2 hs2 HPUT
      go_wp2
      go_ret
      refine ⟨rfl, v2, ?_, HS2.out⟩
      have := HI2.out
      rw [List.append_assoc] at this
      exact this
    · have hcd := HCODE.out
      rw [if_neg hq] at hcd
      rw [hcd]
      clear hcd
      go_enter Try.func56, Try.ntmps56
      go_wp2_with fail
      (with_reducible refine (rice_may.calls n m true _ (by rw [may_eq, HM.out])).mono ?_)
      rintro e w1 ⟨rfl, hd⟩
      obtain ⟨nd, rfl⟩ := hd.out
      clear hd
      go_wp2_with fail
      (with_reducible refine (rice_Fold.calls n z _ HF.out).mono ?_)
      rintro e w1 ⟨rfl, hd⟩
      obtain ⟨nd2, rfl⟩ := hd.out
      clear hd
      go_wp2_with fail
      have hzer := wr_Zeros w0 (w.drewN (nd + nd2)) g v l 24 (pw_below_drewN HB.out _) (isWr_drewN HW.out _) (by omega)
      rw [if_pos (by omega), decide_eq_true (show (0 : Int) ≤ 24 ∧ (24 : Int) ≤ 1000 by omega)] at hzer
      have HZER := Aside0.mk hzer
      clear hzer
      (with_reducible refine HZER.out.mono ?_)
      rintro e w1 ⟨rfl, v1, hi1, hs1⟩
      have HI1 := Aside0.mk hi1
      have HS1 := Aside0.mk ((wrStep_drewN HB.out (nd + nd2)).trans hs1)
      clear hi1 hs1 HZER
      go_wp2_with fail
      have hu : IntKind.u64.wrap z = z := by rw [u64_wrap]; exact Int.emod_eq_of_lt hz0 (by omega)
      try rw [hu]
      clear hu
      have hlen : (l ++ (List.replicate (24 : Int).toNat false ++ [true])).length ≤ 900000000 := by simp; omega
      have hput := wr_Put w0 w1 g v1 _ z 34 hz0 (by omega) HS1.out.below HI1.out hlen
      rw [HOK2.out, if_pos rfl] at hput
      have HPUT := Aside0.mk hput
      clear hput hlen
      (with_reducible refine HPUT.out.mono ?_)
      rintro e w2 ⟨rfl, v2, hi2, hs2⟩
      have HI2 := Aside0.mk hi2
      have HS2 := Aside0.mk (HS1.out.trans hs2)
      clear hi2 hs2 HPUT
      go_wp2
      go_ret
      refine ⟨rfl, v2, ?_, HS2.out⟩
      have := HI2.out
      rw [List.append_assoc] at this
      exact this
end Go.Proofs.Yteoncgijnkfhfaa.P
