/- What the reference's code of a number is: the bits that layer 2 puts. -/
import Derived.Test.YtgglnmpjajnkaaaPx0
import Derived.Test.YtgglnmpjajnkaaaPx9
import Derived.Test.YtgglnmpjajnkaaaURiceTakes
namespace Go.Proofs.Ytgglnmpjajnkaaa.Pure
open Go.RowKit Go.Proofs.Ytgglnmpjajnkaaa.P Go.Proofs.YtgglnmpjajnkaaaW.PrintWords Go.Proofs.YtgglnmpjajnkaaaW.PrintLast Go.Proofs.YtgglnmpjajnkaaaW.PrintMore
set_option linter.unusedVariables false
set_option linter.unusedSimpArgs false

theorem code_ok {n kk : Int} {k : Nat} (hk : 100 < k) : sackbutref02_Code.f k n kk = some (if mayZ n kk = true then txt (codeZ n kk.toNat) else txt [], mayZ n kk) := by
  obtain ⟨k, rfl, _⟩ := pred_k (show 0 < k by omega)
  have hno : mayZ n kk = false → sackbutref02_Code.j0 (k + 1) n kk true = some (if mayZ n kk = true then txt (codeZ n kk.toNat) else txt [], mayZ n kk) := by
    intro h
    simp only [sackbutref02_Code.j0, h]
    rfl
  unfold sackbutref02_Code.f
  by_cases h1 : n < -8589934592
  · rw [if_pos h1]
    exact hno (by simp [mayZ]; omega)
  rw [if_neg h1]
  by_cases h2 : n > 8589934591
  · rw [if_pos h2]
    exact hno (by simp [mayZ]; omega)
  rw [if_neg h2]
  by_cases h3 : kk < 0
  · rw [if_pos h3]
    exact hno (by simp [mayZ]; omega)
  rw [if_neg h3]
  by_cases h4 : kk > 24
  · rw [decide_eq_true h4]
    exact hno (by simp [mayZ]; omega)
  rw [decide_eq_false h4]
  have hm : mayZ n kk = true := by simp [mayZ]; omega
  obtain ⟨m, rfl⟩ := Int.eq_ofNat_of_zero_le (show 0 ≤ kk by omega)
  have hz := foldZ_bound (show -8589934592 ≤ n by omega) (show n < 8589934592 by omega)
  have hp := pow_bound (show m ≤ 62 by omega)
  simp only [sackbutref02_Code.j0]
  rw [if_neg (by simp), ref_fold (by omega) (by omega), bs, power_ok (by omega) (by omega), bs, if_neg (by omega), Int.tdiv_eq_ediv_of_nonneg hz.1, Int.tmod_eq_emod_of_nonneg hz.1]
  have hq0 : 0 ≤ foldZ n / 2 ^ m := Int.ediv_nonneg hz.1 (by omega)
  have hq1 : foldZ n / 2 ^ m ≤ foldZ n := Int.ediv_le_self _ hz.1
  have hr0 : 0 ≤ foldZ n % 2 ^ m := Int.emod_nonneg _ (by omega)
  have hr1 : foldZ n % 2 ^ m < 2 ^ m := Int.emod_lt_of_pos _ (by omega)
  rw [w64 (x := foldZ n / 2 ^ m) (by omega) (by omega), hm, if_pos rfl, Int.toNat_natCast]
  unfold codeZ
  by_cases hq : foldZ n / 2 ^ m < 24
  · rw [if_pos hq, if_pos hq]
    obtain ⟨q, hqq⟩ := Int.eq_ofNat_of_zero_le hq0
    rw [hqq] at hq ⊢
    rw [zeros_ok (by omega) (by omega), bs, put_ok hr0 (by omega) (by omega) (by omega), bs, txt_size, txt_size, bitsOf_length, if_pos (by simp; omega), txt_app, Int.toNat_natCast]
  · rw [if_neg hq, if_neg hq]
    have hz24 := zeros_ok (n := 24) (by omega) (show 24 < k by omega)
    rw [show ((24 : Nat) : Int) = 24 from rfl] at hz24
    have hp34 := put_ok (n := 34) hz.1 (by omega) (by omega) (show 34 < k by omega)
    rw [show ((34 : Nat) : Int) = 34 from rfl] at hp34
    rw [hz24, bs, hp34, bs, txt_size, txt_size, bitsOf_length, if_pos (by simp), txt_app]
theorem codeZ_cost {n : Int} {k : Nat} (h1 : -8589934592 ≤ n) (h2 : n ≤ 8589934591) (hk : k ≤ 24) : ((codeZ n k).length : Int) = costZ n k := by
  have hz := foldZ_bound h1 (show n < 8589934592 by omega)
  have hq0 : 0 ≤ foldZ n / 2 ^ k := Int.ediv_nonneg hz.1 (Int.pow_nonneg (by omega))
  unfold codeZ costZ
  split
  · simp [bitsOf_length]
    omega
  · simp [bitsOf_length]
theorem cost_len (n kk : Int) : rice_Cost.f n kk = some (if mayZ n kk = true then ((codeZ n kk.toNat).length : Int) else 0) := by
  by_cases hm : mayZ n kk = true
  · have hb : -8589934592 ≤ n ∧ n < 8589934592 ∧ 0 ≤ kk ∧ kk ≤ 24 := by
      simp [mayZ] at hm
      omega
    obtain ⟨m, rfl⟩ := Int.eq_ofNat_of_zero_le hb.2.2.1
    rw [if_pos hm, Int.toNat_natCast, codeZ_cost hb.1 (by omega) (by omega), cost_ok hb.1 (by omega) (by omega)]
  · rw [if_neg hm]
    unfold rice_Cost.f
    rw [may_eq, bs, if_neg hm]
end Go.Proofs.Ytgglnmpjajnkaaa.Pure
