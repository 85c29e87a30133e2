/- A number's code is taken as that number, whatever stands behind. -/
import Derived.Test.YtgglnmpjajnkaaaPx0
import Derived.Test.YtgglnmpjajnkaaaURiceCode
import Derived.Test.YtgglnmpjajnkaaaUAlign
namespace Go.Proofs.Ytgglnmpjajnkaaa.Pure
open Go.RowKit Go.Proofs.Ytgglnmpjajnkaaa.P Go.Proofs.YtgglnmpjajnkaaaW.PrintWords Go.Proofs.YtgglnmpjajnkaaaW.PrintLast Go.Proofs.YtgglnmpjajnkaaaW.PrintMore
set_option linter.unusedVariables false
set_option linter.unusedSimpArgs false

theorem runG_code (most : Int) (s : List Bool) : ∀ (q : Nat) (i : Int), i + q ≤ most → runG most i ((List.replicate q false ++ [true]) ++ s) = (i + q, s, 0) := by
  intro q
  induction q with
  | zero => intro i _; simp [runG]
  | succ q ih =>
    intro i h
    rw [List.replicate_succ, List.cons_append, List.cons_append, runG, if_neg (by omega), ih (i + 1) (by omega)]
    congr 1
    omega
theorem runB_code {q : Nat} {most : Int} (h : (q : Int) ≤ most) (s : List Bool) : runB ((List.replicate q false ++ [true]) ++ s) 0 most = ((q : Int), s, 0) := by
  unfold runB
  rw [if_neg (by simp), runG_code most s q 0 (by omega)]
  simp
theorem takeB_bits {v : Int} {n : Nat} (hn : n ≤ 48) (h0 : 0 ≤ v) (h1 : v < 2 ^ n) (s : List Bool) : takeB (bitsOf v n ++ s) 0 n = (v, s, 0) := by
  have hl := bitsOf_length v n
  unfold takeB
  rw [if_neg (by simp), if_neg (by omega), if_neg (by rw [List.length_append, hl]; omega), Int.toNat_natCast]
  have e1 : (bitsOf v n ++ s).take n = bitsOf v n := by
    conv => lhs; arg 1; rw [← hl]
    simp
  have e2 : (bitsOf v n ++ s).drop n = s := by
    conv => lhs; arg 1; rw [← hl]
    simp
  rw [e1, e2, numL_bitsOf n h0 h1]
theorem unfZ_fold {n : Int} : unfZ (foldZ n) = n := by
  unfold unfZ foldZ
  split <;> split <;> omega
theorem riceZ_code {n : Int} {k : Nat} (h1 : -8589934592 ≤ n) (h2 : n ≤ 8589934591) (hk : k ≤ 24) (s : List Bool) : riceZ (codeZ n k ++ s) 0 k = (n, s, 0) := by
  have hz := foldZ_bound h1 (show n < 8589934592 by omega)
  have hp := pow_bound (show k ≤ 62 by omega)
  have hq0 : 0 ≤ foldZ n / 2 ^ k := Int.ediv_nonneg hz.1 (by omega)
  have hr0 : 0 ≤ foldZ n % 2 ^ k := Int.emod_nonneg _ (by omega)
  have hr1 : foldZ n % 2 ^ k < 2 ^ k := Int.emod_lt_of_pos _ (by omega)
  have hdm := Int.mul_ediv_add_emod (foldZ n) (2 ^ k)
  unfold riceZ codeZ
  rw [if_neg (by omega)]
  by_cases hq : foldZ n / 2 ^ k < 24
  · rw [if_pos hq]
    obtain ⟨q, hqq⟩ := Int.eq_ofNat_of_zero_le hq0
    rw [hqq] at hq hdm ⊢
    rw [Int.toNat_natCast, List.append_assoc, runB_code (by omega), if_pos hq, takeB_bits (by omega) hr0 hr1, if_pos rfl, Int.toNat_natCast, Int.mul_comm, hdm, unfZ_fold]
  · rw [if_neg hq]
    have hrun := runB_code (q := 24) (most := 24) (by omega) (bitsOf (foldZ n) 34 ++ s)
    rw [show ((24 : Nat) : Int) = 24 from rfl] at hrun
    have htk := takeB_bits (n := 34) (by omega) hz.1 (by omega) s
    rw [show ((34 : Nat) : Int) = 34 from rfl] at htk
    rw [List.append_assoc, hrun, if_neg (by simp), htk, Int.toNat_natCast]
    simp only [if_neg hq]
    rw [if_pos trivial, unfZ_fold]
/-- What the alignment put behind is taken as the end. -/
theorem end_pad (l : List Bool) : endR (List.replicate ((8 - l.length % 8) % 8) false) 0 = 0 := by
  rw [end_few (by simp; omega)]
  have : (List.replicate ((8 - l.length % 8) % 8) false).any id = false := by
    rw [List.any_eq_false]
    intro x hx
    rw [(List.mem_replicate.mp hx).2]
    simp
  rw [this]
  rfl
end Go.Proofs.Ytgglnmpjajnkaaa.Pure
