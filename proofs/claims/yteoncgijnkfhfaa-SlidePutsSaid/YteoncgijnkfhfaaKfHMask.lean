/- Plain lemmas on whole numbers' bits: a mask of the lowest bits is a remainder. -/
import Derived.Test.YteoncgijnkfhfaaKfPx0
import Derived.Laws.BitsAllLaws
namespace Go.Proofs.Yteoncgijnkfhfaa.P
open Go.RowKit Go.Proofs.YteoncgijnkfhfaaW.PrintWords Go.Proofs.YteoncgijnkfhfaaW.PrintLast Go.Proofs.YteoncgijnkfhfaaW.PrintMore
set_option linter.unusedVariables false
set_option linter.unusedSimpArgs false

theorem pow_cast (k : Nat) : (2 : Int) ^ k = ((2 ^ k : Nat) : Int) := by simp
theorem pow_bound {k : Nat} (h : k ≤ 62) : (1 : Int) ≤ 2 ^ k ∧ (2 : Int) ^ k ≤ 4611686018427387904 := by
  have h1 : 2 ^ k ≤ 2 ^ 62 := Nat.pow_le_pow_right (by omega) h
  have h2 : 0 < 2 ^ k := Nat.two_pow_pos k
  rw [pow_cast]
  omega
theorem u64_mask {x : Int} {k : Nat} (h0 : 0 ≤ x) (h1 : x < 18446744073709551616) (hk : k ≤ 62) : Go.bits .and .u64 x (2 ^ k - 1) = x % 2 ^ k := by
  obtain ⟨n, rfl⟩ := Int.eq_ofNat_of_zero_le h0
  have hp := pow_bound hk
  have e : (2 : Int) ^ k - 1 = ((2 ^ k - 1 : Nat) : Int) := by rw [pow_cast] at hp ⊢; omega
  rw [e, u64_and_nat n _ (by omega) (by rw [pow_cast] at hp; omega), Nat.and_two_pow_sub_one_eq_mod, pow_cast]
  simp
theorem i64_and_nat (a b : Nat) (ha : a < 9223372036854775808) (hb : b < 9223372036854775808) : Go.bits .and .i64 (a : Int) (b : Int) = ((a &&& b : Nat) : Int) := by
  have hx : a &&& b < 2 ^ 63 := Nat.and_lt_two_pow _ (by omega)
  have h1 : (BitVec.ofInt 64 (a : Int)).toNat = a := by
    rw [BitVec.ofInt_natCast, BitVec.toNat_ofNat]; exact Nat.mod_eq_of_lt (by omega)
  have h2 : (BitVec.ofInt 64 (b : Int)).toNat = b := by
    rw [BitVec.ofInt_natCast, BitVec.toNat_ofNat]; exact Nat.mod_eq_of_lt (by omega)
  show IntKind.i64.wrap ((BitVec.ofInt 64 (a : Int) &&& BitVec.ofInt 64 (b : Int)).toNat : Int) = _
  rw [BitVec.toNat_and, h1, h2, i64_w]
  unfold wrap64
  omega
theorem i64_or_nat (a b : Nat) (ha : a < 9223372036854775808) (hb : b < 9223372036854775808) : Go.bits .or .i64 (a : Int) (b : Int) = ((a ||| b : Nat) : Int) := by
  have hx : a ||| b < 2 ^ 63 := Nat.or_lt_two_pow (by omega) (by omega)
  have h1 : (BitVec.ofInt 64 (a : Int)).toNat = a := by
    rw [BitVec.ofInt_natCast, BitVec.toNat_ofNat]; exact Nat.mod_eq_of_lt (by omega)
  have h2 : (BitVec.ofInt 64 (b : Int)).toNat = b := by
    rw [BitVec.ofInt_natCast, BitVec.toNat_ofNat]; exact Nat.mod_eq_of_lt (by omega)
  show IntKind.i64.wrap ((BitVec.ofInt 64 (a : Int) ||| BitVec.ofInt 64 (b : Int)).toNat : Int) = _
  rw [BitVec.toNat_or, h1, h2, i64_w]
  unfold wrap64
  omega
theorem i64_mask {x : Int} {k : Nat} (h0 : 0 ≤ x) (h1 : x < 9223372036854775808) (hk : k ≤ 62) : Go.bits .and .i64 x (2 ^ k - 1) = x % 2 ^ k := by
  obtain ⟨n, rfl⟩ := Int.eq_ofNat_of_zero_le h0
  have hp := pow_bound hk
  have e : (2 : Int) ^ k - 1 = ((2 ^ k - 1 : Nat) : Int) := by rw [pow_cast] at hp ⊢; omega
  rw [e, i64_and_nat n _ (by omega) (by rw [pow_cast] at hp; omega), Nat.and_two_pow_sub_one_eq_mod, pow_cast]
  simp
/-- The highest bits or the lowest ones. -/
theorem i64_or_low {q x : Int} {k : Nat} (hq : 0 ≤ q) (hx : 0 ≤ x) (hxk : x < 2 ^ k) (h : q * 2 ^ k + x < 9223372036854775808) : Go.bits .or .i64 (q * 2 ^ k) x = q * 2 ^ k + x := by
  obtain ⟨a, rfl⟩ := Int.eq_ofNat_of_zero_le hq
  obtain ⟨b, rfl⟩ := Int.eq_ofNat_of_zero_le hx
  rw [pow_cast] at hxk h ⊢
  have e : (a : Int) * ((2 ^ k : Nat) : Int) = ((a * 2 ^ k : Nat) : Int) := by simp
  have hb : b < 2 ^ k := by omega
  rw [e] at h ⊢
  rw [i64_or_nat _ _ (by omega) (by omega), ← Nat.shiftLeft_eq, ← Nat.shiftLeft_add_eq_or_of_lt hb]
  simp
theorem u64_wrap (x : Int) : IntKind.u64.wrap x = x % 18446744073709551616 := IntKind.wrap_u64 x
end Go.Proofs.Yteoncgijnkfhfaa.P
