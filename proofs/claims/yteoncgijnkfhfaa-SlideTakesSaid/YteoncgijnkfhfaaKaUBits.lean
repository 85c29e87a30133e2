/- Bits as texts of 0 and 1, and what layer 1's reference makes of them: plain Lean. -/
import Derived.Test.YteoncgijnkfhfaaKaPx0
import Derived.Test.YteoncgijnkfhfaaKaPx3
import Derived.Test.YteoncgijnkfhfaaKaPx4
import Derived.Test.YteoncgijnkfhfaaKaPx7
import Derived.Test.YteoncgijnkfhfaaKaPx2
import Derived.Test.YteoncgijnkfhfaaKaHPut
import Derived.Test.YteoncgijnkfhfaaKaHMask
import Derived.Test.YteoncgijnkfhfaaKaUTools
import Derived.Test.YteoncgijnkfhfaaKaUBitsP
namespace Go.Proofs.Yteoncgijnkfhfaa.Pure
open Go.RowKit Go.Proofs.Yteoncgijnkfhfaa.P Go.Proofs.YteoncgijnkfhfaaW.PrintWords Go.Proofs.YteoncgijnkfhfaaW.PrintLast Go.Proofs.YteoncgijnkfhfaaW.PrintMore
set_option linter.unusedVariables false
set_option linter.unusedSimpArgs false

theorem power_l0 (n : Nat) (hn : n ≤ 62) (d : Nat) : ∀ (k i : Nat), i + d = n → d < k → sackbutref01_Power.l0 k n (2 ^ i) i = some (2 ^ n) := by
  induction d with
  | zero =>
    intro k i hi hk
    obtain ⟨k, rfl, _⟩ := pred_k hk
    simp only [sackbutref01_Power.l0]
    rw [if_neg (by omega), show i = n by omega]
  | succ d ih =>
    intro k i hi hk
    obtain ⟨k, rfl, hk'⟩ := pred_k hk
    simp only [sackbutref01_Power.l0]
    have hb := pow_bound (show i ≤ 62 by omega)
    have hb1 := pow_bound (show i + 1 ≤ 62 by omega)
    have e : (2 : Int) ^ i * 2 = 2 ^ (i + 1) := (Int.pow_succ 2 i).symm
    rw [if_pos (by omega), w64 (x := (2 : Int) ^ i * 2) (by omega) (by omega), w64 (x := (i : Int) + 1) (by omega) (by omega), e]
    have := ih k (i + 1) (by omega) (by omega)
    exact_mod_cast this
theorem power_ok {n : Nat} (hn : n ≤ 62) {k : Nat} (hk : n < k) : sackbutref01_Power.f k n = some (2 ^ n) := by
  have := power_l0 n hn n k 0 (by omega) hk
  simpa [sackbutref01_Power.f] using this
theorem shr_ok (x : Int) (k : Nat) (hk : k ≤ 63) : shr .i64 x k = x / 2 ^ k := by
  unfold shr
  rw [Int.toNat_natCast, Nat.min_eq_left (show k ≤ IntKind.bits .i64 by show k ≤ 64; omega)]
theorem shru_ok (x : Int) (k : Nat) (hk : k ≤ 63) : shr .u64 x k = x / 2 ^ k := by
  unfold shr
  rw [Int.toNat_natCast, Nat.min_eq_left (show k ≤ IntKind.bits .u64 by show k ≤ 64; omega)]

theorem strOf_bit (x : Int) (h : 0 ≤ x) : strOfNums [wrap64 (48 + Int.tmod x 2) % 256] = txt [decide (x % 2 = 1)] := by
  rw [Int.tmod_eq_emod_of_nonneg h]
  have : x % 2 = 0 ∨ x % 2 = 1 := by omega
  rcases this with e | e <;> rw [e, w64 (by omega) (by omega)] <;> rfl
theorem put_l0 (x : Int) (hx0 : 0 ≤ x) (hx : x ≤ 9223372036854775807) (n : Nat) (hn : n ≤ 100000) (d : Nat) : ∀ (k i : Nat), i + d = n → d < k → sackbutref01_Put.l0 k (x / 2 ^ i) n (txt (bitsOf x i)) i = some (txt (bitsOf x n)) := by
  induction d with
  | zero =>
    intro k i hi hk
    obtain ⟨k, rfl, _⟩ := pred_k hk
    simp only [sackbutref01_Put.l0]
    rw [if_neg (by omega), show i = n by omega]
  | succ d ih =>
    intro k i hi hk
    obtain ⟨k, rfl, hk'⟩ := pred_k hk
    simp only [sackbutref01_Put.l0]
    have hp : (0 : Int) < 2 ^ i := Int.pow_pos (by omega)
    have hq0 : 0 ≤ x / 2 ^ i := Int.ediv_nonneg hx0 (by omega)
    have hq1 : x / 2 ^ i ≤ x := Int.ediv_le_self _ hx0
    rw [if_pos (by omega), bs, strOf_bit _ hq0, txt_size, txt_size, bitsOf_length, if_pos (by simp; omega), txt_app, Int.tdiv_eq_ediv_of_nonneg hq0, w64 (x := x / 2 ^ i / 2) (by omega) (by omega), w64 (x := (i : Int) + 1) (by omega) (by omega), Int.ediv_ediv_of_nonneg (by omega), ← Int.pow_succ]
    have := ih k (i + 1) (by omega) (by omega)
    exact_mod_cast this
theorem put_ok {x : Int} (hx0 : 0 ≤ x) (hx : x ≤ 9223372036854775807) {n : Nat} (hn : n ≤ 100000) {k : Nat} (hk : n < k) : sackbutref01_Put.f k x n = some (txt (bitsOf x n)) := by
  have := put_l0 x hx0 hx n hn n k 0 (by omega) hk
  simpa [sackbutref01_Put.f, bitsOf, txt_nil] using this
/- Number -/
theorem number_l0 (l : List Bool) (hl : l.length ≤ 62) (d : Nat) : ∀ (k i : Nat), i + d = l.length → d < k → sackbutref01_Number.l0 k (txt l) (numL (l.take i)) i = some (numL l) := by
  induction d with
  | zero =>
    intro k i hi hk
    obtain ⟨k, rfl, _⟩ := pred_k hk
    simp only [sackbutref01_Number.l0]
    rw [if_neg (by rw [txt_size]; omega), List.take_of_length_le (by omega)]
  | succ d ih =>
    intro k i hi hk
    obtain ⟨k, rfl, hk'⟩ := pred_k hk
    simp only [sackbutref01_Number.l0]
    have hr := numL_range (l.take i)
    have hp := pow_bound (show (l.take i).length ≤ 61 + 1 by rw [List.length_take]; omega)
    have hp' : (2 : Int) ^ (l.take i).length ≤ 2 ^ 61 := by
      rw [pow_cast, pow_cast]
      exact_mod_cast Nat.pow_le_pow_right (by omega) (by rw [List.length_take]; omega)
    have ht : l.take (i + 1) = l.take i ++ [l.getD i false] := by
      rw [List.take_add_one, List.getD, List.getElem?_eq_getElem (by omega)]
      rfl
    have hn : numL (l.take (i + 1)) = numL (l.take i) * 2 + (if l.getD i false = true then 1 else 0) := by
      rw [ht, numL_app, numL_cons]
      simp [numL, numA]
    have := ih k (i + 1) (by omega) (by omega)
    rw [hn] at this
    rw [if_pos (by rw [txt_size]; omega), if_pos (by omega), txt_bt (by omega), w64 (x := numL (l.take i) * 2) (by omega) (by omega), w64 (x := (i : Int) + 1) (by omega) (by omega)]
    cases hb : l.getD i false with
    | true =>
      rw [hb] at this
      rw [if_pos rfl, if_pos rfl, w64 (by omega) (by omega)]
      exact_mod_cast this
    | false =>
      rw [hb] at this
      rw [if_neg (by simp)]
      simp only [Bool.false_eq_true, if_false, Int.add_zero] at this
      exact_mod_cast this
theorem number_ok {l : List Bool} (hl : l.length ≤ 62) {k : Nat} (hk : l.length < k) : sackbutref01_Number.f k (txt l) = some (numL l) := by
  have := number_l0 l hl l.length k 0 (by omega) hk
  simpa [sackbutref01_Number.f, numL, numA] using this
end Go.Proofs.Yteoncgijnkfhfaa.Pure
