/- Bits as texts of 0 and 1, and what layer 1's reference makes of them: plain Lean. -/
import Derived.Test.YtlebgjcpidpgnaaPx0
import Derived.Test.YtlebgjcpidpgnaaPx1
import Derived.Test.YtlebgjcpidpgnaaHPut
import Derived.Test.YtlebgjcpidpgnaaHMask
import Derived.Test.YtlebgjcpidpgnaaUTools
import Derived.Test.YtlebgjcpidpgnaaUBitsP
namespace Go.Proofs.Ytlebgjcpidpgnaa.Pure
open Go.RowKit Go.Proofs.Ytlebgjcpidpgnaa.P Go.Proofs.YtlebgjcpidpgnaaW.PrintWords Go.Proofs.YtlebgjcpidpgnaaW.PrintLast Go.Proofs.YtlebgjcpidpgnaaW.PrintMore
set_option linter.unusedVariables false
set_option linter.unusedSimpArgs false

theorem shr_ok (x : Int) (k : Nat) (hk : k ≤ 63) : shr .i64 x k = x / 2 ^ k := by
  unfold shr
  rw [Int.toNat_natCast, Nat.min_eq_left (show k ≤ IntKind.bits .i64 by show k ≤ 64; omega)]
theorem shru_ok (x : Int) (k : Nat) (hk : k ≤ 63) : shr .u64 x k = x / 2 ^ k := by
  unfold shr
  rw [Int.toNat_natCast, Nat.min_eq_left (show k ≤ IntKind.bits .u64 by show k ≤ 64; omega)]

theorem strOf_bit (x : Int) (h : 0 ≤ x) : strOfNums [wrap64 (48 + Int.tmod x 2) % 256] = txt [decide (x % 2 = 1)] := by
  rw [Int.tmod_eq_emod_of_nonneg h]
  have : x % 2 = 0 ∨ x % 2 = 1 := by omega
  rcases this with e | e <;> rw [e, w64 (by omega) (by omega)] <;> rfl
theorem number_l0 (l : List Bool) (hl : l.length ≤ 62) (d : Nat) : ∀ (k i : Nat), i + d = l.length → d < k → sackbutref01_Number.l0 k (txt l) (numL (l.take i)) i = some (numL l) := by
  induction d with
  | zero =>
    intro k i hi hk
    obtain ⟨k, rfl, _⟩ := pred_k hk
    simp only [sackbutref01_Number.l0]
    rw [if_neg (by rw [txt_size]; omega), List.take_of_length_le (by omega)]
  | succ d ih =>
    intro k i hi hk
    obtain ⟨k, rfl, hk'⟩ := pred_k hk
    simp only [sackbutref01_Number.l0]
    have hr := numL_range (l.take i)
    have hp := pow_bound (show (l.take i).length ≤ 61 + 1 by rw [List.length_take]; omega)
    have hp' : (2 : Int) ^ (l.take i).length ≤ 2 ^ 61 := by
      rw [pow_cast, pow_cast]
      exact_mod_cast Nat.pow_le_pow_right (by omega) (by rw [List.length_take]; omega)
    have ht : l.take (i + 1) = l.take i ++ [l.getD i false] := by
      rw [List.take_add_one, List.getD, List.getElem?_eq_getElem (by omega)]
      rfl
    have hn : numL (l.take (i + 1)) = numL (l.take i) * 2 + (if l.getD i false = true then 1 else 0) := by
      rw [ht, numL_app, numL_cons]
      simp [numL, numA]
    have := ih k (i + 1) (by omega) (by omega)
    rw [hn] at this
    rw [if_pos (by rw [txt_size]; omega), if_pos (by omega), txt_bt (by omega), w64 (x := numL (l.take i) * 2) (by omega) (by omega), w64 (x := (i : Int) + 1) (by omega) (by omega)]
    cases hb : l.getD i false with
    | true =>
      rw [hb] at this
      rw [if_pos rfl, if_pos rfl, w64 (by omega) (by omega)]
      exact_mod_cast this
    | false =>
      rw [hb] at this
      rw [if_neg (by simp)]
      simp only [Bool.false_eq_true, if_false, Int.add_zero] at this
      exact_mod_cast this
theorem number_ok {l : List Bool} (hl : l.length ≤ 62) {k : Nat} (hk : l.length < k) : sackbutref01_Number.f k (txt l) = some (numL l) := by
  have := number_l0 l hl l.length k 0 (by omega) hk
  simpa [sackbutref01_Number.f, numL, numA] using this
end Go.Proofs.Ytlebgjcpidpgnaa.Pure
