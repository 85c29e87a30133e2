/- Bits as texts of 0 and 1, and what layer 1's reference makes of them: plain Lean. -/
import Derived.Test.YtlebgjcpidpgnaaPx0
import Derived.Test.YtlebgjcpidpgnaaPx3
import Derived.Test.YtlebgjcpidpgnaaHPut
import Derived.Test.YtlebgjcpidpgnaaHMask
import Derived.Test.YtlebgjcpidpgnaaUTools
import Derived.Test.YtlebgjcpidpgnaaUBitsP
namespace Go.Proofs.Ytlebgjcpidpgnaa.Pure
open Go.RowKit Go.Proofs.Ytlebgjcpidpgnaa.P Go.Proofs.YtlebgjcpidpgnaaW.PrintWords Go.Proofs.YtlebgjcpidpgnaaW.PrintLast Go.Proofs.YtlebgjcpidpgnaaW.PrintMore
set_option linter.unusedVariables false
set_option linter.unusedSimpArgs false

theorem shr_ok (x : Int) (k : Nat) (hk : k ≤ 63) : shr .i64 x k = x / 2 ^ k := by
  unfold shr
  rw [Int.toNat_natCast, Nat.min_eq_left (show k ≤ IntKind.bits .i64 by show k ≤ 64; omega)]
theorem shru_ok (x : Int) (k : Nat) (hk : k ≤ 63) : shr .u64 x k = x / 2 ^ k := by
  unfold shr
  rw [Int.toNat_natCast, Nat.min_eq_left (show k ≤ IntKind.bits .u64 by show k ≤ 64; omega)]

theorem strOf_bit (x : Int) (h : 0 ≤ x) : strOfNums [wrap64 (48 + Int.tmod x 2) % 256] = txt [decide (x % 2 = 1)] := by
  rw [Int.tmod_eq_emod_of_nonneg h]
  have : x % 2 = 0 ∨ x % 2 = 1 := by omega
  rcases this with e | e <;> rw [e, w64 (by omega) (by omega)] <;> rfl
theorem put_l0 (x : Int) (hx0 : 0 ≤ x) (hx : x ≤ 9223372036854775807) (n : Nat) (hn : n ≤ 100000) (d : Nat) : ∀ (k i : Nat), i + d = n → d < k → sackbutref01_Put.l0 k (x / 2 ^ i) n (txt (bitsOf x i)) i = some (txt (bitsOf x n)) := by
  induction d with
  | zero =>
    intro k i hi hk
    obtain ⟨k, rfl, _⟩ := pred_k hk
    simp only [sackbutref01_Put.l0]
    rw [if_neg (by omega), show i = n by omega]
  | succ d ih =>
    intro k i hi hk
    obtain ⟨k, rfl, hk'⟩ := pred_k hk
    simp only [sackbutref01_Put.l0]
    have hp : (0 : Int) < 2 ^ i := Int.pow_pos (by omega)
    have hq0 : 0 ≤ x / 2 ^ i := Int.ediv_nonneg hx0 (by omega)
    have hq1 : x / 2 ^ i ≤ x := Int.ediv_le_self _ hx0
    rw [if_pos (by omega), bs, strOf_bit _ hq0, txt_size, txt_size, bitsOf_length, if_pos (by simp; omega), txt_app, Int.tdiv_eq_ediv_of_nonneg hq0, w64 (x := x / 2 ^ i / 2) (by omega) (by omega), w64 (x := (i : Int) + 1) (by omega) (by omega), Int.ediv_ediv_of_nonneg (by omega), ← Int.pow_succ]
    have := ih k (i + 1) (by omega) (by omega)
    exact_mod_cast this
theorem put_ok {x : Int} (hx0 : 0 ≤ x) (hx : x ≤ 9223372036854775807) {n : Nat} (hn : n ≤ 100000) {k : Nat} (hk : n < k) : sackbutref01_Put.f k x n = some (txt (bitsOf x n)) := by
  have := put_l0 x hx0 hx n hn n k 0 (by omega) hk
  simpa [sackbutref01_Put.f, bitsOf, txt_nil] using this
/- Zeros -/
end Go.Proofs.Ytlebgjcpidpgnaa.Pure
