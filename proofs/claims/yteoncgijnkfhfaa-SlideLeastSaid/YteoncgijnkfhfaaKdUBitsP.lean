/- Bits, texts of bits, numbers of bits, bytes as bits: no printed function in sight. -/
import Derived.Test.YteoncgijnkfhfaaKdPx0
import Derived.Test.YteoncgijnkfhfaaKdHPut
import Derived.Test.YteoncgijnkfhfaaKdHMask
import Derived.Test.YteoncgijnkfhfaaKdUTools
import Derived.Laws.BitsAllLaws
import Derived.Test.YteoncgijnkfhfaaKdPx3
import Derived.Test.YteoncgijnkfhfaaKdPx9
import Derived.Test.YteoncgijnkfhfaaKdPx1
section
namespace Go.Proofs.Yteoncgijnkfhfaa.Pure
open Go.RowKit Go.Proofs.Yteoncgijnkfhfaa.P Go.Proofs.YteoncgijnkfhfaaW.PrintWords Go.Proofs.YteoncgijnkfhfaaW.PrintLast Go.Proofs.YteoncgijnkfhfaaW.PrintMore
set_option linter.unusedVariables false
set_option linter.unusedSimpArgs false

def Bytes8 (b : List Int) : Prop := ∀ x ∈ b, 0 ≤ x ∧ x ≤ 255
theorem Bytes8.rd {b : List Int} (h : Bytes8 b) {i : Nat} (hi : i < b.length) : 0 ≤ rd b i ∧ rd b i ≤ 255 := h _ (rd_mem (by omega) (by omega))

end Go.Proofs.Yteoncgijnkfhfaa.Pure
end
section
/- Bits as texts of 0 and 1, and what layer 1's reference makes of them: plain Lean. -/
namespace Go.Proofs.Yteoncgijnkfhfaa.Pure
open Go.RowKit Go.Proofs.Yteoncgijnkfhfaa.P Go.Proofs.YteoncgijnkfhfaaW.PrintWords Go.Proofs.YteoncgijnkfhfaaW.PrintLast Go.Proofs.YteoncgijnkfhfaaW.PrintMore
set_option linter.unusedVariables false
set_option linter.unusedSimpArgs false

theorem power_l0 (n : Nat) (hn : n ≤ 62) (d : Nat) : ∀ (k i : Nat), i + d = n → d < k → sackbutref01_Power.l0 k n (2 ^ i) i = some (2 ^ n) := by
  induction d with
  | zero =>
    intro k i hi hk
    obtain ⟨k, rfl, _⟩ := pred_k hk
    simp only [sackbutref01_Power.l0]
    rw [if_neg (by omega), show i = n by omega]
  | succ d ih =>
    intro k i hi hk
    obtain ⟨k, rfl, hk'⟩ := pred_k hk
    simp only [sackbutref01_Power.l0]
    have hb := pow_bound (show i ≤ 62 by omega)
    have hb1 := pow_bound (show i + 1 ≤ 62 by omega)
    have e : (2 : Int) ^ i * 2 = 2 ^ (i + 1) := (Int.pow_succ 2 i).symm
    rw [if_pos (by omega), w64 (x := (2 : Int) ^ i * 2) (by omega) (by omega), w64 (x := (i : Int) + 1) (by omega) (by omega), e]
    have := ih k (i + 1) (by omega) (by omega)
    exact_mod_cast this
theorem power_ok {n : Nat} (hn : n ≤ 62) {k : Nat} (hk : n < k) : sackbutref01_Power.f k n = some (2 ^ n) := by
  have := power_l0 n hn n k 0 (by omega) hk
  simpa [sackbutref01_Power.f] using this
theorem shr_ok (x : Int) (k : Nat) (hk : k ≤ 63) : shr .i64 x k = x / 2 ^ k := by
  unfold shr
  rw [Int.toNat_natCast, Nat.min_eq_left (show k ≤ IntKind.bits .i64 by show k ≤ 64; omega)]
end Go.Proofs.Yteoncgijnkfhfaa.Pure
end
