/- A reader's numbers in two's complement, as the plain machine has them. -/
import Derived.Test.YtlebgjcpidpgnaaPx0
import Derived.Test.YtlebgjcpidpgnaaPx2
import Derived.Test.YtlebgjcpidpgnaaPx3
import Derived.Test.YtlebgjcpidpgnaaUReader
import Derived.Test.YtlebgjcpidpgnaaUBits
namespace Go.Proofs.Ytlebgjcpidpgnaa.Pure
open Go.RowKit Go.Proofs.Ytlebgjcpidpgnaa.P Go.Proofs.YtlebgjcpidpgnaaW.PrintWords Go.Proofs.YtlebgjcpidpgnaaW.PrintLast Go.Proofs.YtlebgjcpidpgnaaW.PrintMore
set_option linter.unusedVariables false
set_option linter.unusedSimpArgs false

theorem p48 {n : Nat} (h : n ≤ 48) : (1 : Int) ≤ 2 ^ n ∧ (2 : Int) ^ n ≤ 281474976710656 := by
  have h1 : 2 ^ n ≤ 2 ^ 48 := Nat.pow_le_pow_right (by omega) h
  have h2 : ((2 ^ n : Nat) : Int) ≤ ((2 ^ 48 : Nat) : Int) := by exact_mod_cast h1
  rw [Int.natCast_pow] at h2
  have h3 : (0 : Int) < 2 ^ n := Int.pow_pos (by omega)
  exact ⟨by omega, h2⟩
theorem shl_one {n : Nat} (h : n ≤ 48) : shl .i64 1 (n : Int) = 2 ^ n := by
  have hp := p48 h
  unfold shl
  rw [Int.toNat_natCast, show min n IntKind.i64.bits = n by show min n 64 = n; omega, Int.one_mul, IntKind.wrap_i64]
  omega
/-- A number of n bits in two's complement. -/
def signV (n : Nat) (v : Int) : Int := if v ≥ 2 ^ (n - 1) then v - 2 ^ n else v
theorem takeB_num (s : List Bool) (e : Int) {n : Nat} (hn : n ≤ 48) : 0 ≤ (takeB s e n).1 ∧ (takeB s e n).1 < 2 ^ n := by
  have hp := p48 hn
  unfold takeB
  split
  · exact ⟨by simp, by show (0 : Int) < _; omega⟩
  · split
    · exact ⟨by simp, by show (0 : Int) < _; omega⟩
    · split
      · exact ⟨by simp, by show (0 : Int) < _; omega⟩
      · have hr := numL_range (s.take n)
        have hl : (s.take n).length ≤ n := by rw [List.length_take]; omega
        have h2 : (2 : Int) ^ (s.take n).length ≤ 2 ^ n := by
          have : 2 ^ (s.take n).length ≤ 2 ^ n := Nat.pow_le_pow_right (by omega) hl
          exact_mod_cast this
        simp only [Int.toNat_natCast]
        omega
theorem psigned_ok {b : List Int} (hb : Bytes8 b) (hl : b.length ≤ 10000000) {s : List Bool} (hs : s <:+ unpack b) (e : Int) {n : Nat} (h1 : 1 ≤ n) (hn : n ≤ 48) {k : Nat} (hk : 52 < k) :
    pipe_Reader_Signed.f k b (pos b s) e n = some (if (takeB s e n).2.2 = 0 then signV n (takeB s e n).1 else (takeB s e n).1, pos b (takeB s e n).2.1, (takeB s e n).2.2) := by
  have ht := takeB_num s e hn
  have hp := p48 hn
  have hp1 := p48 (n := n - 1) (by omega)
  have e1 : wrap64 ((n : Int) - 1) = ((n - 1 : Nat) : Int) := by rw [w64 (by omega) (by omega)]; omega
  unfold pipe_Reader_Signed.f
  rw [if_neg (by omega), take_ok hb hl hs e n hk, bs, e1, shl_one (by omega), shl_one hn]
  simp only
  rw [w64 (x := (takeB s e n).1) (by omega) (by omega)]
  by_cases he : (takeB s e n).2.2 = 0
  · rw [if_pos he, if_pos he, if_pos (by omega)]
    unfold signV
    split
    · rw [if_pos (by omega), w64 (by omega) (by omega)]
    · rfl
  · rw [if_neg he, if_neg he]
theorem rint_ok (s : List Bool) (hs : s.length ≤ 100000000) (a e : Int) {n : Nat} (h1 : 1 ≤ n) (hn : n ≤ 48) {k : Nat} (hk : 100 < k) :
    sackbutref01_Int.f k (txt s) a e n = some (txt (takeB s e n).2.1, a, (takeB s e n).2.2, if (takeB s e n).2.2 = 0 then signV n (takeB s e n).1 else (takeB s e n).1) := by
  have ht := takeB_num s e hn
  have hp := p48 hn
  have hp1 := p48 (n := n - 1) (by omega)
  have e1 : wrap64 ((n : Int) - 1) = ((n - 1 : Nat) : Int) := by rw [w64 (by omega) (by omega)]; omega
  obtain ⟨k, rfl, hk1⟩ := pred_k hk
  unfold sackbutref01_Int.f
  rw [if_neg (by omega)]
  simp only [sackbutref01_Int.j0]
  rw [rtake_ok s hs a e n (by omega), bs, e1, power_ok (by omega) (by omega), power_ok (by omega) (by omega)]
  simp only [Option.bind_some]
  by_cases he : (takeB s e n).2.2 = 0
  · rw [if_pos he, if_pos he]
    unfold signV
    split
    · rw [w64 (by omega) (by omega)]
    · rfl
  · rw [if_neg he, if_neg he]
end Go.Proofs.Ytlebgjcpidpgnaa.Pure
