/- The contracts of the writer's Zeros, Len, Align, Signed. -/
import Derived.Test.YtgglnmpjajnkaaaPx0
import Derived.Test.YtgglnmpjajnkaaaHBytes
import Derived.Lib.SliceRun
import Derived.Shelf.Abstract
import Derived.WalkSmall
namespace Go.Proofs.Ytgglnmpjajnkaaa.P
open Go.RowKit Go.Proofs.YtgglnmpjajnkaaaW.PrintWords Go.Proofs.YtgglnmpjajnkaaaW.PrintLast Go.Proofs.YtgglnmpjajnkaaaW.PrintMore
set_option linter.unusedVariables false
set_option linter.unusedSimpArgs false

set_option maxHeartbeats 4000000 in
set_option maxRecDepth 100000 in
/-- 'Zeros': so many bits 0, then a bit 1. -/
theorem wr_Zeros (w0 w : World) (g : Nat) (v : Value) (l : List Bool) (n : Int) (hB : Below w0.heap.size w0 w) (h : IsWr w0 w g v l) (hm : l.length ≤ 900000000) :
    Calls Try.prog 45 #[.pointer (some ⟨g, 0, none⟩), .int .i64 n] w (WrPost w0 w g v (if 0 ≤ n ∧ n ≤ 1000 then l ++ (List.replicate n.toNat false ++ [true]) else l) (.bool (decide (0 ≤ n ∧ n ≤ 1000)))) := by
  have HW := Aside0.mk h
  have HB := Aside0.mk hB
  clear h hB
  by_cases h0 : n < 0
  · rw [if_neg (by omega), decide_eq_false (show ¬ (0 ≤ n ∧ n ≤ 1000) by omega)]
    go_enter Try.func45, Try.ntmps45
    go_wp2
    go_ret
    exact wr_same _ HB.out HW.out
  · by_cases h1 : 1000 < n
    · rw [if_neg (by omega), decide_eq_false (show ¬ (0 ≤ n ∧ n ≤ 1000) by omega)]
      go_enter Try.func45, Try.ntmps45
      go_wp2
      go_ret
      exact wr_same _ HB.out HW.out
    · rw [if_pos (by omega), decide_eq_true (show 0 ≤ n ∧ n ≤ 1000 by omega)]
      obtain ⟨m, rfl⟩ := Int.eq_ofNat_of_zero_le (show 0 ≤ n by omega)
      rw [Int.toNat_natCast]
      go_enter Try.func45, Try.ntmps45
      go_wp2
      go_loopw [12] (fun v12 wr => ∃ (k : Nat) (v1 : Value), v12 = .int .i64 k ∧ k ≤ m ∧ Aside0 (IsWr w0 wr g v1 (l ++ List.replicate k false)) ∧ Aside0 (WrStep w0 w wr g v v1)) (fun v12 _ => m - (intOf v12).toNat)
      case atStart => exact ⟨0, v, rfl, Nat.zero_le _, ⟨by simpa using HW.out⟩, ⟨WrStep.refl HB.out⟩⟩
      case round =>
        obtain ⟨k, v1, rfl, hk, HI, HS⟩ := hrel
        by_cases hlt : k < m
        · go_wp2_with fail
          (with_reducible refine (wr_bit w0 wr g v1 _ false HS.out.below HI.out (by simp; omega)).mono ?_)
          rintro e w2 ⟨rfl, v2, hi2, hs2⟩
          have HI2 := Aside0.mk hi2
          have HS2 := Aside0.mk (HS.out.trans hs2)
          clear hi2 hs2
          go_wp2
          go_roundw
          case rel =>
            refine ⟨k + 1, v2, by go_num, by omega, ⟨?_⟩, HS2⟩
            have := HI2.out
            rw [List.append_assoc, ← List.replicate_succ'] at this
            exact this
          case measure => simp [intOf]; omega
        · obtain rfl : k = m := by omega
          go_wp2_with fail
          (with_reducible refine (wr_bit w0 wr g v1 _ true HS.out.below HI.out (by simp; omega)).mono ?_)
          rintro e w2 ⟨rfl, v2, hi2, hs2⟩
          have HI2 := Aside0.mk hi2
          have HS2 := Aside0.mk (HS.out.trans hs2)
          clear hi2 hs2
          go_wp2
          go_ret
          refine ⟨rfl, v2, ?_, HS2.out⟩
          have := HI2.out
          rw [List.append_assoc] at this
          exact this

set_option maxHeartbeats 4000000 in
/-- 'Len': how many bits. -/
theorem wr_Len (w0 w : World) (g : Nat) (v : Value) (l : List Bool) (h : IsWr w0 w g v l) :
    Calls Try.prog 17 #[.pointer (some ⟨g, 0, none⟩)] w fun e w' => e = .returned (.int .i64 (l.length : Int)) ∧ w = w' := by
  have hc := isWr_len h
  go_enter Try.func17, Try.ntmps17
  go_wp2
  go_ret
  exact ⟨rfl, rfl⟩
set_option maxHeartbeats 4000000 in
/-- 'Align': bits 0 up to a whole byte. -/
theorem wr_Align (w0 w : World) (g : Nat) (v : Value) (l : List Bool) (hB : Below w0.heap.size w0 w) (h : IsWr w0 w g v l) (hm : l.length ≤ 1000000000) :
    Calls Try.prog 50 #[.pointer (some ⟨g, 0, none⟩)] w (WrPost w0 w g v (alignB l) (.tuple #[])) := by
  have hc := isWr_val h
  have hc1 := isWr_len h
  have hf := isWr_free h 1
  have HW := Aside0.mk h
  have HB := Aside0.mk hB
  have hm2 : (pack l).length ≤ 1000000000 := by rw [pack_length]; omega
  obtain ⟨A, c, rfl⟩ := own_slice h.2.2
  clear h hB
  go_enter Try.func50, Try.ntmps50
  go_wp2
  go_end0
  have e : ((pack l).length : Int) * 8 = ((alignB l).length : Int) := by rw [alignB_length, pack_length]; omega
  rw [e]
  obtain ⟨hb, hg, ho⟩ := HW.out
  refine ⟨rfl, _, ⟨blk_set hb 1 _, hg, ?_⟩, wrStep_fin rfl hg HB.out (Kept.refl _ _) (.inl rfl)⟩
  rw [pack_align]
  exact own_setCell ho (own_ne ho hb (by decide)) _
/-- May a number be told in two's complement of n bits? -/
def signedOk (x n : Int) : Bool := decide (1 ≤ n) && decide (n ≤ 48) && decide (-(2 ^ (n - 1).toNat) ≤ x) && decide (x < 2 ^ (n - 1).toNat)

set_option maxHeartbeats 8000000 in
set_option maxRecDepth 100000 in
theorem wr_Signed (w0 w : World) (g : Nat) (v : Value) (l : List Bool) (x n : Int) (hx0 : -9223372036854775808 ≤ x) (hx : x ≤ 9223372036854775807) (hB : Below w0.heap.size w0 w) (h : IsWr w0 w g v l) (hm : l.length ≤ 900000000) :
    Calls Try.prog 44 #[.pointer (some ⟨g, 0, none⟩), .int .i64 x, .int .i64 n] w (WrPost w0 w g v (if signedOk x n = true then l ++ bitsOf (x % 2 ^ n.toNat) n.toNat else l) (.bool (signedOk x n))) := by
  have HW := Aside0.mk h
  have HB := Aside0.mk hB
  clear h hB
  by_cases h0 : n < 1
  · have hp : signedOk x n = false := by simp [signedOk]; omega
    rw [hp]
    clear hp
    go_enter Try.func44, Try.ntmps44
    go_wp2
    go_ret
    exact wr_same _ HB.out HW.out
  · by_cases h1 : 48 < n
    · have hp : signedOk x n = false := by simp [signedOk]; omega
      rw [hp]
      clear hp
      go_enter Try.func44, Try.ntmps44
      go_wp2
      go_ret
      exact wr_same _ HB.out HW.out
    · obtain ⟨k, rfl⟩ : ∃ k : Nat, n = (k : Int) + 1 := ⟨(n - 1).toNat, by omega⟩
      have hk : k ≤ 47 := by omega
      have hpb := pow_bound (show k ≤ 62 by omega)
      have hp47 : (2 : Int) ^ k ≤ 140737488355328 := by
        have h1 : 2 ^ k ≤ 2 ^ 47 := Nat.pow_le_pow_right (by omega) hk
        rw [pow_cast]
        omega
      have hw1 : wrap64 (-2 ^ k) = -2 ^ k := by unfold wrap64; omega
      have hw2 : wrap64 (2 ^ k) = 2 ^ k := by unfold wrap64; omega
      have hmask := u64_mask_wrap x (show k + 1 ≤ 62 by omega)
      have HMASK := Aside0.mk hmask
      have HP := Aside0.mk hpb
      have HP47 := Aside0.mk hp47
      have hkk : ((k : Int) + 1).toNat = k + 1 := by omega
      have hkk2 : ((k : Int) + 1 - 1).toNat = k := by omega
      clear hmask hpb hp47
      by_cases hlo : x < -2 ^ k
      · have hp : signedOk x ((k : Int) + 1) = false := by simp [signedOk]; omega
        rw [hp]
        clear hp hkk hkk2
        go_enter Try.func44, Try.ntmps44
        go_wp2
        go_ret
        exact wr_same _ HB.out HW.out
      · by_cases hhi : 2 ^ k ≤ x
        · have hp : signedOk x ((k : Int) + 1) = false := by simp [signedOk]; omega
          rw [hp]
          clear hp hkk hkk2
          go_enter Try.func44, Try.ntmps44
          go_wp2
          go_ret
          exact wr_same _ HB.out HW.out
        · have hp : signedOk x ((k : Int) + 1) = true := by simp [signedOk]; omega
          rw [hp, hkk]
          clear hp hkk hkk2
          go_enter Try.func44, Try.ntmps44
          go_wp2_with fail
          rw [HMASK.out]
          have hxm := Int.emod_nonneg x (show (2 : Int) ^ (k + 1) ≠ 0 from Int.ne_of_gt (Int.pow_pos (by omega)))
          have hxl := Int.emod_lt_of_pos x (show (0 : Int) < 2 ^ (k + 1) from Int.pow_pos (by omega))
          have hpb2 := pow_bound (show k + 1 ≤ 62 by omega)
          have hok : putOk (x % 2 ^ (k + 1)) ((k : Int) + 1) = true := by
            simp only [putOk, show ((k : Int) + 1).toNat = k + 1 by omega, Bool.and_eq_true, decide_eq_true_eq]
            exact ⟨⟨by omega, by omega⟩, hxl⟩
          have hput := wr_Put w0 w g v l (x % 2 ^ (k + 1)) ((k : Int) + 1) hxm (by omega) HB.out HW.out hm
          rw [hok, if_pos rfl, show ((k : Int) + 1).toNat = k + 1 by omega] at hput
          have HPUT := Aside0.mk hput
          clear hput hok hpb2 hxm hxl
          (with_reducible refine HPUT.out.mono ?_)
          rintro e w1 ⟨rfl, v1, hi1, hs1⟩
          have HI1 := Aside0.mk hi1
          have HS1 := Aside0.mk hs1
          clear hi1 hs1 HPUT
          go_wp2
          go_ret
          exact ⟨rfl, v1, HI1.out, HS1.out⟩
end Go.Proofs.Ytgglnmpjajnkaaa.P
