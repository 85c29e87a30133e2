/- The contracts of the writer's Zeros, Len, Align, Signed. -/
import Derived.Test.YteoncgijnkfhfaaKfPx0
import Derived.Test.YteoncgijnkfhfaaKfHBytes
import Derived.Lib.SliceRun
import Derived.Shelf.Abstract
import Derived.WalkSmall
namespace Go.Proofs.Yteoncgijnkfhfaa.P
open Go.RowKit Go.Proofs.YteoncgijnkfhfaaW.PrintWords Go.Proofs.YteoncgijnkfhfaaW.PrintLast Go.Proofs.YteoncgijnkfhfaaW.PrintMore
set_option linter.unusedVariables false
set_option linter.unusedSimpArgs false

set_option maxHeartbeats 4000000 in
set_option maxRecDepth 100000 in
/-- 'Zeros': so many bits 0, then a bit 1. -/
theorem wr_Zeros (w0 w : World) (g : Nat) (v : Value) (l : List Bool) (n : Int) (hB : Below w0.heap.size w0 w) (h : IsWr w0 w g v l) (hm : l.length ≤ 900000000) :
    Calls Try.prog 75 #[.pointer (some ⟨g, 0, none⟩), .int .i64 n] w (WrPost w0 w g v (if 0 ≤ n ∧ n ≤ 1000 then l ++ (List.replicate n.toNat false ++ [true]) else l) (.bool (decide (0 ≤ n ∧ n ≤ 1000)))) := by
  have HW := Aside0.mk h
  have HB := Aside0.mk hB
  clear h hB
  by_cases h0 : n < 0
  · rw [if_neg (by omega), decide_eq_false (show ¬ (0 ≤ n ∧ n ≤ 1000) by omega)]
    go_enter Try.func75, Try.ntmps75
    go_wp2
    go_ret
    exact wr_same _ HB.out HW.out
  · by_cases h1 : 1000 < n
    · rw [if_neg (by omega), decide_eq_false (show ¬ (0 ≤ n ∧ n ≤ 1000) by omega)]
      go_enter Try.func75, Try.ntmps75
      go_wp2
      go_ret
      exact wr_same _ HB.out HW.out
    · rw [if_pos (by omega), decide_eq_true (show 0 ≤ n ∧ n ≤ 1000 by omega)]
      obtain ⟨m, rfl⟩ := Int.eq_ofNat_of_zero_le (show 0 ≤ n by omega)
      rw [Int.toNat_natCast]
      go_enter Try.func75, Try.ntmps75
      go_wp2
      go_loopw [12] (fun v12 wr => ∃ (k : Nat) (v1 : Value), v12 = .int .i64 k ∧ k ≤ m ∧ Aside0 (IsWr w0 wr g v1 (l ++ List.replicate k false)) ∧ Aside0 (WrStep w0 w wr g v v1)) (fun v12 _ => m - (intOf v12).toNat)
      case atStart => exact ⟨0, v, rfl, Nat.zero_le _, ⟨by simpa using HW.out⟩, ⟨WrStep.refl HB.out⟩⟩
      case round =>
        obtain ⟨k, v1, rfl, hk, HI, HS⟩ := hrel
        by_cases hlt : k < m
        · go_wp2_with fail
          (with_reducible refine (wr_bit w0 wr g v1 _ false HS.out.below HI.out (by simp; omega)).mono ?_)
          rintro e w2 ⟨rfl, v2, hi2, hs2⟩
          have HI2 := Aside0.mk hi2
          have HS2 := Aside0.mk (HS.out.trans hs2)
          clear hi2 hs2
          go_wp2
          go_roundw
          case rel =>
            refine ⟨k + 1, v2, by go_num, by omega, ⟨?_⟩, HS2⟩
            have := HI2.out
            rw [List.append_assoc, ← List.replicate_succ'] at this
            exact this
          case measure => simp [intOf]; omega
        · obtain rfl : k = m := by omega
          go_wp2_with fail
          (with_reducible refine (wr_bit w0 wr g v1 _ true HS.out.below HI.out (by simp; omega)).mono ?_)
          rintro e w2 ⟨rfl, v2, hi2, hs2⟩
          have HI2 := Aside0.mk hi2
          have HS2 := Aside0.mk (HS.out.trans hs2)
          clear hi2 hs2
          go_wp2
          go_ret
          refine ⟨rfl, v2, ?_, HS2.out⟩
          have := HI2.out
          rw [List.append_assoc] at this
          exact this

set_option maxHeartbeats 4000000 in
/-- 'Len': how many bits. -/
theorem wr_Len (w0 w : World) (g : Nat) (v : Value) (l : List Bool) (h : IsWr w0 w g v l) :
    Calls Try.prog 28 #[.pointer (some ⟨g, 0, none⟩)] w fun e w' => e = .returned (.int .i64 (l.length : Int)) ∧ w = w' := by
  have hc := isWr_len h
  go_enter Try.func28, Try.ntmps28
  go_wp2
  go_ret
  exact ⟨rfl, rfl⟩
end Go.Proofs.Yteoncgijnkfhfaa.P
