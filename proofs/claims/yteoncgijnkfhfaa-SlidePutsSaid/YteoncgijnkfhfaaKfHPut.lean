/- The contracts of the bit writer of layer 1: numbers of so many bits, noughts, alignment, length. -/
import Derived.Test.YteoncgijnkfhfaaKfPx0
import Derived.Test.YteoncgijnkfhfaaKfHWr
import Derived.Shelf.Abstract
import Derived.WalkSmall
namespace Go.Proofs.Yteoncgijnkfhfaa.P
open Go.RowKit Go.Proofs.YteoncgijnkfhfaaW.PrintWords Go.Proofs.YteoncgijnkfhfaaW.PrintLast Go.Proofs.YteoncgijnkfhfaaW.PrintMore
set_option linter.unusedVariables false
set_option linter.unusedSimpArgs false

/-- The n lowest bits of a number, the highest first. -/
def bitsOf (v : Int) : Nat → List Bool
  | 0 => []
  | n + 1 => decide (v / 2 ^ n % 2 = 1) :: bitsOf v n
theorem bitsOf_length (v : Int) (n : Nat) : (bitsOf v n).length = n := by
  induction n with
  | zero => rfl
  | succ n ih => simp [bitsOf, ih]
theorem Int.lt_of_ediv_lt_zero_aux (x : Int) (k : Nat) (h0 : 0 ≤ x) (e : x / 2 ^ k = 0) : x < 2 ^ k := by
  have h := Int.emod_lt_of_pos x (show (0 : Int) < 2 ^ k from Int.pow_pos (by omega))
  have h2 := Int.mul_ediv_add_emod x (2 ^ k)
  rw [e] at h2
  omega

set_option maxHeartbeats 4000000 in
set_option maxRecDepth 100000 in
/-- 'each' of a writer's bit: the n lowest bits of a number. -/
theorem wr_each (w0 w : World) (g : Nat) (v : Value) (l : List Bool) (x : Int) (n : Nat) (hx0 : 0 ≤ x) (hx : x ≤ 18446744073709551615) (hn : n ≤ 48) (hB : Below w0.heap.size w0 w) (h : IsWr w0 w g v l) (hm : l.length ≤ 900000000) :
    Calls Try.prog 71 #[.int .u64 x, .int .i64 (n : Int), .func (.func 72) #[.pointer (some ⟨g, 0, none⟩)] #[]] w (WrPost w0 w g v (l ++ bitsOf x n) (.tuple #[])) := by
  have HW := Aside0.mk h
  have HB := Aside0.mk hB
  clear h hB
  go_enter Try.func71, Try.ntmps71
  go_wp2
  go_loopw [6] (fun v6 wr => ∃ (k : Nat) (l1 : List Bool) (v1 : Value), v6 = .int .i64 ((k : Int) - 1) ∧ k ≤ n ∧ Aside0 (l1 ++ bitsOf x k = l ++ bitsOf x n) ∧ Aside0 (l1.length + k = l.length + n) ∧ Aside0 (IsWr w0 wr g v1 l1) ∧ Aside0 (WrStep w0 w wr g v v1)) (fun v6 _ => (intOf v6 + 1).toNat)
  case atStart => exact ⟨n, l, v, rfl, Nat.le_refl _, ⟨rfl⟩, ⟨rfl⟩, HW, ⟨WrStep.refl HB.out⟩⟩
  case round =>
    obtain ⟨k, l1, v1, rfl, hk, HE, HL, HI, HS⟩ := hrel
    cases k with
    | zero =>
      go_wp2
      go_end0
      have e := HE.out
      simp only [bitsOf, List.append_nil] at e
      subst e
      exact ⟨rfl, v1, HI.out, HS.out⟩
    | succ k =>
      have hy0 : 0 ≤ x / 2 ^ k := Int.ediv_nonneg hx0 (Int.pow_nonneg (by omega))
      have hy1 : x / 2 ^ k ≤ 18446744073709551615 := Int.le_trans (Int.ediv_le_self _ hx0) hx
      have hand := Go.and_one_u64 (x / 2 ^ k) hy0 hy1
      have HAND := Aside0.mk hand
      clear hand hy0 hy1
      go_wp2_with fail
      rw [HAND.out]
      (with_reducible refine (wr_bit w0 wr g v1 l1 (x / 2 ^ k % 2 == 1) HS.out.below HI.out (by have := HL.out; omega)).mono ?_)
      rintro e w2 ⟨rfl, v2, hi2, hs2⟩
      have HI2 := Aside0.mk hi2
      have HS2 := Aside0.mk (HS.out.trans hs2)
      clear hi2 hs2
      go_wp2
      go_roundw
      case rel =>
        refine ⟨k, l1 ++ [x / 2 ^ k % 2 == 1], v2, by go_num, by omega, ⟨?_⟩, ⟨by have := HL.out; simp; omega⟩, HI2, HS2⟩
        rw [← HE.out]
        simp [bitsOf, List.append_assoc]
        rfl
      case measure => simp [intOf]
/-- 'Put': a number of so many bits, if it is one. -/
def putOk (x n : Int) : Bool := decide (0 ≤ n) && decide (n ≤ 48) && decide (x < 2 ^ n.toNat)
theorem wr_same {w0 w : World} {g : Nat} {v : Value} {l : List Bool} (x : Value) (hB : Below w0.heap.size w0 w) (h : IsWr w0 w g v l) : WrPost w0 w g v l x (.returned x) w := ⟨rfl, v, h, WrStep.refl hB⟩

set_option maxHeartbeats 4000000 in
set_option maxRecDepth 100000 in
theorem wr_Put (w0 w : World) (g : Nat) (v : Value) (l : List Bool) (x n : Int) (hx0 : 0 ≤ x) (hx : x ≤ 18446744073709551615) (hB : Below w0.heap.size w0 w) (h : IsWr w0 w g v l) (hm : l.length ≤ 900000000) :
    Calls Try.prog 55 #[.pointer (some ⟨g, 0, none⟩), .int .u64 x, .int .i64 n] w (WrPost w0 w g v (if putOk x n = true then l ++ bitsOf x n.toNat else l) (.bool (putOk x n))) := by
  have HW := Aside0.mk h
  have HB := Aside0.mk hB
  clear h hB
  have hmf : ∀ (fn : Fn) (first cap : Array Value) (w : World), (Instr.makeFunc fn first cap).run Try.prog w = .ok (.func fn first cap) w := fun _ _ _ _ => rfl
  by_cases h0 : n < 0
  · have hp : putOk x n = false := by simp [putOk]; omega
    rw [hp]
    clear hp
    go_enter Try.func55, Try.ntmps55
    go_wp2
    go_ret
    exact wr_same _ HB.out HW.out
  · by_cases h1 : 48 < n
    · have hp : putOk x n = false := by simp [putOk]; omega
      rw [hp]
      clear hp
      go_enter Try.func55, Try.ntmps55
      go_wp2
      go_ret
      exact wr_same _ HB.out HW.out
    · obtain ⟨k, rfl⟩ := Int.eq_ofNat_of_zero_le (show 0 ≤ n by omega)
      rw [Int.toNat_natCast]
      have hk : k ≤ 48 := by omega
      have hpos : (0 : Int) < 2 ^ k := Int.pow_pos (by omega)
      by_cases h2 : x < 2 ^ k
      · have hp : putOk x k = true := by simp [putOk]; exact ⟨by omega, h2⟩
        rw [hp]
        have hz : (x / 2 ^ k != 0) = false := by rw [Int.ediv_eq_zero_of_lt hx0 h2]; rfl
        clear hp hpos h2
        go_enter Try.func55, Try.ntmps55
        go_wp2_with fail
        (with_reducible refine (wr_each w0 w g v l x k hx0 hx hk HB.out HW.out hm).mono ?_)
        rintro e w1 ⟨rfl, v1, hi1, hs1⟩
        have HI1 := Aside0.mk hi1
        have HS1 := Aside0.mk hs1
        clear hi1 hs1
        go_wp2
        go_ret
        exact ⟨rfl, v1, HI1.out, HS1.out⟩
      · have hp : putOk x k = false := by simp [putOk]; omega
        rw [hp]
        have hz : (x / 2 ^ k != 0) = true := by
          rw [bne_iff_ne]
          intro e
          exact h2 (Int.lt_of_ediv_lt_zero_aux x k hx0 e)
        clear hp hpos h2
        go_enter Try.func55, Try.ntmps55
        go_wp2
        go_ret
        exact wr_same _ HB.out HW.out

theorem isWr_len {w0 w : World} {g : Nat} {v : Value} {l : List Bool} (h : IsWr w0 w g v l) : w.cell? ⟨g, 1, none⟩ = some (.int .i64 (l.length : Int)) := (blk_cell h.1 1).trans rfl
theorem isWr_val {w0 w : World} {g : Nat} {v : Value} {l : List Bool} (h : IsWr w0 w g v l) : w.cell? ⟨g, 0, none⟩ = some v := (blk_cell h.1 0).trans rfl
/-- Bits up to a whole byte. -/
def alignB (l : List Bool) : List Bool := l ++ List.replicate ((8 - l.length % 8) % 8) false
theorem alignB_length (l : List Bool) : (alignB l).length = (l.length + 7) / 8 * 8 := by simp [alignB]; omega
theorem pack_false (l : List Bool) (m : Nat) (h : (l.length + m + 7) / 8 = (l.length + 7) / 8) : pack (l ++ List.replicate m false) = pack l := by
  unfold pack
  rw [List.length_append, List.length_replicate, h]
  apply List.map_congr_left
  intro i hi
  have e : ∀ j, bi (l ++ List.replicate m false) j = bi l j := by
    intro j
    by_cases hj : j < l.length
    · exact bi_app_left hj
    · rw [bi_out (l := l) (by omega)]
      unfold bi
      have e0 : (l ++ List.replicate m false).getD j false = false := by
        simp only [List.getD, List.getElem?_append_right (Nat.not_lt.mp hj), List.getElem?_replicate]
        split <;> rfl
      rw [e0]
      rfl
  unfold byteAt
  simp only [e]
theorem pack_align (l : List Bool) : pack (alignB l) = pack l := pack_false l _ (by omega)
end Go.Proofs.Yteoncgijnkfhfaa.P
