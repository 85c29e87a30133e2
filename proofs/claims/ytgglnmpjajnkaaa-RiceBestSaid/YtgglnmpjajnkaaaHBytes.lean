/- The contracts of slices.Clone over bytes, and of the bit writer's bytes and its numbers in two's complement. -/
import Derived.Test.YtgglnmpjajnkaaaPx0
import Derived.Test.YtgglnmpjajnkaaaHPut
import Derived.Test.YtgglnmpjajnkaaaHMask
import Derived.Lib.SliceRun
namespace Go.Proofs.Ytgglnmpjajnkaaa.P
open Go.RowKit Go.Proofs.YtgglnmpjajnkaaaW.PrintWords Go.Proofs.YtgglnmpjajnkaaaW.PrintLast Go.Proofs.YtgglnmpjajnkaaaW.PrintMore
set_option linter.unusedVariables false
set_option linter.unusedSimpArgs false

set_option maxHeartbeats 4000000 in
set_option maxRecDepth 100000 in
theorem cloneB_calls (A : Option Addr) (c : Nat) (l : List Int) (w : World) (hr : Kd.C (Kd.int .u8) w A l.length l) (hc : l.length ≤ c) (hm : l.length ≤ 1000000000) :
    Calls Try.prog 51 #[.slice A l.length c] w fun e w' => ∃ v, e = .returned v ∧ w'.ownsRow w.heap.size 5 1 v l.length (nums .u8 l) ∧ Below w.heap.size w w' := by
  have qT : ∀ (w : World) (a : Option Addr) (n c n' c' : Nat), (binOp .eql 24 (.slice a n c) (.slice none n' c')).run Try.prog w = .ok (.bool a.isNone) w := fun w a n c n' c' => Lib.run_eql_slice_nil w _ _ a n c n' c' Try.underlying24
  have HR := Aside0.mk hr
  clear hr
  cases A with
  | none =>
    have h0 : l = [] := by
      obtain ⟨_, _, h2⟩ := HR.out
      rcases Nat.eq_zero_or_pos l.length with h | h
      · exact List.eq_nil_of_length_eq_zero h
      · obtain ⟨ad, he, _⟩ := h2 h
        cases he
    subst h0
    go_enter Try.func51, Try.ntmps51
    go_wp2
    go_ret
    exact ⟨_, rfl, own_nil _ _ _ _, Below.refl _ _⟩
  | some ad =>
    have hin : (some ad).isNone = false := rfl
    go_enter Try.func51, Try.ntmps51
    go_wp2_with (at_builtin; refine print_append_row (w0 := w) (W := w.alloc (.cells #[] 5)) w.heap.size rfl _ _ 24 5 .u8 1 rfl Try.underlying24 wr_info (by decide) (.slice (some ⟨w.heap.size, 0, none⟩) 0 0) [] l (some ad) l.length c rfl rfl ?c1 ?c2 ?c3 ?c4 ?c5 ?_)
    case c1 => exact World.ownsRow_made w #[] 0 (Nat.le_refl _) (by unfold maxLen; omega) rfl
    case c2 => exact (Kd.reads_of_C (d := (0 : Int)) HR.out).below ((Below.refl _ _).alloc (Nat.le_refl _) _)
    case c3 => exact (Below.refl _ _).alloc (Nat.le_refl _) _
    case c4 => simp
    case c5 => simp; omega
    intro v1 w1 hown hB1 _ _
    have HO := Aside0.mk hown
    have HB := Aside0.mk hB1
    clear hown hB1
    go_wp2
    go_ret
    exact ⟨_, rfl, by simpa using HO.out, HB.out⟩

theorem owns_reads {w : World} {base : Nat} {v : Value} {l : List Int} (h : w.ownsRow base 5 1 v l.length (nums .u8 l)) : ∃ A c, v = .slice A l.length c ∧ l.length ≤ c ∧ Kd.C (Kd.int .u8) w A l.length l := by
  obtain ⟨A, c, rfl, hr⟩ := own_reads h
  exact ⟨A, c, rfl, own_le h, Kd.C_of_reads (d := (0 : Int)) (h1 := fun _ => rfl) hr⟩

set_option maxHeartbeats 4000000 in
set_option maxRecDepth 100000 in
/-- 'Bytes': its bytes, in memory of their own. -/
theorem wr_Bytes (w0 w : World) (g : Nat) (v : Value) (l : List Bool) (h : IsWr w0 w g v l) (hm : l.length ≤ 1000000000) :
    Calls Try.prog 18 #[.pointer (some ⟨g, 0, none⟩)] w fun e w' => ∃ v', e = .returned v' ∧ w'.ownsRow w.heap.size 5 1 v' (pack l).length (nums .u8 (pack l)) ∧ Below w.heap.size w w' := by
  have hc := isWr_val h
  have HW := Aside0.mk h
  clear h
  obtain ⟨A, c, rfl, hle, hr⟩ := owns_reads HW.out.2.2
  have HR := Aside0.mk hr
  have HM := Aside0.mk (show (pack l).length ≤ 1000000000 by rw [pack_length]; omega)
  clear hr
  go_enter Try.func18, Try.ntmps18
  go_wp2_with fail
  (with_reducible refine (cloneB_calls A c (pack l) _ HR.out hle HM.out).mono ?_)
  rintro e w1 ⟨v1, rfl, ho1, hb1⟩
  have HO := Aside0.mk ho1
  have HB := Aside0.mk hb1
  clear ho1 hb1
  go_wp2
  go_ret
  exact ⟨_, rfl, HO.out, HB.out⟩

/-- May a number be told in two's complement of n bits? -/
def signedOk (x n : Int) : Bool := decide (1 ≤ n) && decide (n ≤ 48) && decide (-(2 ^ (n - 1).toNat) ≤ x) && decide (x < 2 ^ (n - 1).toNat)

set_option maxHeartbeats 8000000 in
set_option maxRecDepth 100000 in
theorem wr_Signed (w0 w : World) (g : Nat) (v : Value) (l : List Bool) (x n : Int) (hx0 : -9223372036854775808 ≤ x) (hx : x ≤ 9223372036854775807) (hB : Below w0.heap.size w0 w) (h : IsWr w0 w g v l) (hm : l.length ≤ 900000000) :
    Calls Try.prog 44 #[.pointer (some ⟨g, 0, none⟩), .int .i64 x, .int .i64 n] w (WrPost w0 w g v (if signedOk x n = true then l ++ bitsOf (x % 2 ^ n.toNat) n.toNat else l) (.bool (signedOk x n))) := by
  have HW := Aside0.mk h
  have HB := Aside0.mk hB
  clear h hB
  by_cases h0 : n < 1
  · have hp : signedOk x n = false := by simp [signedOk]; omega
    rw [hp]
    clear hp
    go_enter Try.func44, Try.ntmps44
    go_wp2
    go_ret
    exact wr_same _ HB.out HW.out
  · by_cases h1 : 48 < n
    · have hp : signedOk x n = false := by simp [signedOk]; omega
      rw [hp]
      clear hp
      go_enter Try.func44, Try.ntmps44
      go_wp2
      go_ret
      exact wr_same _ HB.out HW.out
    · obtain ⟨k, rfl⟩ : ∃ k : Nat, n = (k : Int) + 1 := ⟨(n - 1).toNat, by omega⟩
      have hk : k ≤ 47 := by omega
      have hpb := pow_bound (show k ≤ 62 by omega)
      have hp47 : (2 : Int) ^ k ≤ 140737488355328 := by
        have h1 : 2 ^ k ≤ 2 ^ 47 := Nat.pow_le_pow_right (by omega) hk
        rw [pow_cast]
        omega
      have hw1 : wrap64 (-2 ^ k) = -2 ^ k := by unfold wrap64; omega
      have hw2 : wrap64 (2 ^ k) = 2 ^ k := by unfold wrap64; omega
      have hmask := u64_mask_wrap x (show k + 1 ≤ 62 by omega)
      have HMASK := Aside0.mk hmask
      have HP := Aside0.mk hpb
      have HP47 := Aside0.mk hp47
      have hkk : ((k : Int) + 1).toNat = k + 1 := by omega
      have hkk2 : ((k : Int) + 1 - 1).toNat = k := by omega
      clear hmask hpb hp47
      by_cases hlo : x < -2 ^ k
      · have hp : signedOk x ((k : Int) + 1) = false := by simp [signedOk]; omega
        rw [hp]
        clear hp hkk hkk2
        go_enter Try.func44, Try.ntmps44
        go_wp2
        go_ret
        exact wr_same _ HB.out HW.out
      · by_cases hhi : 2 ^ k ≤ x
        · have hp : signedOk x ((k : Int) + 1) = false := by simp [signedOk]; omega
          rw [hp]
          clear hp hkk hkk2
          go_enter Try.func44, Try.ntmps44
          go_wp2
          go_ret
          exact wr_same _ HB.out HW.out
        · have hp : signedOk x ((k : Int) + 1) = true := by simp [signedOk]; omega
          rw [hp, hkk]
          clear hp hkk hkk2
          go_enter Try.func44, Try.ntmps44
          go_wp2_with fail
          rw [HMASK.out]
          have hxm := Int.emod_nonneg x (show (2 : Int) ^ (k + 1) ≠ 0 from Int.ne_of_gt (Int.pow_pos (by omega)))
          have hxl := Int.emod_lt_of_pos x (show (0 : Int) < 2 ^ (k + 1) from Int.pow_pos (by omega))
          have hpb2 := pow_bound (show k + 1 ≤ 62 by omega)
          have hok : putOk (x % 2 ^ (k + 1)) ((k : Int) + 1) = true := by
            simp only [putOk, show ((k : Int) + 1).toNat = k + 1 by omega, Bool.and_eq_true, decide_eq_true_eq]
            exact ⟨⟨by omega, by omega⟩, hxl⟩
          have hput := wr_Put w0 w g v l (x % 2 ^ (k + 1)) ((k : Int) + 1) hxm (by omega) HB.out HW.out hm
          rw [hok, if_pos rfl, show ((k : Int) + 1).toNat = k + 1 by omega] at hput
          have HPUT := Aside0.mk hput
          clear hput hok hpb2 hxm hxl
          (with_reducible refine HPUT.out.mono ?_)
          rintro e w1 ⟨rfl, v1, hi1, hs1⟩
          have HI1 := Aside0.mk hi1
          have HS1 := Aside0.mk hs1
          clear hi1 hs1 HPUT
          go_wp2
          go_ret
          exact ⟨rfl, v1, HI1.out, HS1.out⟩
end Go.Proofs.Ytgglnmpjajnkaaa.P
