/- An act upon a writer. -/
import Derived.Test.YtgglnmpjajnkaaaPx0
import Derived.Test.YtgglnmpjajnkaaaHNew
import Derived.Test.YtgglnmpjajnkaaaHZeros
namespace Go.Proofs.Ytgglnmpjajnkaaa.P
open Go Go.RowKit Go.Proofs.YtgglnmpjajnkaaaW.PrintWords Go.Proofs.YtgglnmpjajnkaaaW.PrintLast Go.Proofs.YtgglnmpjajnkaaaW.PrintMore
set_option linter.unusedVariables false
set_option linter.unusedSimpArgs false

/-- Could the act be? -/
def doOk (a x n : Int) : Bool :=
  if a = 1 then putOk (x % 18446744073709551616) n else if a = 2 then signedOk x n else if a = 3 then decide (0 ≤ n ∧ n ≤ 1000) else true
/-- The bits behind it. -/
def doBits (l : List Bool) (a x n : Int) : List Bool :=
  if a = 1 then (if putOk (x % 18446744073709551616) n = true then l ++ bitsOf (x % 18446744073709551616) n.toNat else l)
  else if a = 2 then (if signedOk x n = true then l ++ bitsOf (x % 2 ^ n.toNat) n.toNat else l)
  else if a = 3 then (if 0 ≤ n ∧ n ≤ 1000 then l ++ (List.replicate n.toNat false ++ [true]) else l)
  else if a = 4 then alignB l else l
theorem kept_below {w w1 : World} (S : Nat → Prop) (hb : Below w.heap.size w w1) : Kept w w1 S := ⟨hb.size, fun i hi _ => hb.block i hi⟩
theorem WrStep.ahead {w0 w w1 w2 : World} {g : Nat} {v v' : Value} (hB : Below w0.heap.size w0 w) (hb : Below w.heap.size w w1) (h : WrStep w0 w1 w2 g v v') : WrStep w0 w w2 g v v' :=
  WrStep.trans (⟨below_then hB hB.size hb, kept_below _ hb, .inl rfl⟩ : WrStep w0 w w1 g v v) h

set_option maxHeartbeats 8000000 in
set_option maxRecDepth 100000 in
theorem wr_do (w0 w : World) (g : Nat) (v : Value) (l : List Bool) (a x n : Int) (hx0 : -9223372036854775808 ≤ x) (hx : x ≤ 9223372036854775807) (hB : Below w0.heap.size w0 w) (h : IsWr w0 w g v l) (hm : l.length ≤ 900000000) :
    Calls Try.prog 16 #[.pointer (some ⟨g, 0, none⟩), .agg #[.int .i64 a, .int .i64 x, .int .i64 n]] w (WrPost w0 w g v (doBits l a x n) (.bool (doOk a x n))) := by
  have HB := Aside0.mk hB
  have HM := Aside0.mk hm
  have hb1 := below_alloc (Below.refl w.heap.size w) (.cells #[.int .i64 a, .int .i64 x, .int .i64 n] 28)
  have HW1 := Aside0.mk (isWr_below h hb1)
  have HB1 := Aside0.mk (below_then hB hB.size hb1)
  have HA := Aside0.mk hb1
  clear h hB hb1 hm
  have hu := Try.underlying28
  have hcv : IntKind.u64.wrap x = x % 18446744073709551616 := by rw [IntKind.wrap_u64]
  have hmod0 : 0 ≤ x % 18446744073709551616 := by omega
  have hmod1 : x % 18446744073709551616 ≤ 18446744073709551615 := by omega
  by_cases h1 : a = 1
  · have e1 : doBits l a x n = if putOk (x % 18446744073709551616) n = true then l ++ bitsOf (x % 18446744073709551616) n.toNat else l := by unfold doBits; rw [if_pos h1]
    have e2 : doOk a x n = putOk (x % 18446744073709551616) n := by unfold doOk; rw [if_pos h1]
    rw [e1, e2]
    clear e1 e2
    have hk1 : (a == 1) = true := by simp [h1]
    clear h1
    have hcall := wr_Put w0 (w.alloc (.cells #[.int .i64 a, .int .i64 x, .int .i64 n] 28)) g v l (x % 18446744073709551616) n hmod0 hmod1 HB1.out HW1.out HM.out
    obtain ⟨L, hL⟩ : ∃ L, (if putOk (x % 18446744073709551616) n = true then l ++ bitsOf (x % 18446744073709551616) n.toNat else l) = L := ⟨_, rfl⟩
    obtain ⟨ok, hok⟩ : ∃ ok : Bool, (putOk (x % 18446744073709551616) n) = ok := ⟨_, rfl⟩
    rw [hL] at hcall
    rw [hok] at hcall
    rw [hL, hok]
    have HCALL := Aside0.mk hcall
    clear hcall hL hok
    go_enter Try.func16, Try.ntmps16
    go_wp2_with fail
    (with_reducible refine (HCALL.out).mono ?_)
    rintro e w1 ⟨rfl, v', hw, hs⟩
    have HX := Aside0.mk hw
    have HS := Aside0.mk (WrStep.ahead HB.out HA.out hs)
    clear hw hs HW1 HB1 HA
    go_wp2
    go_ret
    exact ⟨rfl, v', HX.out, HS.out⟩
  · by_cases h2 : a = 2
    · have e1 : doBits l a x n = if signedOk x n = true then l ++ bitsOf (x % 2 ^ n.toNat) n.toNat else l := by unfold doBits; rw [if_neg h1, if_pos h2]
      have e2 : doOk a x n = signedOk x n := by unfold doOk; rw [if_neg h1, if_pos h2]
      rw [e1, e2]
      clear e1 e2
      have hk1 : (a == 1) = false := by simp [h1]
      have hk2 : (a == 2) = true := by simp [h2]
      clear h1 h2
      have hcall := wr_Signed w0 (w.alloc (.cells #[.int .i64 a, .int .i64 x, .int .i64 n] 28)) g v l x n hx0 hx HB1.out HW1.out HM.out
      obtain ⟨L, hL⟩ : ∃ L, (if signedOk x n = true then l ++ bitsOf (x % 2 ^ n.toNat) n.toNat else l) = L := ⟨_, rfl⟩
      obtain ⟨ok, hok⟩ : ∃ ok : Bool, (signedOk x n) = ok := ⟨_, rfl⟩
      rw [hL] at hcall
      rw [hok] at hcall
      rw [hL, hok]
      have HCALL := Aside0.mk hcall
      clear hcall hL hok
      go_enter Try.func16, Try.ntmps16
      go_wp2_with fail
      (with_reducible refine (HCALL.out).mono ?_)
      rintro e w1 ⟨rfl, v', hw, hs⟩
      have HX := Aside0.mk hw
      have HS := Aside0.mk (WrStep.ahead HB.out HA.out hs)
      clear hw hs HW1 HB1 HA
      go_wp2
      go_ret
      exact ⟨rfl, v', HX.out, HS.out⟩
    · by_cases h3 : a = 3
      · have e1 : doBits l a x n = if 0 ≤ n ∧ n ≤ 1000 then l ++ (List.replicate n.toNat false ++ [true]) else l := by unfold doBits; rw [if_neg h1, if_neg h2, if_pos h3]
        have e2 : doOk a x n = decide (0 ≤ n ∧ n ≤ 1000) := by unfold doOk; rw [if_neg h1, if_neg h2, if_pos h3]
        rw [e1, e2]
        clear e1 e2
        have hk1 : (a == 1) = false := by simp [h1]
        have hk2 : (a == 2) = false := by simp [h2]
        have hk3 : (a == 3) = true := by simp [h3]
        clear h1 h2 h3
        have hcall := wr_Zeros w0 (w.alloc (.cells #[.int .i64 a, .int .i64 x, .int .i64 n] 28)) g v l n HB1.out HW1.out HM.out
        obtain ⟨L, hL⟩ : ∃ L, (if 0 ≤ n ∧ n ≤ 1000 then l ++ (List.replicate n.toNat false ++ [true]) else l) = L := ⟨_, rfl⟩
        obtain ⟨ok, hok⟩ : ∃ ok : Bool, (decide (0 ≤ n ∧ n ≤ 1000)) = ok := ⟨_, rfl⟩
        rw [hL] at hcall
        rw [hok] at hcall
        rw [hL, hok]
        have HCALL := Aside0.mk hcall
        clear hcall hL hok
        go_enter Try.func16, Try.ntmps16
        go_wp2_with fail
        (with_reducible refine (HCALL.out).mono ?_)
        rintro e w1 ⟨rfl, v', hw, hs⟩
        have HX := Aside0.mk hw
        have HS := Aside0.mk (WrStep.ahead HB.out HA.out hs)
        clear hw hs HW1 HB1 HA
        go_wp2
        go_ret
        exact ⟨rfl, v', HX.out, HS.out⟩
      · have hk1 : (a == 1) = false := by simp [h1]
        have hk2 : (a == 2) = false := by simp [h2]
        have hk3 : (a == 3) = false := by simp [h3]
        have e2 : doOk a x n = true := by unfold doOk; rw [if_neg h1, if_neg h2, if_neg h3]
        rw [e2]
        by_cases h4 : a = 4
        · have e1 : doBits l a x n = alignB l := by unfold doBits; rw [if_neg h1, if_neg h2, if_neg h3, if_pos h4]
          rw [e1]
          have hk4 : (a == 4) = true := by simp [h4]
          clear e1 e2 h1 h2 h3 h4
          go_enter Try.func16, Try.ntmps16
          go_wp2_with fail
          (with_reducible refine (wr_Align w0 _ g v l HB1.out HW1.out (by have := HM.out; omega)).mono ?_)
          rintro e w1 ⟨rfl, v', hw, hs⟩
          have HX := Aside0.mk hw
          have HS := Aside0.mk (WrStep.ahead HB.out HA.out hs)
          clear hw hs HW1 HB1 HA
          go_wp2
          go_ret
          exact ⟨rfl, v', HX.out, HS.out⟩
        · have e1 : doBits l a x n = l := by unfold doBits; rw [if_neg h1, if_neg h2, if_neg h3, if_neg h4]
          rw [e1]
          have hk4 : (a == 4) = false := by simp [h4]
          clear e1 e2 h1 h2 h3 h4
          go_enter Try.func16, Try.ntmps16
          go_wp2
          go_ret
          exact ⟨rfl, v, HW1.out, WrStep.ahead HB.out HA.out (WrStep.refl HB1.out)⟩
end Go.Proofs.Ytgglnmpjajnkaaa.P
