/- The contract of the lag term's check of a term and numbers. -/
import Derived.Test.YtofjckfdofkikaaPx0
import Derived.Test.YtofjckfdofkikaaPx4
import Derived.Test.YtofjckfdofkikaaPx3
import Derived.Test.YtofjckfdofkikaaHFn
namespace Go.Proofs.Ytofjckfdofkikaa.P
open Go.RowKit Go.Proofs.YtofjckfdofkikaaW.PrintWords Go.Proofs.YtofjckfdofkikaaW.PrintLast Go.Proofs.YtofjckfdofkikaaW.PrintMore

def lagOut (x : Int) : Bool := decide (x < -1099511627776) || decide (x > 1099511627776)
def lag_Term_wrong.f (a0_0 a0_1 : Int) (l1 : List Int) : Option Int :=
  if l1.length ≤ 140737488355328 then (lag_Term_Good.f a0_0 a0_1).bind fun t => (if t = true then (if l1.any lagOut = true then some 9 else some 0) else some 1) else none

theorem lag_outside_p (x : Int) (W : World) : Calls Try.prog 43 #[.int .i64 x] W fun e w' => e = .returned (.bool (lagOut x)) ∧ Drawn0 W w' :=
  lag_outside.calls x (lagOut x) W (by
    unfold lag_outside.f lagOut
    by_cases h : x < -1099511627776
    · rw [if_pos h]; simp [h]
    · rw [if_neg h]; simp only [h, decide_false, Bool.false_or])

theorem lag_outside_enters : ∀ (args : Array Value) (w : World), (callFunc 43 args).run Try.prog w = .ok (.enter 43 args) w := enters_of Try.func43 (by kernel_rfl) rfl

set_option maxHeartbeats 4000000 in
set_option maxRecDepth 100000 in
theorem lag_Term_wrong.calls (a0_0 : Int) (a0_1 : Int) (A1 : Option Addr) (c1 : Nat) (l1 : List Int) (r : Int) (w : World) (hr1 : Kd.C (Kd.int .i64) w A1 l1.length l1) (hc1 : l1.length ≤ c1) (h : lag_Term_wrong.f a0_0 a0_1 l1 = some r) :
    Calls Try.prog 39 #[.agg #[.int .i64 a0_0, .int .i64 a0_1], .slice A1 l1.length c1] w fun e w' => e = .returned (.int .i64 r) ∧ Below w.heap.size w w' := by
  have HR := Aside0.mk hr1
  have HC := Aside0.mk hc1
  clear hr1 hc1
  unfold lag_Term_wrong.f at h
  by_cases hm : l1.length ≤ 140737488355328
  case neg => rw [if_neg hm] at h; cases h
  rw [if_pos hm] at h
  have HM := Aside0.mk hm
  clear hm
  obtain ⟨t, ht, h⟩ := Option.bind_eq_some_iff.mp h
  have HT := Aside0.mk ht
  clear ht
  have hu35 := Try.underlying35
  go_enter Try.func39, Try.ntmps39
  go_wp2_with fail
  (with_reducible refine (lag_Term_Good.calls a0_0 a0_1 t _ HT.out).mono ?_)
  rintro e w1 ⟨rfl, hb1⟩
  have HB := Aside0.mk (below_then ((Below.refl _ _).alloc (Nat.le_refl _) _) (by simp) hb1)
  clear hb1
  cases t with
  | false =>
    rw [if_neg (by simp)] at h
    cases h
    go_wp2
    go_ret
    exact ⟨rfl, HB.out⟩
  | true =>
    rw [if_pos rfl] at h
    go_wp2_with fail
    (with_reducible refine (containsFunc_calls 43 lagOut lag_outside_enters lag_outside_p A1 c1 l1 _ (Kd.C_below HR.out HB.out) HC.out HM.out).mono ?_)
    rintro e w2 ⟨rfl, hd2⟩
    have HB2 := Aside0.mk (below_then HB.out HB.out.size hd2.below)
    clear hd2
    by_cases hf : l1.any lagOut = true
    · rw [if_pos hf] at h
      cases h
      rw [hf]
      clear hf
      go_wp2
      go_ret
      exact ⟨rfl, HB2.out⟩
    · rw [if_neg hf] at h
      cases h
      rw [Bool.eq_false_iff.mpr hf]
      clear hf
      go_wp2
      go_ret
      exact ⟨rfl, HB2.out⟩
end Go.Proofs.Ytofjckfdofkikaa.P
