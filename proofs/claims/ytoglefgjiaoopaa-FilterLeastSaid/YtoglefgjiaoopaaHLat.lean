/- The contract of lattice.Good: which numbers are an index list. -/
import Derived.Test.YtoglefgjiaoopaaPx0
import Derived.Test.YtoglefgjiaoopaaPx2
import Derived.Test.YtoglefgjiaoopaaHFn
namespace Go.Proofs.Ytoglefgjiaoopaa.P
open Go.RowKit Go.Proofs.YtoglefgjiaoopaaW.PrintWords Go.Proofs.YtoglefgjiaoopaaW.PrintLast Go.Proofs.YtoglefgjiaoopaaW.PrintMore
set_option linter.unusedVariables false
set_option linter.unusedSimpArgs false

def latOut (x : Int) : Bool := decide (x < -64) || decide (x > 63)
def lattice_Good.f (l : List Int) : Option Bool := some (decide (l.length ≤ 16) && !l.any latOut)

theorem lattice_outside_p (x : Int) (W : World) : Calls Try.prog 45 #[.int .i64 x] W fun e w' => e = .returned (.bool (latOut x)) ∧ Drawn0 W w' :=
  lattice_outside.calls x (latOut x) W (by
    unfold lattice_outside.f latOut
    by_cases h : x < -64
    · rw [if_pos h]; simp [h]
    · rw [if_neg h]; simp only [h, decide_false, Bool.false_or])

theorem lattice_outside_enters : ∀ (args : Array Value) (w : World), (callFunc 45 args).run Try.prog w = .ok (.enter 45 args) w := enters_of Try.func45 (by kernel_rfl) rfl

set_option maxHeartbeats 4000000 in
set_option maxRecDepth 100000 in
theorem lattice_Good.calls (A0 : Option Addr) (c0 : Nat) (l0 : List Int) (r : Bool) (w : World) (hr0 : Kd.C (Kd.int .i64) w A0 l0.length l0) (hc0 : l0.length ≤ c0) (h : lattice_Good.f l0 = some r) :
    Calls Try.prog 29 #[.slice A0 l0.length c0] w fun e w' => e = .returned (.bool r) ∧ Below w.heap.size w w' := by
  have HR := Aside0.mk hr0
  have HC := Aside0.mk hc0
  clear hr0 hc0
  have hr : r = (decide (l0.length ≤ 16) && !l0.any latOut) := (Option.some.inj h).symm
  clear h
  go_enter Try.func29, Try.ntmps29
  by_cases h16 : l0.length ≤ 16
  · have hd : decide ((l0.length : Int) ≤ 16) = true := decide_eq_true (by omega)
    have hd' : decide (l0.length ≤ 16) = true := decide_eq_true h16
    rw [hd', Bool.true_and] at hr
    go_wp2_with fail
    (with_reducible refine (containsFunc_calls 45 latOut lattice_outside_enters lattice_outside_p A0 c0 l0 _ HR.out HC.out (by omega)).mono ?_)
    rintro e w1 ⟨rfl, hd1⟩
    have HB := Aside0.mk hd1.below
    clear hd1 h16 hd'
    generalize l0.any latOut = b at hr ⊢
    cases b with
    | false =>
      cases hr
      go_wp2
      go_ret
      exact ⟨rfl, HB.out⟩
    | true =>
      cases hr
      go_wp2
      go_ret
      exact ⟨rfl, HB.out⟩
  · have hd : decide ((l0.length : Int) ≤ 16) = false := decide_eq_false (by omega)
    have hd' : decide (l0.length ≤ 16) = false := decide_eq_false h16
    rw [hd', Bool.false_and] at hr
    cases hr
    go_wp2
    go_ret
    exact ⟨rfl, Below.refl _ _⟩
end Go.Proofs.Ytoglefgjiaoopaa.P
