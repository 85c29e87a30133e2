/- Printed by a program of ours out of Lean's own print of the translation: functions and their contracts. -/
import Derived.Test.YtoglefgjiaoopaaPx0
namespace Go.Proofs.Ytoglefgjiaoopaa.P
open Go.RowKit Go.Proofs.YtoglefgjiaoopaaW.PrintWords Go.Proofs.YtoglefgjiaoopaaW.PrintLast Go.Proofs.YtoglefgjiaoopaaW.PrintMore
attribute [local go_sem] max2_int min2_int max_two min_two max_three min_three max_four min_four   -- for this text's walks alone
set_option linter.unusedVariables false
set_option linter.unusedSimpArgs false

-- NOT PRINTED: function 57 (slices_IndexFunc_int_int)

-- NOT PRINTED: function 44 (slices_ContainsFunc_int_int)

/-! ### lattice_outside: function 45 -/
def lattice_outside.f (a0 : Int) : Option (Bool) := if a0 < (-64) then (some true) else (some (decide (a0 > 63)))
set_option maxHeartbeats 8000000 in
set_option maxRecDepth 100000 in
theorem lattice_outside.calls (a0 : Int) (r : Bool) (w : World) (h : lattice_outside.f a0 = some r) :
    Calls Try.prog 45 #[.int .i64 a0] w fun e w' => e = .returned (.bool r) ∧ Drawn0 w w' := by
  have H : (if a0 < (-64) then (some true) else (some (decide (a0 > 63)))) = some r := h
  clear h
  by_cases c2 : a0 < (-64)
  · rw [if_pos c2] at H
    have c2b0 : decide (a0 < (-64)) = true := decide_eq_true c2
    clear c2
    obtain rfl := Option.some.inj H
    go_enter Try.func45, Try.ntmps45
    go_wp2
    go_ret
    exact ⟨by first | rfl | (simp; done) | (simp [*]; done), by repeat (first | exact Drawn0.refl _ | apply Drawn0.step)⟩
  · rw [if_neg c2] at H
    have c2b0 : decide (a0 < (-64)) = false := decide_eq_false c2
    clear c2
    obtain rfl := Option.some.inj H
    go_enter Try.func45, Try.ntmps45
    go_wp2
    go_ret
    exact ⟨by first | rfl | (simp; done) | (simp [*]; done), by repeat (first | exact Drawn0.refl _ | apply Drawn0.step)⟩

end Go.Proofs.Ytoglefgjiaoopaa.P
