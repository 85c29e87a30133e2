/- The pure statement of the law WeftNone. -/
import Derived.Test.YtlebgjcpidpgnaaPx0
import Derived.Test.YtlebgjcpidpgnaaPx19
import Derived.Test.YtlebgjcpidpgnaaUWeft2
namespace Go.Proofs.Ytlebgjcpidpgnaa.Pure
open Go.RowKit Go.Proofs.Ytlebgjcpidpgnaa.P Go.Proofs.YtlebgjcpidpgnaaW.PrintWords Go.Proofs.YtlebgjcpidpgnaaW.PrintLast Go.Proofs.YtlebgjcpidpgnaaW.PrintMore
set_option linter.unusedVariables false
set_option linter.unusedSimpArgs false

theorem fore_none (l : List Int) (i : Nat) : foreI 0 0 0 l i = 0 := by
  unfold foreI foreT
  rw [Int.zero_mul, Int.zero_mul, Int.zero_mul]
  decide +kernel
theorem wresZ_none {own master : List Int} (h : own.any farP = false) : wresZ 0 0 0 own master = own := by
  refine ext_rd (wresZ_length _ _ _ _ _) fun i hi => ?_
  rw [wresZ_length] at hi
  have hb := no_far h hi
  unfold wresZ
  rw [rd_tab hi]
  unfold wresF
  rw [fore_none, Int.sub_zero, w64 (by omega) (by omega)]

theorem WeftNone : ∀ (l_1 : List Int) (l_2 : List Int), l_1.length ≤ maxLen → (∀ x ∈ l_1, (Lit.int .i64 x).wf = true) → l_2.length ≤ maxLen → (∀ x ∈ l_2, (Lit.int .i64 x).wf = true) → ∃ k, sackbutlaw11_WeftNone.f k l_1 l_2 = some true := by
  intro own master _ _ _ _
  refine ⟨1000 + 1, ?_⟩
  unfold sackbutlaw11_WeftNone.f
  rw [awake11 (by omega), bs, if_pos rfl]
  have hend : sackbutlaw11_WeftNone.j0 (1000 + 1) true own master = some true := by
    simp only [sackbutlaw11_WeftNone.j0]
    rw [if_pos trivial, awake11 (by omega), bs]
  by_cases h1 : (own.length : Int) > 80
  · rw [if_pos h1, hend]
  rw [if_neg h1]
  by_cases h2 : own.length = master.length
  · have hb : ((own.length : Int) != (master.length : Int)) = false := by rw [bne_eq_false_iff_eq]; omega
    rw [hb]
    simp only [sackbutlaw11_WeftNone.j0]
    rw [if_neg (by simp), rRest_ok false 0 0 0 0 (by omega) (by omega) (by omega), bs]
    by_cases hz : (wrestR false 0 0 0 0 own master).2 = 0
    · obtain ⟨hg, hl, ha, hbm, he⟩ := wrestR_zero hz
      have hback := back_of_rest hz
      rw [he, wresZ_none ha] at hback
      rw [if_pos hz, Rest_ok false 0 0 0 0 (by omega) (by omega) (by omega), bs, Back_ok false 0 0 0 0 _ (by omega) (by omega), bs, if_pos hz, hback, he, wresZ_none ha]
      show (if (0 : Int) = 0 then _ else _) = _
      rw [if_pos rfl, same_ok own own (by omega) (by omega), bs, decide_eq_true rfl, if_pos rfl]
      rfl
    · rw [if_neg hz]
  · have hb : ((own.length : Int) != (master.length : Int)) = true := by rw [bne_iff_ne]; omega
    rw [hb, hend]
end Go.Proofs.Ytlebgjcpidpgnaa.Pure
