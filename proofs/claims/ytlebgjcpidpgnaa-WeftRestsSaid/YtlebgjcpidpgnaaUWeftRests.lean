/- The pure statement of the law WeftRests. -/
import Derived.Test.YtlebgjcpidpgnaaPx0
import Derived.Test.YtlebgjcpidpgnaaPx16
import Derived.Test.YtlebgjcpidpgnaaUWeft2
namespace Go.Proofs.Ytlebgjcpidpgnaa.Pure
open Go.RowKit Go.Proofs.Ytlebgjcpidpgnaa.P Go.Proofs.YtlebgjcpidpgnaaW.PrintWords Go.Proofs.YtlebgjcpidpgnaaW.PrintLast Go.Proofs.YtlebgjcpidpgnaaW.PrintMore
set_option linter.unusedVariables false
set_option linter.unusedSimpArgs false

theorem WeftRests : ∀ (a_1 : Bool) (a_2 : Int) (a_3 : Int) (a_4 : Int) (a_5 : Int) (l1 : List Int) (l2 : List Int), (Lit.int .i64 a_2).wf = true → (Lit.int .i64 a_3).wf = true → (Lit.int .i64 a_4).wf = true → (Lit.int .i64 a_5).wf = true → l1.length ≤ maxLen → l1.length * 8 ≤ 140737488351232 → (∀ x ∈ l1, (Lit.int .i64 x).wf = true) → l2.length ≤ maxLen → l2.length * 8 ≤ 140737488351232 → (∀ x ∈ l2, (Lit.int .i64 x).wf = true) → ∃ k, sackbutlaw11_WeftRests.f k a_1 a_2 a_3 a_4 a_5 l1 l2 = some true := by
  intro s q g0 g1 g2 own master _ _ _ _ _ _ _ _ _ _
  refine ⟨1000 + 1 + 1, ?_⟩
  unfold sackbutlaw11_WeftRests.f
  rw [awake11 (by omega), bs, if_pos rfl]
  have hend : sackbutlaw11_WeftRests.j0 (1000 + 1 + 1) own master true s q g0 g1 g2 = some true := by
    simp only [sackbutlaw11_WeftRests.j0]
    rw [if_pos trivial, awake11 (by omega), bs]
  by_cases h1 : (own.length : Int) > 80
  · rw [if_pos h1, hend]
  rw [if_neg h1]
  by_cases h2 : (master.length : Int) > 80
  · rw [decide_eq_true h2, hend]
  rw [decide_eq_false h2]
  simp only [sackbutlaw11_WeftRests.j0]
  rw [if_neg (by simp), bs, if_pos (by simp; omega), bs, bs, if_pos (by simp; omega), bs, List.nil_append, List.nil_append, Rest_ok s q g0 g1 g2 (by omega) (by omega) (by omega), bs, rRest_ok s q g0 g1 g2 (by omega) (by omega) (by omega), bs, if_pos rfl]
  have hlen := wrestR_len s q g0 g1 g2 own master
  rw [same_ok _ _ (by omega) (by omega), bs, decide_eq_true rfl, if_pos rfl, same_ok own own (by omega) (by omega), bs, decide_eq_true rfl, if_pos rfl, same_ok master master (by omega) (by omega), bs, decide_eq_true rfl]
  simp only [sackbutlaw11_WeftRests.j1]
  show (if false = true then _ else _) = _
  rw [if_neg (by simp)]
  by_cases hz : (wrestR s q g0 g1 g2 own master).2 = 0
  · rw [if_pos hz, Back_ok s q g0 g1 g2 _ (by omega) (by omega), bs, back_of_rest hz]
    show (if (0 : Int) = 0 then _ else _) = _
    rw [if_pos rfl]
    show ((sackbutref01_Same.f _ own own).bind _) = _
    rw [same_ok own own (by omega) (by omega), bs, decide_eq_true rfl]
  · rw [if_neg hz]
end Go.Proofs.Ytlebgjcpidpgnaa.Pure
