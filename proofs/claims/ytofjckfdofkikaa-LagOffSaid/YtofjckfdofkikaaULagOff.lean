/- The pure statement of the law LagOff: numbers less what a term takes off are the document's, and come back. -/
import Derived.Test.YtofjckfdofkikaaPx0
import Derived.Test.YtofjckfdofkikaaPx6
import Derived.Test.YtofjckfdofkikaaULag
namespace Go.Proofs.Ytofjckfdofkikaa.Pure
open Go.RowKit Go.Proofs.Ytofjckfdofkikaa.P Go.Proofs.YtofjckfdofkikaaW.PrintWords Go.Proofs.YtofjckfdofkikaaW.PrintLast Go.Proofs.YtofjckfdofkikaaW.PrintMore
set_option linter.unusedVariables false
set_option linter.unusedSimpArgs false

theorem LagOff : ∀ (a b : Int) (l1 : List Int), (Lit.int .i64 a).wf = true → (Lit.int .i64 b).wf = true → l1.length ≤ maxLen → l1.length * 8 ≤ 140737488351232 → (∀ x ∈ l1, (Lit.int .i64 x).wf = true) → ∃ k, sackbutlaw08_LagOff.f k a b l1 = some true := by
  intro a b l _ _ _ hl _
  refine ⟨l.length + 40, ?_⟩
  unfold sackbutlaw08_LagOff.f
  rw [lag_awake (by omega), bs, if_pos rfl, show l.length + 40 = (l.length + 39) + 1 from rfl]
  simp only [sackbutlaw08_LagOff.j0]
  by_cases hlong : (l.length : Int) > 100
  · rw [if_pos (by simpa using hlong), lag_awake (by omega), bs]
  · rw [if_neg (by simpa using hlong), bs, if_pos (by simp; omega), bs]
    simp only [List.nil_append]
    rw [term_Off (by omega) (by omega), bs, ref_wrong a b l (by omega) (by omega), bs, term_good, bs, ref_good, bs, if_neg (by simp)]
    rw [show l.length + 39 = (l.length + 38) + 1 from rfl]
    by_cases hw : wrongT a b l = 0
    · obtain ⟨hg, hf⟩ := wrong_zero hw
      have hlo : (offT a b l).length = l.length := tab_length _ _
      simp only [hw, if_true]
      rw [same_ok l l (by omega) (by omega), bs]
      simp only [decide_true, Bool.not_true, sackbutlaw08_LagOff.j1, Bool.false_eq_true, if_false, if_true]
      rw [ref_off hg hf (by omega) (by omega), bs, same_ok _ _ (by omega) (by omega), bs]
      simp only [decide_true, if_true]
      rw [term_On (by omega) (by omega), bs, ref_wrong _ _ _ (by omega) (by omega), bs]
      by_cases hw2 : wrongT a b (offT a b l) = 0
      · have hb := on_off hg hf l.length 0 (by omega)
        simp only [List.drop_zero, List.take_zero] at hb
        simp only [hw2, if_true, hb, onR]
        rw [same_ok l l (by omega) (by omega), bs]
        simp
      · have h9 : wrongT a b (offT a b l) = 9 := by
          unfold wrongT at hw2 ⊢
          rw [if_pos hg] at hw2 ⊢
          split at hw2 <;> simp_all
        simp [hw2, h9]
    · simp only [hw, if_false, if_true]
      rw [same_ok l l (by omega) (by omega), bs]
      simp [sackbutlaw08_LagOff.j1, hw]

end Go.Proofs.Ytofjckfdofkikaa.Pure
