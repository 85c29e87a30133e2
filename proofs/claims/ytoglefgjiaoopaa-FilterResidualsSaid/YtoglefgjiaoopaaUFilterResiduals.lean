/- The pure statement of the law FilterResiduals. -/
import Derived.Test.YtoglefgjiaoopaaPx0
import Derived.Test.YtoglefgjiaoopaaPx13
import Derived.Test.YtoglefgjiaoopaaUFilterB
namespace Go.Proofs.Ytoglefgjiaoopaa.Pure
open Go.RowKit Go.Proofs.Ytoglefgjiaoopaa.P Go.Proofs.YtoglefgjiaoopaaW.PrintWords Go.Proofs.YtoglefgjiaoopaaW.PrintLast Go.Proofs.YtoglefgjiaoopaaW.PrintMore
set_option linter.unusedVariables false
set_option linter.unusedSimpArgs false

theorem FilterResiduals : ∀ (l0 : List Int) (l1 : List Int), l0.length ≤ maxLen → l0.length * 8 ≤ 140737488351232 → (∀ x ∈ l0, (Lit.int .i64 x).wf = true) → l1.length ≤ maxLen → l1.length * 8 ≤ 140737488351232 → (∀ x ∈ l1, (Lit.int .i64 x).wf = true) → ∃ k, sackbutlaw07_FilterResiduals.f k l0 l1 = some true := by
  intro l s _ _ _ _ _ _
  refine ⟨5000 + 1 + 1, ?_⟩
  unfold sackbutlaw07_FilterResiduals.f
  rw [awake07 (by omega), bs, if_pos rfl, few07, bs]
  simp only [sackbutlaw07_FilterResiduals.j0]
  by_cases hf : (decide (l.length ≤ 24) && decide (s.length ≤ 60)) = true
  · rw [hf]
    rw [Bool.and_eq_true, decide_eq_true_eq, decide_eq_true_eq] at hf
    obtain ⟨hl, hs⟩ := hf
    show (if false = true then _ else _) = _
    rw [if_neg (by simp), bs, if_pos (by simp; omega), bs, List.nil_append, res_ok (by omega) (by omega) (by omega), bs, rres_ok hl (by omega) (by omega), bs, if_pos rfl]
    have hlen : (resR l s).1.length ≤ 60 := by
      unfold resR
      split
      · split
        · simp
        · show (resZ l s).length ≤ 60
          rw [resZ_length]
          exact hs
      · simp
    rw [same_ok _ _ (by omega) (by omega), bs, decide_eq_true rfl, if_pos rfl, same_ok s s (by omega) (by omega), bs, decide_eq_true rfl]
    simp only [sackbutlaw07_FilterResiduals.j1]
    show (if false = true then _ else _) = _
    rw [if_neg (by simp)]
    unfold resR
    by_cases hg : goodL l = true
    · by_cases ha : s.any loudP = true
      · rw [if_pos hg, if_pos ha]
        rfl
      · rw [if_pos hg, if_neg ha]
        show (if (0 : Int) = 0 then _ else _) = _
        rw [if_pos rfl]
        show ((filter_Samples.f 5000 l (resZ l s) 67108864).bind _) = _
        rw [sam_ok (by omega) (by rw [resZ_length]; omega) _ (by omega), bs]
        have hsam := sam_res (l := l) ha s.length 0 (by omega)
        rw [List.take_zero, List.drop_zero] at hsam
        have hR : samR l (resZ l s) 67108864 = (s, 0) := by
          unfold samR
          rw [if_pos hg, if_neg (by omega), if_neg (by omega), if_neg (no_huge hg ha), hsam]
        rw [hR]
        show (if (0 : Int) = 0 then _ else _) = _
        rw [if_pos rfl]
        show ((sackbutref01_Same.f 5000 s s).bind _) = _
        rw [same_ok s s (by omega) (by omega), bs, decide_eq_true rfl]
    · rw [if_neg hg]
      rfl
  · rw [Bool.not_eq_true] at hf
    rw [hf]
    show (if true = true then _ else _) = _
    rw [if_pos rfl, awake07 (by omega), bs]
end Go.Proofs.Ytoglefgjiaoopaa.Pure
