/- The pure statement of the law LagOn: numbers back are the document's, and leave what they were. -/
import Derived.Test.YtofjckfdofkikaaPx0
import Derived.Test.YtofjckfdofkikaaPx7
import Derived.Test.YtofjckfdofkikaaULag
namespace Go.Proofs.Ytofjckfdofkikaa.Pure
open Go.RowKit Go.Proofs.Ytofjckfdofkikaa.P Go.Proofs.YtofjckfdofkikaaW.PrintWords Go.Proofs.YtofjckfdofkikaaW.PrintLast Go.Proofs.YtofjckfdofkikaaW.PrintMore
set_option linter.unusedVariables false
set_option linter.unusedSimpArgs false

theorem LagOn : ∀ (a b : Int) (l1 : List Int), (Lit.int .i64 a).wf = true → (Lit.int .i64 b).wf = true → l1.length ≤ maxLen → l1.length * 8 ≤ 140737488351232 → (∀ x ∈ l1, (Lit.int .i64 x).wf = true) → ∃ k, sackbutlaw08_LagOn.f k a b l1 = some true := by
  intro a b l _ _ _ hl _
  refine ⟨2 * l.length + 60, ?_⟩
  unfold sackbutlaw08_LagOn.f
  rw [lag_awake (by omega), bs, if_pos rfl, show 2 * l.length + 60 = (2 * l.length + 59) + 1 from rfl]
  simp only [sackbutlaw08_LagOn.j0]
  by_cases hlong : (l.length : Int) > 100
  · rw [if_pos (by simpa using hlong), lag_awake (by omega), bs]
  · rw [if_neg (by simpa using hlong), bs, if_pos (by simp; omega), bs]
    simp only [List.nil_append]
    rw [term_On (by omega) (by omega), bs, ref_wrong a b l (by omega) (by omega), bs]
    rw [show 2 * l.length + 59 = (2 * l.length + 58) + 1 from rfl]
    by_cases hw : wrongT a b l = 0
    · obtain ⟨hg, hf⟩ := wrong_zero hw
      simp only [hw, if_true]
      rw [ref_on hg hf (by omega) (by omega), bs]
      simp only [sackbutlaw08_LagOn.j1, if_true]
      cases ho : onT a b l [] with
      | none =>
        simp only [onR]
        rw [same_ok _ _ (by simp) (by simp), bs]
        simp only [decide_true, if_true]
        rw [same_ok _ _ (by omega) (by omega), bs]
        rw [show 2 * l.length + 58 = (2 * l.length + 57) + 1 from rfl]
        simp only [sackbutlaw08_LagOn.j2, decide_true, Bool.not_true, Bool.false_eq_true, if_false]
        rw [term_Off (by simp) (by simp), bs]
        simp
      | some out =>
        obtain ⟨s, rfl, hls, hfo, hr⟩ := on_back hg l [] out ho (fun x hx => by cases hx)
        simp only [List.nil_append, List.length_nil, Nat.zero_add] at hfo hr
        have hoff : offT a b out = l := by
          refine ext_rd (by simp [offT, tab_length, hls]) fun j hj => ?_
          simp only [offT, tab_length] at hj
          unfold offT
          rw [rd_tab hj]
          exact hr j (by omega)
        simp only [onR, List.nil_append]
        rw [same_ok _ _ (by omega) (by omega), bs]
        simp only [decide_true, if_true]
        rw [same_ok _ _ (by omega) (by omega), bs]
        rw [show 2 * l.length + 58 = (2 * l.length + 57) + 1 from rfl]
        simp only [sackbutlaw08_LagOn.j2, decide_true, Bool.not_true, Bool.false_eq_true, if_false]
        rw [term_Off (by omega) (by omega), bs]
        simp only [wrong_of hg hfo, if_true, hoff]
        rw [same_ok _ _ (by omega) (by omega), bs]
        simp
    · simp only [hw, if_false]
      simp only [sackbutlaw08_LagOn.j1, if_true]
      rw [same_ok _ _ (by simp) (by simp), bs]
      simp only [decide_true, if_true]
      rw [same_ok _ _ (by omega) (by omega), bs]
      rw [show 2 * l.length + 58 = (2 * l.length + 57) + 1 from rfl]
      simp only [sackbutlaw08_LagOn.j2, decide_true, Bool.not_true, Bool.false_eq_true, if_false]
      rw [term_Off (by simp) (by simp), bs]
      simp [hw]

end Go.Proofs.Ytofjckfdofkikaa.Pure
