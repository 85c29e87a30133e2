/- The pure statement of the law TreeOthers. -/
import Derived.Test.YtlebgjcpidpgnaaPx0
import Derived.Test.YtlebgjcpidpgnaaPx2
import Derived.Test.YtlebgjcpidpgnaaHLeaves
import Derived.Test.YtlebgjcpidpgnaaUTools
import Derived.Test.YtlebgjcpidpgnaaUSame
import Derived.Test.YtlebgjcpidpgnaaUTree
namespace Go.Proofs.Ytlebgjcpidpgnaa.Pure
open Go.RowKit Go.Proofs.Ytlebgjcpidpgnaa.P Go.Proofs.YtlebgjcpidpgnaaW.PrintWords Go.Proofs.YtlebgjcpidpgnaaW.PrintLast Go.Proofs.YtlebgjcpidpgnaaW.PrintMore
set_option linter.unusedVariables false
set_option linter.unusedSimpArgs false

theorem awake9A : sackbutlaw09_awake.f (119 + 1) = some true := by kernel_rfl
theorem awake9B : sackbutlaw09_awake.f 119 = some true := by kernel_rfl
theorem beq_tl (a b : ByteArray) : (a.toList == b.toList) = decide (tl a = tl b) := by
  rw [ByteArray.toList_eq, ByteArray.toList_eq]
  by_cases h : a.data.toList = b.data.toList
  · rw [beq_iff_eq.mpr h, decide_eq_true (show tl a = tl b from h)]
  · rw [beq_eq_false_iff_ne.mpr h, decide_eq_false (show ¬ tl a = tl b from h)]
theorem leaves_none {t : ByteArray} {z : Int} (h : z < 1 ∨ 1024 < z) : tree_Leaves.f t z = some ([], 1) := by
  unfold tree_Leaves.f
  rw [if_pos h]
theorem TreeOthers : ∀ (a0 : ByteArray) (a1 : ByteArray) (a2 : Int), a0.size ≤ 140737488351232 → a1.size ≤ 140737488351232 → (Lit.int .i64 a2).wf = true → ∃ k, sackbutlaw09_TreeOthers.f k a0 a1 a2 = some true := by
  intro a b z _ _ _
  refine ⟨119 + 1, ?_⟩
  unfold sackbutlaw09_TreeOthers.f
  rw [awake9A, bs, if_pos rfl]
  simp only [sackbutlaw09_TreeOthers.j0]
  by_cases hl : (a.size : Int) > 100
  · rw [if_pos hl, if_pos trivial, awake9B]
    rfl
  · rw [if_neg hl]
    by_cases hm : (b.size : Int) > 100
    · rw [if_pos (decide_eq_true hm), awake9B]
      rfl
    · rw [if_neg (by simpa using hm)]
      by_cases hz : z < 1 ∨ 1024 < z
      · rw [leaves_none hz, bs, leaves_none hz, bs]
        rfl
      · rcases leaves_ok a (z := z) (by omega) (by omega) with ⟨τ, e1, e2⟩ | ⟨_, e2⟩
        · rcases leaves_ok b (z := z) (by omega) (by omega) with ⟨σ, f1, f2⟩ | ⟨_, f2⟩
          · rw [e2, bs, f2, bs]
            obtain ⟨g1, g2⟩ := rdT_enc _ _ _ _ _ e1
            obtain ⟨k1, k2⟩ := rdT_enc _ _ _ _ _ f1
            have hlen := leavesT_length _ _ _ g2
            simp only [if_true]
            rw [same_ok _ _ (by omega) (by omega), bs, beq_tl]
            congr 1
            by_cases he : tl a = tl b
            · rw [he] at e1
              rw [e1] at f1
              injection f1 with f1
              injection f1 with f1 _
              subst f1
              simp [he]
            · have hne : leavesT z τ ≠ leavesT z σ := by
                intro h
                obtain ⟨rfl, _⟩ := leavesT_inj 4 τ σ z [] [] g2 k2 (by omega) (by rw [h])
                exact he (g1.trans k1.symm)
              rw [decide_eq_false hne, decide_eq_false he]
              rfl
          · rw [e2, bs, f2, bs]
            rfl
        · rcases leaves_ok b (z := z) (by omega) (by omega) with ⟨σ, f1, f2⟩ | ⟨_, f2⟩
          · rw [e2, bs, f2, bs]
            rfl
          · rw [e2, bs, f2, bs]
            rfl
end Go.Proofs.Ytlebgjcpidpgnaa.Pure
