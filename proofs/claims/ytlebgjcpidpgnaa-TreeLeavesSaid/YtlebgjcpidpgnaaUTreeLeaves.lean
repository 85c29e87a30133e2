/- The pure statement of the law TreeLeaves. -/
import Derived.Test.YtlebgjcpidpgnaaPx0
import Derived.Test.YtlebgjcpidpgnaaPx4
import Derived.Test.YtlebgjcpidpgnaaPx2
import Derived.Test.YtlebgjcpidpgnaaPx3
import Derived.Test.YtlebgjcpidpgnaaHLeaves
import Derived.Test.YtlebgjcpidpgnaaHText
import Derived.Test.YtlebgjcpidpgnaaHTRead
import Derived.Test.YtlebgjcpidpgnaaUTools
import Derived.Test.YtlebgjcpidpgnaaUSame
import Derived.Test.YtlebgjcpidpgnaaUTree
import Derived.Test.YtlebgjcpidpgnaaUTree2
namespace Go.Proofs.Ytlebgjcpidpgnaa.Pure
open Go.RowKit Go.Proofs.Ytlebgjcpidpgnaa.P Go.Proofs.YtlebgjcpidpgnaaW.PrintWords Go.Proofs.YtlebgjcpidpgnaaW.PrintLast Go.Proofs.YtlebgjcpidpgnaaW.PrintMore
set_option linter.unusedVariables false
set_option linter.unusedSimpArgs false

theorem awakeLA : sackbutlaw09_awake.f (119 + 1) = some true := by kernel_rfl
theorem awakeLB : sackbutlaw09_awake.f 119 = some true := by kernel_rfl
theorem beq_tl' (a b : ByteArray) : (a.toList == b.toList) = decide (tl a = tl b) := by
  rw [ByteArray.toList_eq, ByteArray.toList_eq]
  by_cases h : a.data.toList = b.data.toList
  · rw [beq_iff_eq.mpr h, decide_eq_true (show tl a = tl b from h)]
  · rw [beq_eq_false_iff_ne.mpr h, decide_eq_false (show ¬ tl a = tl b from h)]
theorem rleaves_ok (t : ByteArray) (z : Int) {k : Nat} (hk : 0 < k) : sackbutref09_Leaves.f k t z = tree_Leaves.f t z := by
  obtain ⟨k, rfl⟩ : ∃ j, k = j + 1 := ⟨k - 1, by omega⟩
  unfold sackbutref09_Leaves.f tree_Leaves.f
  by_cases h0 : z < 1
  · rw [if_pos h0, if_pos (.inl h0)]
    rfl
  · rw [if_neg h0]
    by_cases h1 : 1024 < z
    · rw [if_pos (.inr h1), decide_eq_true (show z > 1024 from h1)]
      rfl
    · rw [if_neg (by omega), decide_eq_false (show ¬ z > 1024 from h1)]
      simp only [sackbutref09_Leaves.j0, Bool.false_eq_true, if_false]
      unfold sackbutref09_Read.f
      rw [if_pos (by omega), bs]
      unfold leavesW
      rcases readF_ok 4 t z with ⟨τ, u, r, e1, e2, e3⟩ | ⟨e1, e3⟩
      · rcases walk_text 4 { data := #[] } z t [] with ⟨σ, v, q, f1, f2, f3⟩ | ⟨f1, l, f3⟩
        · rw [e1] at f1
          injection f1 with f1
          injection f1 with g1 g2
          subst g1 g2
          have hrq : r = q := tl_inj (e2.trans f2.symm)
          subst hrq
          rw [e3, f3]
          simp only [if_true, List.nil_append, Bool.false_eq_true, false_or]
          have ht : r.toList = tl r := ByteArray.toList_eq r
          by_cases hr : r.size = 0
          · rw [if_pos (by rw [ht]; exact List.length_eq_zero_iff.mp (by rw [← tl_size]; exact hr)), if_neg (by simp [hr])]
          · rw [if_neg (by rw [ht]; intro h; exact hr (by rw [tl_size, h]; rfl)), if_pos hr]
        · rw [e1] at f1
          cases f1
      · rcases walk_text 4 { data := #[] } z t [] with ⟨σ, v, q, f1, f2, f3⟩ | ⟨f1, l, f3⟩
        · rw [e1] at f1
          cases f1
        · rw [f3, if_neg (by rw [e3]; simp)]
          simp
theorem sum_loop (x0 : ByteArray) (z : Int) (l : List Int) (hl : l.length ≤ 1000) (d : Nat) : ∀ (k i : Nat), i + d = l.length → d < k →
    sackbutlaw09_TreeLeaves.l0 k x0 z l (wrap64 (sumT (l.take i))) l l.length i = ((tree_Text.f l z).bind fun b => if wrap64 (sumT l) = z then (if b.2 = 0 then some (b.1.toList == x0.toList) else some false) else some false) := by
  induction d with
  | zero =>
    intro k i hi hk
    obtain ⟨k, rfl, _⟩ := pred_k hk
    simp only [sackbutlaw09_TreeLeaves.l0]
    rw [if_neg (by omega), show i = l.length by omega, List.take_length]
  | succ d ih =>
    intro k i hi hk
    obtain ⟨k, rfl, _⟩ := pred_k hk
    simp only [sackbutlaw09_TreeLeaves.l0]
    rw [if_pos (by omega), if_pos (by omega), if_pos (by omega), w64 (x := (i : Int) + 1) (by omega) (by omega)]
    have h := ih k (i + 1) (by omega) (by omega)
    have e : wrap64 (wrap64 (sumT (l.take i)) + rd l i) = wrap64 (sumT (l.take (i + 1))) := by
      have hi' : i < l.length := by omega
      rw [List.take_add_one, sumT_append]
      have hg : l[i]? = some l[i] := List.getElem?_eq_getElem hi'
      have hr : rd l (i : Int) = l[i] := by simp [rd, List.getD, hg]
      rw [hr, hg]
      have : sumT (some l[i]).toList = l[i] := by simp [sumT]
      rw [this]
      unfold wrap64
      omega
    rw [e]
    exact_mod_cast h
theorem TreeLeaves : ∀ (a0 : ByteArray) (a1 : Int), a0.size ≤ 140737488351232 → (Lit.int .i64 a1).wf = true → ∃ k, sackbutlaw09_TreeLeaves.f k a0 a1 = some true := by
  intro t z _ _
  refine ⟨119 + 1, ?_⟩
  unfold sackbutlaw09_TreeLeaves.f
  rw [awakeLA, bs, if_pos rfl]
  simp only [sackbutlaw09_TreeLeaves.j0]
  by_cases hl : (t.size : Int) > 200
  · rw [if_pos (decide_eq_true hl), awakeLB]
    rfl
  · rw [if_neg (by simpa using hl), rleaves_ok t z (by omega)]
    by_cases hz : z < 1 ∨ 1024 < z
    · have e : tree_Leaves.f t z = some ([], 1) := by unfold tree_Leaves.f; rw [if_pos hz]
      rw [e]
      rfl
    · rcases leaves_ok t (z := z) (by omega) (by omega) with ⟨τ, e1, e2⟩ | ⟨_, e2⟩
      · obtain ⟨g1, g2⟩ := rdT_enc _ _ _ _ _ e1
        have hlen := leavesT_length _ _ _ g2
        rw [e2, bs, bs]
        simp only [if_true]
        rw [same_ok _ _ (by omega) (by omega), bs, decide_eq_true rfl]
        simp only [sackbutlaw09_TreeLeaves.j1, Bool.not_true, Bool.false_eq_true, if_false, if_true]
        have h := sum_loop t z (leavesT z τ) (by omega) (leavesT z τ).length 118 0 (by omega) (by omega)
        rw [List.take_zero, show wrap64 (sumT []) = 0 from w64 (x := 0) (by omega) (by omega)] at h
        have h := h
        rw [show ((0 : Nat) : Int) = 0 from rfl] at h
        rw [h, text_leaves τ (by omega) (by omega) g2, bs, leavesT_sum _ _ _ g2, w64 (by omega) (by omega), if_pos rfl, if_pos rfl, beq_tl']
        congr 1
        rw [decide_eq_true_eq, g1, List.append_nil]
        rfl
      · rw [e2]
        rfl
end Go.Proofs.Ytlebgjcpidpgnaa.Pure
