/- The pure statement of the law TreeTexts. -/
import Derived.Test.YtlebgjcpidpgnaaPx0
import Derived.Test.YtlebgjcpidpgnaaPx4
import Derived.Test.YtlebgjcpidpgnaaPx2
import Derived.Test.YtlebgjcpidpgnaaHLeaves
import Derived.Test.YtlebgjcpidpgnaaHText
import Derived.Test.YtlebgjcpidpgnaaHTRText
import Derived.Test.YtlebgjcpidpgnaaUTools
import Derived.Test.YtlebgjcpidpgnaaUSame
import Derived.Test.YtlebgjcpidpgnaaUTree
import Derived.Test.YtlebgjcpidpgnaaUTree2
import Derived.Test.YtlebgjcpidpgnaaUTree3
namespace Go.Proofs.Ytlebgjcpidpgnaa.Pure
open Go.RowKit Go.Proofs.Ytlebgjcpidpgnaa.P Go.Proofs.YtlebgjcpidpgnaaW.PrintWords Go.Proofs.YtlebgjcpidpgnaaW.PrintLast Go.Proofs.YtlebgjcpidpgnaaW.PrintMore
set_option linter.unusedVariables false
set_option linter.unusedSimpArgs false

theorem awakeTA : sackbutlaw09_awake.f (119 + 1) = some true := by kernel_rfl
theorem awakeTB : sackbutlaw09_awake.f 119 = some true := by kernel_rfl
theorem rdT_back : ∀ (n : Nat) (τ : Sh) (z : Int) (u : List UInt8), okT n z τ → rdT n z (encT n z τ ++ u) = some (τ, u) := by
  intro n
  induction n with
  | zero =>
    intro τ z u h
    cases τ with
    | leaf => rfl
    | two a b => cases h
  | succ n ih =>
    intro τ z u h
    cases τ with
    | leaf =>
      by_cases hm : mayT z ((n : Int) + 1) = true
      · simp [rdT, encT, hm]
      · simp [rdT, encT, hm]
    | two a b =>
      have hm := h.1
      unfold rdT
      rw [if_pos hm]
      simp only [encT, List.cons_append, List.append_assoc]
      rw [if_neg (by decide), if_pos trivial, ih a _ _ h.2.1, Option.bind_some, ih b _ _ h.2.2]
      rfl
theorem leaves_some (t : ByteArray) (z : Int) : ∃ r, tree_Leaves.f t z = some r := by
  unfold tree_Leaves.f
  split
  · exact ⟨_, rfl⟩
  · split <;> exact ⟨_, rfl⟩
theorem TreeTexts : ∀ (l0 : List Int) (a1 : Int), l0.length ≤ maxLen → l0.length * 8 ≤ 140737488351232 → (∀ x ∈ l0, (Lit.int .i64 x).wf = true) → (Lit.int .i64 a1).wf = true → ∃ k, sackbutlaw09_TreeTexts.f k l0 a1 = some true := by
  intro l z _ _ _ _
  refine ⟨119 + 1, ?_⟩
  unfold sackbutlaw09_TreeTexts.f
  rw [awakeTA, bs, if_pos rfl]
  simp only [sackbutlaw09_TreeTexts.j0]
  by_cases hl : (l.length : Int) > 60
  · rw [if_pos (decide_eq_true hl), awakeTB]
    rfl
  · rw [if_neg (by simpa using hl)]
    by_cases hz : z < 1 ∨ 1024 < z
    · unfold tree_Text.f sackbutref09_Text.f
      rw [if_pos hz, if_pos hz, bs, bs]
      simp only [if_true, bne_self_eq_false, sackbutlaw09_TreeTexts.j1, Bool.false_eq_true, if_false]
      obtain ⟨r, hr⟩ := leaves_some { data := #[] } z
      rw [hr, bs]
      rfl
    · rcases fitR_ok 4 l z { data := #[] } [] with ⟨τ, r, o1, o2, o3, o4⟩ | ⟨o1, r, t', o2⟩
      · have w1 := fit_leaves 4 τ { data := #[] } z r [] o1 (by omega)
        rw [← o2] at w1
        unfold tree_Text.f sackbutref09_Text.f textW
        rw [if_neg hz, if_neg hz, w1, o3]
        cases r with
        | nil =>
          rw [if_neg (by simp), if_neg (by simp), bs, bs]
          have e : (⟨([] ++ encT 4 z τ).toArray⟩ : ByteArray) = (fitR 4 l z).1 := tl_inj (by rw [o4]; simp [tl])
          simp only
          rw [e]
          simp only [if_true, bne_self_eq_false, sackbutlaw09_TreeTexts.j1, Bool.false_eq_true, if_false]
          have hlen := leavesT_length _ _ _ o1
          rw [List.append_nil] at o2
          rcases leaves_ok (fitR 4 l z).1 (z := z) (by omega) (by omega) with ⟨σ, e1, e2⟩ | ⟨e1, e2⟩
          · have hb := rdT_back 4 τ z [] o1
            rw [List.append_nil, ← o4, e1] at hb
            injection hb with hb
            injection hb with hb _
            subst hb
            rw [e2, bs]
            simp only [if_true]
            rw [same_ok _ _ (by omega) (by omega), bs, decide_eq_true o2.symm]
          · have hb := rdT_back 4 τ z [] o1
            rw [List.append_nil, ← o4] at hb
            exact absurd hb (e1 τ)
        | cons x r =>
          rw [if_pos (.inr (by simp)), if_pos (.inr (by simp)), bs, bs]
          simp only [if_true, bne_self_eq_false, sackbutlaw09_TreeTexts.j1, Bool.false_eq_true, if_false]
          obtain ⟨r, hr⟩ := leaves_some { data := #[] } z
          rw [hr, bs]
          rfl
      · unfold tree_Text.f sackbutref09_Text.f textW
        rw [if_neg hz, if_neg hz, o2, if_pos (.inl rfl), if_pos (.inl o1), bs, bs]
        simp only [if_true, bne_self_eq_false, sackbutlaw09_TreeTexts.j1, Bool.false_eq_true, if_false]
        obtain ⟨r, hr⟩ := leaves_some { data := #[] } z
        rw [hr, bs]
        rfl
end Go.Proofs.Ytlebgjcpidpgnaa.Pure
