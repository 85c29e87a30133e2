/- The walk that fits leaves, and the document's: plain Lean. -/
import Derived.Test.YtlebgjcpidpgnaaPx0
import Derived.Test.YtlebgjcpidpgnaaHTree
import Derived.Test.YtlebgjcpidpgnaaHWalk
import Derived.Test.YtlebgjcpidpgnaaHLeaves
import Derived.Test.YtlebgjcpidpgnaaHFit
import Derived.Test.YtlebgjcpidpgnaaHText
import Derived.Test.YtlebgjcpidpgnaaHTRead
import Derived.Test.YtlebgjcpidpgnaaHTFit
import Derived.Test.YtlebgjcpidpgnaaHTRText
import Derived.Test.YtlebgjcpidpgnaaUTools
import Derived.Test.YtlebgjcpidpgnaaUTree
import Derived.Test.YtlebgjcpidpgnaaUTree2
namespace Go.Proofs.Ytlebgjcpidpgnaa.Pure
open Go.RowKit Go.Proofs.Ytlebgjcpidpgnaa.P Go.Proofs.YtlebgjcpidpgnaaW.PrintWords Go.Proofs.YtlebgjcpidpgnaaW.PrintLast Go.Proofs.YtlebgjcpidpgnaaW.PrintMore
set_option linter.unusedVariables false
set_option linter.unusedSimpArgs false

/-- The document fits a shape, or nothing; the walk does alike. -/
theorem fitR_ok : ∀ (n : Nat) (l : List Int) (z : Int) (p : ByteArray) (t : List UInt8),
    (∃ τ r, okT n z τ ∧ l = leavesT z τ ++ r ∧ (fitR n l z).2 = (r, true) ∧ tl (fitR n l z).1 = encT n z τ) ∨ ((fitR n l z).2.2 = false ∧ ∃ r t', walkP twoF leafF n p z (l, t, false) = (false, r, t', true)) := by
  intro n
  induction n with
  | zero =>
    intro l z p t
    cases l with
    | nil => exact .inr ⟨rfl, _, _, rfl⟩
    | cons x l =>
      by_cases h2 : z < x
      · exact .inr ⟨by unfold fitR; rw [if_pos h2]; rfl, _, _, by simp [walkP, leafF, badF, show x ≠ z by omega]; exact ⟨rfl, rfl⟩⟩
      · by_cases h3 : x = z
        · subst h3
          exact .inl ⟨.leaf, l, trivial, rfl, by unfold fitR; rw [if_neg h2, if_pos rfl], by unfold fitR; rw [if_neg h2, if_pos rfl]; rfl⟩
        · exact .inr ⟨by unfold fitR; rw [if_neg h2, if_neg h3]; rfl, _, _, by simp [walkP, leafF, badF, h3]; exact ⟨rfl, rfl⟩⟩
  | succ n ih =>
    intro l z p t
    rw [walkP_succ]
    by_cases hm : mayT z ((n : Int) + 1) = true
    · rw [if_pos hm]
      cases l with
      | nil => exact .inr ⟨rfl, _, _, rfl⟩
      | cons x l =>
        by_cases h2 : z < x
        · refine .inr ⟨by unfold fitR; rw [if_pos h2]; rfl, x :: l, t ++ [48], ?_⟩
          simp [twoF, yesF, leafF, badF, show ¬ x < z by omega, show x ≠ z by omega]
        · by_cases h3 : x = z
          · subst h3
            exact .inl ⟨.leaf, l, trivial, rfl, by unfold fitR; rw [if_neg h2, if_pos rfl, if_pos hm], by unfold fitR; rw [if_neg h2, if_pos rfl, if_pos hm]; simp [encT, hm]; rfl⟩
          · have e2 : twoF p z (x :: l, t, false) = (true, x :: l, t ++ [49], false) := by
              simp [twoF, yesF, show x < z by omega]
            rw [e2, if_pos rfl]
            have hf : fitR (n + 1) (x :: l) z = if (fitR n (x :: l) (z / 2)).2.2 = false then noFit
                else ({ data := #[49] } ++ (fitR n (x :: l) (z / 2)).1 ++ (fitR n (fitR n (x :: l) (z / 2)).2.1 (z / 2)).1, (fitR n (fitR n (x :: l) (z / 2)).2.1 (z / 2)).2.1, (fitR n (fitR n (x :: l) (z / 2)).2.1 (z / 2)).2.2) := by
              conv => lhs; unfold fitR
              rw [if_neg h2, if_neg h3, if_neg (by rw [hm]; simp)]
            rw [hf]
            have hp := mayT_pos hm
            rcases ih (x :: l) (z / 2) (p ++ { data := #[48] }) (t ++ [49]) with ⟨τ, r, o1, o2, o3, o4⟩ | ⟨o1, r, t', o2⟩
            · rw [if_neg (by rw [o3]; simp), o3]
              have w1 := fit_leaves n τ (p ++ { data := #[48] }) (z / 2) r (t ++ [49]) o1 (by omega)
              rw [← o2] at w1
              rw [w1, if_pos rfl]
              rcases ih r (z / 2) (p ++ { data := #[49] }) (t ++ [49] ++ encT n (z / 2) τ) with ⟨σ, r2, q1, q2, q3, q4⟩ | ⟨q1, r2, t2, q2⟩
              · refine .inl ⟨.two τ σ, r2, ⟨hm, o1, q1⟩, ?_, q3, ?_⟩
                · rw [o2, q2, leavesT, List.append_assoc]
                · rw [encT, ← o4, ← q4]
                  simp [tl]
              · exact .inr ⟨q1, _, _, q2⟩
            · rw [if_pos o1]
              refine .inr ⟨rfl, r, t', ?_⟩
              rw [o2]
              rfl
    · rw [if_neg hm]
      cases l with
      | nil => exact .inr ⟨rfl, _, _, rfl⟩
      | cons x l =>
        by_cases h2 : z < x
        · exact .inr ⟨by unfold fitR; rw [if_pos h2]; rfl, _, _, by simp [leafF, badF, show x ≠ z by omega]; exact ⟨rfl, rfl⟩⟩
        · by_cases h3 : x = z
          · subst h3
            exact .inl ⟨.leaf, l, trivial, rfl, by unfold fitR; rw [if_neg h2, if_pos rfl, if_neg hm], by unfold fitR; rw [if_neg h2, if_pos rfl, if_neg hm]; simp [encT, hm]; rfl⟩
          · exact .inr ⟨by unfold fitR; rw [if_neg h2, if_neg h3, if_pos (by simpa using hm)]; rfl, _, _, by simp [leafF, badF, h3]; exact ⟨rfl, rfl⟩⟩
end Go.Proofs.Ytlebgjcpidpgnaa.Pure
