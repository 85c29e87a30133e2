/- The pure statement of the law FilterSamples. -/
import Derived.Test.YtoglefgjiaoopaaPx0
import Derived.Test.YtoglefgjiaoopaaPx15
import Derived.Test.YtoglefgjiaoopaaUFilter2
namespace Go.Proofs.Ytoglefgjiaoopaa.Pure
open Go.RowKit Go.Proofs.Ytoglefgjiaoopaa.P Go.Proofs.YtoglefgjiaoopaaW.PrintWords Go.Proofs.YtoglefgjiaoopaaW.PrintLast Go.Proofs.YtoglefgjiaoopaaW.PrintMore
set_option linter.unusedVariables false
set_option linter.unusedSimpArgs false

theorem samZ_len (l : List Int) (most : Int) : ∀ (es out : List Int), (samZ l most out es).1.length ≤ out.length + es.length := by
  intro es
  induction es with
  | nil => intro out; exact Nat.le_refl _
  | cons e es ih =>
    intro out
    rw [samZ, List.length_cons]
    split
    · simp
    · split
      · simp
      · have := ih (out ++ [wrap64 (e + foreZ l out)])
        rw [List.length_append, List.length_singleton] at this
        omega
theorem res_back {l s r : List Int} {most : Int} (hm : most < 67108864) (hg : goodL l = true) (hb : ∀ x ∈ s, -9223372036854775808 ≤ x ∧ x ≤ 9223372036854775807) (h : samZ l most [] s = (r, 0)) : resR l r = (s, 0) := by
  have hz := res_sam l (most := most) s [] hb (by rw [h])
  rw [h] at hz
  obtain ⟨g1, _, g3, g4⟩ := hz
  have g1 : r.length = s.length := by have : r.length = ([] : List Int).length + s.length := g1; simpa using this
  have ha : ¬ r.any loudP = true := by
    intro hh
    obtain ⟨x, hx, hp⟩ := List.any_eq_true.mp hh
    obtain ⟨i, hi, rfl⟩ := List.mem_iff_getElem.mp hx
    have h4 := g4 i (by omega)
    rw [List.length_nil, Nat.zero_add] at h4
    have h4 : -most - 1 ≤ rd r i ∧ rd r i ≤ most := h4
    have he : rd r i = r[i] := by simp [rd, List.getD, hi]
    rw [he] at h4
    unfold loudP at hp
    rw [Bool.or_eq_true, decide_eq_true_eq, decide_eq_true_eq] at hp
    omega
  unfold resR
  rw [if_pos hg, if_neg ha]
  congr 1
  refine ext_rd (by rw [resZ_length, g1]) fun i hi => ?_
  rw [resZ_length] at hi
  have h3 := g3 i (by omega)
  rw [List.length_nil, Nat.zero_add] at h3
  unfold resZ
  rw [rd_tab hi]
  exact h3

theorem FilterSamples : ∀ (l0 : List Int) (l1 : List Int) (a2 : Int), l0.length ≤ maxLen → l0.length * 8 ≤ 140737488351232 → (∀ x ∈ l0, (Lit.int .i64 x).wf = true) → l1.length ≤ maxLen → l1.length * 8 ≤ 140737488351232 → (∀ x ∈ l1, (Lit.int .i64 x).wf = true) → (Lit.int .i64 a2).wf = true → ∃ k, sackbutlaw07_FilterSamples.f k l0 l1 a2 = some true := by
  intro l s most _ _ _ _ _ hs64 _
  refine ⟨5000 + 1 + 1 + 1, ?_⟩
  unfold sackbutlaw07_FilterSamples.f
  rw [awake07 (by omega), bs, if_pos rfl, few07, bs]
  simp only [sackbutlaw07_FilterSamples.j0]
  by_cases hf : (decide (l.length ≤ 24) && decide (s.length ≤ 60)) = true
  · rw [hf]
    rw [Bool.and_eq_true, decide_eq_true_eq, decide_eq_true_eq] at hf
    obtain ⟨hl, hs⟩ := hf
    show (if false = true then _ else _) = _
    rw [if_neg (by simp), bs, if_pos (by simp; omega), bs, List.nil_append, sam_ok (by omega) (by omega) _ (by omega), bs, rsam_ok hl (by omega) _ (by omega), bs, if_pos rfl]
    have hlen : (samR l s most).1.length ≤ 60 := by
      unfold samR
      have := samZ_len l most s []
      split
      · split
        · simp
        · split
          · simp
          · split
            · simp
            · simp at this; omega
      · simp
    rw [same_ok _ _ (by omega) (by omega), bs, decide_eq_true rfl, if_pos rfl, same_ok s s (by omega) (by omega), bs, decide_eq_true rfl]
    simp only [sackbutlaw07_FilterSamples.j1]
    show (if false = true then _ else _) = _
    rw [if_neg (by simp)]
    by_cases hz : (samR l s most).2 = 0
    · rw [if_pos hz]
      simp only [sackbutlaw07_FilterSamples.j2]
      by_cases hm : (most == 67108864) = true
      · rw [if_pos hm]
      · rw [if_neg hm]
        have hm' : most ≠ 67108864 := by simpa using hm
        rw [res_ok (by omega) (by omega) (by omega), bs]
        have hg : goodL l = true := by
          cases hg : goodL l with
          | true => rfl
          | false =>
            unfold samR at hz
            rw [hg, if_neg (by simp)] at hz
            exact absurd hz (show ¬ (1 : Int) = 0 by decide)
        have hback : resR l (samR l s most).1 = (s, 0) := by
          unfold samR at hz ⊢
          rw [if_pos hg] at hz ⊢
          by_cases h0 : most < 0
          · rw [if_pos h0] at hz; exact absurd hz (show ¬ (1 : Int) = 0 by decide)
          rw [if_neg h0] at hz ⊢
          by_cases h1 : most > 67108864
          · rw [if_pos h1] at hz; exact absurd hz (show ¬ (1 : Int) = 0 by decide)
          rw [if_neg h1] at hz ⊢
          by_cases h2 : s.any hugeP = true
          · rw [if_pos h2] at hz; exact absurd hz (show ¬ (9 : Int) = 0 by decide)
          rw [if_neg h2] at hz ⊢
          generalize hr : samZ l most [] s = r at hz ⊢
          obtain ⟨r, c⟩ := r
          have hc : c = 0 := hz
          subst hc
          exact res_back (by omega) hg (fun x hx => i64b (hs64 x hx)) hr
        rw [hback]
        show (if (0 : Int) = 0 then _ else _) = _
        rw [if_pos rfl]
        show ((sackbutref01_Same.f _ s s).bind _) = _
        rw [same_ok s s (by omega) (by omega), bs, decide_eq_true rfl]
    · rw [if_neg hz]
      simp only [sackbutlaw07_FilterSamples.j2]
      rw [if_pos trivial]
  · rw [Bool.not_eq_true] at hf
    rw [hf]
    show (if true = true then _ else _) = _
    rw [if_pos rfl, awake07 (by omega), bs]
end Go.Proofs.Ytoglefgjiaoopaa.Pure
