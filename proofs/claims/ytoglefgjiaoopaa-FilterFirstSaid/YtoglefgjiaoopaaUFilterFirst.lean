/- The pure statement of the law FilterFirst. -/
import Derived.Test.YtoglefgjiaoopaaPx0
import Derived.Test.YtoglefgjiaoopaaPx14
import Derived.Test.YtoglefgjiaoopaaUFilter
namespace Go.Proofs.Ytoglefgjiaoopaa.Pure
open Go.RowKit Go.Proofs.Ytoglefgjiaoopaa.P Go.Proofs.YtoglefgjiaoopaaW.PrintWords Go.Proofs.YtoglefgjiaoopaaW.PrintLast Go.Proofs.YtoglefgjiaoopaaW.PrintMore
set_option linter.unusedVariables false
set_option linter.unusedSimpArgs false

theorem resZ_take (l s : List Int) {n : Nat} (h : n ≤ s.length) : (resZ l s).take n = resZ l (s.take n) := by
  have h1 : (s.take n).length = n := by rw [List.length_take]; omega
  refine ext_rd (by rw [List.length_take, resZ_length, resZ_length, h1]; omega) fun i hi => ?_
  rw [List.length_take, resZ_length] at hi
  rw [take_rd' _ _ _ (by omega)]
  unfold resZ
  rw [rd_tab (by omega), rd_tab (by omega)]
  unfold resF
  rw [take_rd' _ _ _ (by omega), List.take_take, show min i n = i by omega]
theorem resZ_nil {s : List Int} (h : ¬ s.any loudP = true) : resZ [] s = s := by
  refine ext_rd (resZ_length _ _) fun i hi => ?_
  rw [resZ_length] at hi
  have hb := no_loud h hi
  unfold resZ
  rw [rd_tab hi]
  unfold resF
  rw [foreZ_nil, Int.sub_zero, w64 (by omega) (by omega)]
theorem take_noloud {s : List Int} (h : ¬ s.any loudP = true) (n : Nat) : ¬ (s.take n).any loudP = true := by
  intro h2
  obtain ⟨x, hx, hp⟩ := List.any_eq_true.mp h2
  exact h (List.any_eq_true.mpr ⟨x, List.mem_of_mem_take hx, hp⟩)

theorem FilterFirst : ∀ (l0 : List Int) (l1 : List Int) (a2 : Int), l0.length ≤ maxLen → l0.length * 8 ≤ 140737488351232 → (∀ x ∈ l0, (Lit.int .i64 x).wf = true) → l1.length ≤ maxLen → l1.length * 8 ≤ 140737488351232 → (∀ x ∈ l1, (Lit.int .i64 x).wf = true) → (Lit.int .u8 a2).wf = true → ∃ k, sackbutlaw07_FilterFirst.f k l0 l1 a2 = some true := by
  intro l s c _ _ _ _ _ _ hc
  have hcb := u8b hc
  refine ⟨100 + 1, ?_⟩
  unfold sackbutlaw07_FilterFirst.f
  rw [awake07 (by omega), bs, if_pos rfl, few07, bs]
  simp only [sackbutlaw07_FilterFirst.j0]
  by_cases hf : (decide (l.length ≤ 24) && decide (s.length ≤ 60)) = true
  · rw [hf, if_neg (by simp)]
    rw [Bool.and_eq_true, decide_eq_true_eq, decide_eq_true_eq] at hf
    obtain ⟨hl, hs⟩ := hf
    rw [w64 (x := (s.length : Int) + 1) (by omega) (by omega), w64 (x := c) (by omega) (by omega), if_neg (by omega), Int.tmod_eq_emod_of_nonneg hcb.1]
    obtain ⟨n, hn⟩ := Int.eq_ofNat_of_zero_le (show 0 ≤ c % ((s.length : Int) + 1) from Int.emod_nonneg _ (by omega))
    have hn2 := Int.emod_lt_of_pos c (show (0 : Int) < (s.length : Int) + 1 by omega)
    rw [hn] at hn2 ⊢
    have ht : (s.take n).length = n := by rw [List.length_take]; omega
    rw [res_ok (by omega) (by omega) (by omega), bs, if_pos (by omega), if_pos (by omega), Int.toNat_natCast, res_ok (by omega) (by omega) (by omega), bs, res_ok (by simp) (by omega) (by simp), bs]
    unfold resR
    by_cases hg : goodL l = true
    · by_cases ha : s.any loudP = true
      · rw [if_pos hg, if_pos ha]
        simp
      · rw [if_pos hg, if_neg ha, if_pos hg, if_neg (take_noloud ha n), if_pos (show goodL [] = true by decide), if_neg ha]
        show (if (0 : Int) = 0 then _ else _) = _
        rw [if_pos rfl]
        show (if (0 : Int) = 0 then _ else _) = _
        rw [if_pos rfl]
        show (if (0 : Int) = 0 then _ else _) = _
        rw [if_pos rfl, if_pos (by show (n : Int) ≤ ((resZ l s).length : Int); rw [resZ_length]; omega)]
        show ((sackbutref01_Same.f 100 ((resZ l s).take n) (resZ l (s.take n))).bind _) = _
        rw [resZ_take l s (by omega), same_ok _ _ (by rw [resZ_length]; omega) (by rw [resZ_length]; omega), bs, decide_eq_true rfl, if_pos rfl, resZ_nil ha]
        show ((sackbutref01_Same.f 100 s s).bind _) = _
        rw [same_ok s s (by omega) (by omega), bs, decide_eq_true rfl]
    · rw [if_neg hg]
      simp
  · rw [Bool.not_eq_true] at hf
    rw [hf]
    show (if true = true then _ else _) = _
    rw [if_pos rfl, awake07 (by omega), bs]
end Go.Proofs.Ytoglefgjiaoopaa.Pure
