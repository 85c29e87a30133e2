/- The pure statement of the law FilterSilence. -/
import Derived.Test.YtoglefgjiaoopaaPx0
import Derived.Test.YtoglefgjiaoopaaPx16
import Derived.Test.YtoglefgjiaoopaaUFilter
namespace Go.Proofs.Ytoglefgjiaoopaa.Pure
open Go.RowKit Go.Proofs.Ytoglefgjiaoopaa.P Go.Proofs.YtoglefgjiaoopaaW.PrintWords Go.Proofs.YtoglefgjiaoopaaW.PrintLast Go.Proofs.YtoglefgjiaoopaaW.PrintMore
set_option linter.unusedVariables false
set_option linter.unusedSimpArgs false

theorem rd_zeros (n : Nat) (i : Int) : rd (List.replicate n 0) i = 0 := by
  unfold rd
  simp only [List.getD, List.getElem?_replicate]
  split <;> rfl
theorem foreZ_zeros (l : List Int) (n : Nat) : foreZ l (List.replicate n 0) = 0 := by
  have hd : ∀ (c : List Int) (i : Nat), dotW c (List.replicate n 0) i = 0 := by
    intro c i
    induction i with
    | zero => rfl
    | succ i ih => rw [dotW, ih, rd_zeros, Int.mul_zero]; decide +kernel
  unfold foreZ predZ
  rw [hd]
  decide +kernel
theorem resZ_zeros (l : List Int) (n : Nat) : resZ l (List.replicate n 0) = List.replicate n 0 := by
  refine ext_rd (by rw [resZ_length]) fun i hi => ?_
  rw [resZ_length] at hi
  unfold resZ
  rw [rd_tab hi]
  unfold resF
  rw [List.take_replicate, foreZ_zeros, rd_zeros]
  decide +kernel

theorem FilterSilence : ∀ (l0 : List Int) (a1 : Int) (a2 : Int), l0.length ≤ maxLen → l0.length * 8 ≤ 140737488351232 → (∀ x ∈ l0, (Lit.int .i64 x).wf = true) → (Lit.int .u8 a1).wf = true → (Lit.int .i64 a2).wf = true → ∃ k, sackbutlaw07_FilterSilence.f k l0 a1 a2 = some true := by
  intro l c x _ hl _ hc _
  have hcb := u8b hc
  refine ⟨l.length + 100 + 1, ?_⟩
  unfold sackbutlaw07_FilterSilence.f
  rw [awake07 (by omega), bs, if_pos rfl, rgood_ok (by omega) (by omega), bs]
  have hend : sackbutlaw07_FilterSilence.j0 (l.length + 100 + 1) l c x true = some true := by
    simp only [sackbutlaw07_FilterSilence.j0]
    rw [if_pos trivial, awake07 (by omega), bs]
  by_cases hg : goodL l = true
  · rw [if_pos hg]
    by_cases h1 : x > 67108864
    · rw [if_pos h1, hend]
    · rw [if_neg h1]
      by_cases h2 : x < -67108864
      · rw [decide_eq_true h2, hend]
      · rw [decide_eq_false h2]
        have hl16 : l.length ≤ 16 := by
          unfold goodL at hg
          rw [Bool.and_eq_true, decide_eq_true_eq] at hg
          exact hg.1
        simp only [sackbutlaw07_FilterSilence.j0]
        obtain ⟨n, hn⟩ := Int.eq_ofNat_of_zero_le (show 0 ≤ c % 50 by omega)
        have hn2 : n < 50 := by omega
        have hb : ¬ (List.replicate n (0 : Int)).any loudP = true := by
          intro h
          obtain ⟨y, hy, hp⟩ := List.any_eq_true.mp h
          rw [(List.mem_replicate.mp hy).2] at hp
          exact absurd hp (by decide)
        have hb2 : ¬ ([x] ++ List.replicate n (0 : Int)).any loudP = true := by
          rw [List.any_append]
          intro h
          rcases Bool.or_eq_true_iff.mp h with h | h
          · unfold loudP at h
            rw [List.any_cons, decide_eq_false h2, decide_eq_false h1] at h
            simp at h
          · exact hb h
        rw [if_neg (by simp), Int.tmod_eq_emod_of_nonneg hcb.1, hn, w64 (x := (n : Int)) (by omega) (by omega), if_pos (by omega), Int.toNat_natCast, if_pos (by omega), bs, res_ok (by omega) (by rw [List.length_replicate]; omega) (by omega), bs, bs,
          if_pos (by rw [List.length_replicate]; simp; omega), res_ok (by omega) (by rw [List.length_append, List.length_replicate]; simp; omega) (by omega), bs]
        unfold resR
        rw [if_pos hg, if_neg hb, if_pos hg, if_neg hb2]
        show (if (0 : Int) = 0 then _ else _) = _
        rw [if_pos rfl]
        show (if (0 : Int) = 0 then _ else _) = _
        rw [if_pos rfl]
        show ((sackbutref01_Same.f (l.length + 100) (resZ l (List.replicate n 0)) (List.replicate n 0)).bind _) = _
        rw [resZ_zeros, same_ok _ _ (by rw [List.length_replicate]; omega) (by rw [List.length_replicate]; omega), bs, decide_eq_true rfl, if_pos rfl]
        have hlen : (resZ l ([x] ++ List.replicate n 0)).length = n + 1 := by rw [resZ_length, List.length_append, List.length_replicate]; simp; omega
        have h0 : rd (resZ l ([x] ++ List.replicate n 0)) 0 = x := by
          have hr : rd (resZ l ([x] ++ List.replicate n 0)) ((0 : Nat) : Int) = resF l ([x] ++ List.replicate n 0) 0 := rd_tab (by rw [List.length_append]; simp; omega)
          rw [show ((0 : Nat) : Int) = 0 from rfl] at hr
          rw [hr]
          unfold resF
          rw [List.take_zero, foreZ_first, Int.sub_zero]
          exact w64 (by show _ ≤ x; omega) (by show x ≤ _; omega)
        show (if ((resZ l ([x] ++ List.replicate n 0)).length : Int) = wrap64 (((List.replicate n (0 : Int)).length : Int) + 1) then (if (0 : Int) < ((resZ l ([x] ++ List.replicate n 0)).length : Int) then some (rd (resZ l ([x] ++ List.replicate n 0)) 0 == x) else none) else some false) = some true
        rw [hlen, h0, List.length_replicate, w64 (x := (n : Int) + 1) (by omega) (by omega), if_pos (by omega), if_pos (by omega)]
        simp
  · rw [if_neg hg, hend]
end Go.Proofs.Ytoglefgjiaoopaa.Pure
