/- The pure statement of the law FilterStill. -/
import Derived.Test.YtoglefgjiaoopaaPx0
import Derived.Test.YtoglefgjiaoopaaPx15
import Derived.Test.YtoglefgjiaoopaaUFilter
namespace Go.Proofs.Ytoglefgjiaoopaa.Pure
open Go.RowKit Go.Proofs.Ytoglefgjiaoopaa.P Go.Proofs.YtoglefgjiaoopaaW.PrintWords Go.Proofs.YtoglefgjiaoopaaW.PrintLast Go.Proofs.YtoglefgjiaoopaaW.PrintMore
set_option linter.unusedVariables false
set_option linter.unusedSimpArgs false

theorem foreZ_still {p : List Int} (h0 : 0 < p.length) (h1 : -67108864 ≤ rd p ((p.length - 1 : Nat) : Int)) (h2 : rd p ((p.length - 1 : Nat) : Int) ≤ 67108864) : foreZ [-64] p = rd p ((p.length - 1 : Nat) : Int) := by
  unfold foreZ
  rw [show min ([-64] : List Int).length p.length = 1 by simp; omega, show cz [-64] 1 = [-16384] by decide +kernel]
  unfold predZ
  rw [show min ([-16384] : List Int).length p.length = 0 + 1 by simp; omega, dotW, dotW]
  rw [show rd [-16384] ((0 : Nat) : Int) = -16384 by decide, Nat.sub_zero]
  generalize rd p ((p.length - 1 : Nat) : Int) = x at h1 h2
  unfold rnd
  rw [w64 (x := -16384 * x) (by omega) (by omega), Int.zero_add, w64 (x := -16384 * x) (by omega) (by omega), w64 (x := -16384 * x + 8192) (by omega) (by omega), w64 (by omega) (by omega)]
  omega
theorem still_l0 {s : List Int} (hs : s.length ≤ 60) (ha : ¬ s.any loudP = true) (d : Nat) : ∀ (k i : Nat), i + d = s.length → d < k → sackbutlaw07_FilterStill.l0 k s (resZ [-64] s) s s.length i = some true := by
  induction d with
  | zero =>
    intro k i hi hk
    obtain ⟨k, rfl, _⟩ := pred_k hk
    simp only [sackbutlaw07_FilterStill.l0]
    rw [if_neg (by omega), resZ_length]
    simp
  | succ d ih =>
    intro k i hi hk
    obtain ⟨k, rfl, _⟩ := pred_k hk
    simp only [sackbutlaw07_FilterStill.l0]
    have hih := ih k (i + 1) (by omega) (by omega)
    have hr : rd (resZ [-64] s) i = resF [-64] s i := rd_tab (by omega)
    have hb := no_loud ha (show i < s.length by omega)
    rw [if_pos (by omega), if_pos (by omega), if_pos (by omega), resZ_length, w64 (x := (i : Int) + 1) (by omega) (by omega)]
    by_cases h0 : (i : Int) > 0
    · have hb1 := no_loud ha (show i - 1 < s.length by omega)
      have ht : (s.take i).length = i := by rw [List.length_take]; omega
      have hlast : rd (s.take i) (((s.take i).length - 1 : Nat) : Int) = rd s ((i - 1 : Nat) : Int) := by rw [ht, take_rd' _ _ _ (by omega)]
      have hf := foreZ_still (p := s.take i) (by omega) (by rw [hlast]; exact hb1.1) (by rw [hlast]; exact hb1.2)
      rw [if_pos h0, w64 (x := (i : Int) - 1) (by omega) (by omega), if_pos (by omega), if_pos (by omega), if_pos (by omega), hr]
      unfold resF
      rw [hf, hlast, show (i : Int) - 1 = ((i - 1 : Nat) : Int) by omega, if_pos rfl]
      exact_mod_cast hih
    · have hi0 : i = 0 := by omega
      rw [if_neg h0, if_pos (by omega), hr]
      unfold resF
      rw [show s.take i = [] by rw [hi0]; rfl, foreZ_first, Int.sub_zero, w64 (x := rd s i) (by omega) (by omega), if_pos rfl]
      exact_mod_cast hih

theorem FilterStill : ∀ (l0 : List Int), l0.length ≤ maxLen → l0.length * 8 ≤ 140737488351232 → (∀ x ∈ l0, (Lit.int .i64 x).wf = true) → ∃ k, sackbutlaw07_FilterStill.f k l0 = some true := by
  intro s _ _ _
  refine ⟨100 + 1, ?_⟩
  unfold sackbutlaw07_FilterStill.f
  rw [awake07 (by omega), bs, if_pos rfl]
  simp only [sackbutlaw07_FilterStill.j0]
  by_cases hs : (s.length : Int) > 60
  · rw [decide_eq_true hs, if_pos rfl, awake07 (by omega), bs]
  · rw [decide_eq_false hs, if_neg (by simp), res_ok (by simp) (by omega) (by simp), bs]
    unfold resR
    rw [if_pos (show goodL [-64] = true by decide)]
    by_cases ha : s.any loudP = true
    · rw [if_pos ha]
      simp
    · rw [if_neg ha, if_pos rfl]
      exact still_l0 (by omega) ha s.length 100 0 (by omega) (by omega)
end Go.Proofs.Ytoglefgjiaoopaa.Pure
