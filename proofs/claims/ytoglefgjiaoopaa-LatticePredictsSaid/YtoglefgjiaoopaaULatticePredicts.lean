/- The pure statement of the law LatticePredicts. -/
import Derived.Test.YtoglefgjiaoopaaPx0
import Derived.Test.YtoglefgjiaoopaaPx4
import Derived.Test.YtoglefgjiaoopaaULattice
namespace Go.Proofs.Ytoglefgjiaoopaa.Pure
open Go.RowKit Go.Proofs.Ytoglefgjiaoopaa.P Go.Proofs.YtoglefgjiaoopaaW.PrintWords Go.Proofs.YtoglefgjiaoopaaW.PrintLast Go.Proofs.YtoglefgjiaoopaaW.PrintMore
set_option linter.unusedVariables false
set_option linter.unusedSimpArgs false

theorem predicts_end {c p : List Int} (hc : c.length ≤ 16) (hp : p.length ≤ 40) {k : Nat} (hk : 20 < k) :
    ((lattice_Predict.f k c p).bind fun t129 => ((sackbutref06_Predict.f k c p).bind fun t130 => (if t129 = t130 then (if (c.length : Int) > 0 then (if (p.length : Int) > 0 then (some true) else (some (t129 == 0))) else (some (t129 == 0))) else (some false)))) = some true := by
  rw [pred_ok (by omega) (by omega) (by omega), bs, rpred_ok (by omega) (by omega) (by omega), bs, if_pos rfl]
  have h0 : c.length = 0 ∨ p.length = 0 → predZ c p = 0 := by
    intro h
    unfold predZ
    rw [show min c.length p.length = 0 by omega]
    show wrap64 (-(rnd 0)) = 0
    decide +kernel
  by_cases h1 : (c.length : Int) > 0
  · rw [if_pos h1]
    by_cases h2 : (p.length : Int) > 0
    · rw [if_pos h2]
    · rw [if_neg h2, h0 (by omega)]
      rfl
  · rw [if_neg h1, h0 (by omega)]
    rfl
theorem predicts_l1 {c p : List Int} (hc : c.length ≤ 16) (hp : p.length ≤ 40) (d : Nat) : ∀ (k i : Nat), i + d = p.length → d + 30 < k → sackbutlaw06_LatticePredicts.l1 k c p p p.length i = some true := by
  induction d with
  | zero =>
    intro k i hi hk
    obtain ⟨k, rfl, _⟩ := pred_k (show 0 < k by omega)
    simp only [sackbutlaw06_LatticePredicts.l1]
    rw [if_neg (by omega)]
    exact predicts_end hc hp (by omega)
  | succ d ih =>
    intro k i hi hk
    obtain ⟨k, rfl, _⟩ := pred_k (show 0 < k by omega)
    simp only [sackbutlaw06_LatticePredicts.l1]
    have := ih k (i + 1) (by omega) (by omega)
    rw [if_pos (by omega), if_pos (by omega), if_pos (by omega), w64 (x := (i : Int) + 1) (by omega) (by omega)]
    split
    · rfl
    · split
      · rfl
      · exact_mod_cast this
theorem predicts_l0 {c p : List Int} (hc : c.length ≤ 16) (hp : p.length ≤ 40) (d : Nat) : ∀ (k i : Nat), i + d = c.length → d + 80 < k → sackbutlaw06_LatticePredicts.l0 k c p c c.length i = some true := by
  induction d with
  | zero =>
    intro k i hi hk
    obtain ⟨k, rfl, _⟩ := pred_k (show 0 < k by omega)
    simp only [sackbutlaw06_LatticePredicts.l0]
    rw [if_neg (by omega)]
    exact predicts_l1 hc hp p.length k 0 (by omega) (by omega)
  | succ d ih =>
    intro k i hi hk
    obtain ⟨k, rfl, _⟩ := pred_k (show 0 < k by omega)
    simp only [sackbutlaw06_LatticePredicts.l0]
    have := ih k (i + 1) (by omega) (by omega)
    rw [if_pos (by omega), if_pos (by omega), if_pos (by omega), w64 (x := (i : Int) + 1) (by omega) (by omega)]
    split
    · rfl
    · split
      · rfl
      · exact_mod_cast this
theorem LatticePredicts : ∀ (l0 : List Int) (l1 : List Int), l0.length ≤ maxLen → l0.length * 8 ≤ 140737488351232 → (∀ x ∈ l0, (Lit.int .i64 x).wf = true) → l1.length ≤ maxLen → l1.length * 8 ≤ 140737488351232 → (∀ x ∈ l1, (Lit.int .i64 x).wf = true) → ∃ k, sackbutlaw06_LatticePredicts.f k l0 l1 = some true := by
  intro c p _ _ _ _ _ _
  refine ⟨400 + 1, ?_⟩
  unfold sackbutlaw06_LatticePredicts.f
  rw [awake06 (by omega), bs, if_pos rfl]
  have hj : ∀ b, (b = true ∨ ((c.length : Int) ≤ 16 ∧ (p.length : Int) ≤ 40)) → sackbutlaw06_LatticePredicts.j0 (400 + 1) c p b = some true := by
    intro b hb
    simp only [sackbutlaw06_LatticePredicts.j0]
    cases b with
    | true => rw [if_pos rfl, awake06 (by omega), bs]
    | false =>
      obtain ⟨h1, h2⟩ := hb.resolve_left (by simp)
      rw [if_neg (by simp)]
      exact predicts_l0 (by omega) (by omega) c.length 400 0 (by omega) (by omega)
  split
  · exact hj _ (.inl rfl)
  · refine hj _ ?_
    by_cases h : (p.length : Int) > 40
    · exact .inl (decide_eq_true h)
    · exact .inr ⟨by omega, by omega⟩
end Go.Proofs.Ytoglefgjiaoopaa.Pure
