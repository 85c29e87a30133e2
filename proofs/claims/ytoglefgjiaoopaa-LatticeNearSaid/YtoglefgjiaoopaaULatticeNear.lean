/- The pure statement of the law LatticeNear. -/
import Derived.Test.YtoglefgjiaoopaaPx0
import Derived.Test.YtoglefgjiaoopaaPx8
import Derived.Test.YtoglefgjiaoopaaPx7
import Derived.Test.YtoglefgjiaoopaaULattice
namespace Go.Proofs.Ytoglefgjiaoopaa.Pure
open Go.RowKit Go.Proofs.Ytoglefgjiaoopaa.P Go.Proofs.YtoglefgjiaoopaaW.PrintWords Go.Proofs.YtoglefgjiaoopaaW.PrintLast Go.Proofs.YtoglefgjiaoopaaW.PrintMore
set_option linter.unusedVariables false
set_option linter.unusedSimpArgs false

theorem refl_few {p i : Int} (h1 : -64 ≤ i) (h2 : i ≤ 63) : -16384 ≤ reflW p i ∧ reflW p i ≤ 16384 := by
  obtain ⟨u, hu⟩ : ∃ u : Int, u = i + 64 := ⟨_, rfl⟩
  have hu0 : 0 ≤ u := by omega
  have hu1 : u ≤ 127 := by omega
  have hq0 : 0 ≤ 2 * u * u := Int.mul_nonneg (by omega) hu0
  have hq1 : 2 * u * u ≤ 254 * 127 := Int.mul_le_mul (by omega) hu1 hu0 (by omega)
  unfold reflW
  rw [← hu, w64 (x := u) (by omega) (by omega), w64 (x := 2 * u) (by omega) (by omega), w64 (x := 2 * u * u) (by omega) (by omega)]
  split
  · rw [w64 (by omega) (by omega)]
    omega
  · split
    · rw [w64 (by omega) (by omega)]
      omega
    · rw [w64 (by omega) (by omega)]
      omega
/-- How far an index's reflection is from a number. -/
def dz (p w j : Int) : Int := if reflW p j - w < 0 then -(reflW p j - w) else reflW p j - w
theorem lsize_ok {p w j : Int} (h1 : -64 ≤ j) (h2 : j ≤ 63) (hw1 : -1048576 ≤ w) (hw2 : w ≤ 1048576) : lattice_size.f (wrap64 (reflW p j - w)) = some (dz p w j) := by
  have hr := refl_few (p := p) h1 h2
  unfold lattice_size.f dz
  rw [w64 (x := reflW p j - w) (by omega) (by omega), w64 (by omega) (by omega), mx_eq]
  congr 1
  split <;> omega
theorem lawsize_ok {p w j : Int} (h1 : -64 ≤ j) (h2 : j ≤ 63) (hw1 : -1048576 ≤ w) (hw2 : w ≤ 1048576) : sackbutlaw06_size.f (wrap64 (reflW p j - w)) = some (dz p w j) := by
  have hr := refl_few (p := p) h1 h2
  unfold sackbutlaw06_size.f dz
  rw [w64 (x := reflW p j - w) (by omega) (by omega)]
  split
  · rw [w64 (by omega) (by omega)]
  · rfl
def NearInv (p w i out : Int) : Prop := -64 ≤ out ∧ out ≤ 63 ∧ (out ≤ i) ∧ ∀ j, -64 ≤ j → j < i → dz p w out ≤ dz p w j ∧ (j < out → dz p w out < dz p w j)
theorem near_l0 (p w : Int) (hw1 : -1048576 ≤ w) (hw2 : w ≤ 1048576) (d : Nat) : ∀ (k : Nat) (i out : Int), -64 ≤ i → i + d = 64 → d < k → NearInv p w i out → ∃ n, lattice_Near.l0 k p w out i = some n ∧ NearInv p w 64 n := by
  induction d with
  | zero =>
    intro k i out h64 hi hk hinv
    obtain ⟨k, rfl, _⟩ := pred_k hk
    simp only [lattice_Near.l0]
    rw [if_neg (by omega)]
    have : i = 64 := by omega
    subst this
    exact ⟨out, rfl, hinv⟩
  | succ d ih =>
    intro k i out h64 hi hk ⟨h1, h2, h3, h4⟩
    obtain ⟨k, rfl, _⟩ := pred_k hk
    simp only [lattice_Near.l0]
    rw [if_pos (by omega), refl_ok, bs, lsize_ok h64 (by omega) hw1 hw2, bs, refl_ok, bs, lsize_ok h1 h2 hw1 hw2, bs, w64 (x := i + 1) (by omega) (by omega)]
    by_cases hlt : dz p w i < dz p w out
    · rw [if_pos hlt]
      refine ih k (i + 1) i (by omega) (by omega) (by omega) ⟨h64, by omega, by omega, fun j hj1 hj2 => ?_⟩
      by_cases hji : j = i
      · subst hji
        exact ⟨Int.le_refl _, fun h => absurd h (by omega)⟩
      · have := (h4 j hj1 (by omega)).1
        exact ⟨by omega, fun _ => by omega⟩
    · rw [if_neg hlt]
      refine ih k (i + 1) out (by omega) (by omega) (by omega) ⟨h1, h2, by omega, fun j hj1 hj2 => ?_⟩
      by_cases hji : j = i
      · subst hji
        exact ⟨by omega, fun h => absurd h (by omega)⟩
      · exact h4 j hj1 (by omega)
theorem near_ok (p w : Int) (hw1 : -1048576 ≤ w) (hw2 : w ≤ 1048576) {k : Nat} (hk : 128 < k) : ∃ n, lattice_Near.f k p w = some n ∧ NearInv p w 64 n :=
  near_l0 p w hw1 hw2 128 k (-64) (-64) (by omega) (by omega) hk ⟨by omega, by omega, by omega, fun j h1 h2 => absurd h1 (by omega)⟩
theorem lnear_l0 (p w g n : Int) (hw1 : -1048576 ≤ w) (hw2 : w ≤ 1048576) (hg1 : -128 ≤ g) (hg2 : g ≤ 127) (hn : NearInv p w 64 n) (d : Nat) : ∀ (k : Nat) (i : Int), -64 ≤ i → i + d = 64 → d + 140 < k → sackbutlaw06_LatticeNear.l0 k w g p n (dz p w n) i = some true := by
  obtain ⟨h1, h2, _, h4⟩ := hn
  induction d with
  | zero =>
    intro k i h64 hi hk
    obtain ⟨k, rfl, _⟩ := pred_k (show 0 < k by omega)
    simp only [sackbutlaw06_LatticeNear.l0]
    have hq : -64 ≤ Int.tdiv g 2 ∧ Int.tdiv g 2 ≤ 63 := by
      by_cases h : 0 ≤ g
      · rw [Int.tdiv_eq_ediv_of_nonneg h]; omega
      · obtain ⟨z, rfl⟩ : ∃ z, g = -z := ⟨-g, by omega⟩
        rw [Int.neg_tdiv, Int.tdiv_eq_ediv_of_nonneg (by omega)]; omega
    rw [if_neg (by omega), w64 (x := g) (by omega) (by omega), w64 (by omega) (by omega), rrefl_ok, bs]
    generalize Int.tdiv g 2 = q at hq ⊢
    have hr := refl_few (p := p) hq.1 hq.2
    obtain ⟨m, hm, hm1, hm2, _, hm4⟩ := near_ok p (reflW p q) (by omega) (by omega) (show 128 < k by omega)
    rw [hm, bs, rrefl_ok, bs]
    have h0 := (hm4 q hq.1 (by omega)).1
    have e0 : dz p (reflW p q) q = 0 := by unfold dz; rw [if_neg (by omega)]; omega
    have e1 : reflW p m = reflW p q := by
      rw [e0] at h0
      unfold dz at h0
      split at h0 <;> omega
    rw [e1]
    simp
  | succ d ih =>
    intro k i h64 hi hk
    obtain ⟨k, rfl, _⟩ := pred_k (show 0 < k by omega)
    simp only [sackbutlaw06_LatticeNear.l0]
    have hq := h4 i h64 (by omega)
    have := ih k (i + 1) (by omega) (by omega) (by omega)
    rw [if_pos (by omega), rrefl_ok, bs, lawsize_ok h64 (by omega) hw1 hw2, bs, if_neg (by omega), w64 (x := i + 1) (by omega) (by omega)]
    split
    · rename_i he
      rw [if_neg (fun hlt => by have := hq.2 hlt; omega)]
      exact this
    · exact this
theorem LatticeNear : ∀ (a0 : Int) (a1 : Int) (a2 : Int), (Lit.int .u8 a0).wf = true → (Lit.int .i64 a1).wf = true → (Lit.int .i8 a2).wf = true → ∃ k, sackbutlaw06_LatticeNear.f k a0 a1 a2 = some true := by
  intro p w g hp0 hw0 hg0
  have hpb := u8b hp0
  have hgb := i8b hg0
  refine ⟨600 + 1, ?_⟩
  unfold sackbutlaw06_LatticeNear.f
  rw [awake06 (by omega), bs, if_pos rfl]
  have hj : ∀ b, (b = true ∨ (-1048576 ≤ w ∧ w ≤ 1048576)) → sackbutlaw06_LatticeNear.j0 (600 + 1) p w g b = some true := by
    intro b hb
    simp only [sackbutlaw06_LatticeNear.j0]
    cases b with
    | true => rw [if_pos rfl, awake06 (by omega), bs]
    | false =>
      obtain ⟨h1, h2⟩ := hb.resolve_left (by simp)
      rw [if_neg (by simp), Int.tmod_eq_emod_of_nonneg hpb.1, w64 (x := p % 16) (by omega) (by omega)]
      generalize p % 16 = q
      obtain ⟨n, hn, hinv⟩ := near_ok q w h1 h2 (show 128 < 600 by omega)
      have hn1 := hinv.1
      have hn2 := hinv.2.1
      rw [hn, bs, if_neg (by omega), decide_eq_false (by omega)]
      show sackbutlaw06_LatticeNear.j1 (599 + 1) _ _ _ _ _ = _
      simp only [sackbutlaw06_LatticeNear.j1]
      rw [if_neg (by simp), rrefl_ok, bs, lawsize_ok hn1 hn2 h1 h2, bs]
      exact lnear_l0 q w g n h1 h2 hgb.1 hgb.2 hinv 128 599 (-64) (by omega) (by omega) (by omega)
  split
  · exact hj _ (.inl rfl)
  · refine hj _ ?_
    by_cases h : w < -1048576
    · exact .inl (decide_eq_true h)
    · exact .inr ⟨by omega, by omega⟩
end Go.Proofs.Ytoglefgjiaoopaa.Pure
