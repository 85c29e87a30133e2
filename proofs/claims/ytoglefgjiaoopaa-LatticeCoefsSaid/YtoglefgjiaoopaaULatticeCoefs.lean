/- The pure statement of the law LatticeCoefs. -/
import Derived.Test.YtoglefgjiaoopaaPx0
import Derived.Test.YtoglefgjiaoopaaPx12
import Derived.Test.YtoglefgjiaoopaaHMask
import Derived.Test.YtoglefgjiaoopaaULattice
namespace Go.Proofs.Ytoglefgjiaoopaa.Pure
open Go.RowKit Go.Proofs.Ytoglefgjiaoopaa.P Go.Proofs.YtoglefgjiaoopaaW.PrintWords Go.Proofs.YtoglefgjiaoopaaW.PrintLast Go.Proofs.YtoglefgjiaoopaaW.PrintMore
set_option linter.unusedVariables false
set_option linter.unusedSimpArgs false

theorem refl_small {p i : Int} (h1 : -64 ≤ i) (h2 : i ≤ 63) : -16384 ≤ reflW p i ∧ reflW p i ≤ 16384 := by
  obtain ⟨u, hu⟩ : ∃ u : Int, u = i + 64 := ⟨_, rfl⟩
  have hu0 : 0 ≤ u := by omega
  have hu1 : u ≤ 127 := by omega
  have hq0 : 0 ≤ 2 * u * u := Int.mul_nonneg (by omega) hu0
  have hq1 : 2 * u * u ≤ 254 * 127 := Int.mul_le_mul (by omega) hu1 hu0 (by omega)
  unfold reflW
  rw [← hu, w64 (x := u) (by omega) (by omega), w64 (x := 2 * u) (by omega) (by omega), w64 (x := 2 * u * u) (by omega) (by omega)]
  split
  · rw [w64 (by omega) (by omega)]
    omega
  · split
    · rw [w64 (by omega) (by omega)]
      omega
    · rw [w64 (by omega) (by omega)]
      omega
theorem mul_bound {x y m n : Int} (hm : 0 ≤ m) (hn : 0 ≤ n) (h1 : -m ≤ x) (h2 : x ≤ m) (h3 : -n ≤ y) (h4 : y ≤ n) : -(m * n) ≤ x * y ∧ x * y ≤ m * n := by
  have a1 : 0 ≤ (m - x) * (n - y) := Int.mul_nonneg (by omega) (by omega)
  have a2 : 0 ≤ (m + x) * (n + y) := Int.mul_nonneg (by omega) (by omega)
  have a3 : 0 ≤ (m - x) * (n + y) := Int.mul_nonneg (by omega) (by omega)
  have a4 : 0 ≤ (m + x) * (n - y) := Int.mul_nonneg (by omega) (by omega)
  simp only [Int.sub_mul, Int.mul_sub, Int.add_mul, Int.mul_add] at a1 a2 a3 a4
  omega
theorem rnd_bound {z B : Int} (h1 : -(16384 * B) ≤ z) (h2 : z ≤ 16384 * B) (hB : 0 ≤ B) (hB2 : B ≤ 100000000000) : -B ≤ rnd z ∧ rnd z ≤ B := by
  unfold rnd
  rw [w64 (by omega) (by omega)]
  omega
theorem up_bound {a : List Int} {x B : Int} (hB : 0 ≤ B) (hB2 : B ≤ 1000000000) (hx1 : -16384 ≤ x) (hx2 : x ≤ 16384) (ha : ∀ j : Nat, j < a.length → -B ≤ rd a j ∧ rd a j ≤ B) {j : Nat} (hj : j < a.length) :
    -(2 * B) ≤ upF a x j ∧ upF a x j ≤ 2 * B := by
  have h1 := ha j hj
  have h2 := ha (a.length - 1 - j) (by omega)
  have h3 := mul_bound (m := 16384) (by omega) hB hx1 hx2 h2.1 h2.2
  unfold upF
  rw [w64 (x := x * rd a (a.length - 1 - j : Nat)) (by omega) (by omega)]
  have h4 := rnd_bound h3.1 h3.2 hB (by omega)
  rw [w64 (by omega) (by omega)]
  omega
theorem cz_bound (l : List Int) (hg : ∀ j : Nat, j < l.length → -64 ≤ rd l j ∧ rd l j ≤ 63) : ∀ i : Nat, i ≤ l.length → i ≤ 16 → ∀ j : Nat, j < i → -(16384 * 2 ^ (i - 1)) ≤ rd (cz l i) j ∧ rd (cz l i) j ≤ 16384 * 2 ^ (i - 1) := by
  intro i
  induction i with
  | zero => intro _ _ j h; omega
  | succ i ih =>
    intro hi h16 j hj
    have hr := refl_small (p := (i : Int)) (hg i (by omega)).1 (hg i (by omega)).2
    have hlen := cz_length l i
    have hp : (1 : Int) ≤ 2 ^ i := (pow_bound (by omega)).1
    rw [cz]
    unfold upZ
    rw [hlen, Nat.add_sub_cancel]
    by_cases h : j < i
    · have ih' := ih (by omega) (by omega)
      have hp2 : (2 : Int) ^ (i - 1) ≤ 2 ^ 14 := by
        rw [pow_cast, pow_cast]
        exact_mod_cast Nat.pow_le_pow_right (by omega) (by omega)
      have hp1 : (1 : Int) ≤ 2 ^ (i - 1) := (pow_bound (by omega)).1
      have he : (2 : Int) ^ i = 2 * 2 ^ (i - 1) := by
        rw [← Int.pow_succ', show i - 1 + 1 = i by omega]
      rw [rd_left (by omega) (by rw [tab_length]; omega), rd_tab h, he]
      have := up_bound (a := cz l i) (x := reflW i (rd l i)) (B := 16384 * 2 ^ (i - 1)) (by omega) (by omega) hr.1 hr.2 (by rw [hlen]; exact ih') (by rw [hlen]; exact h)
      omega
    · rw [rd_end _ _ (by rw [tab_length]; omega)]
      omega
theorem coefs_l0 {l : List Int} (hl : l.length ≤ 16) (hg : ∀ j : Nat, j < l.length → -64 ≤ rd l j ∧ rd l j ≤ 63) (d : Nat) : ∀ (k i : Nat), i + d = l.length → d < k → sackbutlaw06_LatticeCoefs.l0 k l (cz l l.length) (tab l.length fun j => reflW j (rd l j)) l.length i = some true := by
  have hcl := cz_length l l.length
  induction d with
  | zero =>
    intro k i hi hk
    obtain ⟨k, rfl, _⟩ := pred_k hk
    simp only [sackbutlaw06_LatticeCoefs.l0]
    rw [if_neg (by omega)]
  | succ d ih =>
    intro k i hi hk
    obtain ⟨k, rfl, _⟩ := pred_k hk
    simp only [sackbutlaw06_LatticeCoefs.l0]
    have hb := cz_bound l hg l.length (by omega) hl i (by omega)
    have hp2 : (2 : Int) ^ (l.length - 1) ≤ 2 ^ 15 := by
      rw [pow_cast, pow_cast]
      exact_mod_cast Nat.pow_le_pow_right (by omega) (by omega)
    have := ih k (i + 1) (by omega) (by omega)
    rw [if_pos (by omega), if_pos (by omega), if_pos (by rw [tab_length]; omega), if_pos (by omega), rrefl_ok, bs, rd_tab (by omega), if_pos rfl, if_pos (by omega), if_neg (by omega), if_neg (by omega), w64 (x := (i : Int) + 1) (by omega) (by omega)]
    exact_mod_cast this
theorem LatticeCoefs : ∀ (l0 : List Int), l0.length ≤ maxLen → l0.length * 8 ≤ 140737488351232 → (∀ x ∈ l0, (Lit.int .i64 x).wf = true) → ∃ k, sackbutlaw06_LatticeCoefs.f k l0 = some true := by
  intro l _ _ _
  refine ⟨3000 + 1 + 1, ?_⟩
  unfold sackbutlaw06_LatticeCoefs.f
  rw [awake06 (by omega), bs, if_pos rfl]
  rw [show 3000 + 1 + 1 = 3001 + 1 from rfl]
  simp only [sackbutlaw06_LatticeCoefs.j0]
  by_cases h40 : (l.length : Int) > 40
  · rw [decide_eq_true h40, if_pos rfl, awake06 (by omega), bs]
  · rw [decide_eq_false h40, if_neg (by simp), rgood_ok (by omega) (by omega), bs, good_ok, bs, if_neg (by simp)]
    cases hgood : goodL l with
    | false => rfl
    | true =>
      have hg : ∀ j : Nat, j < l.length → -64 ≤ rd l j ∧ rd l j ≤ 63 := by
        intro j hj
        have hm := rd_mem (l := l) (i := (j : Int)) (by omega) (by omega)
        have h2 : l.any latOut = false := by
          unfold goodL at hgood
          cases hany : l.any latOut
          · rfl
          · rw [hany] at hgood
            simp at hgood
        have := List.any_eq_false.mp h2 _ hm
        simp [latOut] at this
        omega
      have h16 : l.length ≤ 16 := by
        unfold goodL at hgood
        by_cases h : l.length ≤ 16
        · exact h
        · simp [h] at hgood
      rw [if_pos rfl, bs, if_pos (by simp; omega), bs, List.nil_append, coefs_ok (by omega) (by omega), bs, reflect_ok (by omega) (by omega), bs, rcoefs_ok (by omega) (by omega), bs, same_ok _ _ (by rw [cz_length]; omega) (by rw [cz_length]; omega), bs, if_pos (by simp), if_pos (by rw [tab_length]), same_ok _ _ (by omega) (by omega), bs]
      have e : (!decide (l = l)) = false := by simp
      rw [e]
      show sackbutlaw06_LatticeCoefs.j1 (3000 + 1) _ _ _ _ = _
      simp only [sackbutlaw06_LatticeCoefs.j1]
      rw [if_neg (by simp), tab_length]
      exact coefs_l0 h16 hg l.length 3000 0 (by omega) (by omega)
end Go.Proofs.Ytoglefgjiaoopaa.Pure
