/- Coefficients, and what they foresee, are not great. -/
import Derived.Test.YtoglefgjiaoopaaPx0
import Derived.Test.YtoglefgjiaoopaaHMask
import Derived.Test.YtoglefgjiaoopaaUFilter
namespace Go.Proofs.Ytoglefgjiaoopaa.Pure
open Go.RowKit Go.Proofs.Ytoglefgjiaoopaa.P Go.Proofs.YtoglefgjiaoopaaW.PrintWords Go.Proofs.YtoglefgjiaoopaaW.PrintLast Go.Proofs.YtoglefgjiaoopaaW.PrintMore
set_option linter.unusedVariables false
set_option linter.unusedSimpArgs false

theorem refl_smallF {p i : Int} (h1 : -64 ≤ i) (h2 : i ≤ 63) : -16384 ≤ reflW p i ∧ reflW p i ≤ 16384 := by
  obtain ⟨u, hu⟩ : ∃ u : Int, u = i + 64 := ⟨_, rfl⟩
  have hu0 : 0 ≤ u := by omega
  have hu1 : u ≤ 127 := by omega
  have hq0 : 0 ≤ 2 * u * u := Int.mul_nonneg (by omega) hu0
  have hq1 : 2 * u * u ≤ 254 * 127 := Int.mul_le_mul (by omega) hu1 hu0 (by omega)
  unfold reflW
  rw [← hu, w64 (x := u) (by omega) (by omega), w64 (x := 2 * u) (by omega) (by omega), w64 (x := 2 * u * u) (by omega) (by omega)]
  split
  · rw [w64 (by omega) (by omega)]
    omega
  · split
    · rw [w64 (by omega) (by omega)]
      omega
    · rw [w64 (by omega) (by omega)]
      omega
theorem mul_boundF {x y m n : Int} (hm : 0 ≤ m) (hn : 0 ≤ n) (h1 : -m ≤ x) (h2 : x ≤ m) (h3 : -n ≤ y) (h4 : y ≤ n) : -(m * n) ≤ x * y ∧ x * y ≤ m * n := by
  have a1 : 0 ≤ (m - x) * (n - y) := Int.mul_nonneg (by omega) (by omega)
  have a2 : 0 ≤ (m + x) * (n + y) := Int.mul_nonneg (by omega) (by omega)
  have a3 : 0 ≤ (m - x) * (n + y) := Int.mul_nonneg (by omega) (by omega)
  have a4 : 0 ≤ (m + x) * (n - y) := Int.mul_nonneg (by omega) (by omega)
  simp only [Int.sub_mul, Int.mul_sub, Int.add_mul, Int.mul_add] at a1 a2 a3 a4
  omega
theorem rnd_boundF {z B : Int} (h1 : -(16384 * B) ≤ z) (h2 : z ≤ 16384 * B) (hB : 0 ≤ B) (hB2 : B ≤ 100000000000) : -B ≤ rnd z ∧ rnd z ≤ B := by
  unfold rnd
  rw [w64 (by omega) (by omega)]
  omega
theorem up_boundF {a : List Int} {x B : Int} (hB : 0 ≤ B) (hB2 : B ≤ 1000000000) (hx1 : -16384 ≤ x) (hx2 : x ≤ 16384) (ha : ∀ j : Nat, j < a.length → -B ≤ rd a j ∧ rd a j ≤ B) {j : Nat} (hj : j < a.length) :
    -(2 * B) ≤ upF a x j ∧ upF a x j ≤ 2 * B := by
  have h1 := ha j hj
  have h2 := ha (a.length - 1 - j) (by omega)
  have h3 := mul_boundF (m := 16384) (by omega) hB hx1 hx2 h2.1 h2.2
  unfold upF
  rw [w64 (x := x * rd a (a.length - 1 - j : Nat)) (by omega) (by omega)]
  have h4 := rnd_boundF h3.1 h3.2 hB (by omega)
  rw [w64 (by omega) (by omega)]
  omega
theorem cz_boundF (l : List Int) (hg : ∀ j : Nat, j < l.length → -64 ≤ rd l j ∧ rd l j ≤ 63) : ∀ i : Nat, i ≤ l.length → i ≤ 16 → ∀ j : Nat, j < i → -(16384 * 2 ^ (i - 1)) ≤ rd (cz l i) j ∧ rd (cz l i) j ≤ 16384 * 2 ^ (i - 1) := by
  intro i
  induction i with
  | zero => intro _ _ j h; omega
  | succ i ih =>
    intro hi h16 j hj
    have hr := refl_smallF (p := (i : Int)) (hg i (by omega)).1 (hg i (by omega)).2
    have hlen := cz_length l i
    have hp : (1 : Int) ≤ 2 ^ i := (pow_bound (by omega)).1
    rw [cz]
    unfold upZ
    rw [hlen, Nat.add_sub_cancel]
    by_cases h : j < i
    · have ih' := ih (by omega) (by omega)
      have hp2 : (2 : Int) ^ (i - 1) ≤ 2 ^ 14 := by
        rw [pow_cast, pow_cast]
        exact_mod_cast Nat.pow_le_pow_right (by omega) (by omega)
      have hp1 : (1 : Int) ≤ 2 ^ (i - 1) := (pow_bound (by omega)).1
      have he : (2 : Int) ^ i = 2 * 2 ^ (i - 1) := by
        rw [← Int.pow_succ', show i - 1 + 1 = i by omega]
      rw [rd_left (by omega) (by rw [tab_length]; omega), rd_tab h, he]
      have := up_boundF (a := cz l i) (x := reflW i (rd l i)) (B := 16384 * 2 ^ (i - 1)) (by omega) (by omega) hr.1 hr.2 (by rw [hlen]; exact ih') (by rw [hlen]; exact h)
      omega
    · rw [rd_end _ _ (by rw [tab_length]; omega)]
      omega
theorem dot_bound {c p : List Int} (hc : ∀ j : Nat, j < c.length → -536870912 ≤ rd c j ∧ rd c j ≤ 536870912) (hp : ∀ j : Nat, j < p.length → -67108864 ≤ rd p j ∧ rd p j ≤ 67108864) : ∀ i : Nat, i ≤ c.length → i ≤ p.length → i ≤ 16 → -((i : Int) * 36028797018963968) ≤ dotW c p i ∧ dotW c p i ≤ (i : Int) * 36028797018963968 := by
  intro i
  induction i with
  | zero => intro _ _ _; simp [dotW]
  | succ i ih =>
    intro h1 h2 h3
    have h := ih (by omega) (by omega) (by omega)
    have ha := hc i (by omega)
    have hb := hp (p.length - 1 - i) (by omega)
    have hm := mul_boundF (m := 536870912) (n := 67108864) (by omega) (by omega) ha.1 ha.2 hb.1 hb.2
    rw [dotW, w64 (x := rd c i * rd p (p.length - 1 - i : Nat)) (by omega) (by omega), w64 (by omega) (by omega)]
    omega
theorem goodL_rd {l : List Int} (h : goodL l = true) : l.length ≤ 16 ∧ ∀ j : Nat, j < l.length → -64 ≤ rd l j ∧ rd l j ≤ 63 := by
  unfold goodL at h
  rw [Bool.and_eq_true, decide_eq_true_eq] at h
  refine ⟨h.1, fun j hj => ?_⟩
  have h2 : latOut (rd l j) = false := by
    cases hb : latOut (rd l j) with
    | false => rfl
    | true =>
      have : l.any latOut = true := List.any_eq_true.mpr ⟨_, rd_mem (by omega) (by omega), hb⟩
      rw [this] at h
      exact absurd h.2 (by simp)
  unfold latOut at h2
  rw [Bool.or_eq_false_iff, decide_eq_false_iff_not, decide_eq_false_iff_not] at h2
  omega
theorem fore_bound {l p : List Int} (h : goodL l = true) (hp : ∀ j : Nat, j < p.length → -67108864 ≤ rd p j ∧ rd p j ≤ 67108864) : -70368744177664 ≤ foreZ l p ∧ foreZ l p ≤ 70368744177664 := by
  obtain ⟨hl, hg⟩ := goodL_rd h
  have hcl := cz_length l (min l.length p.length)
  have hc : ∀ j : Nat, j < (cz l (min l.length p.length)).length → -536870912 ≤ rd (cz l (min l.length p.length)) j ∧ rd (cz l (min l.length p.length)) j ≤ 536870912 := by
    intro j hj
    rw [hcl] at hj
    have hb := cz_boundF l hg (min l.length p.length) (by omega) (by omega) j hj
    have hp2 : (2 : Int) ^ (min l.length p.length - 1) ≤ 2 ^ 15 := by
      rw [pow_cast, pow_cast]
      exact_mod_cast Nat.pow_le_pow_right (by omega) (by omega)
    omega
  have hd := dot_bound hc hp (min (cz l (min l.length p.length)).length p.length) (by omega) (by omega) (by omega)
  unfold foreZ predZ
  generalize dotW (cz l (min l.length p.length)) p (min (cz l (min l.length p.length)).length p.length) = z at hd
  have hz : -576460752303423488 ≤ z ∧ z ≤ 576460752303423488 := by omega
  unfold rnd
  rw [w64 (x := z + 8192) (by omega) (by omega), w64 (by omega) (by omega)]
  omega
end Go.Proofs.Ytoglefgjiaoopaa.Pure
