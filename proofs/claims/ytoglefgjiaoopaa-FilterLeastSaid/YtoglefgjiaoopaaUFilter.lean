/- What layer 7's residuals are, by the program and by the reference. -/
import Derived.Test.YtoglefgjiaoopaaPx0
import Derived.Test.YtoglefgjiaoopaaPx1
import Derived.Test.YtoglefgjiaoopaaPx4
import Derived.Test.YtoglefgjiaoopaaHRes
import Derived.Test.YtoglefgjiaoopaaULattice
namespace Go.Proofs.Ytoglefgjiaoopaa.Pure
open Go.RowKit Go.Proofs.Ytoglefgjiaoopaa.P Go.Proofs.YtoglefgjiaoopaaW.PrintWords Go.Proofs.YtoglefgjiaoopaaW.PrintLast Go.Proofs.YtoglefgjiaoopaaW.PrintMore
set_option linter.unusedVariables false
set_option linter.unusedSimpArgs false

/-- The coefficients behind each number of indices. -/
def bankZ (l : List Int) : List (List Int) := (List.range (l.length + 1)).map (cz l)
theorem bankZ_length (l : List Int) : (bankZ l).length = l.length + 1 := by simp [bankZ]
theorem bankZ_get (l : List Int) {i : Nat} (h : i ≤ l.length) : rd_L1 (bankZ l) (i : Int) = cz l i := by
  unfold rd_L1 bankZ
  rw [Int.toNat_natCast]
  simp [List.getD, show i < l.length + 1 by omega]
theorem open_ok {l : List Int} (hl : l.length ≤ 1000000) {k : Nat} (hk : l.length < k) : filter_open.f k l = some (bankZ l) := by
  unfold filter_open.f
  rw [reflect_ok (by omega) hk, bs, tab_length, if_pos (by omega)]
  have := steps_ok l (by omega) hk l.length 0 (by omega)
  rw [List.drop_zero] at this
  rw [show stepsL k [] = stepsL k (cz l 0) from rfl, this, bs]
  congr 1
  unfold bankZ
  rw [List.range_succ_eq_map, List.map_cons, List.map_map]
  refine List.cons_eq_cons.mpr ⟨rfl, ?_⟩
  apply List.map_congr_left
  intro j _
  show cz l (0 + j + 1) = cz l (j + 1)
  rw [Nat.zero_add]
/-- What is foreseen behind samples. -/
def foreZ (l p : List Int) : Int := predZ (cz l (min l.length p.length)) p
theorem foresee_ok {l p : List Int} (hl : l.length ≤ 1000) (hp : p.length ≤ 1000000) {k : Nat} (hk : l.length < k) : filter_bank_foresee.f k (bankZ l) p = some (foreZ l p) := by
  have e : mn (p.length : Int) (wrap64 (((bankZ l).length : Int) - 1)) = ((min l.length p.length : Nat) : Int) := by
    rw [bankZ_length, mn_eq, w64 (by omega) (by omega)]
    omega
  unfold filter_bank_foresee.f
  rw [e, if_pos (by omega), if_pos (by rw [bankZ_length]; omega), bankZ_get l (by omega), pred_ok (by rw [cz_length]; omega) (by omega) (by rw [cz_length]; omega), bs]
  rfl
theorem cz_take (l : List Int) (m : Nat) : ∀ i : Nat, i ≤ m → cz (l.take m) i = cz l i := by
  intro i
  induction i with
  | zero => intro _; rfl
  | succ i ih =>
    intro h
    rw [cz, cz, ih (by omega), take_rd' l m i (by omega)]
theorem rforesee_ok {l p : List Int} (hl : l.length ≤ 24) (hp : p.length ≤ 1000000) {k : Nat} (hk : 1500 < k) : sackbutref07_foresee.f k l p = some (foreZ l p) := by
  have e : mn (l.length : Int) (p.length : Int) = ((min l.length p.length : Nat) : Int) := by
    rw [mn_eq]
    omega
  have hlen : (l.take (min l.length p.length)).length = min l.length p.length := by rw [List.length_take]; omega
  unfold sackbutref07_foresee.f
  rw [e, if_pos (by omega), if_pos (by omega), Int.toNat_natCast, rcoefs_ok (by omega) (by omega), bs, hlen, cz_take _ _ _ (Nat.le_refl _), rpred_ok (by rw [cz_length]; omega) (by omega) (by rw [cz_length]; omega), bs]
  rfl
/-- The residual of a place, and of all. -/
def resF (l s : List Int) (i : Nat) : Int := wrap64 (rd s i - foreZ l (s.take i))
def resZ (l s : List Int) : List Int := tab s.length (resF l s)
theorem resZ_length (l s : List Int) : (resZ l s).length = s.length := tab_length _ _
theorem residual_ok {l s : List Int} (hl : l.length ≤ 1000) (hs : s.length ≤ 1000000) {i k : Nat} (hi : i < s.length) (hk : l.length < k) : filter_bank_residual.f k (bankZ l) s i = some (resF l s i) := by
  unfold filter_bank_residual.f
  rw [if_pos (by omega), if_pos (by omega), if_pos (by omega), Int.toNat_natCast, foresee_ok hl (by rw [List.length_take]; omega) hk, bs]
  rfl
theorem resAll_ok {l s : List Int} (hl : l.length ≤ 1000) (hs : s.length ≤ 1000000) {k : Nat} (hk : l.length < k) : ∀ n : Nat, n ≤ s.length → resAll k (bankZ l) s n = some (tab n (resF l s)) := by
  intro n
  induction n with
  | zero => intro _; rfl
  | succ n ih =>
    intro h
    rw [resAll, ih (by omega), bs, residual_ok hl hs (by omega) hk, bs, tab_succ]
/-- Residuals, or what is wrong. -/
def resR (l s : List Int) : List Int × Int := if goodL l = true then (if s.any loudP = true then ([], 9) else (resZ l s, 0)) else ([], 1)
theorem res_ok {l s : List Int} (hl : l.length ≤ 1000) (hs : s.length ≤ 1000000) {k : Nat} (hk : l.length < k) : filter_Residuals.f k l s = some (resR l s) := by
  unfold filter_Residuals.f resR
  rw [good_ok, bs]
  split
  · rw [if_pos (by omega)]
    split
    · rfl
    · rw [open_ok (by omega) hk, bs, resAll_ok hl hs hk _ (Nat.le_refl _), bs]
      rfl
  · rfl
theorem drop_any {p : Int → Bool} {s : List Int} {i : Nat} (h : i < s.length) : (s.drop i).any p = (p (rd s i) || (s.drop (i + 1)).any p) := by
  rw [List.drop_eq_getElem_cons h, List.any_cons, rd_nat]
  simp [List.getD, h]
theorem rres_l1 {l s : List Int} (hl : l.length ≤ 24) (hs : s.length ≤ 1000) (d : Nat) : ∀ (k i : Nat), i + d = s.length → d + 1600 < k → sackbutref07_Residuals.l1 k l s (tab i (resF l s)) s.length i = some (resZ l s, 0) := by
  induction d with
  | zero =>
    intro k i hi hk
    obtain ⟨k, rfl, _⟩ := pred_k (show 0 < k by omega)
    simp only [sackbutref07_Residuals.l1]
    rw [if_neg (by omega), show i = s.length by omega]
    rfl
  | succ d ih =>
    intro k i hi hk
    obtain ⟨k, rfl, _⟩ := pred_k (show 0 < k by omega)
    simp only [sackbutref07_Residuals.l1]
    have := ih k (i + 1) (by omega) (by omega)
    rw [if_pos (by omega), if_pos (by omega), if_pos (by omega), if_pos (by omega), Int.toNat_natCast, rforesee_ok hl (by rw [List.length_take]; omega) (by omega), bs, tab_length, if_pos (by omega), w64 (x := (i : Int) + 1) (by omega) (by omega)]
    rw [tab_succ] at this
    exact_mod_cast this
theorem rres_l0 {l s : List Int} (hl : l.length ≤ 24) (hs : s.length ≤ 1000) (d : Nat) : ∀ (k i : Nat), i + d = s.length → d + 3000 < k → sackbutref07_Residuals.l0 k l s s.length i = some (if (s.drop i).any loudP = true then ([], 9) else (resZ l s, 0)) := by
  induction d with
  | zero =>
    intro k i hi hk
    obtain ⟨k, rfl, _⟩ := pred_k (show 0 < k by omega)
    simp only [sackbutref07_Residuals.l0]
    rw [if_neg (by omega), List.drop_eq_nil_of_le (by omega)]
    exact rres_l1 hl hs s.length k 0 (by omega) (by omega)
  | succ d ih =>
    intro k i hi hk
    obtain ⟨k, rfl, _⟩ := pred_k (show 0 < k by omega)
    simp only [sackbutref07_Residuals.l0]
    have := ih k (i + 1) (by omega) (by omega)
    rw [if_pos (by omega), if_pos (by omega), if_pos (by omega), w64 (x := (i : Int) + 1) (by omega) (by omega), drop_any (by omega), show loudP (rd s i) = (decide (rd s i < -67108864) || decide (rd s i > 67108864)) from rfl]
    by_cases h1 : rd s i < -67108864
    · rw [if_pos h1, decide_eq_true h1]
      rfl
    · by_cases h2 : rd s i > 67108864
      · rw [if_neg h1, if_pos h2, decide_eq_true h2]
        simp
      · rw [if_neg h1, if_neg h2, decide_eq_false h1, decide_eq_false h2, Bool.false_or, Bool.false_or]
        exact this
theorem rres_ok {l s : List Int} (hl : l.length ≤ 24) (hs : s.length ≤ 1000) {k : Nat} (hk : 4100 < k) : sackbutref07_Residuals.f k l s = some (resR l s) := by
  unfold sackbutref07_Residuals.f resR
  rw [rgood_ok (by omega) (by omega), bs]
  split
  · exact rres_l0 hl hs s.length k 0 (by omega) (by omega)
  · rfl
theorem awake07 {k : Nat} (hk : 10 ≤ k) : sackbutlaw07_awake.f k = some true := by
  unfold sackbutlaw07_awake.f
  rw [res_ok (by simp) (by simp) (by simp; omega), bs, show resR [-64] [5, 7, 7] = ([5, 2, 0], 0) by decide +kernel, if_pos rfl, same_ok _ _ (by simp) (by simp; omega), bs]
  rfl
theorem few07 (l s : List Int) : sackbutlaw07_few.f l s = some (decide (l.length ≤ 24) && decide (s.length ≤ 60)) := by
  unfold sackbutlaw07_few.f
  by_cases h : l.length ≤ 24
  · rw [if_pos (by omega), decide_eq_true h, Bool.true_and]
    congr 1
    by_cases h2 : s.length ≤ 60
    · rw [decide_eq_true h2, decide_eq_true (by omega)]
    · rw [decide_eq_false h2, decide_eq_false (by omega)]
  · rw [if_neg (by omega), decide_eq_false h, Bool.false_and]
theorem no_loud {s : List Int} (h : ¬ s.any loudP = true) {i : Nat} (hi : i < s.length) : -67108864 ≤ rd s i ∧ rd s i ≤ 67108864 := by
  have h2 : loudP (rd s i) = false := by
    cases hb : loudP (rd s i) with
    | false => rfl
    | true => exact absurd (List.any_eq_true.mpr ⟨_, rd_mem (by omega) (by omega), hb⟩) h
  unfold loudP at h2
  rw [Bool.or_eq_false_iff, decide_eq_false_iff_not, decide_eq_false_iff_not] at h2
  omega
theorem predZ_none (p : List Int) : predZ [] p = 0 := by
  unfold predZ
  rw [show min ([] : List Int).length p.length = 0 by simp]
  show wrap64 (-(rnd 0)) = 0
  decide +kernel
theorem foreZ_first (l : List Int) : foreZ l [] = 0 := by
  unfold foreZ
  rw [show min l.length ([] : List Int).length = 0 by simp]
  exact predZ_none []
theorem foreZ_nil (p : List Int) : foreZ [] p = 0 := by
  unfold foreZ
  rw [show min ([] : List Int).length p.length = 0 by simp]
  exact predZ_none p
end Go.Proofs.Ytoglefgjiaoopaa.Pure
