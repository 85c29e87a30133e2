/- What layer 6's printed functions answer: rounded parts, reflections, coefficients, predictions; the reference answers the same. -/
import Derived.Test.YtoglefgjiaoopaaPx0
import Derived.Test.YtoglefgjiaoopaaPx1
import Derived.Test.YtoglefgjiaoopaaPx4
import Derived.Test.YtoglefgjiaoopaaPx6
import Derived.Test.YtoglefgjiaoopaaHLat
import Derived.Test.YtoglefgjiaoopaaHCoefs
import Derived.Test.YtoglefgjiaoopaaUSame
namespace Go.Proofs.Ytoglefgjiaoopaa.Pure
open Go.RowKit Go.Proofs.Ytoglefgjiaoopaa.P Go.Proofs.YtoglefgjiaoopaaW.PrintWords Go.Proofs.YtoglefgjiaoopaaW.PrintLast Go.Proofs.YtoglefgjiaoopaaW.PrintMore
set_option linter.unusedVariables false
set_option linter.unusedSimpArgs false

theorem w64b (x : Int) : -9223372036854775808 ≤ wrap64 x ∧ wrap64 x ≤ 9223372036854775807 := by unfold wrap64; omega
def rnd (x : Int) : Int := wrap64 (x + 8192) / 16384
theorem round_ok (x : Int) : lattice_Round.f x = some (rnd x) := rfl
theorem rround_ok (x : Int) : sackbutref06_Round.f x = some (rnd x) := by
  unfold sackbutref06_Round.f rnd
  have h := w64b (x + 8192)
  generalize wrap64 (x + 8192) = y at h ⊢
  by_cases hy : 0 ≤ y
  · rw [Int.tmod_eq_emod_of_nonneg hy, Int.tdiv_eq_ediv_of_nonneg hy, if_neg (by omega), w64 (by omega) (by omega)]
  · obtain ⟨z, rfl⟩ : ∃ z, y = -z := ⟨-y, by omega⟩
    rw [Int.neg_tmod, Int.neg_tdiv, Int.tmod_eq_emod_of_nonneg (by omega), Int.tdiv_eq_ediv_of_nonneg (by omega)]
    rw [w64 (x := -(z / 16384)) (by omega) (by omega)]
    split
    · rw [w64 (by omega) (by omega)]
      congr 1
      omega
    · congr 1
      omega
def reflW (p i : Int) : Int :=
  if p = 0 then wrap64 (wrap64 (wrap64 (2 * wrap64 (i + 64)) * wrap64 (i + 64)) - 16384) else if p = 1 then wrap64 (16384 - wrap64 (wrap64 (2 * wrap64 (i + 64)) * wrap64 (i + 64))) else wrap64 (256 * i)
theorem rrefl_ok (p i : Int) : sackbutref06_Reflection.f p i = some (reflW p i) := by
  unfold sackbutref06_Reflection.f reflW
  split
  · rfl
  · split <;> rfl
theorem refl_ok (p i : Int) : lattice_reflection.f p i = some (reflW p i) := by
  rw [← rrefl_ok]
  unfold lattice_reflection.f sackbutref06_Reflection.f
  rw [show i - (-64) = i + 64 by omega]
theorem reflect_l0 (l : List Int) (hl : l.length ≤ 1000000000) (d : Nat) : ∀ (k i : Nat), i + d = l.length → d < k → lattice_Reflect.l0 k (tab i fun j => reflW j (rd l j)) l l.length i = some (tab l.length fun j => reflW j (rd l j)) := by
  induction d with
  | zero =>
    intro k i hi hk
    obtain ⟨k, rfl, _⟩ := pred_k hk
    simp only [lattice_Reflect.l0]
    rw [if_neg (by omega), show i = l.length by omega]
  | succ d ih =>
    intro k i hi hk
    obtain ⟨k, rfl, _⟩ := pred_k hk
    simp only [lattice_Reflect.l0]
    rw [if_pos (by omega), if_pos (by omega), if_pos (by omega), refl_ok, bs, tab_length, if_pos (by omega), w64 (x := (i : Int) + 1) (by omega) (by omega)]
    have := ih k (i + 1) (by omega) (by omega)
    rw [tab_succ] at this
    exact_mod_cast this
theorem reflect_ok {l : List Int} (hl : l.length ≤ 1000000000) {k : Nat} (hk : l.length < k) : lattice_Reflect.f k l = some (tab l.length fun j => reflW j (rd l j)) :=
  reflect_l0 l hl l.length k 0 (by omega) hk

/-- The coefficients behind one reflection more. -/
def upF (a : List Int) (x : Int) (j : Nat) : Int := wrap64 (rd a j + rnd (wrap64 (x * rd a (a.length - 1 - j : Nat))))
def upZ (a : List Int) (x : Int) : List Int := tab a.length (upF a x) ++ [x]
theorem upZ_length (a : List Int) (x : Int) : (upZ a x).length = a.length + 1 := by simp [upZ, tab_length]
theorem idx_ok {n i : Nat} (h : i < n) (hn : n ≤ 1000000000) : wrap64 (wrap64 ((n : Int) - 1) - i) = ((n - 1 - i : Nat) : Int) := by
  rw [w64 (x := (n : Int) - 1) (by omega) (by omega), w64 (by omega) (by omega)]
  omega
theorem set_mid (xs ys : List Int) (y v : Int) : (xs ++ y :: ys).set xs.length v = xs ++ v :: ys := by simp
theorem up_l0 (a : List Int) (x : Int) (hl : a.length ≤ 1000000000) (d : Nat) : ∀ (k i : Nat), i + d = a.length → d < k → lattice_up.l0 k a x (tab i (upF a x) ++ List.replicate (d + 1) 0) a a.length i = some (upZ a x) := by
  induction d with
  | zero =>
    intro k i hi hk
    obtain ⟨k, rfl, _⟩ := pred_k hk
    simp only [lattice_up.l0]
    have e : a.length = (tab i (upF a x)).length := by rw [tab_length]; omega
    rw [if_neg (by omega), if_pos (by omega), if_pos (by simp [tab_length]; omega), Int.toNat_natCast]
    rw [show List.replicate (0 + 1) (0 : Int) = [0] from rfl, e, set_mid]
    unfold upZ
    rw [show i = a.length by omega]
  | succ d ih =>
    intro k i hi hk
    obtain ⟨k, rfl, _⟩ := pred_k hk
    simp only [lattice_up.l0]
    rw [if_pos (by omega), if_pos (by omega), if_pos (by omega), idx_ok (by omega) hl, if_pos (by omega), if_pos (by omega), round_ok, bs, if_pos (by simp [tab_length]; omega), Int.toNat_natCast, w64 (x := (i : Int) + 1) (by omega) (by omega)]
    have := ih k (i + 1) (by omega) (by omega)
    rw [tab_succ, List.append_assoc, List.singleton_append] at this
    have e : (tab i (upF a x) ++ List.replicate (d + 1 + 1) 0).set i (wrap64 (rd a i + rnd (wrap64 (x * rd a (a.length - 1 - i : Nat))))) = tab i (upF a x) ++ upF a x i :: List.replicate (d + 1) 0 := by
      rw [List.replicate_succ]
      have := set_mid (tab i (upF a x)) (List.replicate (d + 1) 0) 0 (upF a x i)
      rw [tab_length] at this
      exact this
    rw [e]
    exact_mod_cast this
theorem up_ok {a : List Int} (x : Int) (hl : a.length ≤ 1000000000) {k : Nat} (hk : a.length < k) : lattice_up.f k a x = some (upZ a x) := by
  unfold lattice_up.f
  rw [w64 (x := (a.length : Int) + 1) (by omega) (by omega), if_pos (by omega), if_pos (by omega), show ((a.length : Int) + 1).toNat = a.length + 1 by omega]
  exact up_l0 a x hl a.length k 0 (by omega) hk
/-- The coefficients behind the first i indices. -/
def cz (l : List Int) : Nat → List Int
  | 0 => []
  | i + 1 => upZ (cz l i) (reflW i (rd l i))
theorem cz_length (l : List Int) (i : Nat) : (cz l i).length = i := by
  induction i with
  | zero => rfl
  | succ i ih => rw [cz, upZ_length, ih]
theorem tab_drop (n : Nat) (f : Nat → Int) {i : Nat} (h : i < n) : (tab n f).drop i = f i :: (tab n f).drop (i + 1) := by
  rw [List.drop_eq_getElem_cons (by rw [tab_length]; exact h)]
  congr 1
  simp [tab]
theorem steps_ok (l : List Int) (hl : l.length ≤ 1000000000) {k : Nat} (hk : l.length < k) (d : Nat) : ∀ i : Nat, i + d = l.length →
    stepsL k (cz l i) ((tab l.length fun j => reflW j (rd l j)).drop i) = some ((List.range d).map fun j => cz l (i + j + 1)) := by
  induction d with
  | zero =>
    intro i hi
    rw [List.drop_eq_nil_of_le (by rw [tab_length]; omega)]
    rfl
  | succ d ih =>
    intro i hi
    rw [tab_drop _ _ (by omega), stepsL, up_ok _ (by rw [cz_length]; omega) (by rw [cz_length]; omega), bs, if_pos (by rw [upZ_length, cz_length]; omega)]
    have := ih (i + 1) (by omega)
    rw [cz] at this
    rw [this, bs]
    congr 1
    rw [List.range_succ_eq_map, List.map_cons, List.map_map]
    refine List.cons_eq_cons.mpr ⟨rfl, ?_⟩
    apply List.map_congr_left
    intro j _
    show cz l (i + 1 + j + 1) = cz l (i + (j + 1) + 1)
    congr 1
    omega
theorem coefs_ok {l : List Int} (hl : l.length ≤ 1000000000) {k : Nat} (hk : l.length < k) : lattice_Coefs.f k l = some (cz l l.length) := by
  unfold lattice_Coefs.f
  rw [reflect_ok hl hk, bs, tab_length, if_pos hl]
  have := steps_ok l hl hk l.length 0 (by omega)
  rw [List.drop_zero] at this
  rw [show stepsL k [] = stepsL k (cz l 0) from rfl, this, bs]
  congr 1
  cases hn : l.length with
  | zero => rfl
  | succ n =>
    rw [List.range_succ, List.map_append, List.map_singleton]
    simp
theorem rcoefs_l1 (l a : List Int) (x : Int) (n p : Int) (ha : a.length ≤ 1000000000) (d : Nat) : ∀ (k i : Nat), i + d = a.length → sackbutref06_Coefs.l1 (k + d + 1) l a x (tab i (upF a x)) n p a.length i = sackbutref06_Coefs.l0 k l (upZ a x) n (wrap64 (p + 1)) := by
  induction d with
  | zero =>
    intro k i hi
    simp only [sackbutref06_Coefs.l1]
    rw [if_neg (by omega), tab_length, if_pos (by omega)]
    unfold upZ
    rw [show i = a.length by omega]
  | succ d ih =>
    intro k i hi
    rw [show k + (d + 1) + 1 = (k + d + 1) + 1 by omega]
    have := ih k (i + 1) (by omega)
    generalize k + d + 1 = m at this ⊢
    simp only [sackbutref06_Coefs.l1]
    rw [if_pos (by omega), if_pos (by omega), if_pos (by omega), idx_ok (by omega) ha, if_pos (by omega), if_pos (by omega), rround_ok, bs, tab_length, if_pos (by omega), w64 (x := (i : Int) + 1) (by omega) (by omega)]
    rw [tab_succ] at this
    exact_mod_cast this
theorem rcoefs_l0 (l : List Int) (hl : l.length ≤ 40) (d : Nat) : ∀ (k i : Nat), i + d = l.length → 60 * d < k → sackbutref06_Coefs.l0 k l (cz l i) l.length i = some (cz l l.length) := by
  induction d with
  | zero =>
    intro k i hi hk
    obtain ⟨k, rfl, _⟩ := pred_k (show 0 < k by omega)
    simp only [sackbutref06_Coefs.l0]
    rw [if_neg (by omega), show i = l.length by omega]
  | succ d ih =>
    intro k i hi hk
    obtain ⟨k, rfl, _⟩ := pred_k (show 0 < k by omega)
    simp only [sackbutref06_Coefs.l0]
    rw [if_pos (by omega), if_pos (by omega), if_pos (by omega), rrefl_ok, bs]
    obtain ⟨k', rfl⟩ : ∃ k', k = k' + i + 1 := ⟨k - i - 1, by omega⟩
    have h1 := rcoefs_l1 l (cz l i) (reflW i (rd l i)) l.length i (by rw [cz_length]; omega) i k' 0 (by rw [cz_length]; omega)
    rw [tab_zero] at h1
    rw [show ((0 : Nat) : Int) = 0 from rfl] at h1
    rw [h1, w64 (x := (i : Int) + 1) (by omega) (by omega)]
    have := ih k' (i + 1) (by omega) (by omega)
    rw [cz] at this
    exact_mod_cast this
theorem rcoefs_ok {l : List Int} (hl : l.length ≤ 40) {k : Nat} (hk : 60 * l.length < k) : sackbutref06_Coefs.f k l = some (cz l l.length) :=
  rcoefs_l0 l hl l.length k 0 (by omega) hk
/-- Is it an index list? -/
def goodL (l : List Int) : Bool := decide (l.length ≤ 16) && !l.any latOut
theorem rgood_l0 (l : List Int) (hl : l.length ≤ 140737488351232) (d : Nat) : ∀ (k i : Nat), i + d = l.length → d < k → sackbutref06_Good.l0 k l l.length i = some (decide (l.length ≤ 16) && !(l.drop i).any latOut) := by
  induction d with
  | zero =>
    intro k i hi hk
    obtain ⟨k, rfl, _⟩ := pred_k hk
    simp only [sackbutref06_Good.l0]
    rw [if_neg (by omega), List.drop_eq_nil_of_le (by omega)]
    simp
    omega
  | succ d ih =>
    intro k i hi hk
    obtain ⟨k, rfl, _⟩ := pred_k hk
    simp only [sackbutref06_Good.l0]
    have hd : l.drop i = rd l i :: l.drop (i + 1) := by
      rw [List.drop_eq_getElem_cons (by omega)]
      congr 1
      rw [rd_nat, List.getD, List.getElem?_eq_getElem (by omega)]
      rfl
    rw [if_pos (by omega), if_pos (by omega), if_pos (by omega), hd, List.any_cons]
    by_cases h1 : rd l i < -64
    · rw [if_pos h1]
      have : latOut (rd l i) = true := by simp [latOut, h1]
      simp [this]
    · rw [if_neg h1]
      by_cases h2 : rd l i > 63
      · rw [if_pos h2]
        have : latOut (rd l i) = true := by simp [latOut, h2]
        simp [this]
      · rw [if_neg h2, w64 (x := (i : Int) + 1) (by omega) (by omega)]
        have e : latOut (rd l i) = false := by simp [latOut]; omega
        have := ih k (i + 1) (by omega) (by omega)
        rw [e, Bool.false_or]
        exact_mod_cast this
theorem rgood_ok {l : List Int} (hl : l.length ≤ 140737488351232) {k : Nat} (hk : l.length < k) : sackbutref06_Good.f k l = some (goodL l) := by
  have := rgood_l0 l hl l.length k 0 (by omega) hk
  exact this
theorem good_ok (l : List Int) : lattice_Good.f l = some (goodL l) := rfl
/-- The sum behind a prediction. -/
def dotW (c p : List Int) : Nat → Int
  | 0 => 0
  | i + 1 => wrap64 (dotW c p i + wrap64 (rd c i * rd p (p.length - 1 - i : Nat)))
def predZ (c p : List Int) : Int := wrap64 (-(rnd (dotW c p (min c.length p.length))))
theorem take_rd' (c : List Int) (m i : Nat) (h : i < m) : rd (c.take m) i = rd c i := by
  rw [rd_nat, rd_nat, List.getD, List.getD, List.getElem?_take_of_lt h]
theorem pred_l0 (c p : List Int) (m : Nat) (hm : m ≤ c.length) (hmp : m ≤ p.length) (hp : p.length ≤ 1000000000) (d : Nat) : ∀ (k i : Nat), i + d = m → d < k → lattice_Predict.l0 k p (dotW c p i) (c.take m) m i = some (wrap64 (-(rnd (dotW c p m)))) := by
  have hl : (c.take m).length = m := by rw [List.length_take]; omega
  induction d with
  | zero =>
    intro k i hi hk
    obtain ⟨k, rfl, _⟩ := pred_k hk
    simp only [lattice_Predict.l0]
    rw [if_neg (by omega), round_ok, bs, show i = m by omega]
  | succ d ih =>
    intro k i hi hk
    obtain ⟨k, rfl, _⟩ := pred_k hk
    simp only [lattice_Predict.l0]
    rw [if_pos (by omega), if_pos (by omega), if_pos (by omega), idx_ok (by omega) hp, if_pos (by omega), if_pos (by omega), take_rd' c m i (by omega), w64 (x := (i : Int) + 1) (by omega) (by omega)]
    have := ih k (i + 1) (by omega) (by omega)
    rw [dotW] at this
    exact_mod_cast this
theorem pred_ok {c p : List Int} (hc : c.length ≤ 1000000000) (hp : p.length ≤ 1000000000) {k : Nat} (hk : c.length < k) : lattice_Predict.f k c p = some (predZ c p) := by
  unfold lattice_Predict.f
  have e : mn (c.length : Int) (p.length : Int) = ((min c.length p.length : Nat) : Int) := by rw [mn_eq]; omega
  have hl : (c.take (min c.length p.length)).length = min c.length p.length := by rw [List.length_take]; omega
  rw [e, if_pos (by omega), if_pos (by omega), Int.toNat_natCast, hl]
  exact pred_l0 c p _ (by omega) (by omega) hp (min c.length p.length) k 0 (by omega) (by omega)
theorem rpred_l0 (c p : List Int) (hc : c.length ≤ 1000000000) (hp : p.length ≤ 1000000000) (d : Nat) : ∀ (k i : Nat), i + d = c.length → d < k → sackbutref06_Predict.l0 k c p (dotW c p (min i p.length)) c.length i = some (predZ c p) := by
  induction d with
  | zero =>
    intro k i hi hk
    obtain ⟨k, rfl, _⟩ := pred_k hk
    simp only [sackbutref06_Predict.l0]
    rw [if_neg (by omega), rround_ok, bs, show i = c.length by omega]
    rfl
  | succ d ih =>
    intro k i hi hk
    obtain ⟨k, rfl, _⟩ := pred_k hk
    simp only [sackbutref06_Predict.l0]
    rw [if_pos (by omega), w64 (x := (i : Int) + 1) (by omega) (by omega)]
    have := ih k (i + 1) (by omega) (by omega)
    by_cases hip : i < p.length
    · rw [if_pos (by omega), if_pos (by omega), if_pos (by omega), idx_ok hip hp, if_pos (by omega), if_pos (by omega), show min i p.length = i by omega]
      rw [show min (i + 1) p.length = i + 1 by omega, dotW] at this
      exact_mod_cast this
    · rw [if_neg (by omega), show min i p.length = min (i + 1) p.length by omega]
      exact_mod_cast this
theorem rpred_ok {c p : List Int} (hc : c.length ≤ 1000000000) (hp : p.length ≤ 1000000000) {k : Nat} (hk : c.length < k) : sackbutref06_Predict.f k c p = some (predZ c p) := by
  have := rpred_l0 c p hc hp c.length k 0 (by omega) hk
  rw [Nat.zero_min] at this
  exact this
theorem awake06 {k : Nat} (hk : 20 ≤ k) : sackbutlaw06_awake.f k = some true := by
  unfold sackbutlaw06_awake.f
  rw [coefs_ok (by decide) (by show 1 < k; omega), bs]
  have e : cz [0] [(0 : Int)].length = [-8192] := by decide +kernel
  rw [e, if_pos (by decide), if_pos (by decide), if_pos (by decide), pred_ok (by decide) (by decide) (by show 1 < k; omega), bs]
  have e2 : predZ [-8192] [100] = 50 := by decide +kernel
  rw [e2]
  rfl
end Go.Proofs.Ytoglefgjiaoopaa.Pure
