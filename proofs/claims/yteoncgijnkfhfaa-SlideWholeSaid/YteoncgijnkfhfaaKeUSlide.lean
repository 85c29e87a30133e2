/- Lists in parts: how many bits, the best parameters, the best parts; the document's are the same. -/
import Derived.Test.YteoncgijnkfhfaaKePx0
import Derived.Test.YteoncgijnkfhfaaKeHSBits
import Derived.Test.YteoncgijnkfhfaaKeHSBest
import Derived.Test.YteoncgijnkfhfaaKePx4
import Derived.Sort.LoopGhostIn
import Derived.Test.YteoncgijnkfhfaaKePx3
import Derived.Test.YteoncgijnkfhfaaKePx7
import Derived.Test.YteoncgijnkfhfaaKeUCost
import Derived.Test.YteoncgijnkfhfaaKeUBitsP
import Derived.Test.YteoncgijnkfhfaaKeUTools
import Derived.Test.YteoncgijnkfhfaaKeHSGood
import Derived.Test.YteoncgijnkfhfaaKeHSAwake
section
namespace Go.Proofs.Yteoncgijnkfhfaa.Pure
open Go.RowKit Go.Proofs.Yteoncgijnkfhfaa.P Go.Proofs.YteoncgijnkfhfaaW.PrintWords Go.Proofs.YteoncgijnkfhfaaW.PrintLast Go.Proofs.YteoncgijnkfhfaaW.PrintMore
set_option linter.unusedVariables false
set_option linter.unusedSimpArgs false

/-- A part of a list. -/
def partZ (l : List Int) (sz i : Nat) : List Int := (l.drop (i * sz)).take sz
theorem partZ_length {l : List Int} {sz i n : Nat} (h : n * sz ≤ l.length) (hi : i < n) : (partZ l sz i).length = sz := by
  unfold partZ
  rw [List.length_take, List.length_drop]
  have := Nat.mul_le_mul_right sz (show i + 1 ≤ n by omega)
  rw [Nat.succ_mul] at this
  omega
theorem may_mem {l : List Int} (h : ∀ x ∈ l, -8589934592 ≤ x ∧ x ≤ 8589934591) : May l := fun j hj => h _ (rd_mem (by omega) (by omega))
theorem may_part {l : List Int} (h : ∀ x ∈ l, -8589934592 ≤ x ∧ x ≤ 8589934591) (sz i : Nat) : May (partZ l sz i) := may_mem fun x hx => h x (List.mem_of_mem_drop (List.mem_of_mem_take hx))
/-- A list's cost. -/
def costL (l : List Int) (p : Nat) : Int := totZ l p l.length
/-- Two bits, and of each of the first parts five and its cost. -/
def sumZ (l ks : List Int) (sz : Nat) : Nat → Int
  | 0 => 2
  | i + 1 => sumZ l ks sz i + (5 + costL (partZ l sz i) (rd ks i).toNat)
theorem costL_bound {l : List Int} {p : Nat} (hp : p ≤ 24) (hm : May l) : 0 ≤ costL l p ∧ costL l p ≤ 59 * l.length := totZ_bound hp hm l.length (Nat.le_refl _)
theorem sumZ_bound {l ks : List Int} {sz n : Nat} (hl : ∀ x ∈ l, -8589934592 ≤ x ∧ x ≤ 8589934591) (hk : ∀ x ∈ ks, 0 ≤ x ∧ x ≤ 24) (hn : n ≤ ks.length) (hs : n * sz ≤ l.length) : ∀ i, i ≤ n → 2 ≤ sumZ l ks sz i ∧ sumZ l ks sz i ≤ 2 + 5 * i + 59 * (i * sz : Nat) := by
  intro i
  induction i with
  | zero => intro _; simp [sumZ]
  | succ i ih =>
    intro hi
    have h1 := ih (by omega)
    have hkk := hk _ (rd_mem (l := ks) (i := (i : Int)) (by omega) (by omega))
    have h2 := costL_bound (l := partZ l sz i) (p := (rd ks i).toNat) (by omega) (may_part hl sz i)
    rw [partZ_length hs (by omega)] at h2
    rw [sumZ, Nat.succ_mul]
    omega
/-- The least of the best parameters below n. -/
def lz (l : List Int) : Nat → Nat
  | 0 => 0
  | n + 1 => if costL l (n + 1) < costL l (lz l n) then n + 1 else lz l n
theorem lz_spec (l : List Int) : ∀ n, lz l n ≤ n ∧ ∀ q, q ≤ n → costL l (lz l n) < costL l q ∨ (costL l (lz l n) = costL l q ∧ lz l n ≤ q) := by
  intro n
  induction n with
  | zero =>
    refine ⟨Nat.le_refl _, fun q hq => .inr ?_⟩
    obtain rfl : q = 0 := by omega
    exact ⟨rfl, Nat.le_refl _⟩
  | succ n ih =>
    obtain ⟨h1, h2⟩ := ih
    rw [lz]
    split
    · rename_i hlt
      refine ⟨Nat.le_refl _, fun q hq => ?_⟩
      by_cases e : q = n + 1
      · subst e
        exact .inr ⟨rfl, Nat.le_refl _⟩
      · rcases h2 q (by omega) with h | ⟨h, _⟩
        · exact .inl (Int.lt_trans hlt h)
        · exact .inl (by omega)
    · rename_i hlt
      refine ⟨by omega, fun q hq => ?_⟩
      by_cases e : q = n + 1
      · subst e
        omega
      · exact h2 q (by omega)
/-- The least best parameter. -/
def leastZ (l : List Int) : Nat := lz l 24
theorem leastZ_le (l : List Int) : leastZ l ≤ 24 := (lz_spec l 24).1
theorem riceBest_ok {l : List Int} {k : Nat} (hl : l.length ≤ 1000000) (hm : May l) (hk : l.length < k) : rice_Best.f k l = some ((leastZ l : Int), costL l (leastZ l)) := by
  obtain ⟨p, hp, h, hall⟩ := best_ok hl hm hk
  have h1 := hall (leastZ l) (leastZ_le l)
  have h2 := (lz_spec l 24).2 p hp
  unfold leastZ at h1 ⊢
  unfold costL at h2 ⊢
  have e : p = lz l 24 := by omega
  rw [h, e]
/-- The best parameters of the first parts. -/
def kz (l : List Int) (sz n : Nat) : List Int := (List.range n).map fun i => (leastZ (partZ l sz i) : Int)
theorem kz_length (l : List Int) (sz n : Nat) : (kz l sz n).length = n := by simp [kz]
theorem kz_succ (l : List Int) (sz n : Nat) : kz l sz (n + 1) = kz l sz n ++ [(leastZ (partZ l sz n) : Int)] := by simp [kz, List.range_succ]
theorem kz_range {l : List Int} {sz n : Nat} : ∀ x ∈ kz l sz n, 0 ≤ x ∧ x ≤ 24 := by
  intro x hx
  unfold kz at hx
  obtain ⟨i, _, rfl⟩ := List.mem_map.mp hx
  have := leastZ_le (partZ l sz i)
  omega
theorem sumZ_congr {l ks ks' : List Int} {sz n : Nat} (h : ∀ i, i < n → rd ks i = rd ks' i) : sumZ l ks sz n = sumZ l ks' sz n := by
  induction n with
  | zero => rfl
  | succ n ih => rw [sumZ, sumZ, ih (fun i hi => h i (by omega)), h n (by omega)]
theorem bestParts_ok {l : List Int} {sz n k : Nat} (hl : ∀ x ∈ l, -8589934592 ≤ x ∧ x ≤ 8589934591) (hs : n * sz ≤ l.length) (hln : l.length ≤ 1024) (hf : 1024 < k) (hn8 : n ≤ 8) : ∀ i, i ≤ n → bestParts k l sz i = some (kz l sz i, sumZ l (kz l sz i) sz i) := by
  intro i
  induction i with
  | zero => intro _; rfl
  | succ i ih =>
    intro hi
    have hpl := partZ_length hs (show i < n by omega)
    have hs' : i * sz ≤ l.length := Nat.le_trans (Nat.mul_le_mul_right sz (by omega)) hs
    have hb := sumZ_bound hl (kz_range (l := l) (sz := sz) (n := i)) (by rw [kz_length]; omega) hs' i (by omega)
    have hc := costL_bound (l := partZ l sz i) (leastZ_le (partZ l sz i)) (may_part hl sz i)
    have hz : sz ≤ 1024 := by have := Nat.mul_le_mul_right sz (show 1 ≤ n by omega); omega
    have ht := riceBest_ok (l := partZ l sz i) (k := k) (by omega) (may_part hl sz i) (by omega)
    rw [hpl] at hc
    rw [bestParts, ih (by omega), bs]
    unfold partZ at ht
    rw [ht, bs, kz_succ, sumZ, sumZ_congr (ks := kz l sz i ++ _) (ks' := kz l sz i) (fun j hj => rd_left (by omega) (by rw [kz_length]; omega)), rd_end _ _ (by rw [kz_length])]
    simp only
    rw [Int.toNat_natCast, w64 (x := 5 + _) (by unfold partZ at hc; omega) (by unfold partZ at hc; omega), w64 (by unfold partZ at hc; omega) (by unfold partZ at hc; omega)]
    rfl
end Go.Proofs.Yteoncgijnkfhfaa.Pure
end
section
/- The best parts of a list, and the document's: the same. -/
namespace Go.Proofs.Yteoncgijnkfhfaa.Pure
open Go.RowKit Go.Proofs.Yteoncgijnkfhfaa.P Go.Proofs.YteoncgijnkfhfaaW.PrintWords Go.Proofs.YteoncgijnkfhfaaW.PrintLast Go.Proofs.YteoncgijnkfhfaaW.PrintMore
set_option linter.unusedVariables false
set_option linter.unusedSimpArgs false

theorem whole_facts {n : Nat} {p : Int} (h : wholeZ n p = true) : ∃ P : Nat, p = P ∧ P ≤ 3 ∧ 1 ≤ n ∧ n ≤ 1024 ∧ n % 2 ^ P = 0 := by
  unfold wholeZ at h
  simp only [Bool.and_eq_true, decide_eq_true_eq] at h
  obtain ⟨h1, h2, h3, h4, h5⟩ := h
  refine ⟨p.toNat, by omega, by omega, by omega, by omega, ?_⟩
  have : ((n % 2 ^ p.toNat : Nat) : Int) = 0 := by rw [Int.natCast_emod]; simpa using h5
  exact_mod_cast this
theorem whole_iff {n P : Nat} : wholeZ n (P : Int) = true ↔ P ≤ 3 ∧ 1 ≤ n ∧ n ≤ 1024 ∧ n % 2 ^ P = 0 := by
  constructor
  · intro h
    obtain ⟨Q, e, h⟩ := whole_facts h
    obtain rfl : P = Q := by omega
    exact h
  · rintro ⟨h1, h2, h3, h4⟩
    unfold wholeZ
    simp only [Bool.and_eq_true, decide_eq_true_eq]
    refine ⟨by omega, by omega, by omega, by omega, ?_⟩
    rw [Int.toNat_natCast]
    exact_mod_cast h4
theorem whole_down {n P Q : Nat} (h : wholeZ n (Q : Int) = true) (hle : P ≤ Q) : wholeZ n (P : Int) = true := by
  rw [whole_iff] at h ⊢
  obtain ⟨h1, h2, h3, h4⟩ := h
  refine ⟨by omega, h2, h3, ?_⟩
  have h5 : 2 ^ P ∣ 2 ^ Q := Nat.pow_dvd_pow 2 hle
  exact Nat.mod_eq_zero_of_dvd (Nat.dvd_trans h5 (Nat.dvd_of_mod_eq_zero h4))
theorem pow_le8 {P : Nat} (h : P ≤ 3) : 1 ≤ 2 ^ P ∧ 2 ^ P ≤ 8 := ⟨Nat.pow_pos (by omega), Nat.pow_le_pow_right (n := 2) (by omega) h⟩
theorem size_mul {n P : Nat} (h : n % 2 ^ P = 0) : 2 ^ P * (n / 2 ^ P) = n := Nat.mul_div_cancel' (Nat.dvd_of_mod_eq_zero h)
/-- The best parts of one P, and how many bits. -/
def PZ (l : List Int) (p : Nat) : Int × List Int × Int := ((p : Int), kz l (l.length / 2 ^ p) (2 ^ p), sumZ l (kz l (l.length / 2 ^ p) (2 ^ p)) (l.length / 2 ^ p) (2 ^ p))
theorem slide_best_ok {l : List Int} {p k : Nat} (hl : ∀ x ∈ l, -8589934592 ≤ x ∧ x ≤ 8589934591) (hw : wholeZ l.length (p : Int) = true) (hf : 1024 < k) : slide_best.f k l (p : Int) = some (PZ l p) := by
  unfold slide_best.f
  obtain ⟨h1, h2, h3, h4⟩ := whole_iff.mp hw
  rw [if_pos hw, Int.toNat_natCast, bestParts_ok hl (Nat.mul_div_le _ _) h3 hf (pow_le8 h1).2 _ (Nat.le_refl _), bs]
  rfl
/-- From p on, the shorter one. -/
def goZ (l : List Int) : Nat → Nat → Int × List Int × Int → Int × List Int × Int
  | 0, _, c => c
  | f + 1, p, c => if wholeZ l.length (p : Int) = true then goZ l f (p + 1) (if (PZ l p).2.2 < c.2.2 then PZ l p else c) else c
theorem bestGo_ok {l : List Int} {k : Nat} (hl : ∀ x ∈ l, -8589934592 ≤ x ∧ x ≤ 8589934591) (hf : 1024 < k) : ∀ (f p : Nat) (c : Int × List Int × Int), bestGo k l f p c = some (goZ l f p c) := by
  intro f
  induction f with
  | zero => intro p c; rfl
  | succ f ih =>
    intro p c
    rw [bestGo, goZ]
    by_cases hw : wholeZ l.length (p : Int) = true
    · rw [if_pos hw, if_pos hw, slide_best_ok hl hw hf, bs, ih]
    · rw [if_neg hw, if_neg hw]
/-- The best parts. -/
def bestZ (l : List Int) : Int × List Int × Int := goZ l 3 1 (PZ l 0)
theorem slide_Best_ok {l : List Int} {k : Nat} (hl : ∀ x ∈ l, -8589934592 ≤ x ∧ x ≤ 8589934591) (hw : wholeZ l.length 0 = true) (hf : 1024 < k) : slide_Best.f k l = some (bestZ l) := by
  have hfa : l.any farZ = false := by
    rw [List.any_eq_false]
    intro x hx
    have := hl x hx
    unfold farZ
    simp
    omega
  unfold slide_Best.f
  rw [if_pos ⟨hw, hfa⟩, show (0 : Int) = ((0 : Nat) : Int) from rfl, slide_best_ok hl hw hf, bs, bestGo_ok hl hf]
  rfl
theorem goZ_spec {l : List Int} : ∀ (f p : Nat) (q : Nat), wholeZ l.length (q : Int) = true → ∃ q', goZ l f p (PZ l q) = PZ l q' ∧ wholeZ l.length (q' : Int) = true ∧ (PZ l q').2.2 ≤ (PZ l q).2.2 ∧ ∀ r, p ≤ r → r < p + f → wholeZ l.length (r : Int) = true → (PZ l q').2.2 ≤ (PZ l r).2.2 := by
  intro f
  induction f with
  | zero => intro p q hq; exact ⟨q, rfl, hq, Int.le_refl _, fun r h1 h2 => by omega⟩
  | succ f ih =>
    intro p q hq
    rw [goZ]
    by_cases hw : wholeZ l.length (p : Int) = true
    · rw [if_pos hw]
      by_cases hlt : (PZ l p).2.2 < (PZ l q).2.2
      · rw [if_pos hlt]
        obtain ⟨q', h1, h2, h3, h4⟩ := ih (p + 1) p hw
        refine ⟨q', h1, h2, by omega, fun r hr1 hr2 hr => ?_⟩
        by_cases e : r = p
        · subst e; exact h3
        · exact h4 r (by omega) (by omega) hr
      · rw [if_neg hlt]
        obtain ⟨q', h1, h2, h3, h4⟩ := ih (p + 1) q hq
        refine ⟨q', h1, h2, h3, fun r hr1 hr2 hr => ?_⟩
        by_cases e : r = p
        · subst e; omega
        · exact h4 r (by omega) (by omega) hr
    · rw [if_neg hw]
      exact ⟨q, rfl, hq, Int.le_refl _, fun r hr1 hr2 hr => absurd (whole_down hr hr1) hw⟩
theorem bestZ_spec {l : List Int} (hw : wholeZ l.length 0 = true) : ∃ q : Nat, bestZ l = PZ l q ∧ wholeZ l.length (q : Int) = true ∧ ∀ r : Nat, wholeZ l.length (r : Int) = true → (PZ l q).2.2 ≤ (PZ l r).2.2 := by
  obtain ⟨q, h1, h2, h3, h4⟩ := goZ_spec (l := l) 3 1 0 hw
  refine ⟨q, h1, h2, fun r hr => ?_⟩
  obtain ⟨hr3, _⟩ := whole_iff.mp hr
  by_cases e : r = 0
  · subst e; exact h3
  · exact h4 r (by omega) (by omega) hr
end Go.Proofs.Yteoncgijnkfhfaa.Pure
end
section
/- Which lists and parts may be; a list's least number of bits; a list of one number again and again. -/
namespace Go.Proofs.Yteoncgijnkfhfaa.Pure
open Go.RowKit Go.Proofs.Yteoncgijnkfhfaa.P Go.Proofs.YteoncgijnkfhfaaW.PrintWords Go.Proofs.YteoncgijnkfhfaaW.PrintLast Go.Proofs.YteoncgijnkfhfaaW.PrintMore
set_option linter.unusedVariables false
set_option linter.unusedSimpArgs false

/-- May a list be? -/
def listZ (l : List Int) : Bool := l.all (fun x => decide (-8589934592 ≤ x) && decide (x ≤ 8589934591)) && (decide (1 ≤ l.length) && decide (l.length ≤ 1024))
theorem listZ_iff {l : List Int} : listZ l = true ↔ (∀ x ∈ l, -8589934592 ≤ x ∧ x ≤ 8589934591) ∧ 1 ≤ l.length ∧ l.length ≤ 1024 := by
  unfold listZ
  simp only [Bool.and_eq_true, List.all_eq_true, decide_eq_true_eq]
theorem refList_l0 {l : List Int} (hl : l.length ≤ 1000000) : ∀ (d i k : Nat), i + d = l.length → d < k → (∀ j : Nat, j < i → -8589934592 ≤ rd l (j : Int) ∧ rd l (j : Int) ≤ 8589934591) → sackbutref03_List.l0 k l l.length i = some (listZ l) := by
  intro d
  induction d with
  | zero =>
    intro i k hi hk hp
    obtain ⟨k, rfl, _⟩ := pred_k hk
    have hall : ∀ x ∈ l, -8589934592 ≤ x ∧ x ≤ 8589934591 := by
      intro x hx
      obtain ⟨j, hj, rfl⟩ := List.mem_iff_getElem.mp hx
      have := hp j (by omega)
      rw [rd_nat] at this
      simpa [List.getD, hj] using this
    rw [sackbutref03_List.l0, if_neg (by omega)]
    by_cases h1 : (l.length : Int) ≥ 1
    · rw [if_pos h1]
      congr 1
      by_cases h2 : (l.length : Int) ≤ 1024
      · rw [decide_eq_true h2, (listZ_iff (l := l)).mpr ⟨hall, by omega, by omega⟩]
      · rw [decide_eq_false h2]
        symm
        rw [Bool.eq_false_iff]
        intro h
        have := (listZ_iff (l := l)).mp h
        omega
    · rw [if_neg h1]
      congr 1
      symm
      rw [Bool.eq_false_iff]
      intro h
      have := (listZ_iff (l := l)).mp h
      omega
  | succ d ih =>
    intro i k hi hk hp
    obtain ⟨k, rfl, hk2⟩ := pred_k hk
    have hmem := rd_mem (l := l) (i := (i : Int)) (by omega) (by omega)
    have hno : (rd l i < -8589934592 ∨ rd l i > 8589934591) → listZ l = false := by
      intro h
      rw [Bool.eq_false_iff]
      intro h2
      have := ((listZ_iff (l := l)).mp h2).1 _ hmem
      omega
    rw [sackbutref03_List.l0, if_pos (by omega), if_pos (by omega), if_pos (by omega)]
    split
    · rename_i h; rw [hno (.inl h)]
    · split
      · rename_i h; rw [hno (.inr h)]
      · rw [w64 (by omega) (by omega), show (i : Int) + 1 = ((i + 1 : Nat) : Int) by omega]
        refine ih (i + 1) k (by omega) (by omega) (fun j hj => ?_)
        by_cases e : j = i
        · subst e; omega
        · exact hp j (by omega)
theorem refList_ok {l : List Int} {k : Nat} (hl : l.length ≤ 1000000) (hk : l.length < k) : sackbutref03_List.f k l = some (listZ l) := refList_l0 hl l.length 0 k (by omega) hk (fun j hj => by omega)
end Go.Proofs.Yteoncgijnkfhfaa.Pure
end
