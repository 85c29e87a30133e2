/- Lists in parts: how many bits, the best parameters, the best parts; the document's are the same. -/
import Derived.Test.YteoncgijnkfhfaaKfPx0
import Derived.Test.YteoncgijnkfhfaaKfHSBits
import Derived.Test.YteoncgijnkfhfaaKfHSBest
import Derived.Test.YteoncgijnkfhfaaKfPx4
import Derived.Sort.LoopGhostIn
import Derived.Test.YteoncgijnkfhfaaKfPx3
import Derived.Test.YteoncgijnkfhfaaKfPx9
import Derived.Test.YteoncgijnkfhfaaKfUCost
import Derived.Test.YteoncgijnkfhfaaKfUBitsP
import Derived.Test.YteoncgijnkfhfaaKfUTools
import Derived.Test.YteoncgijnkfhfaaKfHSGood
import Derived.Test.YteoncgijnkfhfaaKfPx8
import Derived.Test.YteoncgijnkfhfaaKfPx7
import Derived.Test.YteoncgijnkfhfaaKfHSAwake
section
namespace Go.Proofs.Yteoncgijnkfhfaa.Pure
open Go.RowKit Go.Proofs.Yteoncgijnkfhfaa.P Go.Proofs.YteoncgijnkfhfaaW.PrintWords Go.Proofs.YteoncgijnkfhfaaW.PrintLast Go.Proofs.YteoncgijnkfhfaaW.PrintMore
set_option linter.unusedVariables false
set_option linter.unusedSimpArgs false

/-- A part of a list. -/
def partZ (l : List Int) (sz i : Nat) : List Int := (l.drop (i * sz)).take sz
theorem partZ_length {l : List Int} {sz i n : Nat} (h : n * sz ≤ l.length) (hi : i < n) : (partZ l sz i).length = sz := by
  unfold partZ
  rw [List.length_take, List.length_drop]
  have := Nat.mul_le_mul_right sz (show i + 1 ≤ n by omega)
  rw [Nat.succ_mul] at this
  omega
theorem may_mem {l : List Int} (h : ∀ x ∈ l, -8589934592 ≤ x ∧ x ≤ 8589934591) : May l := fun j hj => h _ (rd_mem (by omega) (by omega))
theorem may_part {l : List Int} (h : ∀ x ∈ l, -8589934592 ≤ x ∧ x ≤ 8589934591) (sz i : Nat) : May (partZ l sz i) := may_mem fun x hx => h x (List.mem_of_mem_drop (List.mem_of_mem_take hx))
/-- A list's cost. -/
def costL (l : List Int) (p : Nat) : Int := totZ l p l.length
/-- Two bits, and of each of the first parts five and its cost. -/
def sumZ (l ks : List Int) (sz : Nat) : Nat → Int
  | 0 => 2
  | i + 1 => sumZ l ks sz i + (5 + costL (partZ l sz i) (rd ks i).toNat)
theorem costL_bound {l : List Int} {p : Nat} (hp : p ≤ 24) (hm : May l) : 0 ≤ costL l p ∧ costL l p ≤ 59 * l.length := totZ_bound hp hm l.length (Nat.le_refl _)
theorem sumZ_bound {l ks : List Int} {sz n : Nat} (hl : ∀ x ∈ l, -8589934592 ≤ x ∧ x ≤ 8589934591) (hk : ∀ x ∈ ks, 0 ≤ x ∧ x ≤ 24) (hn : n ≤ ks.length) (hs : n * sz ≤ l.length) : ∀ i, i ≤ n → 2 ≤ sumZ l ks sz i ∧ sumZ l ks sz i ≤ 2 + 5 * i + 59 * (i * sz : Nat) := by
  intro i
  induction i with
  | zero => intro _; simp [sumZ]
  | succ i ih =>
    intro hi
    have h1 := ih (by omega)
    have hkk := hk _ (rd_mem (l := ks) (i := (i : Int)) (by omega) (by omega))
    have h2 := costL_bound (l := partZ l sz i) (p := (rd ks i).toNat) (by omega) (may_part hl sz i)
    rw [partZ_length hs (by omega)] at h2
    rw [sumZ, Nat.succ_mul]
    omega
theorem slideSum_ok {l ks : List Int} {sz n k : Nat} (hl : ∀ x ∈ l, -8589934592 ≤ x ∧ x ≤ 8589934591) (hk : ∀ x ∈ ks, 0 ≤ x ∧ x ≤ 24) (hn : n ≤ ks.length) (hs : n * sz ≤ l.length) (hln : l.length ≤ 1024) (hf : 1024 < k) (hn8 : n ≤ 8) : ∀ i, i ≤ n → slideSum k l ks sz i = some (sumZ l ks sz i) := by
  intro i
  induction i with
  | zero => intro _; rfl
  | succ i ih =>
    intro hi
    have hkk := hk _ (rd_mem (l := ks) (i := (i : Int)) (by omega) (by omega))
    have hpl := partZ_length hs (show i < n by omega)
    have hb := sumZ_bound hl hk hn hs i (by omega)
    have hc := costL_bound (l := partZ l sz i) (p := (rd ks i).toNat) (by omega) (may_part hl sz i)
    have hm : i * sz ≤ 1024 := Nat.le_trans (Nat.mul_le_mul_right sz (by omega)) (Nat.le_trans hs hln)
    have hz : sz ≤ 1024 := by have := Nat.mul_le_mul_right sz (show 1 ≤ n by omega); omega
    have ht := total_ok (l := partZ l sz i) (p := (rd ks i).toNat) (k := k) (by omega) (by omega) (may_part hl sz i) (by omega)
    rw [Int.toNat_of_nonneg hkk.1] at ht
    rw [hpl] at hc
    rw [slideSum, ih (by omega), bs]
    unfold partZ at ht
    rw [ht, bs, sumZ]
    unfold costL at hc ⊢
    unfold partZ at hc ⊢
    rw [w64 (x := 5 + _) (by omega) (by omega), w64 (by omega) (by omega)]
end Go.Proofs.Yteoncgijnkfhfaa.Pure
end
section
/- The best parts of a list, and the document's: the same. -/
namespace Go.Proofs.Yteoncgijnkfhfaa.Pure
open Go.RowKit Go.Proofs.Yteoncgijnkfhfaa.P Go.Proofs.YteoncgijnkfhfaaW.PrintWords Go.Proofs.YteoncgijnkfhfaaW.PrintLast Go.Proofs.YteoncgijnkfhfaaW.PrintMore
set_option linter.unusedVariables false
set_option linter.unusedSimpArgs false

theorem whole_facts {n : Nat} {p : Int} (h : wholeZ n p = true) : ∃ P : Nat, p = P ∧ P ≤ 3 ∧ 1 ≤ n ∧ n ≤ 1024 ∧ n % 2 ^ P = 0 := by
  unfold wholeZ at h
  simp only [Bool.and_eq_true, decide_eq_true_eq] at h
  obtain ⟨h1, h2, h3, h4, h5⟩ := h
  refine ⟨p.toNat, by omega, by omega, by omega, by omega, ?_⟩
  have : ((n % 2 ^ p.toNat : Nat) : Int) = 0 := by rw [Int.natCast_emod]; simpa using h5
  exact_mod_cast this
theorem whole_iff {n P : Nat} : wholeZ n (P : Int) = true ↔ P ≤ 3 ∧ 1 ≤ n ∧ n ≤ 1024 ∧ n % 2 ^ P = 0 := by
  constructor
  · intro h
    obtain ⟨Q, e, h⟩ := whole_facts h
    obtain rfl : P = Q := by omega
    exact h
  · rintro ⟨h1, h2, h3, h4⟩
    unfold wholeZ
    simp only [Bool.and_eq_true, decide_eq_true_eq]
    refine ⟨by omega, by omega, by omega, by omega, ?_⟩
    rw [Int.toNat_natCast]
    exact_mod_cast h4
theorem whole_down {n P Q : Nat} (h : wholeZ n (Q : Int) = true) (hle : P ≤ Q) : wholeZ n (P : Int) = true := by
  rw [whole_iff] at h ⊢
  obtain ⟨h1, h2, h3, h4⟩ := h
  refine ⟨by omega, h2, h3, ?_⟩
  have h5 : 2 ^ P ∣ 2 ^ Q := Nat.pow_dvd_pow 2 hle
  exact Nat.mod_eq_zero_of_dvd (Nat.dvd_trans h5 (Nat.dvd_of_mod_eq_zero h4))
theorem pow_le8 {P : Nat} (h : P ≤ 3) : 1 ≤ 2 ^ P ∧ 2 ^ P ≤ 8 := ⟨Nat.pow_pos (by omega), Nat.pow_le_pow_right (n := 2) (by omega) h⟩
theorem size_mul {n P : Nat} (h : n % 2 ^ P = 0) : 2 ^ P * (n / 2 ^ P) = n := Nat.mul_div_cancel' (Nat.dvd_of_mod_eq_zero h)
theorem slideBits_ok {l ks : List Int} {k P : Nat} (hl : ∀ x ∈ l, -8589934592 ≤ x ∧ x ≤ 8589934591) (hk : ∀ x ∈ ks, 0 ≤ x ∧ x ≤ 24) (hw : wholeZ l.length (P : Int) = true) (hkl : ks.length = 2 ^ P) (hf : 1200 < k) : slide_Bits.f k l (P : Int) ks = some (sumZ l ks (l.length / 2 ^ P) (2 ^ P)) := by
  obtain ⟨h1, h2, h3, h4⟩ := whole_iff.mp hw
  have h5 := pow_le8 h1
  have hg : goodP (P : Int) ks l = true := by
    unfold goodP goodZ
    simp only [Bool.and_eq_true, Bool.not_eq_true', List.any_eq_false, decide_eq_true_eq]
    refine ⟨⟨hw, by rw [hkl, Int.toNat_natCast]; simp, fun x hx => ?_⟩, fun x hx => ?_⟩
    · have := hk x hx
      unfold outZ
      simp
      omega
    · have := hl x hx
      unfold farZ
      simp
      omega
  unfold slide_Bits.f
  rw [if_pos ⟨by omega, by omega⟩, if_pos hg, Int.toNat_natCast, hkl]
  exact slideSum_ok hl hk (by omega) (Nat.mul_div_le _ _) h3 (by omega) h5.2 _ (Nat.le_refl _)
end Go.Proofs.Yteoncgijnkfhfaa.Pure
end
section
/- Which lists and parts may be; a list's least number of bits; a list of one number again and again. -/
namespace Go.Proofs.Yteoncgijnkfhfaa.Pure
open Go.RowKit Go.Proofs.Yteoncgijnkfhfaa.P Go.Proofs.YteoncgijnkfhfaaW.PrintWords Go.Proofs.YteoncgijnkfhfaaW.PrintLast Go.Proofs.YteoncgijnkfhfaaW.PrintMore
set_option linter.unusedVariables false
set_option linter.unusedSimpArgs false

theorem few_ok (l ks : List Int) (p : Int) : sackbutlaw03_few.f l p ks = some (decide (l.length ≤ 64 ∧ ks.length ≤ 12)) := by
  unfold sackbutlaw03_few.f
  by_cases h : (l.length : Int) ≤ 64
  · rw [if_pos h]
    congr 1
    by_cases h2 : (ks.length : Int) ≤ 12
    · rw [decide_eq_true h2, decide_eq_true (by omega)]
    · rw [decide_eq_false h2, decide_eq_false (by omega)]
  · rw [if_neg h, decide_eq_false (by omega)]
/-- May a list be? -/
def listZ (l : List Int) : Bool := l.all (fun x => decide (-8589934592 ≤ x) && decide (x ≤ 8589934591)) && (decide (1 ≤ l.length) && decide (l.length ≤ 1024))
theorem listZ_iff {l : List Int} : listZ l = true ↔ (∀ x ∈ l, -8589934592 ≤ x ∧ x ≤ 8589934591) ∧ 1 ≤ l.length ∧ l.length ≤ 1024 := by
  unfold listZ
  simp only [Bool.and_eq_true, List.all_eq_true, decide_eq_true_eq]
theorem refList_l0 {l : List Int} (hl : l.length ≤ 1000000) : ∀ (d i k : Nat), i + d = l.length → d < k → (∀ j : Nat, j < i → -8589934592 ≤ rd l (j : Int) ∧ rd l (j : Int) ≤ 8589934591) → sackbutref03_List.l0 k l l.length i = some (listZ l) := by
  intro d
  induction d with
  | zero =>
    intro i k hi hk hp
    obtain ⟨k, rfl, _⟩ := pred_k hk
    have hall : ∀ x ∈ l, -8589934592 ≤ x ∧ x ≤ 8589934591 := by
      intro x hx
      obtain ⟨j, hj, rfl⟩ := List.mem_iff_getElem.mp hx
      have := hp j (by omega)
      rw [rd_nat] at this
      simpa [List.getD, hj] using this
    rw [sackbutref03_List.l0, if_neg (by omega)]
    by_cases h1 : (l.length : Int) ≥ 1
    · rw [if_pos h1]
      congr 1
      by_cases h2 : (l.length : Int) ≤ 1024
      · rw [decide_eq_true h2, (listZ_iff (l := l)).mpr ⟨hall, by omega, by omega⟩]
      · rw [decide_eq_false h2]
        symm
        rw [Bool.eq_false_iff]
        intro h
        have := (listZ_iff (l := l)).mp h
        omega
    · rw [if_neg h1]
      congr 1
      symm
      rw [Bool.eq_false_iff]
      intro h
      have := (listZ_iff (l := l)).mp h
      omega
  | succ d ih =>
    intro i k hi hk hp
    obtain ⟨k, rfl, hk2⟩ := pred_k hk
    have hmem := rd_mem (l := l) (i := (i : Int)) (by omega) (by omega)
    have hno : (rd l i < -8589934592 ∨ rd l i > 8589934591) → listZ l = false := by
      intro h
      rw [Bool.eq_false_iff]
      intro h2
      have := ((listZ_iff (l := l)).mp h2).1 _ hmem
      omega
    rw [sackbutref03_List.l0, if_pos (by omega), if_pos (by omega), if_pos (by omega)]
    split
    · rename_i h; rw [hno (.inl h)]
    · split
      · rename_i h; rw [hno (.inr h)]
      · rw [w64 (by omega) (by omega), show (i : Int) + 1 = ((i + 1 : Nat) : Int) by omega]
        refine ih (i + 1) k (by omega) (by omega) (fun j hj => ?_)
        by_cases e : j = i
        · subst e; omega
        · exact hp j (by omega)
theorem refList_ok {l : List Int} {k : Nat} (hl : l.length ≤ 1000000) (hk : l.length < k) : sackbutref03_List.f k l = some (listZ l) := refList_l0 hl l.length 0 k (by omega) hk (fun j hj => by omega)
theorem refGood_l0 {p : Int} {ks : List Int} (hl : ks.length ≤ 1000000) : ∀ (d i k : Nat), i + d = ks.length → d < k → (∀ j : Nat, j < i → outZ (rd ks (j : Int)) = false) → sackbutref03_Good.l0 k ks.length i p ks = some (!ks.any outZ) := by
  intro d
  induction d with
  | zero =>
    intro i k hi hk hp
    obtain ⟨k, rfl, _⟩ := pred_k hk
    have hall : ks.any outZ = false := by
      rw [List.any_eq_false]
      intro x hx
      obtain ⟨j, hj, rfl⟩ := List.mem_iff_getElem.mp hx
      have := hp j (by omega)
      rw [rd_nat] at this
      simpa [List.getD, hj] using this
    rw [sackbutref03_Good.l0, if_neg (by omega), hall]
    rfl
  | succ d ih =>
    intro i k hi hk hp
    obtain ⟨k, rfl, hk2⟩ := pred_k hk
    have hmem := rd_mem (l := ks) (i := (i : Int)) (by omega) (by omega)
    have hno : outZ (rd ks i) = true → (!ks.any outZ) = false := by
      intro h
      have : ks.any outZ = true := List.any_eq_true.mpr ⟨_, hmem, h⟩
      rw [this]
      rfl
    rw [sackbutref03_Good.l0, if_pos (by omega), if_pos (by omega), if_pos (by omega)]
    split
    · rename_i h
      rw [hno (by unfold outZ; simp; omega)]
    · split
      · rename_i h
        rw [hno (by unfold outZ; simp; omega)]
      · rw [w64 (by omega) (by omega), show (i : Int) + 1 = ((i + 1 : Nat) : Int) by omega]
        refine ih (i + 1) k (by omega) (by omega) (fun j hj => ?_)
        by_cases e : j = i
        · subst e
          unfold outZ
          simp
          omega
        · exact hp j (by omega)
theorem refGood_ok {n : Nat} {p : Int} {ks : List Int} {k : Nat} (hn : n ≤ 1000000) (hl : ks.length ≤ 1000000) (hk : ks.length + 100 < k) : sackbutref03_Good.f k n p ks = some (goodZ n p ks) := by
  obtain ⟨m, hm, hm2⟩ := pred_k hk
  have hno : wholeZ n p = false → sackbutref03_Good.j0 k true p ks = some (goodZ n p ks) := by
    intro h
    rw [hm, sackbutref03_Good.j0, if_pos rfl]
    unfold goodZ
    rw [h]
    rfl
  have hf : ∀ {q : Prop}, ¬ q → ((1 ≤ (n : Int) ∧ (n : Int) ≤ 1024 ∧ 0 ≤ p ∧ p ≤ 3 ∧ (n : Int) % 2 ^ p.toNat = 0) → q) → wholeZ n p = false := by
    intro q hq h
    rw [Bool.eq_false_iff]
    intro hw
    refine hq (h ?_)
    unfold wholeZ at hw
    simp only [Bool.and_eq_true, decide_eq_true_eq] at hw
    exact ⟨hw.1, hw.2.1, hw.2.2.1, hw.2.2.2.1, hw.2.2.2.2⟩
  unfold sackbutref03_Good.f
  by_cases h1 : (n : Int) < 1
  · rw [if_pos h1, hno (hf (q := 1 ≤ (n : Int)) (by omega) (fun h => h.1))]
  rw [if_neg h1]
  by_cases h2 : (n : Int) > 1024
  · rw [if_pos h2, hno (hf (q := (n : Int) ≤ 1024) (by omega) (fun h => h.2.1))]
  rw [if_neg h2]
  by_cases h3 : p < 0
  · rw [if_pos h3, hno (hf (q := 0 ≤ p) (by omega) (fun h => h.2.2.1))]
  rw [if_neg h3]
  by_cases h4 : p > 3
  · rw [if_pos h4, hno (hf (q := p ≤ 3) (by omega) (fun h => h.2.2.2.1))]
  rw [if_neg h4]
  obtain ⟨P, rfl⟩ : ∃ P : Nat, p = P := ⟨p.toNat, by omega⟩
  have hpw := power_ok (n := P) (k := k) (by omega) (by omega)
  have h8 := pow_le8 (show P ≤ 3 by omega)
  rw [show (2 : Int) ^ P = ((2 ^ P : Nat) : Int) by simp] at hpw
  rw [hpw, bs, if_neg (by omega)]
  by_cases h5 : Int.tmod (n : Int) ((2 ^ P : Nat) : Int) = 0
  · have hw : wholeZ n (P : Int) = true := by
      refine whole_iff.mpr ⟨by omega, by omega, by omega, ?_⟩
      rw [Int.tmod_eq_emod_of_nonneg (by omega)] at h5
      exact_mod_cast h5
    rw [if_pos h5, bs, hm, sackbutref03_Good.j0]
    unfold goodZ
    rw [hw, Bool.true_and, Int.toNat_natCast, show (2 : Int) ^ P = ((2 ^ P : Nat) : Int) by simp]
    by_cases h6 : (ks.length : Int) = ((2 ^ P : Nat) : Int)
    · rw [decide_eq_true h6, Bool.true_and, if_neg (by simp [h6])]
      exact refGood_l0 hl ks.length 0 m (by omega) (by omega) (fun j hj => by omega)
    · rw [decide_eq_false h6, Bool.false_and, if_pos (by simpa using h6)]
  · rw [if_neg h5, hno (hf h5 (fun h => by
      rw [Int.tmod_eq_emod_of_nonneg (by omega)]
      have := h.2.2.2.2
      rw [Int.toNat_natCast] at this
      simpa using this))]
theorem good_facts {n : Nat} {p : Int} {ks : List Int} (h : goodZ n p ks = true) : ∃ P : Nat, p = P ∧ wholeZ n (P : Int) = true ∧ ks.length = 2 ^ P ∧ ∀ x ∈ ks, 0 ≤ x ∧ x ≤ 24 := by
  unfold goodZ at h
  simp only [Bool.and_eq_true, Bool.not_eq_true', List.any_eq_false, decide_eq_true_eq] at h
  obtain ⟨hw, hk, ho⟩ := h
  obtain ⟨P, rfl, _⟩ := whole_facts hw
  refine ⟨P, rfl, hw, ?_, fun x hx => ?_⟩
  · rw [Int.toNat_natCast] at hk
    exact_mod_cast hk
  · have := ho x hx
    unfold outZ at this
    simp at this
    exact this
end Go.Proofs.Yteoncgijnkfhfaa.Pure
end
