/- What layer 2's printed functions answer: folding, costs. -/
import Derived.Test.YteoncgijnkfhfaaKePx0
import Derived.Test.YteoncgijnkfhfaaKePx3
import Derived.Test.YteoncgijnkfhfaaKePx1
import Derived.Test.YteoncgijnkfhfaaKePx2
import Derived.Test.YteoncgijnkfhfaaKePx4
import Derived.Test.YteoncgijnkfhfaaKeHRice
import Derived.Test.YteoncgijnkfhfaaKeUBitsP
import Derived.Test.YteoncgijnkfhfaaKeHUp
import Derived.Test.YteoncgijnkfhfaaKeHBest
import Derived.Test.YteoncgijnkfhfaaKeUTools
section
namespace Go.Proofs.Yteoncgijnkfhfaa.Pure
open Go.RowKit Go.Proofs.Yteoncgijnkfhfaa.P Go.Proofs.YteoncgijnkfhfaaW.PrintWords Go.Proofs.YteoncgijnkfhfaaW.PrintLast Go.Proofs.YteoncgijnkfhfaaW.PrintMore
set_option linter.unusedVariables false
set_option linter.unusedSimpArgs false

def costZ (n : Int) (k : Nat) : Int := if foldZ n / 2 ^ k < 24 then foldZ n / 2 ^ k + 1 + k else 59
theorem cost_ok {n : Int} {k : Nat} (h1 : -8589934592 ≤ n) (h2 : n ≤ 8589934591) (hk : k ≤ 24) : rice_Cost.f n k = some (costZ n k) := by
  unfold rice_Cost.f costZ
  have hq0 : 0 ≤ foldZ n / 2 ^ k := Int.ediv_nonneg (foldZ_bound h1 (by omega)).1 (Int.pow_nonneg (by omega))
  rw [may_eq, bs, show mayZ n k = true by simp [mayZ]; omega, if_pos rfl, fold_eq (by omega) (by omega), bs, if_pos (by omega), shr_ok _ _ (by omega)]
  split
  · rw [w64 (x := foldZ n / 2 ^ k + 1) (by omega) (by omega), w64 (by omega) (by omega)]
  · rfl
theorem cost_range {n : Int} {k : Nat} (h1 : -8589934592 ≤ n) (h2 : n ≤ 8589934591) (hk : k ≤ 24) : 1 ≤ costZ n k ∧ costZ n k ≤ 59 := by
  have hq0 : 0 ≤ foldZ n / 2 ^ k := Int.ediv_nonneg (foldZ_bound h1 (by omega)).1 (Int.pow_nonneg (by omega))
  unfold costZ
  split <;> omega
end Go.Proofs.Yteoncgijnkfhfaa.Pure
end
section
/- The queue's root is its least; what was pushed is in it. -/
namespace Go.Proofs.Yteoncgijnkfhfaa.Pure
open Go.RowKit Go.Proofs.Yteoncgijnkfhfaa.P Go.Proofs.YteoncgijnkfhfaaW.PrintWords Go.Proofs.YteoncgijnkfhfaaW.PrintLast Go.Proofs.YteoncgijnkfhfaaW.PrintMore
set_option linter.unusedVariables false
set_option linter.unusedSimpArgs false

theorem lessQ_iff (a b : QE) : lessQ a b = true ↔ (a.f1 < b.f1 ∨ (a.f1 = b.f1 ∧ a.f0 < b.f0)) := by
  unfold lessQ
  simp
/-- a is not behind b. -/
def LeQ (a b : QE) : Prop := a.f1 < b.f1 ∨ (a.f1 = b.f1 ∧ a.f0 ≤ b.f0)
theorem leQ_refl (a : QE) : LeQ a a := .inr ⟨rfl, Int.le_refl _⟩
theorem leQ_trans {a b c : QE} (h : LeQ a b) (h' : LeQ b c) : LeQ a c := by
  unfold LeQ at *
  omega
theorem leQ_of_less {a b : QE} (h : lessQ a b = true) : LeQ a b := by
  rw [lessQ_iff] at h
  unfold LeQ
  omega
theorem leQ_of_not {a b : QE} (h : ¬lessQ a b = true) : LeQ b a := by
  rw [lessQ_iff] at h
  unfold LeQ
  omega
theorem getQ_swap {xs : List QE} {p j : Nat} (hp : p < xs.length) (hj : j < xs.length) (i : Nat) : getQ (swapL xs p j) i = if i = j then getQ xs p else if i = p then getQ xs j else getQ xs i := by
  unfold getQ swapL
  simp only [List.getD_eq_getElem?_getD, List.getElem?_set, List.length_set]
  by_cases h1 : i = j
  · subst h1
    simp [hj, List.getElem?_eq_getElem hp]
  · by_cases h2 : i = p
    · subst h2
      have h1' : ¬j = i := fun e => h1 e.symm
      simp [h1, h1', hp, List.getElem?_eq_getElem hj]
    · have h1' : ¬j = i := fun e => h1 e.symm
      have h2' : ¬p = i := fun e => h2 e.symm
      simp [h1, h2, h1', h2']
theorem upL_top : ∀ (f : Nat) (ys : List QE) (j : Nat), j < f → j < ys.length → (∀ i, i < ys.length → i ≠ j → LeQ (getQ ys 0) (getQ ys i)) →
    ∀ i, i < ys.length → LeQ (getQ (upL f ys j) 0) (getQ (upL f ys j) i) := by
  intro f
  induction f with
  | zero => intro ys j h; omega
  | succ f ih =>
    intro ys j hf hj hI
    rw [upL]
    by_cases h0 : j = 0
    · subst h0
      rw [if_pos rfl]
      intro i hi
      by_cases e : i = 0
      · subst e
        exact leQ_refl _
      · exact hI i hi e
    · rw [if_neg h0]
      obtain ⟨p, hp⟩ : ∃ p, (j - 1) / 2 = p := ⟨_, rfl⟩
      rw [hp]
      have hpj : p < j := by omega
      by_cases hl : lessQ (getQ ys j) (getQ ys p) = true
      · rw [if_pos hl]
        have hs := fun i => getQ_swap (show p < ys.length by omega) hj i
        intro i hi
        refine ih (swapL ys p j) p (by omega) (by rw [swapL_length]; omega) ?_ i (by rw [swapL_length]; exact hi)
        intro i hi hip
        rw [swapL_length] at hi
        rw [hs, hs, if_neg (show ¬0 = j by omega)]
        by_cases hp0 : p = 0
        · subst hp0
          rw [if_pos rfl, if_neg hip]
          by_cases hij : i = j
          · rw [if_pos hij]
            exact leQ_of_less hl
          · rw [if_neg hij]
            exact leQ_trans (leQ_of_less hl) (hI i hi hij)
        · rw [if_neg (fun e => hp0 e.symm), if_neg hip]
          by_cases hij : i = j
          · rw [if_pos hij]
            exact hI p (by omega) (by omega)
          · rw [if_neg hij]
            exact hI i hi hij
      · rw [if_neg hl]
        intro i hi
        by_cases e : i = j
        · subst e
          refine leQ_trans ?_ (leQ_of_not hl)
          by_cases hp0 : p = 0
          · subst hp0
            exact leQ_refl _
          · exact hI p (by omega) (by omega)
        · exact hI i hi e
/-- x stands in the list. -/
def InQ (x : QE) (xs : List QE) : Prop := ∃ i, i < xs.length ∧ getQ xs i = x
theorem upL_in (x : QE) : ∀ (f : Nat) (ys : List QE) (j : Nat), j < ys.length → (InQ x (upL f ys j) ↔ InQ x ys) := by
  intro f
  induction f with
  | zero => intro ys j h; exact Iff.rfl
  | succ f ih =>
    intro ys j hj
    rw [upL]
    split
    · exact Iff.rfl
    · split
      · have hs := fun i => getQ_swap (show (j - 1) / 2 < ys.length by omega) hj i
        rw [ih _ _ (by rw [swapL_length]; omega)]
        obtain ⟨p, hp⟩ : ∃ p, (j - 1) / 2 = p := ⟨_, rfl⟩
        rw [hp] at hs ⊢
        constructor
        · rintro ⟨i, hi, rfl⟩
          rw [swapL_length] at hi
          rw [hs]
          split
          · exact ⟨p, by omega, rfl⟩
          · split
            · exact ⟨j, hj, rfl⟩
            · exact ⟨i, hi, rfl⟩
        · rintro ⟨i, hi, rfl⟩
          by_cases e : i = j
          · subst e
            refine ⟨p, by rw [swapL_length]; omega, ?_⟩
            rw [hs]
            split
            · rename_i e
              rw [e]
            · rw [if_pos rfl]
          · by_cases e2 : i = p
            · subst e2
              exact ⟨j, by rw [swapL_length]; omega, by rw [hs, if_pos rfl]⟩
            · exact ⟨i, by rw [swapL_length]; omega, by rw [hs, if_neg e, if_neg e2]⟩
      · exact Iff.rfl
theorem getQ_app_left {xs : List QE} {x : QE} {i : Nat} (h : i < xs.length) : getQ (xs ++ [x]) i = getQ xs i := by
  unfold getQ
  simp [List.getD_eq_getElem?_getD, List.getElem?_append_left h]
theorem getQ_app_end (xs : List QE) (x : QE) : getQ (xs ++ [x]) xs.length = x := by
  unfold getQ
  simp [List.getD_eq_getElem?_getD]
def TopQ (xs : List QE) : Prop := ∀ i, i < xs.length → LeQ (getQ xs 0) (getQ xs i)
theorem pushL_top {xs : List QE} (x : QE) (h : TopQ xs) : TopQ (pushL xs x) := by
  intro i hi
  rw [pushL_length] at hi
  unfold pushL
  refine upL_top _ _ _ (by omega) (by simp) ?_ i (by simp; omega)
  intro j hj hne
  simp at hj
  rw [getQ_app_left (by omega), getQ_app_left (by omega)]
  exact h j (by omega)
theorem pushL_in (xs : List QE) (x y : QE) : InQ y (pushL xs x) ↔ (InQ y xs ∨ y = x) := by
  unfold pushL
  rw [upL_in _ _ _ _ (by simp)]
  constructor
  · rintro ⟨i, hi, rfl⟩
    simp at hi
    by_cases e : i = xs.length
    · subst e
      exact .inr (getQ_app_end _ _)
    · rw [getQ_app_left (by omega)]
      exact .inl ⟨i, by omega, rfl⟩
  · rintro (⟨i, hi, rfl⟩ | rfl)
    · exact ⟨i, by simp; omega, getQ_app_left hi⟩
    · exact ⟨xs.length, by simp, getQ_app_end _ _⟩
end Go.Proofs.Yteoncgijnkfhfaa.Pure
end
section
/- A list's cost under a parameter, and the best parameter. -/
namespace Go.Proofs.Yteoncgijnkfhfaa.Pure
open Go.RowKit Go.Proofs.Yteoncgijnkfhfaa.P Go.Proofs.YteoncgijnkfhfaaW.PrintWords Go.Proofs.YteoncgijnkfhfaaW.PrintLast Go.Proofs.YteoncgijnkfhfaaW.PrintMore
set_option linter.unusedVariables false
set_option linter.unusedSimpArgs false

/-- All costs of the list's numbers from the d-th last one on. -/
def totZ (l : List Int) (p : Nat) : Nat → Int
  | 0 => 0
  | d + 1 => costZ (rd l ((l.length - (d + 1) : Nat) : Int)) p + totZ l p d
def May (l : List Int) : Prop := ∀ j : Nat, j < l.length → -8589934592 ≤ rd l (j : Int) ∧ rd l (j : Int) ≤ 8589934591
theorem totZ_bound {l : List Int} {p : Nat} (hp : p ≤ 24) (hm : May l) : ∀ d, d ≤ l.length → 0 ≤ totZ l p d ∧ totZ l p d ≤ 59 * d := by
  intro d
  induction d with
  | zero => intro _; exact ⟨Int.le_refl _, by simp [totZ]⟩
  | succ d ih =>
    intro hd
    have h1 := ih (by omega)
    have h2 := hm (l.length - (d + 1)) (by omega)
    have h3 := cost_range h2.1 h2.2 hp
    rw [totZ]
    omega
theorem total_l0 {l : List Int} {p : Nat} (hp : p ≤ 24) (hl : l.length ≤ 1000000) (hm : May l) : ∀ (d k i : Nat) (s : Int), i + d = l.length → d < k → 0 ≤ s → s ≤ 59 * i → rice_Total.l0 k p s l l.length i = some (s + totZ l p d) := by
  intro d
  induction d with
  | zero =>
    intro k i s hi hk hs hs2
    obtain ⟨k, rfl, _⟩ := pred_k hk
    rw [rice_Total.l0, if_neg (by omega), totZ, Int.add_zero]
  | succ d ih =>
    intro k i s hi hk hs hs2
    obtain ⟨k, rfl, hk⟩ := pred_k hk
    have h2 := hm i (by omega)
    have h3 := cost_range h2.1 h2.2 hp
    rw [rice_Total.l0, if_pos (by omega), if_pos (by omega), if_pos (by omega), cost_ok h2.1 h2.2 hp, bs, w64 (x := s + _) (by omega) (by omega), w64 (by omega) (by omega),
      show (i : Int) + 1 = ((i + 1 : Nat) : Int) by omega, ih k (i + 1) _ (by omega) (by omega) (by omega) (by omega), totZ, show l.length - (d + 1) = i by omega, Int.add_assoc]
theorem total_ok {l : List Int} {p k : Nat} (hp : p ≤ 24) (hl : l.length ≤ 1000000) (hm : May l) (hk : l.length < k) : rice_Total.f k l p = some (totZ l p l.length) := by
  unfold rice_Total.f
  have := total_l0 hp hl hm l.length k 0 0 (by omega) hk (Int.le_refl _) (by omega)
  rw [Int.zero_add] at this
  exact this
theorem bestQ_ok {l : List Int} {k : Nat} (hl : l.length ≤ 1000000) (hm : May l) (hk : l.length < k) : ∀ n, n ≤ 25 → ∃ xs, bestQ k l n = some xs ∧ TopQ xs ∧ ∀ x, InQ x xs ↔ ∃ p : Nat, p < n ∧ x = ⟨(p : Int), totZ l p l.length⟩ := by
  intro n
  induction n with
  | zero =>
    intro _
    refine ⟨[], rfl, fun i hi => absurd hi (by simp), fun x => ⟨?_, ?_⟩⟩
    · rintro ⟨i, hi, _⟩
      exact absurd hi (by simp)
    · rintro ⟨p, hp, _⟩
      omega
  | succ n ih =>
    intro hn
    obtain ⟨xs, h1, h2, h3⟩ := ih (by omega)
    refine ⟨pushL xs ⟨(n : Int), totZ l n l.length⟩, ?_, pushL_top _ h2, ?_⟩
    · rw [bestQ, h1, bs, total_ok (by omega) hl hm hk, bs]
    · intro x
      rw [pushL_in, h3]
      constructor
      · rintro (⟨p, hp, rfl⟩ | rfl)
        · exact ⟨p, by omega, rfl⟩
        · exact ⟨n, by omega, rfl⟩
      · rintro ⟨p, hp, rfl⟩
        by_cases e : p = n
        · subst e
          exact .inr rfl
        · exact .inl ⟨p, by omega, rfl⟩
theorem best_ok {l : List Int} {k : Nat} (hl : l.length ≤ 1000000) (hm : May l) (hk : l.length < k) : ∃ p : Nat, p ≤ 24 ∧ rice_Best.f k l = some ((p : Int), totZ l p l.length) ∧
    ∀ q : Nat, q ≤ 24 → totZ l p l.length < totZ l q l.length ∨ (totZ l p l.length = totZ l q l.length ∧ p ≤ q) := by
  obtain ⟨xs, h1, h2, h3⟩ := bestQ_ok hl hm hk 25 (Nat.le_refl _)
  have hlen := bestQ_length _ _ _ _ h1
  obtain ⟨p, hp, hx⟩ := (h3 (getQ xs 0)).mp ⟨0, by omega, rfl⟩
  refine ⟨p, by omega, ?_, ?_⟩
  · unfold rice_Best.f
    rw [h1, bs, hx]
  · intro q hq
    obtain ⟨i, hi, he⟩ := (h3 ⟨(q : Int), totZ l q l.length⟩).mpr ⟨q, by omega, rfl⟩
    have := h2 i hi
    rw [he, hx] at this
    unfold LeQ at this
    simp only at this
    omega
end Go.Proofs.Yteoncgijnkfhfaa.Pure
end
