/- Behind Init the root is the least; what was in it is in it. -/
import Derived.Test.YtofjckfdofkikaaPx0
import Derived.Test.YtofjckfdofkikaaHLInit
import Derived.Test.YtofjckfdofkikaaUTools
namespace Go.Proofs.Ytofjckfdofkikaa.Pure
open Go.RowKit Go.Proofs.Ytofjckfdofkikaa.P Go.Proofs.YtofjckfdofkikaaW.PrintWords Go.Proofs.YtofjckfdofkikaaW.PrintLast Go.Proofs.YtofjckfdofkikaaW.PrintMore
set_option linter.unusedVariables false
set_option linter.unusedSimpArgs false

/-- a is not behind b. -/
def LeQ (a b : QE) : Prop := a.f1 < b.f1 ∨ (a.f1 = b.f1 ∧ (a.f0.f0 < b.f0.f0 ∨ (a.f0.f0 = b.f0.f0 ∧ a.f0.f1 ≤ b.f0.f1)))
theorem lessQ_iff (a b : QE) : lessQ a b = true ↔ (a.f1 < b.f1 ∨ (a.f1 = b.f1 ∧ (a.f0.f0 < b.f0.f0 ∨ (a.f0.f0 = b.f0.f0 ∧ a.f0.f1 < b.f0.f1)))) := by
  unfold lessQ
  split
  · split
    · rw [decide_eq_true_eq]; omega
    · rw [decide_eq_true_eq]; omega
  · rw [decide_eq_true_eq]; omega
theorem leQ_refl (a : QE) : LeQ a a := .inr ⟨rfl, .inr ⟨rfl, Int.le_refl _⟩⟩
theorem leQ_trans {a b c : QE} (h : LeQ a b) (h' : LeQ b c) : LeQ a c := by
  unfold LeQ at *
  omega
theorem leQ_of_less {a b : QE} (h : lessQ a b = true) : LeQ a b := by
  rw [lessQ_iff] at h
  unfold LeQ
  omega
theorem leQ_of_not {a b : QE} (h : ¬lessQ a b = true) : LeQ b a := by
  rw [lessQ_iff] at h
  unfold LeQ
  omega
theorem getQ_swap {xs : List QE} {p j : Nat} (hp : p < xs.length) (hj : j < xs.length) (i : Nat) : getQ (swapL xs p j) i = if i = j then getQ xs p else if i = p then getQ xs j else getQ xs i := by
  unfold getQ swapL
  simp only [List.getD_eq_getElem?_getD, List.getElem?_set, List.length_set]
  by_cases h1 : i = j
  · subst h1
    simp [hj, List.getElem?_eq_getElem hp]
  · by_cases h2 : i = p
    · subst h2
      have h1' : ¬j = i := fun e => h1 e.symm
      simp [h1, h1', hp, List.getElem?_eq_getElem hj]
    · have h1' : ¬j = i := fun e => h1 e.symm
      have h2' : ¬p = i := fun e => h2 e.symm
      simp [h1, h2, h1', h2']
/-- x stands in the list. -/
def InQ (x : QE) (xs : List QE) : Prop := ∃ i, i < xs.length ∧ getQ xs i = x
theorem swap_in {ys : List QE} {p j : Nat} (hp : p < ys.length) (hj : j < ys.length) (x : QE) : InQ x (swapL ys p j) ↔ InQ x ys := by
  have hs := fun i => getQ_swap hp hj i
  constructor
  · rintro ⟨i, hi, rfl⟩
    rw [swapL_length] at hi
    rw [hs]
    split
    · exact ⟨p, hp, rfl⟩
    · split
      · exact ⟨j, hj, rfl⟩
      · exact ⟨i, hi, rfl⟩
  · rintro ⟨i, hi, rfl⟩
    by_cases e : i = j
    · subst e
      refine ⟨p, by rw [swapL_length]; exact hp, ?_⟩
      rw [hs]
      split
      · rename_i e
        rw [e]
      · rw [if_pos rfl]
    · by_cases e2 : i = p
      · subst e2
        exact ⟨j, by rw [swapL_length]; exact hj, by rw [hs, if_pos rfl]⟩
      · exact ⟨i, by rw [swapL_length]; exact hi, by rw [hs, if_neg e, if_neg e2]⟩
theorem downL_in (x : QE) : ∀ (f : Nat) (ys : List QE) (i : Nat), i < ys.length → (InQ x (downL f ys i) ↔ InQ x ys) := by
  intro f
  induction f with
  | zero => intro ys i h; exact Iff.rfl
  | succ f ih =>
    intro ys i hi
    rw [downL]
    split
    · rename_i h1
      have hk := kid_lt h1
      split
      · rw [ih _ _ (by rw [swapL_length]; exact hk), swap_in hi hk]
      · exact Iff.rfl
    · exact Iff.rfl
theorem initL_in (x : QE) (n : Nat) : ∀ (m : Nat) (ys : List QE), m ≤ ys.length → (InQ x (initL n m ys) ↔ InQ x ys) := by
  intro m
  induction m with
  | zero => intro ys h; exact Iff.rfl
  | succ m ih =>
    intro ys h
    rw [initL, ih _ (by rw [downL_length]; omega), downL_in _ _ _ _ (by omega)]
/-- From place m on each is not behind its kids. -/
def HeapFrom (xs : List QE) (m : Nat) : Prop := ∀ p c, m ≤ p → (c = 2 * p + 1 ∨ c = 2 * p + 2) → c < xs.length → LeQ (getQ xs p) (getQ xs c)
theorem kid_best {xs : List QE} {i c : Nat} (hc : c = 2 * i + 1 ∨ c = 2 * i + 2) (hl : c < xs.length) : LeQ (getQ xs (kidL xs i)) (getQ xs c) := by
  unfold kidL
  by_cases h : 2 * i + 2 < xs.length ∧ lessQ (getQ xs (2 * i + 2)) (getQ xs (2 * i + 1)) = true
  · rw [if_pos h]
    rcases hc with rfl | rfl
    · exact leQ_of_less h.2
    · exact leQ_refl _
  · rw [if_neg h]
    rcases hc with rfl | rfl
    · exact leQ_refl _
    · exact leQ_of_not (fun hh => h ⟨hl, hh⟩)
theorem kid_is (xs : List QE) (i : Nat) : kidL xs i = 2 * i + 1 ∨ kidL xs i = 2 * i + 2 := by
  unfold kidL
  split
  · exact .inr rfl
  · exact .inl rfl
theorem downL_heap (m : Nat) : ∀ (f : Nat) (xs : List QE) (i : Nat), xs.length ≤ i + f → m ≤ i →
    (∀ p c, m ≤ p → p ≠ i → (c = 2 * p + 1 ∨ c = 2 * p + 2) → c < xs.length → LeQ (getQ xs p) (getQ xs c)) →
    (∀ p c, m ≤ p → (i = 2 * p + 1 ∨ i = 2 * p + 2) → (c = 2 * i + 1 ∨ c = 2 * i + 2) → c < xs.length → LeQ (getQ xs p) (getQ xs c)) →
    HeapFrom (downL f xs i) m := by
  intro f
  induction f with
  | zero =>
    intro xs i hl hm h1 h2 p c hp hc hcl
    rw [downL] at *
    by_cases e : p = i
    · subst e
      omega
    · exact h1 p c hp e hc hcl
  | succ f ih =>
    intro xs i hl hm h1 h2
    rw [downL]
    by_cases hk : 2 * i + 1 < xs.length
    · rw [if_pos hk]
      have hkl := kid_lt hk
      have hki := kid_is xs i
      have hkg := kid_gt xs i
      by_cases hls : lessQ (getQ xs (kidL xs i)) (getQ xs i) = true
      · rw [if_pos hls]
        have hs := fun q => getQ_swap (show i < xs.length by omega) hkl q
        obtain ⟨j, hj⟩ : ∃ j, kidL xs i = j := ⟨_, rfl⟩
        have hbest := fun c hc hcl => kid_best (xs := xs) (i := i) (c := c) hc hcl
        rw [hj] at hkl hki hkg hls hs hbest ⊢
        refine ih _ j (by rw [swapL_length]; omega) (by omega) ?_ ?_
        · intro p c hp hpj hc hcl
          rw [swapL_length] at hcl
          rw [hs, hs, if_neg hpj]
          by_cases hpi : p = i
          · subst hpi
            rw [if_pos rfl]
            by_cases hcj : c = j
            · rw [if_pos hcj]
              exact leQ_of_less hls
            · rw [if_neg hcj, if_neg (by omega)]
              exact hbest c hc hcl
          · rw [if_neg hpi]
            by_cases hcj : c = j
            · omega
            · rw [if_neg hcj]
              by_cases hci : c = i
              · rw [if_pos hci]
                subst hci
                exact h2 p j hp hc hki hkl
              · rw [if_neg hci]
                exact h1 p c hp hpi hc hcl
        · intro p c hp hpj hc hcl
          rw [swapL_length] at hcl
          obtain rfl : p = i := by omega
          rw [hs, hs, if_neg (by omega), if_pos rfl, if_neg (by omega), if_neg (by omega)]
          exact h1 j c (by omega) (by omega) hc hcl
      · rw [if_neg hls]
        intro p c hp hc hcl
        by_cases e : p = i
        · subst e
          exact leQ_trans (leQ_of_not hls) (kid_best hc hcl)
        · exact h1 p c hp e hc hcl
    · rw [if_neg hk]
      intro p c hp hc hcl
      by_cases e : p = i
      · subst e
        omega
      · exact h1 p c hp e hc hcl
theorem initL_heap (n : Nat) : ∀ (m : Nat) (xs : List QE), xs.length = n → m ≤ n → HeapFrom xs m → HeapFrom (initL n m xs) 0 := by
  intro m
  induction m with
  | zero => intro xs _ _ h; exact h
  | succ m ih =>
    intro xs hn hm h
    rw [initL]
    refine ih _ (by rw [downL_length, hn]) (by omega) (downL_heap m n xs m (by omega) (Nat.le_refl _) ?_ ?_)
    · intro p c hp hpm hc hcl
      exact h p c (by omega) hc hcl
    · intro p c hp hmp hc hcl
      omega
def TopQ (xs : List QE) : Prop := ∀ i, i < xs.length → LeQ (getQ xs 0) (getQ xs i)
theorem heap_top {xs : List QE} (h : HeapFrom xs 0) : TopQ xs := by
  intro i
  induction i using Nat.strongRecOn with
  | _ i ih =>
    intro hi
    by_cases e : i = 0
    · subst e
      exact leQ_refl _
    · exact leQ_trans (ih ((i - 1) / 2) (by omega) (by omega)) (h ((i - 1) / 2) i (Nat.zero_le _) (by omega) hi)
theorem init_top (xs : List QE) : TopQ (initL xs.length (xs.length / 2) xs) := by
  refine heap_top (initL_heap _ _ _ rfl (by omega) ?_)
  intro p c hp hc hcl
  omega
theorem getQ_app_left {xs : List QE} {x : QE} {i : Nat} (h : i < xs.length) : getQ (xs ++ [x]) i = getQ xs i := by
  unfold getQ
  simp [List.getD_eq_getElem?_getD, List.getElem?_append_left h]
theorem getQ_app_end (xs : List QE) (x : QE) : getQ (xs ++ [x]) xs.length = x := by
  unfold getQ
  simp [List.getD_eq_getElem?_getD]
theorem app_in (xs : List QE) (x y : QE) : InQ y (xs ++ [x]) ↔ (InQ y xs ∨ y = x) := by
  constructor
  · rintro ⟨i, hi, rfl⟩
    simp at hi
    by_cases e : i = xs.length
    · subst e
      exact .inr (getQ_app_end _ _)
    · rw [getQ_app_left (by omega)]
      exact .inl ⟨i, by omega, rfl⟩
  · rintro (⟨i, hi, rfl⟩ | rfl)
    · exact ⟨i, by simp; omega, getQ_app_left hi⟩
    · exact ⟨xs.length, by simp, getQ_app_end _ _⟩
end Go.Proofs.Ytofjckfdofkikaa.Pure
