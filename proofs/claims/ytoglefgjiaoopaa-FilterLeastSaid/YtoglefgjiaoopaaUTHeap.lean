/- The queue's root is its least; what was pushed is in it. -/
import Derived.Test.YtoglefgjiaoopaaPx0
import Derived.Test.YtoglefgjiaoopaaHTUp
import Derived.Test.YtoglefgjiaoopaaHTPush
import Derived.Test.YtoglefgjiaoopaaUTools
namespace Go.Proofs.Ytoglefgjiaoopaa.Pure
open Go.RowKit Go.Proofs.Ytoglefgjiaoopaa.P Go.Proofs.YtoglefgjiaoopaaW.PrintWords Go.Proofs.YtoglefgjiaoopaaW.PrintLast Go.Proofs.YtoglefgjiaoopaaW.PrintMore
set_option linter.unusedVariables false
set_option linter.unusedSimpArgs false

theorem lessQ_iff (a b : QE) : lessQ a b = true ↔ (a.f1 < b.f1 ∨ (a.f1 = b.f1 ∧ a.f0 < b.f0)) := by
  unfold lessQ
  simp
/-- a is not behind b. -/
def LeQ (a b : QE) : Prop := a.f1 < b.f1 ∨ (a.f1 = b.f1 ∧ a.f0 ≤ b.f0)
theorem leQ_refl (a : QE) : LeQ a a := .inr ⟨rfl, Int.le_refl _⟩
theorem leQ_trans {a b c : QE} (h : LeQ a b) (h' : LeQ b c) : LeQ a c := by
  unfold LeQ at *
  omega
theorem leQ_of_less {a b : QE} (h : lessQ a b = true) : LeQ a b := by
  rw [lessQ_iff] at h
  unfold LeQ
  omega
theorem leQ_of_not {a b : QE} (h : ¬lessQ a b = true) : LeQ b a := by
  rw [lessQ_iff] at h
  unfold LeQ
  omega
theorem getQ_swap {xs : List QE} {p j : Nat} (hp : p < xs.length) (hj : j < xs.length) (i : Nat) : getQ (swapL xs p j) i = if i = j then getQ xs p else if i = p then getQ xs j else getQ xs i := by
  unfold getQ swapL
  simp only [List.getD_eq_getElem?_getD, List.getElem?_set, List.length_set]
  by_cases h1 : i = j
  · subst h1
    simp [hj, List.getElem?_eq_getElem hp]
  · by_cases h2 : i = p
    · subst h2
      have h1' : ¬j = i := fun e => h1 e.symm
      simp [h1, h1', hp, List.getElem?_eq_getElem hj]
    · have h1' : ¬j = i := fun e => h1 e.symm
      have h2' : ¬p = i := fun e => h2 e.symm
      simp [h1, h2, h1', h2']
theorem upL_top : ∀ (f : Nat) (ys : List QE) (j : Nat), j < f → j < ys.length → (∀ i, i < ys.length → i ≠ j → LeQ (getQ ys 0) (getQ ys i)) →
    ∀ i, i < ys.length → LeQ (getQ (upL f ys j) 0) (getQ (upL f ys j) i) := by
  intro f
  induction f with
  | zero => intro ys j h; omega
  | succ f ih =>
    intro ys j hf hj hI
    rw [upL]
    by_cases h0 : j = 0
    · subst h0
      rw [if_pos rfl]
      intro i hi
      by_cases e : i = 0
      · subst e
        exact leQ_refl _
      · exact hI i hi e
    · rw [if_neg h0]
      obtain ⟨p, hp⟩ : ∃ p, (j - 1) / 2 = p := ⟨_, rfl⟩
      rw [hp]
      have hpj : p < j := by omega
      by_cases hl : lessQ (getQ ys j) (getQ ys p) = true
      · rw [if_pos hl]
        have hs := fun i => getQ_swap (show p < ys.length by omega) hj i
        intro i hi
        refine ih (swapL ys p j) p (by omega) (by rw [swapL_length]; omega) ?_ i (by rw [swapL_length]; exact hi)
        intro i hi hip
        rw [swapL_length] at hi
        rw [hs, hs, if_neg (show ¬0 = j by omega)]
        by_cases hp0 : p = 0
        · subst hp0
          rw [if_pos rfl, if_neg hip]
          by_cases hij : i = j
          · rw [if_pos hij]
            exact leQ_of_less hl
          · rw [if_neg hij]
            exact leQ_trans (leQ_of_less hl) (hI i hi hij)
        · rw [if_neg (fun e => hp0 e.symm), if_neg hip]
          by_cases hij : i = j
          · rw [if_pos hij]
            exact hI p (by omega) (by omega)
          · rw [if_neg hij]
            exact hI i hi hij
      · rw [if_neg hl]
        intro i hi
        by_cases e : i = j
        · subst e
          refine leQ_trans ?_ (leQ_of_not hl)
          by_cases hp0 : p = 0
          · subst hp0
            exact leQ_refl _
          · exact hI p (by omega) (by omega)
        · exact hI i hi e
/-- x stands in the list. -/
def InQ (x : QE) (xs : List QE) : Prop := ∃ i, i < xs.length ∧ getQ xs i = x
theorem upL_in (x : QE) : ∀ (f : Nat) (ys : List QE) (j : Nat), j < ys.length → (InQ x (upL f ys j) ↔ InQ x ys) := by
  intro f
  induction f with
  | zero => intro ys j h; exact Iff.rfl
  | succ f ih =>
    intro ys j hj
    rw [upL]
    split
    · exact Iff.rfl
    · split
      · have hs := fun i => getQ_swap (show (j - 1) / 2 < ys.length by omega) hj i
        rw [ih _ _ (by rw [swapL_length]; omega)]
        obtain ⟨p, hp⟩ : ∃ p, (j - 1) / 2 = p := ⟨_, rfl⟩
        rw [hp] at hs ⊢
        constructor
        · rintro ⟨i, hi, rfl⟩
          rw [swapL_length] at hi
          rw [hs]
          split
          · exact ⟨p, by omega, rfl⟩
          · split
            · exact ⟨j, hj, rfl⟩
            · exact ⟨i, hi, rfl⟩
        · rintro ⟨i, hi, rfl⟩
          by_cases e : i = j
          · subst e
            refine ⟨p, by rw [swapL_length]; omega, ?_⟩
            rw [hs]
            split
            · rename_i e
              rw [e]
            · rw [if_pos rfl]
          · by_cases e2 : i = p
            · subst e2
              exact ⟨j, by rw [swapL_length]; omega, by rw [hs, if_pos rfl]⟩
            · exact ⟨i, by rw [swapL_length]; omega, by rw [hs, if_neg e, if_neg e2]⟩
      · exact Iff.rfl
theorem getQ_app_left {xs : List QE} {x : QE} {i : Nat} (h : i < xs.length) : getQ (xs ++ [x]) i = getQ xs i := by
  unfold getQ
  simp [List.getD_eq_getElem?_getD, List.getElem?_append_left h]
theorem getQ_app_end (xs : List QE) (x : QE) : getQ (xs ++ [x]) xs.length = x := by
  unfold getQ
  simp [List.getD_eq_getElem?_getD]
def TopQ (xs : List QE) : Prop := ∀ i, i < xs.length → LeQ (getQ xs 0) (getQ xs i)
theorem pushL_top {xs : List QE} (x : QE) (h : TopQ xs) : TopQ (pushL xs x) := by
  intro i hi
  rw [pushL_length] at hi
  unfold pushL
  refine upL_top _ _ _ (by omega) (by simp) ?_ i (by simp; omega)
  intro j hj hne
  simp at hj
  rw [getQ_app_left (by omega), getQ_app_left (by omega)]
  exact h j (by omega)
theorem pushL_in (xs : List QE) (x y : QE) : InQ y (pushL xs x) ↔ (InQ y xs ∨ y = x) := by
  unfold pushL
  rw [upL_in _ _ _ _ (by simp)]
  constructor
  · rintro ⟨i, hi, rfl⟩
    simp at hi
    by_cases e : i = xs.length
    · subst e
      exact .inr (getQ_app_end _ _)
    · rw [getQ_app_left (by omega)]
      exact .inl ⟨i, by omega, rfl⟩
  · rintro (⟨i, hi, rfl⟩ | rfl)
    · exact ⟨i, by simp; omega, getQ_app_left hi⟩
    · exact ⟨xs.length, by simp, getQ_app_end _ _⟩
end Go.Proofs.Ytoglefgjiaoopaa.Pure
