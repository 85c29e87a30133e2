/- What is taken as a number has just the bits of that number's code. -/
import Derived.Test.YtgglnmpjajnkaaaPx0
import Derived.Test.YtgglnmpjajnkaaaURiceBack
namespace Go.Proofs.Ytgglnmpjajnkaaa.Pure
open Go.RowKit Go.Proofs.Ytgglnmpjajnkaaa.P Go.Proofs.YtgglnmpjajnkaaaW.PrintWords Go.Proofs.YtgglnmpjajnkaaaW.PrintLast Go.Proofs.YtgglnmpjajnkaaaW.PrintMore
set_option linter.unusedVariables false
set_option linter.unusedSimpArgs false

theorem runG_inv (most : Int) : ∀ (s : List Bool) (i : Int), i ≤ most → (runG most i s).2.2 = 0 → ∃ m : Nat, (runG most i s).1 = i + m ∧ i + m ≤ most ∧ s = (List.replicate m false ++ [true]) ++ (runG most i s).2.1 := by
  intro s
  induction s with
  | nil => intro i _ h; exact absurd h (show ¬ ((3 : Int) = 0) by decide)
  | cons c s ih =>
    intro i hi
    cases c with
    | true => intro _; exact ⟨0, by simp [runG], by omega, by simp [runG]⟩
    | false =>
      rw [runG]
      split
      · intro h; exact absurd h (show ¬ ((1 : Int) = 0) by decide)
      · intro h
        obtain ⟨m, h1, h2, h3⟩ := ih (i + 1) (by omega) h
        refine ⟨m + 1, by omega, by omega, ?_⟩
        rw [List.replicate_succ, List.cons_append, List.cons_append]
        exact congrArg (List.cons false) h3
theorem takeB_inv {s : List Bool} {n : Int} (h : (takeB s 0 n).2.2 = 0) : 0 ≤ n ∧ n ≤ 48 ∧ s = bitsOf (takeB s 0 n).1 n.toNat ++ (takeB s 0 n).2.1 ∧ 0 ≤ (takeB s 0 n).1 ∧ (takeB s 0 n).1 < 2 ^ n.toNat := by
  obtain ⟨_, h0, h48, hl, hv⟩ := takeB_zero h
  have e : takeB s 0 n = (numL (s.take n.toNat), s.drop n.toNat, 0) := by
    unfold takeB
    rw [if_neg (by simp), if_neg (by omega), if_neg (by omega)]
  have hlen : (s.take n.toNat).length = n.toNat := by rw [List.length_take]; omega
  have hr := numL_range (s.take n.toNat)
  have hb := bitsOf_numL (s.take n.toNat)
  rw [hlen] at hr hb
  rw [e]
  refine ⟨h0, h48, ?_, hr.1, hr.2⟩
  show s = bitsOf (numL (s.take n.toNat)) n.toNat ++ s.drop n.toNat
  rw [hb, List.take_append_drop]
theorem fold_unfZ {z : Int} (h : 0 ≤ z) : foldZ (unfZ z) = z := by
  unfold foldZ unfZ
  split <;> split <;> omega
theorem riceZ_inv {s : List Bool} {k : Nat} (hk : k ≤ 24) (h : (riceZ s 0 k).2.2 = 0) : -8589934592 ≤ (riceZ s 0 k).1 ∧ (riceZ s 0 k).1 ≤ 8589934591 ∧ s = codeZ (riceZ s 0 k).1 k ++ (riceZ s 0 k).2.1 := by
  have hp := pow_bound (show k ≤ 62 by omega)
  have hp24 : (2 : Int) ^ k ≤ 2 ^ 24 := by
    rw [pow_cast, pow_cast]
    exact_mod_cast Nat.pow_le_pow_right (by omega) hk
  unfold riceZ at h ⊢
  rw [if_neg (by omega)] at h ⊢
  have hrb : runB s 0 24 = runG 24 0 s := by unfold runB; rw [if_neg (by simp)]
  rw [hrb] at h ⊢
  have hinv := runG_inv 24 s 0 (by omega)
  generalize runG 24 0 s = q at h hinv ⊢
  obtain ⟨q0, s1, e1⟩ := q
  by_cases h24 : q0 < 24
  · rw [if_pos h24] at h ⊢
    have he1 : e1 = 0 := (takeB_zero (s := s1) (e := e1) (n := (k : Int)) h).1
    subst he1
    obtain ⟨m, hm1, hm2, hm3⟩ := hinv rfl
    obtain ⟨_, _, ht3, ht4, ht5⟩ := takeB_inv (s := s1) (n := (k : Int)) h
    have h' : (takeB s1 0 k).2.2 = 0 := h
    simp only [if_pos h']
    generalize takeB s1 0 k = t at ht3 ht4 ht5 ⊢
    obtain ⟨v, s2, e2⟩ := t
    have hm1' : q0 = m := by have : q0 = 0 + (m : Int) := hm1; omega
    subst hm1'
    rw [Int.toNat_natCast] at ht3 ht5 ⊢
    have hv0 : 0 ≤ v := ht4
    have hv1 : v < 2 ^ k := ht5
    have hqm : (m : Int) * 2 ^ k ≤ 23 * 2 ^ k := Int.mul_le_mul_of_nonneg_right (by omega) (by omega)
    have hqm0 : 0 ≤ (m : Int) * 2 ^ k := Int.mul_nonneg (by omega) (by omega)
    have hz0 : 0 ≤ (m : Int) * 2 ^ k + v := by omega
    have hf := fold_unfZ hz0
    have hd : ((m : Int) * 2 ^ k + v) / 2 ^ k = m := by
      rw [Int.add_comm, Int.add_mul_ediv_right _ _ (by omega), Int.ediv_eq_zero_of_lt hv0 hv1]
      omega
    have hmod : ((m : Int) * 2 ^ k + v) % 2 ^ k = v := by
      rw [Int.add_comm, Int.add_mul_emod_self_right, Int.emod_eq_of_lt hv0 hv1]
    have hrange : -8589934592 ≤ unfZ ((m : Int) * 2 ^ k + v) ∧ unfZ ((m : Int) * 2 ^ k + v) ≤ 8589934591 := by
      unfold unfZ
      split <;> omega
    refine ⟨hrange.1, hrange.2, ?_⟩
    show s = codeZ (unfZ ((m : Int) * 2 ^ k + v)) k ++ s2
    unfold codeZ
    rw [hf, hd, if_pos (by omega), hmod, Int.toNat_natCast, List.append_assoc]
    have ht3' : s1 = bitsOf v k ++ s2 := ht3
    rw [← ht3']
    exact hm3
  · rw [if_neg h24] at h ⊢
    have hkn : ((k : Int)).toNat = k := Int.toNat_natCast k
    rw [hkn] at h ⊢
    by_cases hc : (takeB s1 e1 34).1 / 2 ^ k < 24
    · exfalso
      simp only [if_pos hc] at h
      unfold giveB at h
      split at h
      · exact absurd h (by decide)
      · exact absurd h (by assumption)
    · simp only [if_neg hc] at h ⊢
      have he1 : e1 = 0 := (takeB_zero h).1
      subst he1
      obtain ⟨m, hm1, hm2, hm3⟩ := hinv rfl
      obtain ⟨_, _, ht3, ht4, ht5⟩ := takeB_inv h
      rw [if_pos h]
      generalize takeB s1 0 34 = t at hc ht3 ht4 ht5 ⊢
      obtain ⟨v, s2, e2⟩ := t
      have hv0 : 0 ≤ v := ht4
      have hv1 : v < 2 ^ 34 := ht5
      have hf := fold_unfZ hv0
      have hrange : -8589934592 ≤ unfZ v ∧ unfZ v ≤ 8589934591 := by
        unfold unfZ
        split <;> omega
      refine ⟨hrange.1, hrange.2, ?_⟩
      show s = codeZ (unfZ v) k ++ s2
      unfold codeZ
      rw [hf, if_neg hc, List.append_assoc]
      have ht3' : s1 = bitsOf v 34 ++ s2 := ht3
      rw [← ht3']
      have hm24 : m = 24 := by
        have h1 : q0 = 0 + (m : Int) := hm1
        omega
      rw [hm24] at hm3
      exact hm3
end Go.Proofs.Ytgglnmpjajnkaaa.Pure
