/- What an act puts, in the document's text and in the writer's bits. -/
import Derived.Test.YtgglnmpjajnkaaaPx0
import Derived.Test.YtgglnmpjajnkaaaHLawPP
import Derived.Test.YtgglnmpjajnkaaaUBits2
namespace Go.Proofs.Ytgglnmpjajnkaaa.Pure
open Go.RowKit Go.Proofs.Ytgglnmpjajnkaaa.P Go.Proofs.YtgglnmpjajnkaaaW.PrintWords Go.Proofs.YtgglnmpjajnkaaaW.PrintLast Go.Proofs.YtgglnmpjajnkaaaW.PrintMore
set_option linter.unusedVariables false
set_option linter.unusedSimpArgs false

theorem pow48 {n : Nat} (h : n ≤ 48) : (1 : Int) ≤ 2 ^ n ∧ (2 : Int) ^ n ≤ 281474976710656 := by
  have h1 : 2 ^ n ≤ 2 ^ 48 := Nat.pow_le_pow_right (by omega) h
  have h2 : ((2 ^ n : Nat) : Int) ≤ ((2 ^ 48 : Nat) : Int) := by exact_mod_cast h1
  rw [Int.natCast_pow] at h2
  have h3 : (0 : Int) < 2 ^ n := Int.pow_pos (by omega)
  exact ⟨by omega, h2⟩
theorem putOk_u {x n : Int} (hx0 : -9223372036854775808 ≤ x) (hx : x ≤ 9223372036854775807) : putOk (x % 18446744073709551616) n = (decide (0 ≤ n) && decide (n ≤ 48) && decide (0 ≤ x) && decide (x < 2 ^ n.toNat)) := by
  unfold putOk
  by_cases h0 : 0 ≤ n
  · by_cases h48 : n ≤ 48
    · have hp := pow48 (n := n.toNat) (by omega)
      rw [decide_eq_true h0, decide_eq_true h48]
      by_cases hx2 : 0 ≤ x
      · rw [Int.emod_eq_of_lt hx2 (by omega), decide_eq_true hx2]
        simp
      · rw [decide_eq_false hx2, decide_eq_false (by omega)]
        simp
    · rw [decide_eq_false h48]
      simp
  · rw [decide_eq_false h0]
    simp
theorem signed_ok {x : Int} {n : Nat} (hn : n ≤ 48) (h1 : 1 ≤ n) (hlo : -(2 ^ (n - 1)) ≤ x) (hhi : x < 2 ^ (n - 1)) {k : Nat} (hk : 100 < k) : sackbutref01_Signed.f k x n = some (txt (bitsOf (x % 2 ^ n) n)) := by
  have hp := pow48 (n := n) hn
  have hpe : (2 : Int) ^ n = 2 * 2 ^ (n - 1) := by
    conv => lhs; rw [show n = (n - 1) + 1 by omega, Int.pow_succ]
    omega
  unfold sackbutref01_Signed.f
  by_cases hx : x < 0
  · have he : (x + 2 ^ n) % 2 ^ n = x + 2 ^ n := Int.emod_eq_of_lt (by omega) (by omega)
    have hm : x % 2 ^ n = x + 2 ^ n := by rw [← he, Int.add_emod_right]
    rw [if_pos hx, power_ok (by omega) (by omega), bs, w64 (x := x + 2 ^ n) (by omega) (by omega), put_ok (x := x + 2 ^ n) (by omega) (by omega) (by omega) (by omega), bs, hm]
  · rw [if_neg hx, put_ok (x := x) (by omega) (by omega) (by omega) (by omega), bs, Int.emod_eq_of_lt (by omega) (by omega)]
theorem doBits_length (l : List Bool) (a x n : Int) : (doBits l a x n).length ≤ l.length + 1001 := by
  unfold doBits
  split
  · split
    · rename_i h
      simp only [putOk, Bool.and_eq_true, decide_eq_true_eq] at h
      rw [List.length_append, bitsOf_length]
      omega
    · omega
  · split
    · split
      · rename_i h
        simp only [signedOk, Bool.and_eq_true, decide_eq_true_eq] at h
        rw [List.length_append, bitsOf_length]
        omega
      · omega
    · split
      · split
        · simp only [List.length_append, List.length_replicate, List.length_cons, List.length_nil]
          omega
        · omega
      · split
        · unfold alignB
          simp only [List.length_append, List.length_replicate]
          omega
        · omega
/-- What the document puts is what the writer has. -/
theorem put_same {l : List Bool} (hl : l.length ≤ 100000) {a x n : Int} (hx0 : -9223372036854775808 ≤ x) (hx : x ≤ 9223372036854775807) {k : Nat} (hk : 2000 < k) : sackbutlaw01_put.f k (txt l) a x n = some (txt (doBits l a x n), doOk a x n) := by
  unfold sackbutlaw01_put.f doBits doOk
  by_cases h1 : a = 1
  · simp only [if_pos h1]
    rw [putOk_u hx0 hx]
    by_cases hok : (0 ≤ n ∧ n ≤ 48) ∧ 0 ≤ x ∧ x < 2 ^ n.toNat
    · obtain ⟨⟨hn0, hn1⟩, hx1, hx2⟩ := hok
      have hB : (decide (0 ≤ n) && decide (n ≤ 48) && decide (0 ≤ x) && decide (x < 2 ^ n.toNat)) = true := by simp [hn0, hn1, hx1, hx2]
      obtain ⟨m, rfl⟩ : ∃ m : Nat, n = (m : Int) := ⟨n.toNat, by omega⟩
      rw [Int.toNat_natCast] at hx2 hB ⊢
      rw [hB, if_pos (show true = true from rfl), Int.emod_eq_of_lt hx1 (by omega), if_neg (by omega), if_neg (by omega), if_neg (by omega), power_ok (by omega) (by omega), bs, if_neg (by omega), put_ok hx1 hx (by omega) (by omega), bs, txt_size, txt_size, bitsOf_length, if_pos (by omega), txt_app]
    · have hB : (decide (0 ≤ n) && decide (n ≤ 48) && decide (0 ≤ x) && decide (x < 2 ^ n.toNat)) = false := by
        refine Bool.eq_false_iff.2 (fun h => hok ?_)
        simp only [Bool.and_eq_true, decide_eq_true_eq] at h
        exact ⟨h.1.1, h.1.2, h.2⟩
      rw [hB, if_neg (show ¬ (false = true) by simp)]
      by_cases hn0 : n < 0
      · rw [if_pos hn0]
      · rw [if_neg hn0]
        by_cases hn48 : n > 48
        · rw [if_pos hn48]
        · rw [if_neg hn48]
          by_cases hx1 : x < 0
          · rw [if_pos hx1]
          · obtain ⟨m, rfl⟩ : ∃ m : Nat, n = (m : Int) := ⟨n.toNat, by omega⟩
            rw [Int.toNat_natCast] at hok
            rw [if_neg hx1, power_ok (by omega) (by omega), bs, if_pos (by omega)]
  · simp only [if_neg h1]
    by_cases h2 : a = 2
    · simp only [if_pos h2]
      by_cases hok : (1 ≤ n ∧ n ≤ 48) ∧ -(2 ^ (n - 1).toNat) ≤ x ∧ x < 2 ^ (n - 1).toNat
      · have hB : signedOk x n = true := by
          simp only [signedOk, Bool.and_eq_true, decide_eq_true_eq]
          exact ⟨⟨hok.1, hok.2.1⟩, hok.2.2⟩
        obtain ⟨⟨hn0, hn1⟩, hx1, hx2⟩ := hok
        obtain ⟨m, rfl⟩ : ∃ m : Nat, n = (m : Int) := ⟨n.toNat, by omega⟩
        have hm1 : ((m : Int) - 1).toNat = m - 1 := by omega
        rw [hm1] at hx1 hx2
        have hp := pow48 (n := m - 1) (by omega)
        rw [hB, if_pos (show true = true from rfl), Int.toNat_natCast, if_neg (by omega), if_neg (by omega), w64 (x := (m : Int) - 1) (by omega) (by omega), show (m : Int) - 1 = ((m - 1 : Nat) : Int) by omega, power_ok (by omega) (by omega), bs, w64 (x := -2 ^ (m - 1)) (by omega) (by omega), if_neg (by omega), bs, if_neg (by omega), signed_ok (by omega) (by omega) hx1 hx2 (by omega), bs, txt_size, txt_size, bitsOf_length, if_pos (by omega), txt_app]
      · have hB : signedOk x n = false := by
          refine Bool.eq_false_iff.2 (fun h => hok ?_)
          simp only [signedOk, Bool.and_eq_true, decide_eq_true_eq] at h
          exact ⟨h.1.1, h.1.2, h.2⟩
        rw [hB, if_neg (show ¬ (false = true) by simp)]
        by_cases hn0 : n < 1
        · rw [if_pos hn0]
        · rw [if_neg hn0]
          by_cases hn48 : n > 48
          · rw [if_pos hn48]
          · obtain ⟨m, rfl⟩ : ∃ m : Nat, n = (m : Int) := ⟨n.toNat, by omega⟩
            have hm1 : ((m : Int) - 1).toNat = m - 1 := by omega
            rw [hm1] at hok
            have hp := pow48 (n := m - 1) (by omega)
            rw [if_neg hn48, w64 (x := (m : Int) - 1) (by omega) (by omega), show (m : Int) - 1 = ((m - 1 : Nat) : Int) by omega, power_ok (by omega) (by omega), bs, w64 (x := -2 ^ (m - 1)) (by omega) (by omega)]
            by_cases hlo : x < -2 ^ (m - 1)
            · rw [if_pos hlo]
            · rw [if_neg hlo, bs, if_pos (by omega)]
    · simp only [if_neg h2]
      by_cases h3 : a = 3
      · simp only [if_pos h3]
        by_cases hok : 0 ≤ n ∧ n ≤ 1000
        · obtain ⟨m, rfl⟩ : ∃ m : Nat, n = (m : Int) := ⟨n.toNat, by omega⟩
          rw [if_pos hok, decide_eq_true hok, if_neg (by omega), if_neg (by omega), zeros_ok (by omega) (by omega), bs, txt_size, txt_size, if_pos (by simp; omega), txt_app, Int.toNat_natCast]
        · rw [if_neg hok, decide_eq_false hok]
          by_cases hn0 : n < 0
          · rw [if_pos hn0]
          · rw [if_neg hn0, if_pos (by omega)]
      · simp only [if_neg h3]
        by_cases h4 : a = 4
        · simp only [if_pos h4]
          rw [align_ok (by omega) (by omega), bs]
        · simp only [if_neg h4]
theorem puts_all {k : Nat} (hk : 20000 < k) : ∀ (ac : List S28) (l : List Bool), (∀ x ∈ ac, actIn x = true) → l.length ≤ 8000 → putsL k ac (txt l) l = some true := by
  intro ac
  induction ac with
  | nil =>
    intro l _ hl
    simp only [putsL]
    rw [if_neg (by omega), bytes_ok (by omega) (by omega), bs]
    simp
  | cons a ac ih =>
    intro l hin hl
    have ha := hin a List.mem_cons_self
    have hab := ha
    simp only [actIn, Bool.and_eq_true, decide_eq_true_eq] at hab
    simp only [putsL]
    have hlen := doBits_length l a.f0 a.f1 a.f2
    rw [if_neg (by rw [ha]; simp; omega), put_same (by omega) hab.1 hab.2 (by omega), bs]
    simp only [txt_size]
    by_cases h8 : 8000 < (doBits l a.f0 a.f1 a.f2).length
    · rw [if_pos h8]
    · rw [if_neg h8, if_pos (by simp)]
      exact ih _ (fun x hx => hin x (List.mem_cons_of_mem _ hx)) (by omega)
theorem PipePuts_pure (ac : List S28) (h : ∀ x ∈ ac, actIn x = true) : ∃ k, sackbutlaw01_PipePuts.f k ac = some true := by
  refine ⟨30000, ?_⟩
  unfold sackbutlaw01_PipePuts.f
  split
  · rfl
  · exact puts_all (by omega) ac [] h (by simp)
end Go.Proofs.Ytgglnmpjajnkaaa.Pure
