/- The document's rest of a channel; a channel comes back. -/
import Derived.Test.YtlebgjcpidpgnaaPx0
import Derived.Test.YtlebgjcpidpgnaaPx11
import Derived.Test.YtlebgjcpidpgnaaUWeft
namespace Go.Proofs.Ytlebgjcpidpgnaa.Pure
open Go.RowKit Go.Proofs.Ytlebgjcpidpgnaa.P Go.Proofs.YtlebgjcpidpgnaaW.PrintWords Go.Proofs.YtlebgjcpidpgnaaW.PrintLast Go.Proofs.YtlebgjcpidpgnaaW.PrintMore
set_option linter.unusedVariables false
set_option linter.unusedSimpArgs false

theorem rRest_l0 {own m : List Int} (s : Bool) (q g0 g1 g2 : Int) (ho : own.length ≤ 1000000) (d : Nat) : ∀ (k i : Nat), i + d = own.length → d < k → sackbutref11_Rest.l0 k own m (tab i (wresF g0 g1 g2 own m)) own.length i s q g0 g1 g2 = some (wresZ g0 g1 g2 own m, 0) := by
  induction d with
  | zero =>
    intro k i hi hk
    obtain ⟨k, rfl, _⟩ := pred_k hk
    simp only [sackbutref11_Rest.l0]
    rw [if_neg (by omega), show i = own.length by omega]
    rfl
  | succ d ih =>
    intro k i hi hk
    obtain ⟨k, rfl, _⟩ := pred_k hk
    simp only [sackbutref11_Rest.l0]
    have := ih k (i + 1) (by omega) (by omega)
    rw [if_pos (by omega), if_pos (by omega), if_pos (by omega), rfore_ok (by omega), bs, tab_length, if_pos (by omega), w64 (x := (i : Int) + 1) (by omega) (by omega)]
    rw [tab_succ] at this
    exact_mod_cast this
theorem rRest_ok (s : Bool) (m g0 g1 g2 : Int) {own master : List Int} (ho : own.length ≤ 1000000) (hm : master.length ≤ 1000000) {k : Nat} (hk : own.length + master.length + 2 < k) : sackbutref11_Rest.f k s m g0 g1 g2 own master = some (wrestR s m g0 g1 g2 own master) := by
  obtain ⟨k, rfl, _⟩ := pred_k (show 0 < k by omega)
  unfold sackbutref11_Rest.f wrestR
  rw [rgood_w, bs]
  by_cases hg : goodW s m g0 g1 g2 = true
  · rw [if_pos hg, if_pos hg]
    by_cases hl : own.length = master.length
    · rw [if_pos (by omega), if_pos hl, in_ok ho (by omega), bs]
      cases ha : own.any farP with
      | true =>
        rw [if_neg (by simp), if_pos rfl]
        simp only [sackbutref11_Rest.j0]
        rw [if_pos trivial]
      | false =>
        rw [if_pos (by simp), if_neg (by simp), in_ok hm (by omega), bs]
        simp only [sackbutref11_Rest.j0]
        cases hb : master.any farP with
        | true =>
          rw [if_pos rfl]
          rfl
        | false =>
          rw [if_neg (by simp), if_neg (by simp)]
          exact rRest_l0 s m g0 g1 g2 ho own.length k 0 (by omega) (by omega)
    · rw [if_neg (by omega), if_neg hl]
  · rw [if_neg hg, if_neg hg]
/-- A rest's channel comes back. -/
theorem back_rest {g0 g1 g2 : Int} {own master : List Int} (h0 : -16 ≤ g0 ∧ g0 ≤ 15) (h1 : -16 ≤ g1 ∧ g1 ≤ 15) (h2 : -16 ≤ g2 ∧ g2 ≤ 15) (ho : own.any farP = false) (hm : master.any farP = false) (d : Nat) : ∀ i : Nat, i + d = own.length → backZ g0 g1 g2 master 8388607 i (own.take i) ((wresZ g0 g1 g2 own master).drop i) = (own, 0) := by
  induction d with
  | zero =>
    intro i hi
    rw [List.drop_eq_nil_of_le (by rw [wresZ_length]; omega), List.take_of_length_le (by omega)]
    rfl
  | succ d ih =>
    intro i hi
    have hlt : i < own.length := by omega
    have hb := no_far ho hlt
    have hf := fore_small h0 h1 h2 hm i
    have hd : (wresZ g0 g1 g2 own master).drop i = wresF g0 g1 g2 own master i :: (wresZ g0 g1 g2 own master).drop (i + 1) := by
      unfold wresZ
      rw [List.drop_eq_getElem_cons (by rw [tab_length]; exact hlt)]
      congr 1
      simp [tab]
    have hx : wresF g0 g1 g2 own master i = rd own i - foreI g0 g1 g2 master i := by
      unfold wresF
      exact w64 (by omega) (by omega)
    have ht : own.take i ++ [rd own i] = own.take (i + 1) := by
      rw [List.take_succ_eq_append_getElem hlt]
      simp [rd, List.getD, hlt]
    rw [hd, hx, backZ, if_neg (by omega), if_neg (by omega), show rd own i - foreI g0 g1 g2 master i + foreI g0 g1 g2 master i = rd own i by omega, ht]
    exact ih (i + 1) (by omega)
theorem wrestR_len (s : Bool) (m g0 g1 g2 : Int) (own master : List Int) : (wrestR s m g0 g1 g2 own master).1.length ≤ own.length := by
  unfold wrestR
  split
  · split
    · split
      · simp
      · split
        · simp
        · show (wresZ g0 g1 g2 own master).length ≤ _
          rw [wresZ_length]
          exact Nat.le_refl _
    · simp
  · simp
theorem wrestR_zero {s : Bool} {m g0 g1 g2 : Int} {own master : List Int} (h : (wrestR s m g0 g1 g2 own master).2 = 0) : goodW s m g0 g1 g2 = true ∧ own.length = master.length ∧ own.any farP = false ∧ master.any farP = false ∧ (wrestR s m g0 g1 g2 own master).1 = wresZ g0 g1 g2 own master := by
  unfold wrestR at h ⊢
  by_cases hg : goodW s m g0 g1 g2 = true
  · rw [if_pos hg] at h ⊢
    by_cases hl : own.length = master.length
    · rw [if_pos hl] at h ⊢
      by_cases ha : own.any farP = true
      · rw [if_pos ha] at h
        exact absurd h (show ¬ (9 : Int) = 0 by decide)
      · rw [if_neg ha] at h ⊢
        by_cases hb : master.any farP = true
        · rw [if_pos hb] at h
          exact absurd h (show ¬ (9 : Int) = 0 by decide)
        · rw [if_neg hb]
          exact ⟨hg, hl, Bool.eq_false_iff.mpr ha, Bool.eq_false_iff.mpr hb, rfl⟩
    · rw [if_neg hl] at h
      exact absurd h (show ¬ (8 : Int) = 0 by decide)
  · rw [if_neg hg] at h
    exact absurd h (show ¬ (2 : Int) = 0 by decide)
theorem back_of_rest {s : Bool} {m g0 g1 g2 : Int} {own master : List Int} (h : (wrestR s m g0 g1 g2 own master).2 = 0) : wbackR s m g0 g1 g2 (wrestR s m g0 g1 g2 own master).1 master 8388607 = (own, 0) := by
  obtain ⟨hg, hl, ha, hb, he⟩ := wrestR_zero h
  obtain ⟨h0, h1, h2⟩ := goodW_gains hg
  have := back_rest h0 h1 h2 ha hb own.length 0 (by omega)
  rw [List.take_zero, List.drop_zero] at this
  unfold wbackR
  rw [he, if_pos hg, if_pos (by rw [wresZ_length]; exact hl), if_neg (by omega), if_neg (by omega), if_neg (by rw [hb]; simp)]
  exact this
end Go.Proofs.Ytlebgjcpidpgnaa.Pure
