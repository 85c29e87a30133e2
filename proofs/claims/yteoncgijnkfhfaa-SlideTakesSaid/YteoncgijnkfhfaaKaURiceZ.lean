/- What layer 2 takes as a number, and its reference: one plain machine. -/
import Derived.Test.YteoncgijnkfhfaaKaPx0
import Derived.Test.YteoncgijnkfhfaaKaPx2
import Derived.Test.YteoncgijnkfhfaaKaPx4
import Derived.Test.YteoncgijnkfhfaaKaURun
import Derived.Test.YteoncgijnkfhfaaKaUBits
import Derived.Test.YteoncgijnkfhfaaKaUReader
namespace Go.Proofs.Yteoncgijnkfhfaa.Pure
open Go.RowKit Go.Proofs.Yteoncgijnkfhfaa.P Go.Proofs.YteoncgijnkfhfaaW.PrintWords Go.Proofs.YteoncgijnkfhfaaW.PrintLast Go.Proofs.YteoncgijnkfhfaaW.PrintMore
set_option linter.unusedVariables false
set_option linter.unusedSimpArgs false

theorem runG_range (most : Int) : ∀ (s : List Bool) (i : Int), 0 ≤ i → i ≤ most → (runG most i s).2.2 = 0 → i ≤ (runG most i s).1 ∧ (runG most i s).1 ≤ most := by
  intro s
  induction s with
  | nil => intro i h0 h1 h; exact absurd h (show ¬ ((3 : Int) = 0) by decide)
  | cons c s ih =>
    intro i h0 h1
    cases c with
    | true => intro _; exact ⟨Int.le_refl _, h1⟩
    | false =>
      rw [runG]
      split
      · intro h; exact absurd h (show ¬ ((1 : Int) = 0) by decide)
      · intro h
        have := ih (i + 1) (by omega) (by omega) h
        omega
theorem takeB_zero {s : List Bool} {e n : Int} (h : (takeB s e n).2.2 = 0) : e = 0 ∧ 0 ≤ n ∧ n ≤ 48 ∧ n ≤ s.length ∧ (takeB s e n).1 = numL (s.take n.toNat) := by
  unfold takeB at h ⊢
  by_cases he : e ≠ 0
  · rw [if_pos he] at h
    exact absurd h he
  · rw [if_neg he] at h ⊢
    by_cases h1 : n < 0 ∨ 48 < n
    · rw [if_pos h1] at h
      exact absurd h (show ¬ ((1 : Int) = 0) by decide)
    · rw [if_neg h1] at h ⊢
      by_cases h2 : (s.length : Int) < n
      · rw [if_pos h2] at h
        exact absurd h (show ¬ ((3 : Int) = 0) by decide)
      · rw [if_neg h2]
        exact ⟨by omega, by omega, by omega, by omega, rfl⟩
theorem shl_ok {x : Int} {k : Nat} (hk : k ≤ 63) (h1 : -9223372036854775808 ≤ x * 2 ^ k) (h2 : x * 2 ^ k ≤ 9223372036854775807) : shl .i64 x k = x * 2 ^ k := by
  unfold shl
  rw [Int.toNat_natCast, Nat.min_eq_left (show k ≤ IntKind.bits .i64 by show k ≤ 64; omega)]
  rw [i64_w]
  exact w64 h1 h2
/-- A number back from what has no sign. -/
def unfZ (z : Int) : Int := if z % 2 = 1 then -((z + 1) / 2) else z / 2
theorem unf_ok {z : Int} (h0 : 0 ≤ z) (h1 : z ≤ 4611686018427387904) : rice_Unfold.f z = some (unfZ z) := by
  unfold rice_Unfold.f unfZ
  rw [Int.tmod_eq_emod_of_nonneg h0, Int.tdiv_eq_ediv_of_nonneg h0]
  split
  · rw [w64 (x := z / 2) (by omega) (by omega), w64 (x := -(z / 2)) (by omega) (by omega), w64 (by omega) (by omega)]
    congr 1
    omega
  · rw [w64 (by omega) (by omega)]
/-- A number's code is taken. -/
def riceZ (s : List Bool) (e k : Int) : Int × List Bool × Int :=
  if k < 0 ∨ 24 < k then (0, s, giveB e 1)
  else if (runB s e 24).1 < 24 then
    (if (takeB (runB s e 24).2.1 (runB s e 24).2.2 k).2.2 = 0 then unfZ ((runB s e 24).1 * 2 ^ k.toNat + (takeB (runB s e 24).2.1 (runB s e 24).2.2 k).1) else 0, (takeB (runB s e 24).2.1 (runB s e 24).2.2 k).2)
  else
    (if (if (takeB (runB s e 24).2.1 (runB s e 24).2.2 34).1 / 2 ^ k.toNat < 24 then giveB (takeB (runB s e 24).2.1 (runB s e 24).2.2 34).2.2 2 else (takeB (runB s e 24).2.1 (runB s e 24).2.2 34).2.2) = 0 then unfZ (takeB (runB s e 24).2.1 (runB s e 24).2.2 34).1 else 0,
      (takeB (runB s e 24).2.1 (runB s e 24).2.2 34).2.1, (if (takeB (runB s e 24).2.1 (runB s e 24).2.2 34).1 / 2 ^ k.toNat < 24 then giveB (takeB (runB s e 24).2.1 (runB s e 24).2.2 34).2.2 2 else (takeB (runB s e 24).2.1 (runB s e 24).2.2 34).2.2))
theorem riceZ_suf (s : List Bool) (e k : Int) : (riceZ s e k).2.1 <:+ s := by
  unfold riceZ
  split
  · exact List.suffix_refl _
  · split
    · exact (takeB_suf _ _ _).trans (runB_suf _ _ _)
    · exact (takeB_suf _ _ _).trans (runB_suf _ _ _)
theorem takeB_num (s : List Bool) (e n : Int) (hn : n ≤ 48) : 0 ≤ (takeB s e n).1 ∧ (takeB s e n).1 ≤ 281474976710656 ∧ ((takeB s e n).2.2 = 0 → (takeB s e n).1 < 2 ^ n.toNat) := by
  have hp := pow_bound (show n.toNat ≤ 62 by omega)
  unfold takeB
  split
  · exact ⟨by simp, by simp, fun _ => by show (0 : Int) < _; omega⟩
  · split
    · exact ⟨by simp, by simp, fun _ => by show (0 : Int) < _; omega⟩
    · split
      · exact ⟨by simp, by simp, fun _ => by show (0 : Int) < _; omega⟩
      · have hr := numL_range (s.take n.toNat)
        have hl : (s.take n.toNat).length = n.toNat := by rw [List.length_take]; omega
        have h48 : (2 : Int) ^ n.toNat ≤ 2 ^ 48 := by
          rw [pow_cast, pow_cast]
          exact_mod_cast Nat.pow_le_pow_right (by omega) (by omega)
        rw [hl] at hr
        exact ⟨hr.1, by show numL _ ≤ _; omega, fun _ => hr.2⟩
theorem riceTake_ok {b : List Int} (hb : Bytes8 b) (hl : b.length ≤ 1000000) {s : List Bool} (hs : s <:+ unpack b) (e kk : Int) {k : Nat} (hk : s.length + 60 < k) : rice_Take.f k b (pos b s) e kk = some ((riceZ s e kk).1, pos b (riceZ s e kk).2.1, (riceZ s e kk).2.2) := by
  have hn := suf_len hs
  obtain ⟨k, rfl, _⟩ := pred_k (show 0 < k by omega)
  unfold rice_Take.f riceZ
  by_cases h1 : kk < 0 ∨ 24 < kk
  · have e0 : (if kk < 0 then rice_Take.j0 (k + 1) kk true b (pos b s) e else rice_Take.j0 (k + 1) kk (decide (kk > 24)) b (pos b s) e) = rice_Take.j0 (k + 1) kk true b (pos b s) e := by
      split
      · rfl
      · rw [decide_eq_true (by omega)]
    rw [e0]
    simp only [rice_Take.j0]
    rw [if_pos trivial, give_ok, bs, if_pos h1]
  · obtain ⟨m, rfl⟩ := Int.eq_ofNat_of_zero_le (show 0 ≤ kk by omega)
    rw [if_neg (by omega), decide_eq_false (by omega)]
    simp only [rice_Take.j0]
    have hs1 := (runB_suf s e 24).trans hs
    rw [if_neg (by simp), if_neg h1, pzeros_ok hb (by omega) hs _ _ (by omega), bs]
    generalize hq : runB s e 24 = q at hs1 ⊢
    have hq0 : q.2.2 = 0 → 0 ≤ q.1 ∧ q.1 ≤ 24 := by
      rw [← hq]
      unfold runB
      split
      · intro h; contradiction
      · intro h
        exact runG_range 24 s 0 (by omega) (by omega) h
    obtain ⟨q0, s1, e1⟩ := q
    have hj : ∀ (z : Int) (s2 : List Bool) (e2 : Int), (e2 = 0 → 0 ≤ z ∧ z ≤ 4611686018427387904) → rice_Take.j1 k z b (pos b s2) e2 = some (if e2 = 0 then unfZ z else 0, pos b s2, e2) := by
      intro z s2 e2 h
      obtain ⟨k, rfl, _⟩ := pred_k (show 0 < k by omega)
      simp only [rice_Take.j1]
      rw [fail_ok, bs]
      by_cases he : e2 = 0
      · rw [if_pos he, if_pos he, unf_ok (h he).1 (h he).2, bs]
      · rw [if_neg he, if_neg he]
    have hm : (2 : Int) ^ m ≤ 2 ^ 24 := by
      rw [pow_cast, pow_cast]
      exact_mod_cast Nat.pow_le_pow_right (by omega) (by omega)
    have hp := pow_bound (show m ≤ 62 by omega)
    by_cases h24 : q0 < 24
    · have hz := takeB_num s1 e1 m (by omega)
      rw [if_pos h24, if_pos (by omega), take_ok hb (by omega) hs1 _ _ (by omega), bs, if_pos h24]
      have h0 := @takeB_zero s1 e1 m
      generalize ht : takeB s1 e1 m = t at hz h0 ⊢
      obtain ⟨v, s2, e2⟩ := t
      have h0 : e2 = 0 → e1 = 0 := fun h => (h0 h).1
      rw [Int.toNat_natCast] at hz ⊢
      have hv : wrap64 v = v := w64 (by have := hz.1; show _ ≤ v; omega) (by have := hz.2.1; show v ≤ _; omega)
      show rice_Take.j1 k (Go.bits .or .i64 (shl .i64 q0 m) (wrap64 v)) b (pos b s2) e2 = some (if e2 = 0 then unfZ (q0 * 2 ^ m + v) else 0, pos b s2, e2)
      rw [hv]
      by_cases he : e2 = 0
      · have hz2 := hz.2.2 he
        have hq0' : 0 ≤ q0 ∧ q0 ≤ 24 := hq0 (h0 he)
        have hz0 : 0 ≤ v := hz.1
        have hqm : q0 * 2 ^ m ≤ 24 * 2 ^ m := Int.mul_le_mul_of_nonneg_right hq0'.2 (by omega)
        have hqm0 : 0 ≤ q0 * 2 ^ m := Int.mul_nonneg hq0'.1 (by omega)
        have hz2' : v < 2 ^ m := hz2
        rw [shl_ok (by omega) (by omega) (by omega), i64_or_low hq0'.1 hz0 hz2' (by omega), hj (q0 * 2 ^ m + v) s2 e2 (fun _ => ⟨by omega, by omega⟩)]
      · rw [hj _ _ _ (fun h => absurd h he), if_neg he, if_neg he]
    · have hz := takeB_num s1 e1 34 (by omega)
      rw [if_neg h24, take_ok hb (by omega) hs1 _ _ (by omega), bs, if_neg h24, if_pos (by omega)]
      generalize ht : takeB s1 e1 34 = t at hz ⊢
      obtain ⟨v, s2, e2⟩ := t
      have hz0 : 0 ≤ v := hz.1
      have hz1 : v ≤ 281474976710656 := hz.2.1
      show (if shr .i64 (wrap64 v) m < 24 then _ else _) = some (if (if v / 2 ^ (m : Int).toNat < 24 then giveB e2 2 else e2) = 0 then unfZ v else 0, pos b s2, (if v / 2 ^ (m : Int).toNat < 24 then giveB e2 2 else e2))
      rw [w64 (x := v) (by omega) (by omega), shr_ok _ _ (by omega), Int.toNat_natCast]
      by_cases hc : v / 2 ^ m < 24
      · rw [if_pos hc, if_pos hc, give_ok, bs]
        exact hj v s2 _ (fun _ => ⟨by omega, by omega⟩)
      · rw [if_neg hc, if_neg hc]
        exact hj v s2 _ (fun _ => ⟨by omega, by omega⟩)
theorem rriceTake_ok (s : List Bool) (hs : s.length ≤ 10000000) (a e kk : Int) {k : Nat} (hk : s.length + 60 < k) : sackbutref02_Take.f k (txt s) a e kk = some (txt (riceZ s e kk).2.1, a, (riceZ s e kk).2.2, (riceZ s e kk).1) := by
  obtain ⟨k, rfl, _⟩ := pred_k (show 0 < k by omega)
  unfold sackbutref02_Take.f riceZ
  by_cases h1 : kk < 0 ∨ 24 < kk
  · have e0 : (if kk < 0 then sackbutref02_Take.j0 (k + 1) kk true (txt s) a e else sackbutref02_Take.j0 (k + 1) kk (decide (kk > 24)) (txt s) a e) = sackbutref02_Take.j0 (k + 1) kk true (txt s) a e := by
      split
      · rfl
      · rw [decide_eq_true (by omega)]
    rw [e0]
    simp only [sackbutref02_Take.j0]
    rw [if_pos trivial, rgive_ok, bs, if_pos h1]
  · obtain ⟨m, rfl⟩ := Int.eq_ofNat_of_zero_le (show 0 ≤ kk by omega)
    rw [if_neg (by omega), decide_eq_false (by omega)]
    simp only [sackbutref02_Take.j0]
    have hs1 := runB_suf s e 24
    rw [if_neg (by simp), if_neg h1, run_ok s (by omega) _ _ _ (by omega), bs]
    generalize hq : runB s e 24 = q at hs1 ⊢
    have hq0 : q.2.2 = 0 → 0 ≤ q.1 ∧ q.1 ≤ 24 := by
      rw [← hq]
      unfold runB
      split
      · intro h; contradiction
      · intro h
        exact runG_range 24 s 0 (by omega) (by omega) h
    obtain ⟨q0, s1, e1⟩ := q
    have hs1l : s1.length ≤ s.length := hs1.length_le
    have hj : ∀ (z : Int) (s2 : List Bool) (e2 : Int), (e2 = 0 → 0 ≤ z ∧ z ≤ 4611686018427387904) → sackbutref02_Take.j1 k z (txt s2) a e2 = some (txt s2, a, e2, if e2 = 0 then unfZ z else 0) := by
      intro z s2 e2 h
      obtain ⟨k, rfl, _⟩ := pred_k (show 0 < k by omega)
      simp only [sackbutref02_Take.j1]
      by_cases he : e2 = 0
      · obtain ⟨h0, h1⟩ := h he
        rw [if_pos he, if_pos he, Int.tmod_eq_emod_of_nonneg h0]
        unfold unfZ
        split
        · rw [w64 (x := z + 1) (by omega) (by omega), w64 (x := -(z + 1)) (by omega) (by omega), Int.neg_tdiv, Int.tdiv_eq_ediv_of_nonneg (by omega), w64 (by omega) (by omega)]
        · rw [Int.tdiv_eq_ediv_of_nonneg h0, w64 (by omega) (by omega)]
      · rw [if_neg he, if_neg he]
    have hm : (2 : Int) ^ m ≤ 2 ^ 24 := by
      rw [pow_cast, pow_cast]
      exact_mod_cast Nat.pow_le_pow_right (by omega) (by omega)
    have hp := pow_bound (show m ≤ 62 by omega)
    by_cases h24 : q0 < 24
    · have hz := takeB_num s1 e1 m (by omega)
      rw [if_pos h24, if_pos h24, rtake_ok s1 (by omega) _ _ _ (by omega), bs, power_ok (by omega) (by omega), bs]
      have h0 := @takeB_zero s1 e1 m
      generalize ht : takeB s1 e1 m = t at hz h0 ⊢
      obtain ⟨v, s2, e2⟩ := t
      have h0 : e2 = 0 → e1 = 0 := fun h => (h0 h).1
      rw [Int.toNat_natCast] at hz ⊢
      show sackbutref02_Take.j1 k (wrap64 (wrap64 (q0 * 2 ^ m) + v)) (txt s2) a e2 = some (txt s2, a, e2, if e2 = 0 then unfZ (q0 * 2 ^ m + v) else 0)
      by_cases he : e2 = 0
      · have hz2 := hz.2.2 he
        have hq0' : 0 ≤ q0 ∧ q0 ≤ 24 := hq0 (h0 he)
        have hz0 : 0 ≤ v := hz.1
        have hqm : q0 * 2 ^ m ≤ 24 * 2 ^ m := Int.mul_le_mul_of_nonneg_right hq0'.2 (by omega)
        have hqm0 : 0 ≤ q0 * 2 ^ m := Int.mul_nonneg hq0'.1 (by omega)
        have hz2' : v < 2 ^ m := hz2
        rw [w64 (x := q0 * 2 ^ m) (by omega) (by omega), w64 (by omega) (by omega), hj (q0 * 2 ^ m + v) s2 e2 (fun _ => ⟨by omega, by omega⟩)]
      · rw [hj _ _ _ (fun h => absurd h he), if_neg he, if_neg he]
    · have hz := takeB_num s1 e1 34 (by omega)
      rw [if_neg h24, if_neg h24, rtake_ok s1 (by omega) _ _ _ (by omega), bs, power_ok (by omega) (by omega), bs, if_neg (by omega)]
      generalize ht : takeB s1 e1 34 = t at hz ⊢
      obtain ⟨v, s2, e2⟩ := t
      have hz0 : 0 ≤ v := hz.1
      have hz1 : v ≤ 281474976710656 := hz.2.1
      show (if wrap64 (Int.tdiv v (2 ^ m)) < 24 then _ else _) = some (txt s2, a, (if v / 2 ^ (m : Int).toNat < 24 then giveB e2 2 else e2), if (if v / 2 ^ (m : Int).toNat < 24 then giveB e2 2 else e2) = 0 then unfZ v else 0)
      have hd0 : 0 ≤ v / 2 ^ m := Int.ediv_nonneg hz0 (by omega)
      have hd1 : v / 2 ^ m ≤ v := Int.ediv_le_self _ hz0
      rw [Int.tdiv_eq_ediv_of_nonneg hz0, w64 (x := v / 2 ^ m) (by omega) (by omega), Int.toNat_natCast]
      by_cases hc : v / 2 ^ m < 24
      · rw [if_pos hc, if_pos hc, rgive_ok, bs]
        exact hj v s2 _ (fun _ => ⟨by omega, by omega⟩)
      · rw [if_neg hc, if_neg hc]
        exact hj v s2 _ (fun _ => ⟨by omega, by omega⟩)
end Go.Proofs.Yteoncgijnkfhfaa.Pure
