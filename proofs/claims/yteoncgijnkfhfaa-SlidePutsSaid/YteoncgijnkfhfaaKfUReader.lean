/- What layer 1's reader answers, as one plain machine on the bits that are left; the reference's reader is the same. -/
import Derived.Test.YteoncgijnkfhfaaKfPx0
import Derived.Test.YteoncgijnkfhfaaKfPx1
import Derived.Test.YteoncgijnkfhfaaKfPx3
import Derived.Test.YteoncgijnkfhfaaKfUBitsP
import Derived.Test.YteoncgijnkfhfaaKfPx2
import Derived.Test.YteoncgijnkfhfaaKfPx4
import Derived.Test.YteoncgijnkfhfaaKfPx5
import Derived.Test.YteoncgijnkfhfaaKfHSGood
section
namespace Go.Proofs.Yteoncgijnkfhfaa.Pure
open Go.RowKit Go.Proofs.Yteoncgijnkfhfaa.P Go.Proofs.YteoncgijnkfhfaaW.PrintWords Go.Proofs.YteoncgijnkfhfaaW.PrintLast Go.Proofs.YteoncgijnkfhfaaW.PrintMore
set_option linter.unusedVariables false
set_option linter.unusedSimpArgs false

def giveB (e c : Int) : Int := if e = 0 then c else e
def takeB (s : List Bool) (e n : Int) : Int × List Bool × Int :=
  if e ≠ 0 then (0, s, e) else if n < 0 ∨ 48 < n then (0, s, 1) else if (s.length : Int) < n then (0, s, 3) else (numL (s.take n.toNat), s.drop n.toNat, 0)
theorem takeB_suf (s : List Bool) (e n : Int) : (takeB s e n).2.1 <:+ s := by
  unfold takeB
  split
  · exact List.suffix_refl _
  · split
    · exact List.suffix_refl _
    · split
      · exact List.suffix_refl _
      · exact List.drop_suffix _ _
theorem give_ok (b : List Int) (p e c : Int) : pipe_Reader_Give.f b p e c = some (p, giveB e c) := by
  unfold pipe_Reader_Give.f giveB
  split <;> rfl
theorem fail_ok (b : List Int) (p e : Int) : pipe_Reader_Fail.f b p e = some (e, p, e) := rfl

theorem take_l0 {b : List Int} (hb : Bytes8 b) (hl : b.length ≤ 10000000) (n : Nat) (hn : n ≤ 48) (d : Nat) : ∀ (k i : Nat) (l s : List Bool), i + d = n → l.length = i → d ≤ s.length → s <:+ unpack b → d < k → pipe_Reader_Take.l0 k (numL l) n i b (pos b s) 0 = some (numL (l ++ s.take d), pos b (s.drop d), 0) := by
  induction d with
  | zero =>
    intro k i l s hi hli hd hs hk
    obtain ⟨k, rfl, _⟩ := pred_k hk
    simp only [pipe_Reader_Take.l0]
    rw [if_neg (by omega)]
    simp
  | succ d ih =>
    intro k i l s hi hli hd hs hk
    obtain ⟨k, rfl, hk'⟩ := pred_k hk
    simp only [pipe_Reader_Take.l0]
    cases s with
    | nil => simp at hd
    | cons c s =>
      rw [List.length_cons] at hd
      have hr := numL_range l
      have hp : (2 : Int) ^ l.length ≤ 2 ^ 48 := by
        rw [pow_cast, pow_cast]
        exact_mod_cast Nat.pow_le_pow_right (by omega) (by omega)
      have e : 2 * numL l + (if c = true then 1 else 0) = numL (l ++ [c]) := by
        rw [numL_app, numL_cons]
        simp [numL, numA]
        omega
      rw [if_pos (by omega), bit_ok hb hl hs, bs, u64_or1 hr.1 (by omega) (by split <;> omega) (by split <;> omega), w64 (x := (i : Int) + 1) (by omega) (by omega), e]
      have := ih k (i + 1) (l ++ [c]) s (by omega) (by simp; omega) (by omega) (suf_tail hs) (by omega)
      rw [List.append_assoc] at this
      exact_mod_cast this
theorem take_ok {b : List Int} (hb : Bytes8 b) (hl : b.length ≤ 10000000) {s : List Bool} (hs : s <:+ unpack b) (e n : Int) {k : Nat} (hk : 52 < k) : pipe_Reader_Take.f k b (pos b s) e n = some ((takeB s e n).1, pos b (takeB s e n).2.1, (takeB s e n).2.2) := by
  obtain ⟨k, rfl, hk1⟩ := pred_k (show 51 < k by omega)
  obtain ⟨k, rfl, hk2⟩ := pred_k (show 50 < k by omega)
  have hj1 : ∀ e', e' ≠ 0 → pipe_Reader_Take.j1 (k + 1) n b (pos b s) e' = some (0, pos b s, e') := by
    intro e' h
    simp only [pipe_Reader_Take.j1]
    rw [if_neg h]
  unfold pipe_Reader_Take.f takeB
  by_cases h1 : n < 0 ∨ 48 < n
  · have e0 : (if n < 0 then pipe_Reader_Take.j0 (k + 1 + 1) n true b (pos b s) e else pipe_Reader_Take.j0 (k + 1 + 1) n (decide (n > 48)) b (pos b s) e) = pipe_Reader_Take.j0 (k + 1 + 1) n true b (pos b s) e := by
      split
      · rfl
      · rw [decide_eq_true (by omega)]
    rw [e0]
    simp only [pipe_Reader_Take.j0]
    rw [if_pos trivial, give_ok, bs]
    unfold giveB
    by_cases he : e = 0
    · rw [if_pos he, hj1 1 (by omega), if_neg (by omega), if_pos h1]
    · rw [if_neg he, hj1 e he, if_pos he]
  · have h1' : 0 ≤ n ∧ n ≤ 48 := by omega
    rw [if_neg (by omega), decide_eq_false (by omega)]
    simp only [pipe_Reader_Take.j0]
    rw [if_neg (by simp), left_ok hl hs, bs]
    by_cases h2 : n > s.length
    · rw [if_pos h2, give_ok, bs]
      unfold giveB
      by_cases he : e = 0
      · rw [if_pos he, hj1 3 (by omega), if_neg (by omega), if_neg h1, if_pos (by omega)]
      · rw [if_neg he, hj1 e he, if_pos he]
    · rw [if_neg h2]
      by_cases he : e = 0
      · subst he
        rw [if_neg (by omega), if_neg h1, if_neg (by omega)]
        simp only [pipe_Reader_Take.j1]
        rw [if_pos trivial]
        obtain ⟨m, rfl⟩ := Int.eq_ofNat_of_zero_le h1'.1
        have := take_l0 hb hl m (by omega) m k 0 [] s (by omega) rfl (by omega) hs (by omega)
        exact this
      · rw [hj1 e he, if_pos he]
end Go.Proofs.Yteoncgijnkfhfaa.Pure
end
section
/- Noughts up to a bit 1, as the plain machine has them. -/
namespace Go.Proofs.Yteoncgijnkfhfaa.Pure
open Go.RowKit Go.Proofs.Yteoncgijnkfhfaa.P Go.Proofs.YteoncgijnkfhfaaW.PrintWords Go.Proofs.YteoncgijnkfhfaaW.PrintLast Go.Proofs.YteoncgijnkfhfaaW.PrintMore
set_option linter.unusedVariables false
set_option linter.unusedSimpArgs false

/-- From i noughts on, at most 'most' of them. -/
def runG (most : Int) : Int → List Bool → Int × List Bool × Int
  | i, [] => (0, [], 3)
  | i, true :: s => (i, s, 0)
  | i, false :: s => if i ≥ most then (0, s, 1) else runG most (i + 1) s
def runB (s : List Bool) (e most : Int) : Int × List Bool × Int := if e ≠ 0 then (0, s, e) else runG most 0 s
theorem runG_suf (most : Int) : ∀ (s : List Bool) (i : Int), (runG most i s).2.1 <:+ s := by
  intro s
  induction s with
  | nil => intro i; exact List.suffix_refl _
  | cons c s ih =>
    intro i
    cases c with
    | true => exact List.suffix_cons _ _
    | false =>
      rw [runG]
      split
      · exact List.suffix_cons _ _
      · exact (ih (i + 1)).trans (List.suffix_cons _ _)
theorem runB_suf (s : List Bool) (e most : Int) : (runB s e most).2.1 <:+ s := by
  unfold runB
  split
  · exact List.suffix_refl _
  · exact runG_suf _ _ _
theorem zerosl_end (b : List Int) (most i p e : Int) (he : e ≠ 0) {k : Nat} (hk : 0 < k) : pipe_Reader_Zeros.l0 k most i b p e = some (0, p, e) := by
  obtain ⟨k, rfl, _⟩ := pred_k hk
  simp only [pipe_Reader_Zeros.l0]
  rw [if_neg he]
theorem zeros_g {b : List Int} (hb : Bytes8 b) (hl : b.length ≤ 10000000) (most : Int) : ∀ (s : List Bool) (k i : Nat), s <:+ unpack b → i + s.length ≤ 100000000 → s.length + 1 < k → pipe_Reader_Zeros.l0 k most i b (pos b s) 0 = some ((runG most i s).1, pos b (runG most i s).2.1, (runG most i s).2.2) := by
  intro s
  induction s with
  | nil =>
    intro k i hs hil hk
    obtain ⟨k, rfl, _⟩ := pred_k (show 0 < k by omega)
    simp only [pipe_Reader_Zeros.l0]
    rw [if_pos trivial, left_ok hl hs, bs, if_pos (by rfl), give_ok, bs]
    exact zerosl_end b most _ _ 3 (by decide) (by omega)
  | cons c s ih =>
    intro k i hs hil hk
    obtain ⟨k, rfl, _⟩ := pred_k (show 0 < k by omega)
    simp only [pipe_Reader_Zeros.l0]
    rw [List.length_cons] at hil hk
    rw [if_pos trivial, left_ok hl hs, bs, if_neg (by simp; omega), bit_ok hb hl hs, bs]
    cases c with
    | true => rfl
    | false =>
      rw [if_neg (show ¬ ((if false = true then 1 else 0 : Int) = 1) by decide)]
      by_cases hm : (i : Int) ≥ most
      · rw [if_pos hm, give_ok, bs, runG, if_pos hm]
        exact zerosl_end b most _ _ 1 (by decide) (by omega)
      · rw [if_neg hm, runG, if_neg hm, w64 (x := (i : Int) + 1) (by omega) (by omega)]
        have := ih k (i + 1) (suf_tail hs) (by omega) (by omega)
        exact_mod_cast this
theorem pzeros_ok {b : List Int} (hb : Bytes8 b) (hl : b.length ≤ 10000000) {s : List Bool} (hs : s <:+ unpack b) (e most : Int) {k : Nat} (hk : s.length + 1 < k) : pipe_Reader_Zeros.f k b (pos b s) e most = some ((runB s e most).1, pos b (runB s e most).2.1, (runB s e most).2.2) := by
  have hn := suf_len hs
  unfold pipe_Reader_Zeros.f runB
  by_cases he : e = 0
  · subst he
    rw [if_neg (by omega)]
    exact zeros_g hb hl most s k 0 hs (by omega) hk
  · rw [if_pos he]
    exact zerosl_end b most 0 _ e he (by omega)
end Go.Proofs.Yteoncgijnkfhfaa.Pure
end
section
/- What layer 2 takes as a number, and its reference: one plain machine. -/
namespace Go.Proofs.Yteoncgijnkfhfaa.Pure
open Go.RowKit Go.Proofs.Yteoncgijnkfhfaa.P Go.Proofs.YteoncgijnkfhfaaW.PrintWords Go.Proofs.YteoncgijnkfhfaaW.PrintLast Go.Proofs.YteoncgijnkfhfaaW.PrintMore
set_option linter.unusedVariables false
set_option linter.unusedSimpArgs false

theorem runG_range (most : Int) : ∀ (s : List Bool) (i : Int), 0 ≤ i → i ≤ most → (runG most i s).2.2 = 0 → i ≤ (runG most i s).1 ∧ (runG most i s).1 ≤ most := by
  intro s
  induction s with
  | nil => intro i h0 h1 h; exact absurd h (show ¬ ((3 : Int) = 0) by decide)
  | cons c s ih =>
    intro i h0 h1
    cases c with
    | true => intro _; exact ⟨Int.le_refl _, h1⟩
    | false =>
      rw [runG]
      split
      · intro h; exact absurd h (show ¬ ((1 : Int) = 0) by decide)
      · intro h
        have := ih (i + 1) (by omega) (by omega) h
        omega
theorem takeB_zero {s : List Bool} {e n : Int} (h : (takeB s e n).2.2 = 0) : e = 0 ∧ 0 ≤ n ∧ n ≤ 48 ∧ n ≤ s.length ∧ (takeB s e n).1 = numL (s.take n.toNat) := by
  unfold takeB at h ⊢
  by_cases he : e ≠ 0
  · rw [if_pos he] at h
    exact absurd h he
  · rw [if_neg he] at h ⊢
    by_cases h1 : n < 0 ∨ 48 < n
    · rw [if_pos h1] at h
      exact absurd h (show ¬ ((1 : Int) = 0) by decide)
    · rw [if_neg h1] at h ⊢
      by_cases h2 : (s.length : Int) < n
      · rw [if_pos h2] at h
        exact absurd h (show ¬ ((3 : Int) = 0) by decide)
      · rw [if_neg h2]
        exact ⟨by omega, by omega, by omega, by omega, rfl⟩
theorem shl_ok {x : Int} {k : Nat} (hk : k ≤ 63) (h1 : -9223372036854775808 ≤ x * 2 ^ k) (h2 : x * 2 ^ k ≤ 9223372036854775807) : shl .i64 x k = x * 2 ^ k := by
  unfold shl
  rw [Int.toNat_natCast, Nat.min_eq_left (show k ≤ IntKind.bits .i64 by show k ≤ 64; omega)]
  rw [i64_w]
  exact w64 h1 h2
/-- A number back from what has no sign. -/
def unfZ (z : Int) : Int := if z % 2 = 1 then -((z + 1) / 2) else z / 2
theorem unf_ok {z : Int} (h0 : 0 ≤ z) (h1 : z ≤ 4611686018427387904) : rice_Unfold.f z = some (unfZ z) := by
  unfold rice_Unfold.f unfZ
  rw [Int.tmod_eq_emod_of_nonneg h0, Int.tdiv_eq_ediv_of_nonneg h0]
  split
  · rw [w64 (x := z / 2) (by omega) (by omega), w64 (x := -(z / 2)) (by omega) (by omega), w64 (by omega) (by omega)]
    congr 1
    omega
  · rw [w64 (by omega) (by omega)]
/-- A number's code is taken. -/
def riceZ (s : List Bool) (e k : Int) : Int × List Bool × Int :=
  if k < 0 ∨ 24 < k then (0, s, giveB e 1)
  else if (runB s e 24).1 < 24 then
    (if (takeB (runB s e 24).2.1 (runB s e 24).2.2 k).2.2 = 0 then unfZ ((runB s e 24).1 * 2 ^ k.toNat + (takeB (runB s e 24).2.1 (runB s e 24).2.2 k).1) else 0, (takeB (runB s e 24).2.1 (runB s e 24).2.2 k).2)
  else
    (if (if (takeB (runB s e 24).2.1 (runB s e 24).2.2 34).1 / 2 ^ k.toNat < 24 then giveB (takeB (runB s e 24).2.1 (runB s e 24).2.2 34).2.2 2 else (takeB (runB s e 24).2.1 (runB s e 24).2.2 34).2.2) = 0 then unfZ (takeB (runB s e 24).2.1 (runB s e 24).2.2 34).1 else 0,
      (takeB (runB s e 24).2.1 (runB s e 24).2.2 34).2.1, (if (takeB (runB s e 24).2.1 (runB s e 24).2.2 34).1 / 2 ^ k.toNat < 24 then giveB (takeB (runB s e 24).2.1 (runB s e 24).2.2 34).2.2 2 else (takeB (runB s e 24).2.1 (runB s e 24).2.2 34).2.2))
theorem riceZ_suf (s : List Bool) (e k : Int) : (riceZ s e k).2.1 <:+ s := by
  unfold riceZ
  split
  · exact List.suffix_refl _
  · split
    · exact (takeB_suf _ _ _).trans (runB_suf _ _ _)
    · exact (takeB_suf _ _ _).trans (runB_suf _ _ _)
theorem takeB_num (s : List Bool) (e n : Int) (hn : n ≤ 48) : 0 ≤ (takeB s e n).1 ∧ (takeB s e n).1 ≤ 281474976710656 ∧ ((takeB s e n).2.2 = 0 → (takeB s e n).1 < 2 ^ n.toNat) := by
  have hp := pow_bound (show n.toNat ≤ 62 by omega)
  unfold takeB
  split
  · exact ⟨by simp, by simp, fun _ => by show (0 : Int) < _; omega⟩
  · split
    · exact ⟨by simp, by simp, fun _ => by show (0 : Int) < _; omega⟩
    · split
      · exact ⟨by simp, by simp, fun _ => by show (0 : Int) < _; omega⟩
      · have hr := numL_range (s.take n.toNat)
        have hl : (s.take n.toNat).length = n.toNat := by rw [List.length_take]; omega
        have h48 : (2 : Int) ^ n.toNat ≤ 2 ^ 48 := by
          rw [pow_cast, pow_cast]
          exact_mod_cast Nat.pow_le_pow_right (by omega) (by omega)
        rw [hl] at hr
        exact ⟨hr.1, by show numL _ ≤ _; omega, fun _ => hr.2⟩
theorem riceTake_ok {b : List Int} (hb : Bytes8 b) (hl : b.length ≤ 1000000) {s : List Bool} (hs : s <:+ unpack b) (e kk : Int) {k : Nat} (hk : s.length + 60 < k) : rice_Take.f k b (pos b s) e kk = some ((riceZ s e kk).1, pos b (riceZ s e kk).2.1, (riceZ s e kk).2.2) := by
  have hn := suf_len hs
  obtain ⟨k, rfl, _⟩ := pred_k (show 0 < k by omega)
  unfold rice_Take.f riceZ
  by_cases h1 : kk < 0 ∨ 24 < kk
  · have e0 : (if kk < 0 then rice_Take.j0 (k + 1) kk true b (pos b s) e else rice_Take.j0 (k + 1) kk (decide (kk > 24)) b (pos b s) e) = rice_Take.j0 (k + 1) kk true b (pos b s) e := by
      split
      · rfl
      · rw [decide_eq_true (by omega)]
    rw [e0]
    simp only [rice_Take.j0]
    rw [if_pos trivial, give_ok, bs, if_pos h1]
  · obtain ⟨m, rfl⟩ := Int.eq_ofNat_of_zero_le (show 0 ≤ kk by omega)
    rw [if_neg (by omega), decide_eq_false (by omega)]
    simp only [rice_Take.j0]
    have hs1 := (runB_suf s e 24).trans hs
    rw [if_neg (by simp), if_neg h1, pzeros_ok hb (by omega) hs _ _ (by omega), bs]
    generalize hq : runB s e 24 = q at hs1 ⊢
    have hq0 : q.2.2 = 0 → 0 ≤ q.1 ∧ q.1 ≤ 24 := by
      rw [← hq]
      unfold runB
      split
      · intro h; contradiction
      · intro h
        exact runG_range 24 s 0 (by omega) (by omega) h
    obtain ⟨q0, s1, e1⟩ := q
    have hj : ∀ (z : Int) (s2 : List Bool) (e2 : Int), (e2 = 0 → 0 ≤ z ∧ z ≤ 4611686018427387904) → rice_Take.j1 k z b (pos b s2) e2 = some (if e2 = 0 then unfZ z else 0, pos b s2, e2) := by
      intro z s2 e2 h
      obtain ⟨k, rfl, _⟩ := pred_k (show 0 < k by omega)
      simp only [rice_Take.j1]
      rw [fail_ok, bs]
      by_cases he : e2 = 0
      · rw [if_pos he, if_pos he, unf_ok (h he).1 (h he).2, bs]
      · rw [if_neg he, if_neg he]
    have hm : (2 : Int) ^ m ≤ 2 ^ 24 := by
      rw [pow_cast, pow_cast]
      exact_mod_cast Nat.pow_le_pow_right (by omega) (by omega)
    have hp := pow_bound (show m ≤ 62 by omega)
    by_cases h24 : q0 < 24
    · have hz := takeB_num s1 e1 m (by omega)
      rw [if_pos h24, if_pos (by omega), take_ok hb (by omega) hs1 _ _ (by omega), bs, if_pos h24]
      have h0 := @takeB_zero s1 e1 m
      generalize ht : takeB s1 e1 m = t at hz h0 ⊢
      obtain ⟨v, s2, e2⟩ := t
      have h0 : e2 = 0 → e1 = 0 := fun h => (h0 h).1
      rw [Int.toNat_natCast] at hz ⊢
      have hv : wrap64 v = v := w64 (by have := hz.1; show _ ≤ v; omega) (by have := hz.2.1; show v ≤ _; omega)
      show rice_Take.j1 k (Go.bits .or .i64 (shl .i64 q0 m) (wrap64 v)) b (pos b s2) e2 = some (if e2 = 0 then unfZ (q0 * 2 ^ m + v) else 0, pos b s2, e2)
      rw [hv]
      by_cases he : e2 = 0
      · have hz2 := hz.2.2 he
        have hq0' : 0 ≤ q0 ∧ q0 ≤ 24 := hq0 (h0 he)
        have hz0 : 0 ≤ v := hz.1
        have hqm : q0 * 2 ^ m ≤ 24 * 2 ^ m := Int.mul_le_mul_of_nonneg_right hq0'.2 (by omega)
        have hqm0 : 0 ≤ q0 * 2 ^ m := Int.mul_nonneg hq0'.1 (by omega)
        have hz2' : v < 2 ^ m := hz2
        rw [shl_ok (by omega) (by omega) (by omega), i64_or_low hq0'.1 hz0 hz2' (by omega), hj (q0 * 2 ^ m + v) s2 e2 (fun _ => ⟨by omega, by omega⟩)]
      · rw [hj _ _ _ (fun h => absurd h he), if_neg he, if_neg he]
    · have hz := takeB_num s1 e1 34 (by omega)
      rw [if_neg h24, take_ok hb (by omega) hs1 _ _ (by omega), bs, if_neg h24, if_pos (by omega)]
      generalize ht : takeB s1 e1 34 = t at hz ⊢
      obtain ⟨v, s2, e2⟩ := t
      have hz0 : 0 ≤ v := hz.1
      have hz1 : v ≤ 281474976710656 := hz.2.1
      show (if shr .i64 (wrap64 v) m < 24 then _ else _) = some (if (if v / 2 ^ (m : Int).toNat < 24 then giveB e2 2 else e2) = 0 then unfZ v else 0, pos b s2, (if v / 2 ^ (m : Int).toNat < 24 then giveB e2 2 else e2))
      rw [w64 (x := v) (by omega) (by omega), shr_ok _ _ (by omega), Int.toNat_natCast]
      by_cases hc : v / 2 ^ m < 24
      · rw [if_pos hc, if_pos hc, give_ok, bs]
        exact hj v s2 _ (fun _ => ⟨by omega, by omega⟩)
      · rw [if_neg hc, if_neg hc]
        exact hj v s2 _ (fun _ => ⟨by omega, by omega⟩)
end Go.Proofs.Yteoncgijnkfhfaa.Pure
end
section
/- What layer 3 takes as a list, and its reference: one plain machine. -/
namespace Go.Proofs.Yteoncgijnkfhfaa.Pure
open Go.RowKit Go.Proofs.Yteoncgijnkfhfaa.P Go.Proofs.YteoncgijnkfhfaaW.PrintWords Go.Proofs.YteoncgijnkfhfaaW.PrintLast Go.Proofs.YteoncgijnkfhfaaW.PrintMore
set_option linter.unusedVariables false
set_option linter.unusedSimpArgs false

/-- A part's numbers. -/
def innerZ (kk : Int) : Nat → List Bool → Int → List Int → List Int × List Bool × Int
  | 0, s, e, l => (l, s, e)
  | m + 1, s, e, l => if e = 0 then (if (riceZ s 0 kk).2.2 = 0 then innerZ kk m (riceZ s 0 kk).2.1 0 (l ++ [(riceZ s 0 kk).1]) else (l, (riceZ s 0 kk).2.1, (riceZ s 0 kk).2.2)) else (l, s, e)
/-- The parts. -/
def outerZ (m : Nat) : Nat → List Bool → Int → List Int → List Int → List Int × List Int × List Bool × Int
  | 0, s, e, l, K => (l, K, s, e)
  | c + 1, s, e, l, K => if e = 0 then outerZ m c (innerZ (takeB s 0 5).1 m (takeB s 0 5).2.1 (takeB s 0 5).2.2 l).2.1 (innerZ (takeB s 0 5).1 m (takeB s 0 5).2.1 (takeB s 0 5).2.2 l).2.2 (innerZ (takeB s 0 5).1 m (takeB s 0 5).2.1 (takeB s 0 5).2.2 l).1 (K ++ [(takeB s 0 5).1]) else (l, K, s, e)
theorem innerZ_stop (kk : Int) (m : Nat) (s : List Bool) {e : Int} (l : List Int) (h : e ≠ 0) : innerZ kk m s e l = (l, s, e) := by
  cases m with
  | zero => rfl
  | succ m => unfold innerZ; rw [if_neg h]
theorem outerZ_stop (m c : Nat) (s : List Bool) {e : Int} (l K : List Int) (h : e ≠ 0) : outerZ m c s e l K = (l, K, s, e) := by
  cases c with
  | zero => rfl
  | succ c => unfold outerZ; rw [if_neg h]
theorem runB_stop (s : List Bool) {e : Int} (most : Int) (h : e ≠ 0) : runB s e most = (0, s, e) := by
  unfold runB
  rw [if_pos h]
theorem takeB_stop (s : List Bool) {e : Int} (n : Int) (h : e ≠ 0) : takeB s e n = (0, s, e) := by
  unfold takeB
  rw [if_pos h]
theorem riceZ_stop (s : List Bool) {e : Int} (k : Int) (h : e ≠ 0) : (riceZ s e k).2.1 = s ∧ (riceZ s e k).2.2 ≠ 0 ∧ (riceZ s e k).2.2 = e := by
  unfold riceZ
  rw [runB_stop s 24 h]
  simp only
  rw [takeB_stop s k h]
  split
  · exact ⟨rfl, by unfold giveB; rw [if_neg h]; exact h, by unfold giveB; rw [if_neg h]⟩
  · exact ⟨by simp, by simpa using h, by simp⟩
/-- What a list's taking answers: all of it, or what went wrong. -/
def endZ (p : Int) (r : List Int × List Int × List Bool × Int) : List Int × Int × List Int := if r.2.2.2 = 0 then (r.1, p, r.2.1) else ([], 0, [])

abbrev OutR := List Int × List Int × List Bool × Int
def sAns (b : List Int) (P : Int) (r : OutR) : List Int × Int × List Int × Int × Int := ((endZ P r).1, (endZ P r).2.1, (endZ P r).2.2, pos b r.2.2.1, r.2.2.2)
theorem sAns_bad (b : List Int) (P : Int) (l K : List Int) (s : List Bool) {e : Int} (h : e ≠ 0) : sAns b P (l, K, s, e) = ([], 0, [], pos b s, e) := by
  unfold sAns endZ
  simp only
  rw [if_neg h]
theorem slide_inner {b : List Int} (hb : Bytes8 b) (hl : b.length ≤ 1000) (n P kk : Int) (N c i m : Nat) (hm : m ≤ 1024) (hic : i < c) (hc : c ≤ 8) (K : List Int)
    (hout : ∀ (k : Nat) (s : List Bool) (l : List Int), s <:+ unpack b → N ≤ k → l.length ≤ i * 2000 + 2000 → slide_Take.l0 k n l c ((i + 1 : Nat) : Int) b (pos b s) 0 P K = some (sAns b P (outerZ m (c - (i + 1)) s 0 l K))) (d : Nat) :
    ∀ (k j : Nat) (s : List Bool) (e : Int) (l : List Int), s <:+ unpack b → j + d = m → d + 1 + N + 9000 ≤ k → l.length + d ≤ i * 2000 + 2000 → (e = 0 ∨ 0 < d) →
      slide_Take.l1 k n l kk c i m j b (pos b s) e P K = some (sAns b P (outerZ m (c - (i + 1)) (innerZ kk d s e l).2.1 (innerZ kk d s e l).2.2 (innerZ kk d s e l).1 K)) := by
  induction d with
  | zero =>
    intro k j s e l hs hj hk hll he
    obtain ⟨k, rfl, _⟩ := pred_k (show 0 < k by omega)
    obtain rfl : e = 0 := by omega
    simp only [slide_Take.l1]
    rw [if_neg (by omega), w64 (x := (i : Int) + 1) (by omega) (by omega)]
    exact hout k s l hs (by omega) (by omega)
  | succ d ih =>
    intro k j s e l hs hj hk hll he
    obtain ⟨k, rfl, _⟩ := pred_k (show 0 < k by omega)
    have hsl := suf_len hs
    simp only [slide_Take.l1]
    rw [if_pos (by omega), riceTake_ok hb (by omega) hs e kk (by omega), bs, if_pos (by omega), fail_ok, bs]
    simp only
    by_cases h0 : e = 0
    · subst h0
      unfold innerZ
      rw [if_pos rfl]
      by_cases h1 : (riceZ s 0 kk).2.2 = 0
      · rw [if_pos h1, if_pos h1, h1, w64 (x := (j : Int) + 1) (by omega) (by omega)]
        have := ih k (j + 1) (riceZ s 0 kk).2.1 0 (l ++ [(riceZ s 0 kk).1]) ((riceZ_suf _ _ _).trans hs) (by omega) (by omega) (by simp; omega) (.inl rfl)
        exact_mod_cast this
      · rw [if_neg h1, if_neg h1, outerZ_stop _ _ _ _ _ h1, sAns_bad _ _ _ _ _ h1]
    · obtain ⟨r1, r2, r3⟩ := riceZ_stop s kk h0
      rw [if_neg r2, innerZ_stop _ _ _ _ h0, outerZ_stop _ _ _ _ _ h0, sAns_bad _ _ _ _ _ h0, r1, r3]
theorem slide_outer {b : List Int} (hb : Bytes8 b) (hl : b.length ≤ 1000) (n : Int) (P : Nat) (hP : P ≤ 3) (c m : Nat) (hm : m ≤ 1024) (hm0 : 0 < m) (hc : c ≤ 8) (hsh : shr .i64 n P = (m : Int)) (d : Nat) :
    ∀ (k i : Nat) (s : List Bool) (e : Int) (l K : List Int), s <:+ unpack b → i + d = c → d * 12000 + 100 ≤ k → l.length ≤ i * 2000 → K.length ≤ 100 + i → (e = 0 ∨ 0 < d) →
      slide_Take.l0 k n l c i b (pos b s) e P K = some (sAns b P (outerZ m d s e l K)) := by
  induction d with
  | zero =>
    intro k i s e l K hs hi hk hll hK he
    obtain ⟨k, rfl, _⟩ := pred_k (show 0 < k by omega)
    obtain rfl : e = 0 := by omega
    simp only [slide_Take.l0]
    rw [if_neg (by omega)]
    rfl
  | succ d ih =>
    intro k i s e l K hs hi hk hll hK he
    obtain ⟨k, rfl, _⟩ := pred_k (show 0 < k by omega)
    have hnum := takeB_num s e 5 (by omega)
    simp only [slide_Take.l0]
    rw [if_pos (by omega), take_ok hb (by omega) hs e 5 (by omega), bs, if_pos (by omega), if_pos (by omega), hsh, w64 (x := (takeB s e 5).1) (by omega) (by omega)]
    have hin := slide_inner hb hl n P (takeB s e 5).1 (d * 12000 + 100) c i m hm (by omega) hc (K ++ [(takeB s e 5).1])
      (fun k s' l hs hk hll => by
        have := ih k (i + 1) s' 0 l (K ++ [(takeB s e 5).1]) hs (by omega) (by omega) (by omega) (by simp; omega) (.inl rfl)
        rw [show c - (i + 1) = d by omega]
        exact this) m k 0 (takeB s e 5).2.1 (takeB s e 5).2.2 l ((takeB_suf s e 5).trans hs) (by omega) (by omega) (by omega) (.inr hm0)
    rw [show c - (i + 1) = d by omega] at hin
    rw [show ((0 : Nat) : Int) = 0 from rfl] at hin
    rw [hin]
    by_cases h0 : e = 0
    · subst h0
      conv => rhs; unfold outerZ
      rw [if_pos rfl]
    · rw [takeB_stop s 5 h0]
      simp only
      rw [innerZ_stop _ _ _ _ h0, outerZ_stop _ _ _ _ _ h0, outerZ_stop _ _ _ _ _ h0, sAns_bad _ _ _ _ _ h0, sAns_bad _ _ _ _ _ h0]
/-- What both answer: the list, P, the parameters, the bits left, the error. -/
def takeS (s : List Bool) (n : Int) : OutR × Int :=
  if wholeZ n 0 = false then (([], [], s, 1), 0)
  else if wholeZ n (takeB s 0 2).1 = false then (([], [], (takeB s 0 2).2.1, giveB (takeB s 0 2).2.2 2), (takeB s 0 2).1)
  else (outerZ (n / 2 ^ (takeB s 0 2).1.toNat).toNat (2 ^ (takeB s 0 2).1.toNat) (takeB s 0 2).2.1 (takeB s 0 2).2.2 [] [], (takeB s 0 2).1)
theorem take2_range (s : List Bool) : ∃ p : Nat, (takeB s 0 2).1 = p ∧ p ≤ 3 := by
  have := takeB_num s 0 2 (by omega)
  unfold takeB at this ⊢
  rw [if_neg (by simp), if_neg (by omega)] at this ⊢
  split
  · exact ⟨0, rfl, by omega⟩
  · rename_i h
    rw [if_neg h] at this
    have h3 := this.2.2 rfl
    have : (2 : Int) ^ (2 : Int).toNat = 4 := rfl
    exact ⟨(numL (s.take (2 : Int).toNat)).toNat, by omega, by omega⟩
theorem whole_div {n : Int} {p : Nat} (hp : p ≤ 3) (h : wholeZ n p = true) : 1 ≤ n ∧ n ≤ 1024 ∧ n % 2 ^ p = 0 ∧ 0 < n / 2 ^ p ∧ n / 2 ^ p ≤ 1024 := by
  unfold wholeZ at h
  simp only [Bool.and_eq_true, decide_eq_true_eq, Int.toNat_natCast] at h
  obtain ⟨h1, h2, _, _, h5⟩ := h
  have hp4 : p = 0 ∨ p = 1 ∨ p = 2 ∨ p = 3 := by omega
  rcases hp4 with rfl | rfl | rfl | rfl <;> simp at h5 ⊢ <;> omega
theorem shl_one {p : Nat} (hp : p ≤ 3) : shl .i64 1 (p : Int) = ((2 ^ p : Nat) : Int) := by
  have hp4 : p = 0 ∨ p = 1 ∨ p = 2 ∨ p = 3 := by omega
  rcases hp4 with rfl | rfl | rfl | rfl <;> decide +kernel
theorem takeS_1 {s : List Bool} {n : Int} (h : wholeZ n 0 = false) : takeS s n = (([], [], s, 1), 0) := by
  unfold takeS
  rw [if_pos h]
theorem takeS_2 {s : List Bool} {n : Int} (h : wholeZ n 0 = true) (h1 : wholeZ n (takeB s 0 2).1 = false) : takeS s n = (([], [], (takeB s 0 2).2.1, giveB (takeB s 0 2).2.2 2), (takeB s 0 2).1) := by
  unfold takeS
  rw [if_neg (by rw [h]; simp), if_pos h1]
theorem takeS_3 {s : List Bool} {n : Int} (h : wholeZ n 0 = true) (h1 : wholeZ n (takeB s 0 2).1 = true) : takeS s n = (outerZ (n / 2 ^ (takeB s 0 2).1.toNat).toNat (2 ^ (takeB s 0 2).1.toNat) (takeB s 0 2).2.1 (takeB s 0 2).2.2 [] [], (takeB s 0 2).1) := by
  unfold takeS
  rw [if_neg (by rw [h]; simp), if_neg (by rw [h1]; simp)]
set_option maxRecDepth 100000 in
theorem slide_take_ok {b : List Int} (hb : Bytes8 b) (hl : b.length ≤ 1000) {s : List Bool} (hs : s <:+ unpack b) (n : Int) {k : Nat} (hk : 150000 ≤ k) :
    slide_Take.f k b (pos b s) 0 n = some (sAns b (takeS s n).2 (takeS s n).1) := by
  have hsl := suf_len hs
  unfold slide_Take.f
  rw [whole_eq, bs]
  cases h0 : wholeZ n 0 with
  | false =>
    rw [if_neg (by simp), give_ok, bs, takeS_1 h0]
    rfl
  | true =>
    obtain ⟨p, hp, hp3⟩ := take2_range s
    rw [if_pos rfl, take_ok hb (by omega) hs 0 2 (by omega), bs]
    simp only
    rw [hp, w64 (x := (p : Int)) (by omega) (by omega), whole_eq, bs]
    cases h1 : wholeZ n (p : Int) with
    | false =>
      have he : giveB (takeB s 0 2).2.2 2 ≠ 0 := by unfold giveB; split <;> simp_all
      rw [if_neg (by simp), give_ok, bs, takeS_2 h0 (by rw [hp]; exact h1)]
      simp only
      rw [sAns_bad _ _ _ _ _ he]
    | true =>
      obtain ⟨q1, q2, q3, q4, q5⟩ := whole_div hp3 h1
      rw [if_pos rfl, if_pos (by omega), shl_one hp3, takeS_3 h0 (by rw [hp]; exact h1), hp]
      simp only
      rw [Int.toNat_natCast]
      have hm : ((n / 2 ^ p).toNat : Int) = n / 2 ^ p := Int.toNat_of_nonneg (by omega)
      have hc8 : 2 ^ p ≤ 8 := by have := Nat.pow_le_pow_right (n := 2) (by omega) hp3; omega
      have hc1 : 0 < 2 ^ p := Nat.pow_pos (by omega)
      have := slide_outer hb hl n p hp3 (2 ^ p) (n / 2 ^ p).toNat (by omega) (by omega) hc8 (by rw [shr_ok n p (by omega), hm]) (2 ^ p) k 0 (takeB s 0 2).2.1 (takeB s 0 2).2.2 [] [] ((takeB_suf s 0 2).trans hs) (by omega) (by have := Nat.mul_le_mul_right 12000 hc8; omega) (by simp) (by simp) (.inr hc1)
      exact this
end Go.Proofs.Yteoncgijnkfhfaa.Pure
end
