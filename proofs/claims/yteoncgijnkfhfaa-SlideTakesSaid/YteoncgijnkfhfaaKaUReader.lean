/- What layer 1's reader answers, as one plain machine on the bits that are left; the reference's reader is the same. -/
import Derived.Test.YteoncgijnkfhfaaKaPx0
import Derived.Test.YteoncgijnkfhfaaKaPx1
import Derived.Test.YteoncgijnkfhfaaKaPx3
import Derived.Test.YteoncgijnkfhfaaKaUBits2
namespace Go.Proofs.Yteoncgijnkfhfaa.Pure
open Go.RowKit Go.Proofs.Yteoncgijnkfhfaa.P Go.Proofs.YteoncgijnkfhfaaW.PrintWords Go.Proofs.YteoncgijnkfhfaaW.PrintLast Go.Proofs.YteoncgijnkfhfaaW.PrintMore
set_option linter.unusedVariables false
set_option linter.unusedSimpArgs false

def giveB (e c : Int) : Int := if e = 0 then c else e
def takeB (s : List Bool) (e n : Int) : Int × List Bool × Int :=
  if e ≠ 0 then (0, s, e) else if n < 0 ∨ 48 < n then (0, s, 1) else if (s.length : Int) < n then (0, s, 3) else (numL (s.take n.toNat), s.drop n.toNat, 0)
theorem takeB_suf (s : List Bool) (e n : Int) : (takeB s e n).2.1 <:+ s := by
  unfold takeB
  split
  · exact List.suffix_refl _
  · split
    · exact List.suffix_refl _
    · split
      · exact List.suffix_refl _
      · exact List.drop_suffix _ _
theorem give_ok (b : List Int) (p e c : Int) : pipe_Reader_Give.f b p e c = some (p, giveB e c) := by
  unfold pipe_Reader_Give.f giveB
  split <;> rfl
theorem rgive_ok (s : ByteArray) (a e c : Int) : sackbutref01_Give.f s a e c = some (s, a, giveB e c) := by
  unfold sackbutref01_Give.f giveB
  split <;> rfl
theorem fail_ok (b : List Int) (p e : Int) : pipe_Reader_Fail.f b p e = some (e, p, e) := rfl

theorem take_l0 {b : List Int} (hb : Bytes8 b) (hl : b.length ≤ 10000000) (n : Nat) (hn : n ≤ 48) (d : Nat) : ∀ (k i : Nat) (l s : List Bool), i + d = n → l.length = i → d ≤ s.length → s <:+ unpack b → d < k → pipe_Reader_Take.l0 k (numL l) n i b (pos b s) 0 = some (numL (l ++ s.take d), pos b (s.drop d), 0) := by
  induction d with
  | zero =>
    intro k i l s hi hli hd hs hk
    obtain ⟨k, rfl, _⟩ := pred_k hk
    simp only [pipe_Reader_Take.l0]
    rw [if_neg (by omega)]
    simp
  | succ d ih =>
    intro k i l s hi hli hd hs hk
    obtain ⟨k, rfl, hk'⟩ := pred_k hk
    simp only [pipe_Reader_Take.l0]
    cases s with
    | nil => simp at hd
    | cons c s =>
      rw [List.length_cons] at hd
      have hr := numL_range l
      have hp : (2 : Int) ^ l.length ≤ 2 ^ 48 := by
        rw [pow_cast, pow_cast]
        exact_mod_cast Nat.pow_le_pow_right (by omega) (by omega)
      have e : 2 * numL l + (if c = true then 1 else 0) = numL (l ++ [c]) := by
        rw [numL_app, numL_cons]
        simp [numL, numA]
        omega
      rw [if_pos (by omega), bit_ok hb hl hs, bs, u64_or1 hr.1 (by omega) (by split <;> omega) (by split <;> omega), w64 (x := (i : Int) + 1) (by omega) (by omega), e]
      have := ih k (i + 1) (l ++ [c]) s (by omega) (by simp; omega) (by omega) (suf_tail hs) (by omega)
      rw [List.append_assoc] at this
      exact_mod_cast this
theorem take_ok {b : List Int} (hb : Bytes8 b) (hl : b.length ≤ 10000000) {s : List Bool} (hs : s <:+ unpack b) (e n : Int) {k : Nat} (hk : 52 < k) : pipe_Reader_Take.f k b (pos b s) e n = some ((takeB s e n).1, pos b (takeB s e n).2.1, (takeB s e n).2.2) := by
  obtain ⟨k, rfl, hk1⟩ := pred_k (show 51 < k by omega)
  obtain ⟨k, rfl, hk2⟩ := pred_k (show 50 < k by omega)
  have hj1 : ∀ e', e' ≠ 0 → pipe_Reader_Take.j1 (k + 1) n b (pos b s) e' = some (0, pos b s, e') := by
    intro e' h
    simp only [pipe_Reader_Take.j1]
    rw [if_neg h]
  unfold pipe_Reader_Take.f takeB
  by_cases h1 : n < 0 ∨ 48 < n
  · have e0 : (if n < 0 then pipe_Reader_Take.j0 (k + 1 + 1) n true b (pos b s) e else pipe_Reader_Take.j0 (k + 1 + 1) n (decide (n > 48)) b (pos b s) e) = pipe_Reader_Take.j0 (k + 1 + 1) n true b (pos b s) e := by
      split
      · rfl
      · rw [decide_eq_true (by omega)]
    rw [e0]
    simp only [pipe_Reader_Take.j0]
    rw [if_pos trivial, give_ok, bs]
    unfold giveB
    by_cases he : e = 0
    · rw [if_pos he, hj1 1 (by omega), if_neg (by omega), if_pos h1]
    · rw [if_neg he, hj1 e he, if_pos he]
  · have h1' : 0 ≤ n ∧ n ≤ 48 := by omega
    rw [if_neg (by omega), decide_eq_false (by omega)]
    simp only [pipe_Reader_Take.j0]
    rw [if_neg (by simp), left_ok hl hs, bs]
    by_cases h2 : n > s.length
    · rw [if_pos h2, give_ok, bs]
      unfold giveB
      by_cases he : e = 0
      · rw [if_pos he, hj1 3 (by omega), if_neg (by omega), if_neg h1, if_pos (by omega)]
      · rw [if_neg he, hj1 e he, if_pos he]
    · rw [if_neg h2]
      by_cases he : e = 0
      · subst he
        rw [if_neg (by omega), if_neg h1, if_neg (by omega)]
        simp only [pipe_Reader_Take.j1]
        rw [if_pos trivial]
        obtain ⟨m, rfl⟩ := Int.eq_ofNat_of_zero_le h1'.1
        have := take_l0 hb hl m (by omega) m k 0 [] s (by omega) rfl (by omega) hs (by omega)
        exact this
      · rw [hj1 e he, if_pos he]
theorem rtake_ok (s : List Bool) (hs : s.length ≤ 100000000) (a e n : Int) {k : Nat} (hk : 52 < k) : sackbutref01_Take.f k (txt s) a e n = some (txt (takeB s e n).2.1, a, (takeB s e n).2.2, (takeB s e n).1) := by
  obtain ⟨k, rfl, hk1⟩ := pred_k (show 51 < k by omega)
  unfold sackbutref01_Take.f takeB
  by_cases h1 : n < 0 ∨ 48 < n
  · have e0 : (if n < 0 then sackbutref01_Take.j0 (k + 1) n true (txt s) a e else sackbutref01_Take.j0 (k + 1) n (decide (n > 48)) (txt s) a e) = sackbutref01_Take.j0 (k + 1) n true (txt s) a e := by
      split
      · rfl
      · rw [decide_eq_true (by omega)]
    rw [e0]
    simp only [sackbutref01_Take.j0]
    rw [if_pos trivial, rgive_ok, bs]
    unfold giveB
    by_cases he : e = 0
    · rw [if_pos he, if_neg (by omega), if_pos h1]
    · rw [if_neg he, if_pos he]
  · have h1' : 0 ≤ n ∧ n ≤ 48 := by omega
    obtain ⟨m, rfl⟩ := Int.eq_ofNat_of_zero_le h1'.1
    rw [if_neg (by omega), decide_eq_false (by omega)]
    simp only [sackbutref01_Take.j0]
    rw [if_neg (by simp), txt_size, rgive_ok, bs]
    by_cases h2 : (m : Int) > s.length
    · rw [if_pos h2]
      unfold giveB
      by_cases he : e = 0
      · rw [if_pos he, if_neg (show ¬ (3 : Int) = 0 by omega), if_neg (by omega), if_neg h1, if_pos (by omega)]
      · rw [if_neg he, if_neg he, if_pos he]
    · rw [if_neg h2]
      by_cases he : e = 0
      · subst he
        have hln : (s.take m).length = m := by rw [List.length_take]; omega
        rw [if_pos rfl, if_pos h1'.1, if_pos (by omega), if_neg (by omega), if_neg h1, if_neg (by omega), Int.toNat_natCast, txt_take, txt_drop, number_ok (by omega) (by omega), bs]
      · rw [if_neg he, if_pos he]
end Go.Proofs.Yteoncgijnkfhfaa.Pure
