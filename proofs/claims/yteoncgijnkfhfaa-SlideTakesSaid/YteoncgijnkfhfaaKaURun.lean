/- Noughts up to a bit 1, as the plain machine has them. -/
import Derived.Test.YteoncgijnkfhfaaKaPx0
import Derived.Test.YteoncgijnkfhfaaKaPx2
import Derived.Test.YteoncgijnkfhfaaKaPx4
import Derived.Test.YteoncgijnkfhfaaKaUReader
namespace Go.Proofs.Yteoncgijnkfhfaa.Pure
open Go.RowKit Go.Proofs.Yteoncgijnkfhfaa.P Go.Proofs.YteoncgijnkfhfaaW.PrintWords Go.Proofs.YteoncgijnkfhfaaW.PrintLast Go.Proofs.YteoncgijnkfhfaaW.PrintMore
set_option linter.unusedVariables false
set_option linter.unusedSimpArgs false

/-- From i noughts on, at most 'most' of them. -/
def runG (most : Int) : Int → List Bool → Int × List Bool × Int
  | i, [] => (0, [], 3)
  | i, true :: s => (i, s, 0)
  | i, false :: s => if i ≥ most then (0, s, 1) else runG most (i + 1) s
def runB (s : List Bool) (e most : Int) : Int × List Bool × Int := if e ≠ 0 then (0, s, e) else runG most 0 s
theorem runG_suf (most : Int) : ∀ (s : List Bool) (i : Int), (runG most i s).2.1 <:+ s := by
  intro s
  induction s with
  | nil => intro i; exact List.suffix_refl _
  | cons c s ih =>
    intro i
    cases c with
    | true => exact List.suffix_cons _ _
    | false =>
      rw [runG]
      split
      · exact List.suffix_cons _ _
      · exact (ih (i + 1)).trans (List.suffix_cons _ _)
theorem runB_suf (s : List Bool) (e most : Int) : (runB s e most).2.1 <:+ s := by
  unfold runB
  split
  · exact List.suffix_refl _
  · exact runG_suf _ _ _
theorem zerosl_end (b : List Int) (most i p e : Int) (he : e ≠ 0) {k : Nat} (hk : 0 < k) : pipe_Reader_Zeros.l0 k most i b p e = some (0, p, e) := by
  obtain ⟨k, rfl, _⟩ := pred_k hk
  simp only [pipe_Reader_Zeros.l0]
  rw [if_neg he]
theorem zeros_g {b : List Int} (hb : Bytes8 b) (hl : b.length ≤ 10000000) (most : Int) : ∀ (s : List Bool) (k i : Nat), s <:+ unpack b → i + s.length ≤ 100000000 → s.length + 1 < k → pipe_Reader_Zeros.l0 k most i b (pos b s) 0 = some ((runG most i s).1, pos b (runG most i s).2.1, (runG most i s).2.2) := by
  intro s
  induction s with
  | nil =>
    intro k i hs hil hk
    obtain ⟨k, rfl, _⟩ := pred_k (show 0 < k by omega)
    simp only [pipe_Reader_Zeros.l0]
    rw [if_pos trivial, left_ok hl hs, bs, if_pos (by rfl), give_ok, bs]
    exact zerosl_end b most _ _ 3 (by decide) (by omega)
  | cons c s ih =>
    intro k i hs hil hk
    obtain ⟨k, rfl, _⟩ := pred_k (show 0 < k by omega)
    simp only [pipe_Reader_Zeros.l0]
    rw [List.length_cons] at hil hk
    rw [if_pos trivial, left_ok hl hs, bs, if_neg (by simp; omega), bit_ok hb hl hs, bs]
    cases c with
    | true => rfl
    | false =>
      rw [if_neg (show ¬ ((if false = true then 1 else 0 : Int) = 1) by decide)]
      by_cases hm : (i : Int) ≥ most
      · rw [if_pos hm, give_ok, bs, runG, if_pos hm]
        exact zerosl_end b most _ _ 1 (by decide) (by omega)
      · rw [if_neg hm, runG, if_neg hm, w64 (x := (i : Int) + 1) (by omega) (by omega)]
        have := ih k (i + 1) (suf_tail hs) (by omega) (by omega)
        exact_mod_cast this
theorem pzeros_ok {b : List Int} (hb : Bytes8 b) (hl : b.length ≤ 10000000) {s : List Bool} (hs : s <:+ unpack b) (e most : Int) {k : Nat} (hk : s.length + 1 < k) : pipe_Reader_Zeros.f k b (pos b s) e most = some ((runB s e most).1, pos b (runB s e most).2.1, (runB s e most).2.2) := by
  have hn := suf_len hs
  unfold pipe_Reader_Zeros.f runB
  by_cases he : e = 0
  · subst he
    rw [if_neg (by omega)]
    exact zeros_g hb hl most s k 0 hs (by omega) hk
  · rw [if_pos he]
    exact zerosl_end b most 0 _ e he (by omega)
theorem run_g (most a : Int) : ∀ (s : List Bool) (k i : Nat), i + s.length ≤ 100000000 → s.length < k → sackbutref01_Run.l0 k most i (txt s) a 0 = some (txt (runG most i s).2.1, a, (runG most i s).2.2, (runG most i s).1) := by
  intro s
  induction s with
  | nil =>
    intro k i hil hk
    obtain ⟨k, rfl, _⟩ := pred_k (show 0 < k by omega)
    simp only [sackbutref01_Run.l0, txt_empty]
    rw [if_pos trivial, if_pos trivial, rgive_ok, bs]
    rfl
  | cons c s ih =>
    intro k i hil hk
    obtain ⟨k, rfl, _⟩ := pred_k (show 0 < k by omega)
    rw [List.length_cons] at hil hk
    have e1 : (txt (c :: s)).extract 1 (txt (c :: s)).size = txt s := by rw [txt_size, txt_drop]; rfl
    have e2 : bt (txt (c :: s)) 0 = if c = true then 49 else 48 := by
      have := txt_bt (l := c :: s) (i := 0) (by simp)
      exact this
    simp only [sackbutref01_Run.l0, txt_empty]
    rw [if_pos trivial, if_neg (by simp), txt_size, if_pos (by simp), if_pos (by simp; omega), e2]
    rw [txt_size] at e1
    cases c with
    | true =>
      rw [if_pos (by simp), e1]
      rfl
    | false =>
      rw [if_neg (by simp), e1, runG]
      by_cases hm : (i : Int) ≥ most
      · rw [if_pos hm, if_pos hm, rgive_ok, bs]
        rfl
      · rw [if_neg hm, if_neg hm, w64 (x := (i : Int) + 1) (by omega) (by omega)]
        have := ih k (i + 1) (by omega) (by omega)
        exact_mod_cast this
theorem run_ok (s : List Bool) (hs : s.length ≤ 100000000) (a e most : Int) {k : Nat} (hk : s.length < k) : sackbutref01_Run.f k (txt s) a e most = some (txt (runB s e most).2.1, a, (runB s e most).2.2, (runB s e most).1) := by
  unfold sackbutref01_Run.f runB
  by_cases he : e = 0
  · subst he
    rw [if_neg (by omega)]
    exact run_g most a s k 0 (by omega) hk
  · obtain ⟨k, rfl, _⟩ := pred_k (show 0 < k by omega)
    simp only [sackbutref01_Run.l0]
    rw [if_neg he, if_pos he]
end Go.Proofs.Yteoncgijnkfhfaa.Pure
