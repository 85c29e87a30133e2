/- What layer 7's samples are, by the program and by the reference; there and back. -/
import Derived.Test.YtoglefgjiaoopaaPx0
import Derived.Test.YtoglefgjiaoopaaPx13
import Derived.Test.YtoglefgjiaoopaaPx14
import Derived.Test.YtoglefgjiaoopaaHSam
import Derived.Test.YtoglefgjiaoopaaHMask
import Derived.Test.YtoglefgjiaoopaaUFilter
namespace Go.Proofs.Ytoglefgjiaoopaa.Pure
open Go.RowKit Go.Proofs.Ytoglefgjiaoopaa.P Go.Proofs.YtoglefgjiaoopaaW.PrintWords Go.Proofs.YtoglefgjiaoopaaW.PrintLast Go.Proofs.YtoglefgjiaoopaaW.PrintMore
set_option linter.unusedVariables false
set_option linter.unusedSimpArgs false

theorem fpower_l0 (n : Nat) (hn : n ≤ 62) (d : Nat) : ∀ (k i : Nat), i + d = n → d < k → sackbutref01_Power.l0 k n (2 ^ i) i = some (2 ^ n) := by
  induction d with
  | zero =>
    intro k i hi hk
    obtain ⟨k, rfl, _⟩ := pred_k hk
    simp only [sackbutref01_Power.l0]
    rw [if_neg (by omega), show i = n by omega]
  | succ d ih =>
    intro k i hi hk
    obtain ⟨k, rfl, hk'⟩ := pred_k hk
    simp only [sackbutref01_Power.l0]
    have hb := pow_bound (show i ≤ 62 by omega)
    have hb1 := pow_bound (show i + 1 ≤ 62 by omega)
    have e : (2 : Int) ^ i * 2 = 2 ^ (i + 1) := (Int.pow_succ 2 i).symm
    rw [if_pos (by omega), w64 (x := (2 : Int) ^ i * 2) (by omega) (by omega), w64 (x := (i : Int) + 1) (by omega) (by omega), e]
    have := ih k (i + 1) (by omega) (by omega)
    exact_mod_cast this
theorem power60 {k : Nat} (hk : 60 < k) : sackbutref01_Power.f k 60 = some 1152921504606846976 := by
  have := fpower_l0 60 (by omega) 60 k 0 (by omega) hk
  simpa [sackbutref01_Power.f] using this

/-- The samples of residuals, behind 'out'. -/
def samZ (l : List Int) (most : Int) : List Int → List Int → List Int × Int
  | out, [] => (out, 0)
  | out, e :: es => if wrap64 (e + foreZ l out) < -most - 1 then ([], 9) else if wrap64 (e + foreZ l out) > most then ([], 9) else samZ l most (out ++ [wrap64 (e + foreZ l out)]) es
theorem samAll_ok {l : List Int} (hl : l.length ≤ 1000) (most : Int) {k : Nat} (hk : l.length < k) : ∀ (es out : List Int), out.length + es.length ≤ 1000000 → samAll k (bankZ l) most out es = some (samZ l most out es) := by
  intro es
  induction es with
  | nil => intro out _; rfl
  | cons e es ih =>
    intro out h
    rw [List.length_cons] at h
    rw [samAll, samZ, foresee_ok hl (by omega) hk, bs]
    split
    · rfl
    · split
      · rfl
      · exact ih _ (by rw [List.length_append]; simp; omega)
def samR (l s : List Int) (most : Int) : List Int × Int :=
  if goodL l = true then (if most < 0 then ([], 1) else if most > 67108864 then ([], 1) else if s.any hugeP = true then ([], 9) else samZ l most [] s) else ([], 1)
theorem sam_ok {l s : List Int} (hl : l.length ≤ 1000) (hs : s.length ≤ 1000000) (most : Int) {k : Nat} (hk : l.length < k) : filter_Samples.f k l s most = some (samR l s most) := by
  unfold filter_Samples.f samR
  rw [good_ok, bs]
  split
  · split
    · rfl
    · split
      · rfl
      · rw [if_pos (by omega)]
        split
        · rfl
        · rw [open_ok (by omega) hk, bs, samAll_ok hl most hk _ _ (by simpa using hs)]
  · rfl
theorem rsam_l1 {l s : List Int} (hl : l.length ≤ 24) (hs : s.length ≤ 1000) {most : Int} (hm0 : 0 ≤ most) (hm1 : most ≤ 67108864) (d : Nat) : ∀ (k i : Nat) (out : List Int), i + d = s.length → out.length = i → d + 1600 < k → sackbutref07_Samples.l1 k l s most out s.length i = some (samZ l most out (s.drop i)) := by
  induction d with
  | zero =>
    intro k i out hi ho hk
    obtain ⟨k, rfl, _⟩ := pred_k (show 0 < k by omega)
    simp only [sackbutref07_Samples.l1]
    rw [if_neg (by omega), List.drop_eq_nil_of_le (by omega)]
    rfl
  | succ d ih =>
    intro k i out hi ho hk
    obtain ⟨k, rfl, _⟩ := pred_k (show 0 < k by omega)
    simp only [sackbutref07_Samples.l1]
    have hlt : i < s.length := by omega
    have hx : rd s i = s[i] := by simp [rd, List.getD, hlt]
    have := ih k (i + 1) (out ++ [wrap64 (rd s i + foreZ l out)]) (by omega) (by rw [List.length_append]; simp; omega) (by omega)
    rw [if_pos (by omega), if_pos (by omega), if_pos (by omega), rforesee_ok hl (by omega) (by omega), bs, w64 (x := -most) (by omega) (by omega), w64 (x := -most - 1) (by omega) (by omega), w64 (x := (i : Int) + 1) (by omega) (by omega), List.drop_eq_getElem_cons hlt, samZ, ← hx]
    generalize wrap64 (rd s i + foreZ l out) = y at this ⊢
    by_cases h1 : y > most
    · rw [if_pos h1, if_neg (by omega), if_pos h1]
    · rw [if_neg h1]
      by_cases h2 : y < -most - 1
      · rw [if_pos h2, if_pos h2]
      · rw [if_neg h2, if_neg h2, if_neg h1, if_pos (by omega)]
        exact this
theorem rsam_l0 {l s : List Int} (hl : l.length ≤ 24) (hs : s.length ≤ 1000) {most : Int} (hm0 : 0 ≤ most) (hm1 : most ≤ 67108864) (d : Nat) : ∀ (k i : Nat), i + d = s.length → d + 3000 < k → sackbutref07_Samples.l0 k l s most s.length i = some (if (s.drop i).any hugeP = true then ([], 9) else samZ l most [] s) := by
  induction d with
  | zero =>
    intro k i hi hk
    obtain ⟨k, rfl, _⟩ := pred_k (show 0 < k by omega)
    simp only [sackbutref07_Samples.l0]
    rw [if_neg (by omega), List.drop_eq_nil_of_le (by omega)]
    exact rsam_l1 hl hs hm0 hm1 s.length k 0 [] (by omega) rfl (by omega)
  | succ d ih =>
    intro k i hi hk
    obtain ⟨k, rfl, _⟩ := pred_k (show 0 < k by omega)
    simp only [sackbutref07_Samples.l0]
    have := ih k (i + 1) (by omega) (by omega)
    rw [if_pos (by omega), if_pos (by omega), if_pos (by omega), power60 (by omega), bs, bs, w64 (x := (i : Int) + 1) (by omega) (by omega), w64 (x := -1152921504606846976) (by omega) (by omega), drop_any (by omega), show hugeP (rd s i) = (decide (rd s i < -1152921504606846976) || decide (rd s i > 1152921504606846976)) from rfl]
    by_cases h2 : rd s i > 1152921504606846976
    · rw [if_pos h2, decide_eq_true h2]
      simp
    · by_cases h1 : rd s i < -1152921504606846976
      · rw [if_neg h2, if_pos h1, decide_eq_true h1]
        rfl
      · rw [if_neg h2, if_neg h1, decide_eq_false h1, decide_eq_false h2, Bool.false_or, Bool.false_or]
        exact this
theorem rsam_ok {l s : List Int} (hl : l.length ≤ 24) (hs : s.length ≤ 1000) (most : Int) {k : Nat} (hk : 4200 < k) : sackbutref07_Samples.f k l s most = some (samR l s most) := by
  obtain ⟨k, rfl, _⟩ := pred_k (show 0 < k by omega)
  unfold sackbutref07_Samples.f samR
  rw [rgood_ok (by omega) (by omega), bs]
  have hb : sackbutref07_Samples.j0 (k + 1) l s most true = some ([], 1) := by
    simp only [sackbutref07_Samples.j0]
    rw [if_pos trivial]
  split
  · by_cases h0 : most < 0
    · rw [if_pos h0, if_pos h0, hb]
    · rw [if_neg h0, if_neg h0]
      by_cases h1 : most > 67108864
      · rw [decide_eq_true h1, if_pos h1, hb]
      · rw [decide_eq_false h1, if_neg h1]
        simp only [sackbutref07_Samples.j0]
        rw [if_neg (by simp)]
        exact rsam_l0 hl hs (by omega) (by omega) s.length k 0 (by omega) (by omega)
  · exact hb

/- there and back -/
theorem wrap_back (a b : Int) : wrap64 (wrap64 (a - b) + b) = wrap64 a := by unfold wrap64; omega
theorem wrap_there (a b : Int) : wrap64 (wrap64 (a + b) - b) = wrap64 a := by unfold wrap64; omega
theorem sam_res {l s : List Int} (ha : ¬ s.any loudP = true) (d : Nat) : ∀ i : Nat, i + d = s.length → samZ l 67108864 (s.take i) ((resZ l s).drop i) = (s, 0) := by
  induction d with
  | zero =>
    intro i hi
    rw [List.drop_eq_nil_of_le (by rw [resZ_length]; omega), List.take_of_length_le (by omega)]
    rfl
  | succ d ih =>
    intro i hi
    have hlt : i < s.length := by omega
    have hb := no_loud ha hlt
    have hd : (resZ l s).drop i = resF l s i :: (resZ l s).drop (i + 1) := tab_drop _ _ hlt
    have hx : wrap64 (resF l s i + foreZ l (s.take i)) = rd s i := by
      unfold resF
      rw [wrap_back, w64 (by omega) (by omega)]
    have ht : s.take i ++ [rd s i] = s.take (i + 1) := by
      rw [List.take_succ_eq_append_getElem hlt]
      simp [rd, List.getD, hlt]
    rw [hd, samZ, hx, if_neg (by omega), if_neg (by omega), ht]
    exact ih (i + 1) (by omega)
theorem res_sam (l : List Int) {most : Int} : ∀ (es out : List Int), (∀ x ∈ es, -9223372036854775808 ≤ x ∧ x ≤ 9223372036854775807) → (samZ l most out es).2 = 0 →
    (samZ l most out es).1.length = out.length + es.length ∧ (samZ l most out es).1.take out.length = out ∧ (∀ i : Nat, i < es.length → resF l (samZ l most out es).1 (out.length + i) = rd es i) ∧ ∀ i : Nat, i < es.length → -most - 1 ≤ rd (samZ l most out es).1 ((out.length + i : Nat) : Int) ∧ rd (samZ l most out es).1 ((out.length + i : Nat) : Int) ≤ most := by
  intro es
  induction es with
  | nil =>
    intro out _ _
    refine ⟨rfl, ?_, ?_, ?_⟩
    · rw [samZ, List.take_length]
    · intro i hi; exact absurd hi (by simp)
    · intro i hi; exact absurd hi (by simp)
  | cons e es ih =>
    intro out hes h0
    rw [samZ] at h0 ⊢
    have he := hes e List.mem_cons_self
    by_cases h1 : wrap64 (e + foreZ l out) < -most - 1
    · rw [if_pos h1] at h0; exact absurd h0 (show ¬ (9 : Int) = 0 by decide)
    rw [if_neg h1] at h0 ⊢
    by_cases h2 : wrap64 (e + foreZ l out) > most
    · rw [if_pos h2] at h0; exact absurd h0 (show ¬ (9 : Int) = 0 by decide)
    rw [if_neg h2] at h0 ⊢
    have hw := wrap_there e (foreZ l out)
    obtain ⟨g1, g2, g3, g4⟩ := ih (out ++ [wrap64 (e + foreZ l out)]) (fun x hx => hes x (List.mem_cons_of_mem _ hx)) h0
    generalize hr : samZ l most (out ++ [wrap64 (e + foreZ l out)]) es = r at g1 g2 g3 g4 ⊢
    obtain ⟨r, c⟩ := r
    rw [List.length_append, List.length_singleton] at g1 g2 g3 g4
    have g1 : r.length = out.length + 1 + es.length := g1
    have g2 : r.take (out.length + 1) = out ++ [wrap64 (e + foreZ l out)] := g2
    have ht : r.take out.length = out := by
      have := congrArg (List.take out.length) g2
      rw [List.take_take, show min out.length (out.length + 1) = out.length by omega, List.take_left] at this
      exact this
    have hx : rd r (out.length : Int) = wrap64 (e + foreZ l out) := by
      have h3 : rd (r.take (out.length + 1)) (out.length : Int) = rd r (out.length : Int) := take_rd' r _ _ (by omega)
      rw [← h3, g2]
      exact rd_end _ _ rfl
    refine ⟨by rw [List.length_cons]; show r.length = _; omega, ht, ?_, ?_⟩
    · intro i hi
      show resF l r (out.length + i) = _
      cases i with
      | zero =>
        rw [Nat.add_zero, rd_cons_zero]
        unfold resF
        rw [ht, hx, hw, w64 he.1 he.2]
      | succ i =>
        rw [List.length_cons] at hi
        rw [rd_cons_succ, ← g3 i (by omega), show out.length + (i + 1) = out.length + 1 + i by omega]
    · intro i hi
      show -most - 1 ≤ rd r _ ∧ rd r _ ≤ most
      cases i with
      | zero =>
        rw [Nat.add_zero, hx]
        omega
      | succ i =>
        rw [List.length_cons] at hi
        have := g4 i (by omega)
        rw [show out.length + (i + 1) = out.length + 1 + i by omega]
        exact this
end Go.Proofs.Ytoglefgjiaoopaa.Pure
