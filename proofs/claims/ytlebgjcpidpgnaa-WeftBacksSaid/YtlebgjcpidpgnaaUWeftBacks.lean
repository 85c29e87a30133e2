/- The pure statement of the law WeftBacks. -/
import Derived.Test.YtlebgjcpidpgnaaPx0
import Derived.Test.YtlebgjcpidpgnaaPx18
import Derived.Test.YtlebgjcpidpgnaaPx17
import Derived.Test.YtlebgjcpidpgnaaUWeft
namespace Go.Proofs.Ytlebgjcpidpgnaa.Pure
open Go.RowKit Go.Proofs.Ytlebgjcpidpgnaa.P Go.Proofs.YtlebgjcpidpgnaaW.PrintWords Go.Proofs.YtlebgjcpidpgnaaW.PrintLast Go.Proofs.YtlebgjcpidpgnaaW.PrintMore
set_option linter.unusedVariables false
set_option linter.unusedSimpArgs false

theorem rBack_l0 {rest m : List Int} (s : Bool) (q g0 g1 g2 : Int) {most : Int} (hm0 : 0 ≤ most) (hm1 : most ≤ 8388607) (h0 : -16 ≤ g0 ∧ g0 ≤ 15) (h1 : -16 ≤ g1 ∧ g1 ≤ 15) (h2 : -16 ≤ g2 ∧ g2 ≤ 15) (hm : m.any farP = false) (ho : rest.length ≤ 1000000) (hr : ∀ x ∈ rest, -9223372036854775808 ≤ x ∧ x ≤ 9223372036854775807) (d : Nat) : ∀ (k i : Nat) (out : List Int), i + d = rest.length → out.length ≤ i → 2 * d < k → sackbutref11_Back.l0 k rest m most out rest.length i s q g0 g1 g2 = some (backZ g0 g1 g2 m most i out (rest.drop i)) := by
  induction d with
  | zero =>
    intro k i out hi hol hk
    obtain ⟨k, rfl, _⟩ := pred_k (show 0 < k by omega)
    simp only [sackbutref11_Back.l0]
    rw [if_neg (by omega), List.drop_eq_nil_of_le (by omega)]
    rfl
  | succ d ih =>
    intro k i out hi hol hk
    obtain ⟨k, rfl, _⟩ := pred_k (show 0 < k by omega)
    obtain ⟨k, rfl, _⟩ := pred_k (show 0 < k by omega)
    have hlt : i < rest.length := by omega
    have hx : rd rest i = rest[i] := by simp [rd, List.getD, hlt]
    have hxr := hr _ (List.getElem_mem hlt)
    have hf := fore_small h0 h1 h2 hm i
    have hih := ih k (i + 1) (out ++ [rd rest i + foreI g0 g1 g2 m i]) (by omega) (by rw [List.length_append]; simp; omega) (by omega)
    simp only [sackbutref11_Back.l0]
    rw [if_pos (by omega), if_pos (by omega), if_pos (by omega), List.drop_eq_getElem_cons hlt, backZ, ← hx]
    rw [← hx] at hxr
    have hj : sackbutref11_Back.j2 (k + 1) rest m most out i rest.length i true s q g0 g1 g2 = some ([], 9) := by
      simp only [sackbutref11_Back.j2]
      rw [if_pos trivial]
    by_cases hb : rd rest i > 1099511627776
    · rw [if_pos hb, hj, if_pos (by omega)]
    rw [if_neg hb]
    by_cases hs : rd rest i < -1099511627776
    · rw [decide_eq_true hs, hj, if_neg (by omega), if_pos (by omega)]
    rw [decide_eq_false hs]
    simp only [sackbutref11_Back.j2]
    rw [if_neg (by simp), if_pos (by omega), if_pos (by omega), rfore_ok (by omega), bs, w64 (x := rd rest i + foreI g0 g1 g2 m i) (by omega) (by omega), w64 (x := -most) (by omega) (by omega), w64 (x := -most - 1) (by omega) (by omega), w64 (x := (i : Int) + 1) (by omega) (by omega)]
    by_cases hh : rd rest i > most - foreI g0 g1 g2 m i
    · rw [if_pos (by omega), if_pos hh]
    · rw [if_neg (by omega), if_neg hh]
      by_cases hl : rd rest i < -most - 1 - foreI g0 g1 g2 m i
      · rw [if_pos (by omega), if_pos hl]
      · rw [if_neg (by omega), if_neg hl, if_pos (by omega)]
        exact hih
theorem rBack_ok (s : Bool) (q g0 g1 g2 : Int) {rest master : List Int} (most : Int) (ho : rest.length ≤ 1000000) (hm : master.length ≤ 1000000) (hr : ∀ x ∈ rest, -9223372036854775808 ≤ x ∧ x ≤ 9223372036854775807) {k : Nat} (hk : 2 * rest.length + master.length + 2 < k) : sackbutref11_Back.f k s q g0 g1 g2 rest master most = some (wbackR s q g0 g1 g2 rest master most) := by
  obtain ⟨k, rfl, _⟩ := pred_k (show 0 < k by omega)
  unfold sackbutref11_Back.f wbackR
  rw [rgood_w, bs]
  have hj : sackbutref11_Back.j0 (k + 1) rest master most true s q g0 g1 g2 = some ([], 1) := by
    simp only [sackbutref11_Back.j0]
    rw [if_pos trivial]
  by_cases hg : goodW s q g0 g1 g2 = true
  · obtain ⟨h0, h1, h2⟩ := goodW_gains hg
    rw [if_pos hg, if_pos hg]
    by_cases hl : rest.length = master.length
    · rw [if_pos (by omega), if_pos hl]
      by_cases hlo : most < 0
      · rw [if_pos hlo, if_pos hlo, hj]
      rw [if_neg hlo, if_neg hlo]
      by_cases hhi : most > 8388607
      · rw [decide_eq_true hhi, hj, if_pos (by omega)]
      rw [decide_eq_false hhi, if_neg (by omega)]
      simp only [sackbutref11_Back.j0]
      rw [if_neg (by simp), in_ok hm (by omega), bs]
      cases hb : master.any farP with
      | true => rfl
      | false =>
        rw [if_pos (by simp), if_neg (by simp)]
        exact rBack_l0 s q g0 g1 g2 (by omega) (by omega) h0 h1 h2 hb ho hr rest.length k 0 [] (by omega) (by simp) (by omega)
    · rw [if_neg (by omega), if_neg hl]
  · rw [if_neg hg, if_neg hg]
/-- The channel that comes back has that rest. -/
theorem rest_back (g0 g1 g2 : Int) (m : List Int) {most : Int} : ∀ (es out : List Int), (backZ g0 g1 g2 m most out.length out es).2 = 0 →
    (backZ g0 g1 g2 m most out.length out es).1.length = out.length + es.length ∧ (backZ g0 g1 g2 m most out.length out es).1.take out.length = out ∧ ∀ i : Nat, i < es.length → rd (backZ g0 g1 g2 m most out.length out es).1 ((out.length + i : Nat) : Int) = rd es i + foreI g0 g1 g2 m (out.length + i) ∧ -most - 1 ≤ rd es i + foreI g0 g1 g2 m (out.length + i) ∧ rd es i + foreI g0 g1 g2 m (out.length + i) ≤ most := by
  intro es
  induction es with
  | nil =>
    intro out _
    refine ⟨rfl, ?_, ?_⟩
    · rw [backZ, List.take_length]
    · intro i hi; exact absurd hi (by simp)
  | cons e es ih =>
    intro out h0
    rw [backZ] at h0 ⊢
    by_cases h1 : e > most - foreI g0 g1 g2 m out.length
    · rw [if_pos h1] at h0; exact absurd h0 (show ¬ (9 : Int) = 0 by decide)
    rw [if_neg h1] at h0 ⊢
    by_cases h2 : e < -most - 1 - foreI g0 g1 g2 m out.length
    · rw [if_pos h2] at h0; exact absurd h0 (show ¬ (9 : Int) = 0 by decide)
    rw [if_neg h2] at h0 ⊢
    have hlen : (out ++ [e + foreI g0 g1 g2 m out.length]).length = out.length + 1 := by rw [List.length_append]; rfl
    have ih' := ih (out ++ [e + foreI g0 g1 g2 m out.length])
    rw [hlen] at ih'
    obtain ⟨g1', g2', g3'⟩ := ih' h0
    generalize backZ g0 g1 g2 m most (out.length + 1) (out ++ [e + foreI g0 g1 g2 m out.length]) es = r at g1' g2' g3' ⊢
    obtain ⟨r, c⟩ := r
    have g1' : r.length = out.length + 1 + es.length := g1'
    have g2' : r.take (out.length + 1) = out ++ [e + foreI g0 g1 g2 m out.length] := g2'
    have ht : r.take out.length = out := by
      have := congrArg (List.take out.length) g2'
      rw [List.take_take, show min out.length (out.length + 1) = out.length by omega, List.take_left] at this
      exact this
    have hx : rd r (out.length : Int) = e + foreI g0 g1 g2 m out.length := by
      have h3 : rd (r.take (out.length + 1)) (out.length : Int) = rd r (out.length : Int) := by
        rw [rd_nat, rd_nat, List.getD, List.getD, List.getElem?_take_of_lt (by omega)]
      rw [← h3, g2']
      exact rd_end _ _ rfl
    refine ⟨by rw [List.length_cons]; show r.length = _; omega, ht, ?_⟩
    intro i hi
    show rd r _ = _ ∧ _
    cases i with
    | zero =>
      rw [Nat.add_zero, rd_cons_zero, hx]
      exact ⟨rfl, by omega, by omega⟩
    | succ i =>
      rw [List.length_cons] at hi
      have h4 := g3' i (by omega)
      rw [rd_cons_succ, show out.length + (i + 1) = out.length + 1 + i by omega]
      exact h4
theorem wbackR_len (s : Bool) (q g0 g1 g2 : Int) (rest master : List Int) (most : Int) : (wbackR s q g0 g1 g2 rest master most).1.length ≤ rest.length := by
  have hb : ∀ (es : List Int) (i : Nat) (out : List Int), (backZ g0 g1 g2 master most i out es).1.length ≤ out.length + es.length := by
    intro es
    induction es with
    | nil => intro i out; exact Nat.le_refl _
    | cons e es ih =>
      intro i out
      rw [backZ, List.length_cons]
      split
      · simp
      · split
        · simp
        · have := ih (i + 1) (out ++ [e + foreI g0 g1 g2 master i])
          rw [List.length_append, List.length_singleton] at this
          omega
  unfold wbackR
  split
  · split
    · split
      · simp
      · split
        · simp
        · split
          · simp
          · have := hb rest 0 []
            simpa using this
    · simp
  · simp
theorem rest_of_back {s : Bool} {q g0 g1 g2 most : Int} {rest master : List Int} (hr : ∀ x ∈ rest, -9223372036854775808 ≤ x ∧ x ≤ 9223372036854775807) (h : (wbackR s q g0 g1 g2 rest master most).2 = 0) : wrestR s q g0 g1 g2 (wbackR s q g0 g1 g2 rest master most).1 master = (rest, 0) := by
  unfold wbackR at h ⊢
  by_cases hg : goodW s q g0 g1 g2 = true
  case neg => rw [if_neg hg] at h; exact absurd h (show ¬ (2 : Int) = 0 by decide)
  rw [if_pos hg] at h ⊢
  by_cases hl : rest.length = master.length
  case neg => rw [if_neg hl] at h; exact absurd h (show ¬ (8 : Int) = 0 by decide)
  rw [if_pos hl] at h ⊢
  by_cases hlo : most < 0
  case pos => rw [if_pos hlo] at h; exact absurd h (show ¬ (1 : Int) = 0 by decide)
  rw [if_neg hlo] at h ⊢
  by_cases hhi : most ≥ 8388608
  case pos => rw [if_pos hhi] at h; exact absurd h (show ¬ (1 : Int) = 0 by decide)
  rw [if_neg hhi] at h ⊢
  by_cases hb : master.any farP = true
  case pos => rw [if_pos hb] at h; exact absurd h (show ¬ (9 : Int) = 0 by decide)
  rw [if_neg hb] at h ⊢
  have hz := rest_back g0 g1 g2 master (most := most) rest [] h
  rw [List.length_nil] at hz
  generalize backZ g0 g1 g2 master most 0 [] rest = r at h hz ⊢
  obtain ⟨r, c⟩ := r
  obtain ⟨z1, _, z3⟩ := hz
  have z1 : r.length = rest.length := by have : r.length = 0 + rest.length := z1; omega
  have z3 : ∀ i : Nat, i < rest.length → rd r i = rd rest i + foreI g0 g1 g2 master i ∧ -most - 1 ≤ rd rest i + foreI g0 g1 g2 master i ∧ rd rest i + foreI g0 g1 g2 master i ≤ most := by
    intro i hi
    have := z3 i hi
    rw [Nat.zero_add] at this
    exact this
  have hfar : ¬ r.any farP = true := by
    intro hh
    obtain ⟨x, hx, hp⟩ := List.any_eq_true.mp hh
    obtain ⟨i, hi, rfl⟩ := List.mem_iff_getElem.mp hx
    have h4 := z3 i (by omega)
    have he : rd r i = r[i] := by simp [rd, List.getD, hi]
    rw [he] at h4
    unfold farP at hp
    rw [Bool.or_eq_true, decide_eq_true_eq, decide_eq_true_eq] at hp
    omega
  show wrestR s q g0 g1 g2 r master = (rest, 0)
  unfold wrestR
  rw [if_pos hg, if_pos (by omega), if_neg hfar, if_neg hb]
  congr 1
  refine ext_rd (by rw [wresZ_length, z1]) fun i hi => ?_
  rw [wresZ_length] at hi
  have h4 := z3 i (by omega)
  have hri : rd rest i = rest[i] := by simp [rd, List.getD, show i < rest.length by omega]
  have hrr := hr _ (List.getElem_mem (show i < rest.length by omega))
  unfold wresZ
  rw [rd_tab hi]
  unfold wresF
  rw [h4.1, show rd rest i + foreI g0 g1 g2 master i - foreI g0 g1 g2 master i = rd rest i by omega, hri, w64 hrr.1 hrr.2]

theorem WeftBacks : ∀ (a_1 : Bool) (a_2 : Int) (a_3 : Int) (a_4 : Int) (a_5 : Int) (l_6 : List Int) (l_7 : List Int) (a2 : Int), (Lit.int .i64 a_2).wf = true → (Lit.int .i64 a_3).wf = true → (Lit.int .i64 a_4).wf = true → (Lit.int .i64 a_5).wf = true → l_6.length ≤ maxLen → (∀ x ∈ l_6, (Lit.int .i64 x).wf = true) → l_7.length ≤ maxLen → (∀ x ∈ l_7, (Lit.int .i64 x).wf = true) → (Lit.int .i64 a2).wf = true → ∃ k, sackbutlaw11_WeftBacks.f k a_1 a_2 a_3 a_4 a_5 l_6 l_7 a2 = some true := by
  intro s q g0 g1 g2 rest master most _ _ _ _ _ hr64 _ _ _
  have hr : ∀ x ∈ rest, -9223372036854775808 ≤ x ∧ x ≤ 9223372036854775807 := fun x hx => i64b (hr64 x hx)
  refine ⟨1000 + 1 + 1, ?_⟩
  unfold sackbutlaw11_WeftBacks.f
  rw [awake11 (by omega), bs, if_pos rfl]
  have hend : sackbutlaw11_WeftBacks.j0 (1000 + 1 + 1) most true s q g0 g1 g2 rest master = some true := by
    simp only [sackbutlaw11_WeftBacks.j0]
    rw [if_pos trivial, awake11 (by omega), bs]
  by_cases h1 : (rest.length : Int) > 80
  · rw [if_pos h1, hend]
  rw [if_neg h1]
  by_cases h2 : (master.length : Int) > 80
  · rw [decide_eq_true h2, hend]
  rw [decide_eq_false h2]
  simp only [sackbutlaw11_WeftBacks.j0]
  have hlen := wbackR_len s q g0 g1 g2 rest master most
  rw [if_neg (by simp), Back_ok s q g0 g1 g2 _ (by omega) (by omega), bs, rBack_ok s q g0 g1 g2 _ (by omega) (by omega) hr (by omega), bs, if_pos rfl, same_ok _ _ (by omega) (by omega), bs, decide_eq_true rfl]
  simp only [sackbutlaw11_WeftBacks.j1]
  show (if false = true then _ else _) = _
  rw [if_neg (by simp), Rest_ok s q g0 g1 g2 (by omega) (by omega) (by omega), bs]
  by_cases hz : (wbackR s q g0 g1 g2 rest master most).2 = 0
  · rw [if_pos hz, rest_of_back hr hz]
    show (if (0 : Int) = 0 then _ else _) = _
    rw [if_pos rfl]
    show ((sackbutref01_Same.f _ rest rest).bind _) = _
    rw [same_ok rest rest (by omega) (by omega), bs, decide_eq_true rfl]
  · rw [if_neg hz]
end Go.Proofs.Ytlebgjcpidpgnaa.Pure
