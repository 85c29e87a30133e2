/- What the printed functions on lag terms answer: the plain lists behind them. -/
import Derived.Test.YtofjckfdofkikaaPx0
import Derived.Test.YtofjckfdofkikaaPx5
import Derived.Test.YtofjckfdofkikaaPx7
import Derived.Test.YtofjckfdofkikaaPx6
import Derived.Test.YtofjckfdofkikaaHLag
import Derived.Test.YtofjckfdofkikaaUTools
import Derived.Test.YtofjckfdofkikaaUSame
namespace Go.Proofs.Ytofjckfdofkikaa.Pure
open Go.RowKit Go.Proofs.Ytofjckfdofkikaa.P Go.Proofs.YtofjckfdofkikaaW.PrintWords Go.Proofs.YtofjckfdofkikaaW.PrintLast Go.Proofs.YtofjckfdofkikaaW.PrintMore
set_option linter.unusedVariables false
set_option linter.unusedSimpArgs false

/-- Numbers that aren't too great. -/
def Fits (l : List Int) : Prop := ∀ x ∈ l, -1099511627776 ≤ x ∧ x ≤ 1099511627776
theorem lagOut_false (x : Int) : lagOut x = false ↔ -1099511627776 ≤ x ∧ x ≤ 1099511627776 := by simp [lagOut]
theorem any_lagOut (l : List Int) : l.any lagOut = false ↔ Fits l := by
  simp only [List.any_eq_false, Bool.not_eq_true, lagOut_false, Fits]
def goodT (a b : Int) : Bool := (decide (a = 0) && decide (b = 0)) || (decide (a ≥ 1) && decide (a ≤ 255) && decide (b ≥ 1) && decide (b ≤ 15))
theorem term_good (a b : Int) : lag_Term_Good.f a b = some (goodT a b) := by
  unfold lag_Term_Good.f goodT
  repeat' split
  all_goals (congr 1; rw [Bool.eq_iff_iff]; simp only [Bool.or_eq_true, Bool.and_eq_true, decide_eq_true_eq, beq_iff_eq, Bool.false_eq_true, true_iff, false_iff] at *; omega)
theorem ref_good (a b : Int) : sackbutref08_Good.f a b = some (goodT a b) := by
  unfold sackbutref08_Good.f goodT
  repeat' split
  all_goals (congr 1; rw [Bool.eq_iff_iff]; simp only [Bool.or_eq_true, Bool.and_eq_true, decide_eq_true_eq, beq_iff_eq, Bool.false_eq_true, true_iff, false_iff] at *; omega)
/-- What is wrong with a term and numbers: 0, 1 or 9. -/
def wrongT (a b : Int) (l : List Int) : Int := if goodT a b = true then (if l.any lagOut = true then 9 else 0) else 1
theorem term_wrong (a b : Int) (l : List Int) (hl : l.length ≤ 140737488355328) : lag_Term_wrong.f a b l = some (wrongT a b l) := by
  unfold lag_Term_wrong.f wrongT
  rw [if_pos hl, term_good, bs]
  cases goodT a b <;> simp
  split <;> simp
theorem wrong_l0 (l : List Int) (hm : l.length ≤ 4611686018427387904) (d : Nat) : ∀ (k i : Nat), i + d = l.length → d < k → (l.take i).any lagOut = false →
    sackbutref08_Wrong.l0 k l l.length i = some (if l.any lagOut = true then 9 else 0) := by
  induction d with
  | zero =>
    intro k i hi hk hp
    obtain ⟨k, rfl, _⟩ := pred_k hk
    simp only [sackbutref08_Wrong.l0]
    rw [if_neg (by omega)]
    rw [List.take_of_length_le (by omega)] at hp
    simp [hp]
  | succ d ih =>
    intro k i hi hk hp
    obtain ⟨k, rfl, hk'⟩ := pred_k hk
    simp only [sackbutref08_Wrong.l0]
    rw [if_pos (by omega), if_pos (by omega), if_pos (by omega)]
    have hlt : i < l.length := by omega
    have hmem : rd l i ∈ l := rd_mem (by omega) (by omega)
    by_cases h1 : rd l i > 1099511627776
    · rw [if_pos h1]
      have : l.any lagOut = true := List.any_eq_true.mpr ⟨_, hmem, by simp [lagOut]; omega⟩
      simp [this]
    · rw [if_neg h1]
      by_cases h2 : rd l i < -1099511627776
      · rw [if_pos h2]
        have : l.any lagOut = true := List.any_eq_true.mpr ⟨_, hmem, by simp [lagOut]; omega⟩
        simp [this]
      · rw [if_neg h2, w64 (by omega) (by omega)]
        have := ih k (i + 1) (by omega) (by omega) (by
          rw [take_succ_rd l i hlt, List.any_append, hp]
          simp [(lagOut_false (rd l i)).mpr (by omega)])
        exact_mod_cast this
theorem ref_wrong (a b : Int) (l : List Int) (hm : l.length ≤ 4611686018427387904) {k : Nat} (hk : l.length < k) : sackbutref08_Wrong.f k a b l = some (wrongT a b l) := by
  unfold sackbutref08_Wrong.f wrongT
  rw [ref_good, bs]
  cases goodT a b
  · simp
  · simpa using wrong_l0 l hm l.length k 0 (by omega) hk (by simp)
theorem wrong_zero {a b : Int} {l : List Int} (h : wrongT a b l = 0) : goodT a b = true ∧ Fits l := by
  unfold wrongT at h
  split at h
  · split at h
    · cases h
    · next h1 h2 => exact ⟨h1, (any_lagOut l).mp (by simpa using h2)⟩
  · cases h
theorem wrong_of {a b : Int} {l : List Int} (h1 : goodT a b = true) (h2 : Fits l) : wrongT a b l = 0 := by
  unfold wrongT
  rw [if_pos h1, (any_lagOut l).mpr h2]
  rfl
theorem good_cases {a b : Int} (h : goodT a b = true) : (a = 0 ∧ b = 0) ∨ (1 ≤ a ∧ a ≤ 255 ∧ 1 ≤ b ∧ b ≤ 15) := by
  simp [goodT] at h
  omega

/-- What a term takes off at place i of numbers. -/
def partT (a b : Int) (l : List Int) (i : Int) : Int := if a = 0 ∨ i < a then 0 else rd l (i - a) * b / 16
theorem fits_rd {l : List Int} (h : Fits l) (i : Int) : -1099511627776 ≤ rd l i ∧ rd l i ≤ 1099511627776 := by
  by_cases hi : i.toNat < l.length
  · simp only [rd, List.getD, List.getElem?_eq_getElem hi, Option.getD_some]
    exact h _ (List.getElem_mem hi)
  · simp [rd, List.getD, List.getElem?_eq_none (Nat.not_lt.mp hi)]
theorem mul15 {x b : Int} (h1 : -1099511627776 ≤ x) (h2 : x ≤ 1099511627776) (h3 : 0 ≤ b) (h4 : b ≤ 15) : -16492674416640 ≤ x * b ∧ x * b ≤ 16492674416640 := by
  have h : b = 0 ∨ b = 1 ∨ b = 2 ∨ b = 3 ∨ b = 4 ∨ b = 5 ∨ b = 6 ∨ b = 7 ∨ b = 8 ∨ b = 9 ∨ b = 10 ∨ b = 11 ∨ b = 12 ∨ b = 13 ∨ b = 14 ∨ b = 15 := by omega
  rcases h with rfl | rfl | rfl | rfl | rfl | rfl | rfl | rfl | rfl | rfl | rfl | rfl | rfl | rfl | rfl | rfl <;> omega
theorem part_bound {a b : Int} {l : List Int} (hg : goodT a b = true) (hf : Fits l) (i : Int) : -1099511627776 ≤ partT a b l i ∧ partT a b l i ≤ 1099511627776 := by
  unfold partT
  split
  · omega
  · have hb := fits_rd hf (i - a)
    have := mul15 (b := b) hb.1 hb.2 (by rcases good_cases hg with h | h <;> omega) (by rcases good_cases hg with h | h <;> omega)
    omega
theorem term_part {a b : Int} {l : List Int} (hg : goodT a b = true) (hf : Fits l) {i : Int} (h0 : 0 ≤ i) (hi : i ≤ l.length) (hm : l.length ≤ 4611686018427387904) : lag_Term_part.f a b l i = some (partT a b l i) := by
  unfold lag_Term_part.f partT
  rcases good_cases hg with ⟨rfl, rfl⟩ | hc
  · simp
  · rw [if_neg (by omega)]
    by_cases hia : i < a
    · rw [if_pos hia, if_pos (by omega)]
    · rw [if_neg hia, if_neg (show ¬ (a = 0 ∨ i < a) by omega), w64 (x := i - a) (by omega) (by omega), if_pos (by omega), if_pos (by omega)]
      have hb := fits_rd hf (i - a)
      have := mul15 (b := b) hb.1 hb.2 (by omega) (by omega)
      rw [w64 (by omega) (by omega)]
theorem ref_down {x : Int} (h1 : -4611686018427387904 ≤ x) (h2 : x ≤ 4611686018427387904) : sackbutref08_down.f x = some (x / 16) := by
  unfold sackbutref08_down.f
  have h3 := Int.mul_tdiv_add_tmod x 16
  by_cases h0 : 0 ≤ x
  · have h4 := Int.tmod_nonneg 16 h0
    rw [if_neg (by omega), Int.tdiv_eq_ediv_of_nonneg h0, w64 (by omega) (by omega)]
  · have h5 : x.tmod 16 = -((-x) % 16) := by
      rw [← Int.neg_neg x, Int.neg_tmod, Int.neg_neg, Int.tmod_eq_emod_of_nonneg (by omega)]
    have h6 : x.tdiv 16 = -((-x) / 16) := by
      rw [← Int.neg_neg x, Int.neg_tdiv, Int.neg_neg, Int.tdiv_eq_ediv_of_nonneg (by omega)]
    rw [h5, h6]
    split
    · rw [w64 (x := -((-x) / 16)) (by omega) (by omega), w64 (by omega) (by omega)]
      congr 1
      omega
    · rw [w64 (by omega) (by omega)]
      congr 1
      omega

/-- Numbers less what a term takes off. -/
def offT (a b : Int) (l : List Int) : List Int := tab l.length fun i => rd l i - partT a b l i
theorem off_l0 {a b : Int} {l : List Int} (hg : goodT a b = true) (hf : Fits l) (hm : l.length ≤ 1000000) (d : Nat) : ∀ (k i : Nat), i + d = l.length → d < k →
    lag_Term_off.l0 k l (tab i fun i => rd l i - partT a b l i) l l.length i a b = some (offT a b l) := by
  induction d with
  | zero =>
    intro k i hi hk
    obtain ⟨k, rfl, _⟩ := pred_k hk
    simp only [lag_Term_off.l0]
    rw [if_neg (by omega)]
    obtain rfl : i = l.length := by omega
    rfl
  | succ d ih =>
    intro k i hi hk
    obtain ⟨k, rfl, hk'⟩ := pred_k hk
    simp only [lag_Term_off.l0]
    have h1 := fits_rd hf i
    have h2 := part_bound hg hf i
    rw [if_pos (by omega), if_pos (by omega), if_pos (by omega), term_part hg hf (by omega) (by omega) (by omega), bs, if_pos (by rw [tab_length]; omega), w64 (x := rd l i - partT a b l i) (by omega) (by omega), w64 (by omega) (by omega)]
    have := ih k (i + 1) (by omega) (by omega)
    rw [tab_succ] at this
    exact_mod_cast this
theorem term_off {a b : Int} {l : List Int} (hg : goodT a b = true) (hf : Fits l) (hm : l.length ≤ 1000000) {k : Nat} (hk : l.length < k) : lag_Term_off.f k a b l = some (offT a b l) :=
  off_l0 hg hf hm l.length k 0 (by omega) hk
theorem term_Off {a b : Int} {l : List Int} (hm : l.length ≤ 1000000) {k : Nat} (hk : l.length < k) : lag_Term_Off.f k a b l = some (if wrongT a b l = 0 then (offT a b l, 0) else ([], wrongT a b l)) := by
  unfold lag_Term_Off.f
  rw [term_wrong a b l (by omega), bs]
  split
  · next h =>
    obtain ⟨h1, h2⟩ := wrong_zero h
    rw [term_off h1 h2 hm hk, bs]
  · rfl
theorem refoff_l0 {a b : Int} {l : List Int} (hg : goodT a b = true) (hf : Fits l) (hm : l.length ≤ 1000000) (d : Nat) : ∀ (k i : Nat), i + d = l.length → d < k →
    sackbutref08_Off.l0 k a b l (tab i fun i => rd l i - partT a b l i) l.length i = some (offT a b l) := by
  induction d with
  | zero =>
    intro k i hi hk
    obtain ⟨k, rfl, _⟩ := pred_k hk
    simp only [sackbutref08_Off.l0]
    rw [if_neg (by omega)]
    obtain rfl : i = l.length := by omega
    rfl
  | succ d ih =>
    intro k i hi hk
    obtain ⟨k, rfl, hk'⟩ := pred_k hk
    simp only [sackbutref08_Off.l0]
    have h1 := fits_rd hf i
    have h2 := part_bound hg hf i
    have h3 := fits_rd hf (i - a)
    have h4 := mul15 (b := b) h3.1 h3.2 (by rcases good_cases hg with h | h <;> omega) (by rcases good_cases hg with h | h <;> omega)
    have h5 := good_cases hg
    have := ih k (i + 1) (by omega) (by omega)
    rw [tab_succ] at this
    rw [if_pos (by omega), if_pos (by omega), if_pos (by omega)]
    by_cases ha : a > 0
    · rw [if_pos ha]
      by_cases hia : (i : Int) ≥ a
      · have hp : partT a b l i = rd l (i - a) * b / 16 := by unfold partT; rw [if_neg (by omega)]
        rw [if_pos hia, w64 (x := (i : Int) - a) (by omega) (by omega), if_pos (by omega), if_pos (by omega), w64 (x := rd l (i - a) * b) (by omega) (by omega), ref_down (by omega) (by omega), bs, if_pos (by rw [tab_length]; omega), ← hp, w64 (x := rd l i - partT a b l i) (by omega) (by omega), w64 (by omega) (by omega)]
        exact_mod_cast this
      · have hp : partT a b l i = 0 := by unfold partT; rw [if_pos (by omega)]
        rw [if_neg hia, if_pos (by rw [tab_length]; omega), w64 (by omega) (by omega)]
        rw [hp, Int.sub_zero] at this
        exact_mod_cast this
    · have hp : partT a b l i = 0 := by unfold partT; rw [if_pos (by omega)]
      rw [if_neg ha, if_pos (by rw [tab_length]; omega), w64 (by omega) (by omega)]
      rw [hp, Int.sub_zero] at this
      exact_mod_cast this
theorem ref_off {a b : Int} {l : List Int} (hg : goodT a b = true) (hf : Fits l) (hm : l.length ≤ 1000000) {k : Nat} (hk : l.length < k) : sackbutref08_Off.f k a b l = some (offT a b l) :=
  refoff_l0 hg hf hm l.length k 0 (by omega) hk

/-- Numbers back, behind those that are back already; none: one is too great. -/
def onT (a b : Int) : List Int → List Int → Option (List Int)
  | [], out => some out
  | x :: r, out => if lagOut (x + partT a b out out.length) = true then none else onT a b r (out ++ [x + partT a b out out.length])
def onR (o : Option (List Int)) : List Int × Int := match o with | some o => (o, 0) | none => ([], 9)
theorem drop_cons (l : List Int) (i : Nat) (h : i < l.length) : l.drop i = rd l i :: l.drop (i + 1) := by
  rw [List.drop_eq_getElem_cons h, rd_nat]
  simp [List.getD, h]
theorem fits_snoc {l : List Int} {x : Int} (h : Fits l) (hx : lagOut x = false) : Fits (l ++ [x]) := by
  intro y hy
  rcases List.mem_append.mp hy with hy | hy
  · exact h y hy
  · rw [List.mem_singleton] at hy
    subst hy
    exact (lagOut_false y).mp hx
theorem outside_eq (x : Int) : lag_outside.f x = some (lagOut x) := by
  unfold lag_outside.f lagOut
  by_cases h : x < -1099511627776
  · rw [if_pos h]; simp [h]
  · rw [if_neg h]; simp only [h, decide_false, Bool.false_or]
theorem on_l0 {a b : Int} {l : List Int} (hg : goodT a b = true) (hf : Fits l) (hm : l.length ≤ 1000000) (d : Nat) : ∀ (k i : Nat) (out : List Int), i + d = l.length → d < k → out.length = i → Fits out →
    lag_Term_On.l0 k out l l.length i a b = some (onR (onT a b (l.drop i) out)) := by
  induction d with
  | zero =>
    intro k i out hi hk ho hfo
    obtain ⟨k, rfl, _⟩ := pred_k hk
    simp only [lag_Term_On.l0]
    rw [if_neg (by omega), List.drop_of_length_le (by omega)]
    rfl
  | succ d ih =>
    intro k i out hi hk ho hfo
    obtain ⟨k, rfl, hk'⟩ := pred_k hk
    simp only [lag_Term_On.l0]
    have h1 := fits_rd hf i
    have h2 := part_bound hg hfo i
    rw [if_pos (by omega), if_pos (by omega), if_pos (by omega), term_part hg hfo (by omega) (by omega) (by omega), bs, w64 (x := rd l i + partT a b out i) (by omega) (by omega), outside_eq, bs, drop_cons l i (by omega)]
    simp only [onT, ho]
    cases hx : lagOut (rd l i + partT a b out i) with
    | true => simp [onR]
    | false =>
      simp only [Bool.false_eq_true, if_false]
      rw [if_pos (by omega), w64 (by omega) (by omega)]
      have := ih k (i + 1) (out ++ [rd l i + partT a b out i]) (by omega) (by omega) (by simp [ho]) (fits_snoc hfo hx)
      exact_mod_cast this
theorem term_On {a b : Int} {l : List Int} (hm : l.length ≤ 1000000) {k : Nat} (hk : l.length < k) : lag_Term_On.f k a b l = some (if wrongT a b l = 0 then onR (onT a b l []) else ([], wrongT a b l)) := by
  unfold lag_Term_On.f
  rw [term_wrong a b l (by omega), bs]
  split
  · next h =>
    obtain ⟨h1, h2⟩ := wrong_zero h
    have := on_l0 h1 h2 hm l.length k 0 [] (by omega) hk rfl (fun x hx => by cases hx)
    simpa using this
  · rfl
theorem refon_l0 {a b : Int} {l : List Int} (hg : goodT a b = true) (hf : Fits l) (hm : l.length ≤ 1000000) (d : Nat) : ∀ (k i : Nat) (out : List Int), i + d = l.length → 2 * d < k → out.length = i → Fits out →
    sackbutref08_On.l0 k a b l out l.length i = some (onR (onT a b (l.drop i) out)) := by
  induction d with
  | zero =>
    intro k i out hi hk ho hfo
    obtain ⟨k, rfl, _⟩ := pred_k hk
    simp only [sackbutref08_On.l0]
    rw [if_neg (by omega), List.drop_of_length_le (by omega)]
    rfl
  | succ d ih =>
    intro k i out hi hk ho hfo
    obtain ⟨k, rfl, hk'⟩ := pred_k hk
    obtain ⟨k, rfl⟩ : ∃ m, k = m + 1 := ⟨k - 1, by omega⟩
    simp only [sackbutref08_On.l0]
    have h1 := fits_rd hf i
    have h2 := part_bound hg hfo i
    have h5 := good_cases hg
    have h3 := fits_rd hfo (i - a)
    have h4 := mul15 (b := b) h3.1 h3.2 (by omega) (by omega)
    have key : ∀ x, x = rd l i + partT a b out i → (if x > 1099511627776 then some (([] : List Int), (9 : Int)) else (if x < -1099511627776 then some ([], 9) else (if out.length < 17592186044416 then sackbutref08_On.l0 k a b l (out ++ [x]) l.length (wrap64 (i + 1)) else none))) = some (onR (onT a b (l.drop i) out)) := by
      rintro x rfl
      rw [drop_cons l i (by omega)]
      simp only [onT, ho]
      cases hx : lagOut (rd l i + partT a b out i) with
      | true =>
        simp [lagOut] at hx
        by_cases hgt : rd l i + partT a b out i > 1099511627776
        · rw [if_pos hgt]; simp [onR]
        · rw [if_neg hgt, if_pos (by omega)]; simp [onR]
      | false =>
        have hx' := (lagOut_false _).mp hx
        rw [if_neg (by omega), if_neg (by omega), if_pos (by omega), if_neg (by simp), w64 (by omega) (by omega)]
        have := ih k (i + 1) (out ++ [rd l i + partT a b out i]) (by omega) (by omega) (by simp [ho]) (fits_snoc hfo hx)
        exact_mod_cast this
    rw [if_pos (by omega), if_pos (by omega), if_pos (by omega)]
    by_cases ha : a > 0
    · rw [if_pos ha]
      simp only [sackbutref08_On.j1]
      by_cases hia : (i : Int) ≥ a
      · have hp : partT a b out i = rd out (i - a) * b / 16 := by unfold partT; rw [if_neg (by omega)]
        rw [if_pos (by simpa using hia), w64 (x := (i : Int) - a) (by omega) (by omega), if_pos (by omega), if_pos (by omega), w64 (x := rd out (i - a) * b) (by omega) (by omega), ref_down (by omega) (by omega), bs, ← hp, w64 (x := rd l i + partT a b out i) (by omega) (by omega)]
        exact key _ rfl
      · have hp : partT a b out i = 0 := by unfold partT; rw [if_pos (by omega)]
        rw [if_neg (by simpa using hia)]
        exact key _ (by omega)
    · have hp : partT a b out i = 0 := by unfold partT; rw [if_pos (by omega)]
      rw [if_neg ha]
      simp only [sackbutref08_On.j1]
      rw [if_neg (by simp)]
      exact key _ (by omega)
theorem ref_on {a b : Int} {l : List Int} (hg : goodT a b = true) (hf : Fits l) (hm : l.length ≤ 1000000) {k : Nat} (hk : 2 * l.length < k) : sackbutref08_On.f k a b l = some (onR (onT a b l [])) := by
  have := refon_l0 hg hf hm l.length k 0 [] (by omega) hk rfl (fun x hx => by cases hx)
  simpa [sackbutref08_On.f] using this

theorem part_ext {a b : Int} {l m : List Int} {i : Nat} (hg : goodT a b = true) (h : ∀ j : Nat, j < i → rd l j = rd m j) : partT a b l i = partT a b m i := by
  unfold partT
  split
  · rfl
  · next hn =>
    have h5 := good_cases hg
    obtain ⟨j, hj⟩ := Int.eq_ofNat_of_zero_le (show 0 ≤ (i : Int) - a by omega)
    rw [hj, h j (by omega)]
/-- What was taken off comes back. -/
theorem on_off {a b : Int} {l : List Int} (hg : goodT a b = true) (hf : Fits l) (d : Nat) : ∀ i, i + d = l.length → onT a b ((offT a b l).drop i) (l.take i) = some l := by
  induction d with
  | zero =>
    intro i hi
    rw [List.drop_of_length_le (by simp [offT, tab_length]; omega), List.take_of_length_le (by omega)]
    rfl
  | succ d ih =>
    intro i hi
    have hlo : (offT a b l).length = l.length := tab_length _ _
    rw [drop_cons _ i (by omega)]
    have hr : rd (offT a b l) i = rd l i - partT a b l i := rd_tab (by omega)
    have ht : (l.take i).length = i := by rw [List.length_take]; omega
    have hp : partT a b (l.take i) i = partT a b l i := part_ext hg fun j hj => by
      rw [rd_nat, rd_nat]
      simp [List.getD, hj]
    have hb := fits_rd hf i
    simp only [onT, ht]
    rw [hr, hp, show rd l i - partT a b l i + partT a b l i = rd l i by omega, (lagOut_false (rd l i)).mpr hb, if_neg (by simp)]
    have := ih (i + 1) (by omega)
    rw [take_succ_rd l i (by omega)] at this
    exact this
/-- What is back leaves what it was. -/
theorem on_back {a b : Int} (hg : goodT a b = true) (rest : List Int) : ∀ (o out : List Int), onT a b rest o = some out → Fits o → ∃ s, out = o ++ s ∧ s.length = rest.length ∧ Fits out ∧ ∀ j : Nat, j < rest.length → rd out ((o.length + j : Nat) : Int) - partT a b out ((o.length + j : Nat) : Int) = rd rest j := by
  induction rest with
  | nil =>
    intro o out h hf
    simp only [onT] at h
    cases h
    exact ⟨[], by simp, rfl, hf, fun j hj => by simp at hj⟩
  | cons x r ih =>
    intro o out h hf
    simp only [onT] at h
    split at h
    · cases h
    · next hx =>
      obtain ⟨s, rfl, hl, hfo, hr⟩ := ih _ _ h (fits_snoc hf (by simpa using hx))
      refine ⟨(x + partT a b o o.length) :: s, by simp, by simp [hl], hfo, fun j hj => ?_⟩
      cases j with
      | zero =>
        have h1 : rd (o ++ [x + partT a b o o.length] ++ s) ((o.length + 0 : Nat) : Int) = x + partT a b o o.length := by
          rw [rd_left (by omega) (by simp; omega), rd_end _ _ (by omega)]
        have h2 : partT a b (o ++ [x + partT a b o o.length] ++ s) ((o.length + 0 : Nat) : Int) = partT a b o o.length := part_ext hg fun q hq => by
          rw [rd_left (by omega) (by simp; omega), rd_left (by omega) (by omega)]
        rw [h1, h2]
        have : rd (x :: r) ((0 : Nat) : Int) = x := by simp [rd]
        rw [this]
        omega
      | succ j =>
        have := hr j (by simpa using hj)
        rw [show (o ++ [x + partT a b o o.length]).length + j = o.length + (j + 1) by simp; omega] at this
        rw [this, rd_cons_succ]

theorem lag_awake {k : Nat} (hk : 20 ≤ k) : sackbutlaw08_awake.f k = some true := at_rounds (g := fun k => sackbutlaw08_awake.f k) (fun k => sackbutlaw08_awake.mono k) hk (by kernel_rfl)

end Go.Proofs.Ytofjckfdofkikaa.Pure
