/- What tree.Take takes of a reader's bits is the tree at their beginning. -/
import Derived.Test.YtlebgjcpidpgnaaPx0
import Derived.Test.YtlebgjcpidpgnaaHTTake
import Derived.Test.YtlebgjcpidpgnaaUReader
import Derived.Test.YtlebgjcpidpgnaaUTree
namespace Go.Proofs.Ytlebgjcpidpgnaa.Pure
open Go.RowKit Go.Proofs.Ytlebgjcpidpgnaa.P Go.Proofs.YtlebgjcpidpgnaaW.PrintWords Go.Proofs.YtlebgjcpidpgnaaW.PrintLast Go.Proofs.YtlebgjcpidpgnaaW.PrintMore
set_option linter.unusedVariables false
set_option linter.unusedSimpArgs false

theorem going {b : List Int} (hb : Bytes8 b) (hl : b.length ≤ 10000000) : ∀ (n : Nat) (s : List Bool) (e : Int), s <:+ unpack b → goAll 100 b n (pos b s) e = true := by
  intro n
  induction n with
  | zero => exact fun _ _ _ => rfl
  | succ n ih =>
    intro s e hs
    unfold goAll
    rw [take_ok hb hl hs e 1 (by omega)]
    exact ih _ _ ((takeB_suf s e 1).trans hs)
theorem tkOne_ok {b : List Int} (hb : Bytes8 b) (hl : b.length ≤ 10000000) {s : List Bool} (hs : s <:+ unpack b) (e : Int) : tkOne b (pos b s) e = ((takeB s e 1).1, pos b (takeB s e 1).2.1, (takeB s e 1).2.2) := by
  unfold tkOne
  rw [take_ok hb hl hs e 1 (by omega)]
  rfl
theorem takeB_nil : takeB [] 0 1 = (0, [], 3) := rfl
theorem takeB_cons (c : Bool) (s : List Bool) : takeB (c :: s) 0 1 = (if c = true then 1 else 0, s, 0) := by
  unfold takeB
  rw [if_neg (by simp), if_neg (by omega), if_neg (by simp; omega)]
  cases c <;> simp [numL, numA]
theorem takeB_three (s : List Bool) : takeB s 3 1 = (0, s, 3) := rfl
theorem ch_one : ch true = 49 := rfl
theorem ch_zero : ch false = 48 := rfl
/-- Once it has failed, it has failed. -/
theorem tk_stuck {b : List Int} (hb : Bytes8 b) (hl : b.length ≤ 10000000) : ∀ (n : Nat) (q : ByteArray) (z : Int) (s : List Bool) (t : List UInt8) (l : List Int), s <:+ unpack b → ∃ t' l', walkP (twoK b) leafK n q z (pos b s, 3, t, l) = (true, pos b s, 3, t', l') := by
  intro n
  induction n with
  | zero => exact fun q z s t l _ => ⟨_, _, rfl⟩
  | succ n ih =>
    intro q z s t l hs
    rw [walkP_succ]
    have e : twoK b q z (pos b s, 3, t, l) = (false, pos b s, 3, t ++ [48], l) := by
      unfold twoK
      simp only
      rw [tkOne_ok hb hl hs 3, takeB_three]
      rfl
    rw [e]
    split
    · simp only
      rw [if_neg (by simp)]
      exact ⟨_, _, rfl⟩
    · exact ⟨_, _, rfl⟩
theorem tk_text {b : List Int} (hb : Bytes8 b) (hl : b.length ≤ 10000000) : ∀ (n : Nat) (q : ByteArray) (z : Int) (s : List Bool) (t : List UInt8) (l : List Int), s <:+ unpack b →
    (∃ τ s', rdT n z (s.map ch) = some (τ, s'.map ch) ∧ s' <:+ s ∧ walkP (twoK b) leafK n q z (pos b s, 0, t, l) = (true, pos b s', 0, t ++ encT n z τ, l ++ leavesT z τ)) ∨
    (rdT n z (s.map ch) = none ∧ ∃ s' t' l', s' <:+ s ∧ walkP (twoK b) leafK n q z (pos b s, 0, t, l) = (true, pos b s', 3, t', l')) := by
  intro n
  induction n with
  | zero => exact fun q z s t l _ => .inl ⟨.leaf, s, rfl, List.suffix_refl _, by simp [walkP, leafK, encT, leavesT]⟩
  | succ n ih =>
    intro q z s t l hs
    rw [walkP_succ]
    unfold rdT
    by_cases hm : mayT z ((n : Int) + 1) = true
    · rw [if_pos hm, if_pos hm]
      cases s with
      | nil =>
        have e : twoK b q z (pos b [], 0, t, l) = (false, pos b [], 3, t ++ [48], l) := by
          unfold twoK
          simp only
          rw [tkOne_ok hb hl hs 0, takeB_nil]
          rfl
        rw [e]
        exact .inr ⟨rfl, [], _, _, List.suffix_refl _, rfl⟩
      | cons c s =>
        have hs1 : s <:+ unpack b := suf_tail hs
        have hsc : s <:+ c :: s := List.suffix_cons c s
        cases c with
        | false =>
          have e : twoK b q z (pos b (false :: s), 0, t, l) = (false, pos b s, 0, t ++ [48], l) := by
            unfold twoK
            simp only
            rw [tkOne_ok hb hl hs 0, takeB_cons]
            rfl
          rw [e, List.map_cons, ch_zero]
          simp only [if_true]
          exact .inl ⟨.leaf, s, rfl, hsc, by simp [leafK, encT, leavesT, hm]⟩
        | true =>
          have e : twoK b q z (pos b (true :: s), 0, t, l) = (true, pos b s, 0, t ++ [49], l) := by
            unfold twoK
            simp only
            rw [tkOne_ok hb hl hs 0, takeB_cons]
            rfl
          rw [e, List.map_cons, ch_one]
          simp only
          rw [if_neg (by decide)]
          simp only [if_true]
          rcases ih (q ++ { data := #[48] }) (z / 2) s (t ++ [49]) l hs1 with ⟨τ1, s1, e1, e2, e3⟩ | ⟨e1, s1, t1, l1, e2, e3⟩
          · rw [e1, e3, if_pos rfl]
            simp only [Option.bind_some]
            rcases ih (q ++ { data := #[49] }) (z / 2) s1 (t ++ [49] ++ encT n (z / 2) τ1) (l ++ leavesT (z / 2) τ1) (e2.trans hs1) with ⟨τ2, s2, f1, f2, f3⟩ | ⟨f1, s2, t2, l2, f2, f3⟩
            · rw [f1, f3]
              exact .inl ⟨.two τ1 τ2, s2, rfl, f2.trans (e2.trans hsc), by simp [encT, leavesT]⟩
            · rw [f1, f3]
              exact .inr ⟨rfl, s2, _, _, f2.trans (e2.trans hsc), rfl⟩
          · rw [e1, e3, if_pos rfl]
            obtain ⟨t2, l2, e4⟩ := tk_stuck hb hl n (q ++ { data := #[49] }) (z / 2) s1 t1 l1 (e2.trans hs1)
            rw [e4]
            exact .inr ⟨rfl, s1, _, _, e2.trans hsc, rfl⟩
    · rw [if_neg hm, if_neg hm]
      exact .inl ⟨.leaf, s, rfl, List.suffix_refl _, by simp [leafK, encT, leavesT, hm]⟩
/-- What tree.Take answers on a reader that has not failed. -/
theorem take_tree {b : List Int} (hb : Bytes8 b) (hl : b.length ≤ 10000000) {s : List Bool} (hs : s <:+ unpack b) {z : Int} (h0 : 1 ≤ z) (h1 : z ≤ 1024) :
    (∃ τ s', rdT 4 z (s.map ch) = some (τ, s'.map ch) ∧ s' <:+ s ∧ tree_Take.f b (pos b s) 0 z = some (⟨(encT 4 z τ).toArray⟩, leavesT z τ, pos b s', 0)) ∨
    (rdT 4 z (s.map ch) = none ∧ ∃ s', s' <:+ s ∧ tree_Take.f b (pos b s) 0 z = some ({ data := #[] }, [], pos b s', 3)) := by
  unfold tree_Take.f takeK
  rw [if_neg (by omega), if_pos (going hb hl _ s 0 hs)]
  rcases tk_text hb hl 4 { data := #[] } z s [] [] hs with ⟨τ, s', e1, e2, e3⟩ | ⟨e1, s', t', l', e2, e3⟩
  · rw [e3]
    simp only
    rw [if_neg (by simp)]
    exact .inl ⟨τ, s', e1, e2, by simp⟩
  · rw [e3]
    simp only
    rw [if_pos (by simp)]
    exact .inr ⟨e1, s', e2, rfl⟩
theorem take_tree_no (b : List Int) (p : Int) {z : Int} (h : z < 1 ∨ 1024 < z) : tree_Take.f b p 0 z = some ({ data := #[] }, [], p, 1) := by
  unfold tree_Take.f
  rw [if_pos h, give_ok]
  rfl
end Go.Proofs.Ytlebgjcpidpgnaa.Pure
