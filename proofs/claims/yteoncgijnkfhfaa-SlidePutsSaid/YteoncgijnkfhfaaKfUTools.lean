/- Small plain lemmas on numbers, lists and rounds, for the pure statements. -/
import Derived.Test.YteoncgijnkfhfaaKfPx0
import Derived.Test.YteoncgijnkfhfaaKfPx3
section
namespace Go.Proofs.Yteoncgijnkfhfaa.Pure
open Go.RowKit Go.Proofs.Yteoncgijnkfhfaa.P Go.Proofs.YteoncgijnkfhfaaW.PrintWords Go.Proofs.YteoncgijnkfhfaaW.PrintLast Go.Proofs.YteoncgijnkfhfaaW.PrintMore
set_option linter.unusedVariables false
set_option linter.unusedSimpArgs false

theorem w64 {x : Int} (h1 : -9223372036854775808 ≤ x) (h2 : x ≤ 9223372036854775807) : wrap64 x = x := by unfold wrap64; omega
theorem pred_k {n k : Nat} (h : n < k) : ∃ m, k = m + 1 ∧ n ≤ m := ⟨k - 1, by omega, by omega⟩

theorem rd_nat (l : List Int) (i : Nat) : rd l (i : Int) = l.getD i 0 := by simp [rd]
theorem rd_mem {l : List Int} {i : Int} (h0 : 0 ≤ i) (h : i < l.length) : rd l i ∈ l := by
  have : i.toNat < l.length := by omega
  simp only [rd, List.getD, List.getElem?_eq_getElem this, Option.getD_some]
  exact List.getElem_mem this
theorem rd_cons_zero (x : Int) (l : List Int) : rd (x :: l) ((0 : Nat) : Int) = x := by simp [rd]
theorem rd_cons_succ (x : Int) (l : List Int) (j : Nat) : rd (x :: l) ((j + 1 : Nat) : Int) = rd l j := by
  rw [rd_nat, rd_nat]
  simp [List.getD]
theorem ext_rd {xs ys : List Int} (hl : xs.length = ys.length) (h : ∀ i : Nat, i < xs.length → rd xs i = rd ys i) : xs = ys := by
  refine List.ext_getElem hl fun i h1 h2 => ?_
  have := h i h1
  rw [rd_nat, rd_nat] at this
  simpa [List.getD, h1, h2] using this

theorem bs {α β : Type} (a : α) (f : α → Option β) : (some a).bind f = f a := rfl

end Go.Proofs.Yteoncgijnkfhfaa.Pure
end
section
/- What the printed comparison of two lists of numbers answers. -/
namespace Go.Proofs.Yteoncgijnkfhfaa.Pure
open Go.RowKit Go.Proofs.Yteoncgijnkfhfaa.P Go.Proofs.YteoncgijnkfhfaaW.PrintWords Go.Proofs.YteoncgijnkfhfaaW.PrintLast Go.Proofs.YteoncgijnkfhfaaW.PrintMore
set_option linter.unusedVariables false
set_option linter.unusedSimpArgs false

theorem same_l0 (xs ys : List Int) (hl : xs.length = ys.length) (hm : xs.length ≤ 4611686018427387904) (d : Nat) : ∀ (k i : Nat), i + d = xs.length → d < k → (∀ j : Nat, j < i → rd xs j = rd ys j) →
    sackbutref01_Same.l0 k xs ys xs.length i = some (decide (xs = ys)) := by
  induction d with
  | zero =>
    intro k i hi hk hp
    obtain ⟨k, rfl, _⟩ := pred_k hk
    simp only [sackbutref01_Same.l0]
    rw [if_neg (by omega)]
    have : xs = ys := ext_rd hl fun j hj => hp j (by omega)
    simp [this]
  | succ d ih =>
    intro k i hi hk hp
    obtain ⟨k, rfl, hk'⟩ := pred_k hk
    simp only [sackbutref01_Same.l0]
    rw [if_pos (by omega), if_pos (by omega), if_pos (by omega), if_pos (by omega)]
    by_cases he : rd xs i = rd ys i
    · rw [if_pos he, w64 (by omega) (by omega)]
      have := ih k (i + 1) (by omega) (by omega) (fun j hj => by
        by_cases hji : j = i
        · subst hji; exact he
        · exact hp j (by omega))
      exact_mod_cast this
    · rw [if_neg he]
      have : xs ≠ ys := fun h => he (by rw [h])
      simp [this]

theorem same_ok (xs ys : List Int) (hm : xs.length ≤ 4611686018427387904) {k : Nat} (hk : xs.length < k) : sackbutref01_Same.f k xs ys = some (decide (xs = ys)) := by
  unfold sackbutref01_Same.f
  by_cases hl : xs.length = ys.length
  · rw [if_pos (by omega)]
    exact same_l0 xs ys hl hm xs.length k 0 (by omega) hk (fun j hj => by omega)
  · rw [if_neg (by omega)]
    have : xs ≠ ys := fun h => hl (by rw [h])
    simp [this]

end Go.Proofs.Yteoncgijnkfhfaa.Pure
end
