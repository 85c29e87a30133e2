/- Small plain lemmas on numbers, lists and rounds, for the pure statements. -/
import Derived.Test.YteoncgijnkfhfaaKcPx0
namespace Go.Proofs.Yteoncgijnkfhfaa.Pure
open Go.RowKit Go.Proofs.Yteoncgijnkfhfaa.P Go.Proofs.YteoncgijnkfhfaaW.PrintWords Go.Proofs.YteoncgijnkfhfaaW.PrintLast Go.Proofs.YteoncgijnkfhfaaW.PrintMore
set_option linter.unusedVariables false
set_option linter.unusedSimpArgs false

theorem w64 {x : Int} (h1 : -9223372036854775808 ≤ x) (h2 : x ≤ 9223372036854775807) : wrap64 x = x := by unfold wrap64; omega
theorem u8b {a : Int} (h : (Lit.int .u8 a).wf = true) : 0 ≤ a ∧ a ≤ 255 := by
  simp [Lit.wf, IntKind.min, IntKind.max, IntKind.signed, IntKind.bits] at h
  omega
theorem pred_k {n k : Nat} (h : n < k) : ∃ m, k = m + 1 ∧ n ≤ m := ⟨k - 1, by omega, by omega⟩

theorem rd_nat (l : List Int) (i : Nat) : rd l (i : Int) = l.getD i 0 := by simp [rd]
theorem rd_mem {l : List Int} {i : Int} (h0 : 0 ≤ i) (h : i < l.length) : rd l i ∈ l := by
  have : i.toNat < l.length := by omega
  simp only [rd, List.getD, List.getElem?_eq_getElem this, Option.getD_some]
  exact List.getElem_mem this
theorem rd_left {xs ys : List Int} {i : Int} (h0 : 0 ≤ i) (h : i < xs.length) : rd (xs ++ ys) i = rd xs i := by
  have : i.toNat < xs.length := by omega
  simp [rd, List.getElem?_append_left this]
theorem rd_end (xs : List Int) (y : Int) {i : Int} (h : i = xs.length) : rd (xs ++ [y]) i = y := by
  subst h
  simp [rd]
theorem bs {α β : Type} (a : α) (f : α → Option β) : (some a).bind f = f a := rfl

end Go.Proofs.Yteoncgijnkfhfaa.Pure
