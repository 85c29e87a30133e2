/- What the printed functions of layer 2 answer: folding, costs, powers. -/
import Derived.Test.YtgglnmpjajnkaaaPx0
import Derived.Test.YtgglnmpjajnkaaaPx2
import Derived.Test.YtgglnmpjajnkaaaPx3
import Derived.Test.YtgglnmpjajnkaaaPx4
import Derived.Test.YtgglnmpjajnkaaaHRice
import Derived.Test.YtgglnmpjajnkaaaHAwake2
import Derived.Test.YtgglnmpjajnkaaaUBits
namespace Go.Proofs.Ytgglnmpjajnkaaa.Pure
open Go.RowKit Go.Proofs.Ytgglnmpjajnkaaa.P Go.Proofs.YtgglnmpjajnkaaaW.PrintWords Go.Proofs.YtgglnmpjajnkaaaW.PrintLast Go.Proofs.YtgglnmpjajnkaaaW.PrintMore
set_option linter.unusedVariables false
set_option linter.unusedSimpArgs false

theorem awake02 : sackbutlaw02_awake.f = some true := rfl
def costZ (n : Int) (k : Nat) : Int := if foldZ n / 2 ^ k < 24 then foldZ n / 2 ^ k + 1 + k else 59
theorem cost_ok {n : Int} {k : Nat} (h1 : -8589934592 ≤ n) (h2 : n ≤ 8589934591) (hk : k ≤ 24) : rice_Cost.f n k = some (costZ n k) := by
  unfold rice_Cost.f costZ
  have hq0 : 0 ≤ foldZ n / 2 ^ k := Int.ediv_nonneg (foldZ_bound h1 (by omega)).1 (Int.pow_nonneg (by omega))
  rw [may_eq, bs, show mayZ n k = true by simp [mayZ]; omega, if_pos rfl, fold_eq (by omega) (by omega), bs, if_pos (by omega), shr_ok _ _ (by omega)]
  split
  · rw [w64 (x := foldZ n / 2 ^ k + 1) (by omega) (by omega), w64 (by omega) (by omega)]
  · rfl
theorem ref_fold {n : Int} (h1 : -8589934592 ≤ n) (h2 : n ≤ 8589934591) : sackbutref02_Fold.f n = some (foldZ n) := by
  unfold sackbutref02_Fold.f foldZ
  split
  · rw [w64 (x := n + 1) (by omega) (by omega), w64 (x := -(n + 1)) (by omega) (by omega), w64 (x := -(n + 1) * 2) (by omega) (by omega), w64 (by omega) (by omega)]
    congr 1
    omega
  · rw [w64 (by omega) (by omega)]
    congr 1
    omega
theorem cost_range {n : Int} {k : Nat} (h1 : -8589934592 ≤ n) (h2 : n ≤ 8589934591) (hk : k ≤ 24) : 1 ≤ costZ n k ∧ costZ n k ≤ 59 := by
  have hq0 : 0 ≤ foldZ n / 2 ^ k := Int.ediv_nonneg (foldZ_bound h1 (by omega)).1 (Int.pow_nonneg (by omega))
  unfold costZ
  split <;> omega
theorem cost_mono {a b : Int} {k : Nat} (hk : k ≤ 24) (h : foldZ a ≤ foldZ b) : costZ a k ≤ costZ b k := by
  have hq : foldZ a / 2 ^ k ≤ foldZ b / 2 ^ k := Int.ediv_le_ediv (Int.pow_pos (by omega)) h
  unfold costZ
  split
  · split <;> omega
  · rw [if_neg (by omega)]
    exact Int.le_refl _
theorem unfold_ok {n : Int} (h1 : -8589934592 ≤ n) (h2 : n ≤ 8589934591) : rice_Unfold.f (foldZ n) = some n := by
  unfold rice_Unfold.f
  have hz := foldZ_bound h1 (by omega)
  rw [Int.tmod_eq_emod_of_nonneg hz.1, Int.tdiv_eq_ediv_of_nonneg hz.1]
  unfold foldZ at hz ⊢
  by_cases hn : n < 0
  · rw [if_pos hn] at hz ⊢
    rw [if_pos (by omega), w64 (x := (-2 * n - 1) / 2) (by omega) (by omega), w64 (x := -((-2 * n - 1) / 2)) (by omega) (by omega), w64 (by omega) (by omega)]
    congr 1
    omega
  · rw [if_neg hn] at hz ⊢
    rw [if_neg (by omega), w64 (by omega) (by omega)]
    congr 1
    omega
end Go.Proofs.Ytgglnmpjajnkaaa.Pure
