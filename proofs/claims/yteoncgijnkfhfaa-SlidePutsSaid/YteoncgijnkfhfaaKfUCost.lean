/- What layer 2's printed functions answer: folding, costs. -/
import Derived.Test.YteoncgijnkfhfaaKfPx0
import Derived.Test.YteoncgijnkfhfaaKfPx3
import Derived.Test.YteoncgijnkfhfaaKfPx1
import Derived.Test.YteoncgijnkfhfaaKfPx2
import Derived.Test.YteoncgijnkfhfaaKfPx4
import Derived.Test.YteoncgijnkfhfaaKfHRice
import Derived.Test.YteoncgijnkfhfaaKfUBitsP
import Derived.Test.YteoncgijnkfhfaaKfHQueue
import Derived.Sort.LoopGhostIn
import Derived.Deep.RegionWith
import Derived.Deep.QuietTactic
import Derived.BigQuiet
import Derived.Test.YteoncgijnkfhfaaKfUTools
section
namespace Go.Proofs.Yteoncgijnkfhfaa.Pure
open Go.RowKit Go.Proofs.Yteoncgijnkfhfaa.P Go.Proofs.YteoncgijnkfhfaaW.PrintWords Go.Proofs.YteoncgijnkfhfaaW.PrintLast Go.Proofs.YteoncgijnkfhfaaW.PrintMore
set_option linter.unusedVariables false
set_option linter.unusedSimpArgs false

def costZ (n : Int) (k : Nat) : Int := if foldZ n / 2 ^ k < 24 then foldZ n / 2 ^ k + 1 + k else 59
theorem cost_ok {n : Int} {k : Nat} (h1 : -8589934592 ≤ n) (h2 : n ≤ 8589934591) (hk : k ≤ 24) : rice_Cost.f n k = some (costZ n k) := by
  unfold rice_Cost.f costZ
  have hq0 : 0 ≤ foldZ n / 2 ^ k := Int.ediv_nonneg (foldZ_bound h1 (by omega)).1 (Int.pow_nonneg (by omega))
  rw [may_eq, bs, show mayZ n k = true by simp [mayZ]; omega, if_pos rfl, fold_eq (by omega) (by omega), bs, if_pos (by omega), shr_ok _ _ (by omega)]
  split
  · rw [w64 (x := foldZ n / 2 ^ k + 1) (by omega) (by omega), w64 (by omega) (by omega)]
  · rfl
theorem ref_fold {n : Int} (h1 : -8589934592 ≤ n) (h2 : n ≤ 8589934591) : sackbutref02_Fold.f n = some (foldZ n) := by
  unfold sackbutref02_Fold.f foldZ
  split
  · rw [w64 (x := n + 1) (by omega) (by omega), w64 (x := -(n + 1)) (by omega) (by omega), w64 (x := -(n + 1) * 2) (by omega) (by omega), w64 (by omega) (by omega)]
    congr 1
    omega
  · rw [w64 (by omega) (by omega)]
    congr 1
    omega
theorem cost_range {n : Int} {k : Nat} (h1 : -8589934592 ≤ n) (h2 : n ≤ 8589934591) (hk : k ≤ 24) : 1 ≤ costZ n k ∧ costZ n k ≤ 59 := by
  have hq0 : 0 ≤ foldZ n / 2 ^ k := Int.ediv_nonneg (foldZ_bound h1 (by omega)).1 (Int.pow_nonneg (by omega))
  unfold costZ
  split <;> omega
end Go.Proofs.Yteoncgijnkfhfaa.Pure
end
section
/- A list's cost under a parameter, and the best parameter. -/
namespace Go.Proofs.Yteoncgijnkfhfaa.Pure
open Go.RowKit Go.Proofs.Yteoncgijnkfhfaa.P Go.Proofs.YteoncgijnkfhfaaW.PrintWords Go.Proofs.YteoncgijnkfhfaaW.PrintLast Go.Proofs.YteoncgijnkfhfaaW.PrintMore
set_option linter.unusedVariables false
set_option linter.unusedSimpArgs false

/-- All costs of the list's numbers from the d-th last one on. -/
def totZ (l : List Int) (p : Nat) : Nat → Int
  | 0 => 0
  | d + 1 => costZ (rd l ((l.length - (d + 1) : Nat) : Int)) p + totZ l p d
def May (l : List Int) : Prop := ∀ j : Nat, j < l.length → -8589934592 ≤ rd l (j : Int) ∧ rd l (j : Int) ≤ 8589934591
theorem totZ_bound {l : List Int} {p : Nat} (hp : p ≤ 24) (hm : May l) : ∀ d, d ≤ l.length → 0 ≤ totZ l p d ∧ totZ l p d ≤ 59 * d := by
  intro d
  induction d with
  | zero => intro _; exact ⟨Int.le_refl _, by simp [totZ]⟩
  | succ d ih =>
    intro hd
    have h1 := ih (by omega)
    have h2 := hm (l.length - (d + 1)) (by omega)
    have h3 := cost_range h2.1 h2.2 hp
    rw [totZ]
    omega
theorem total_l0 {l : List Int} {p : Nat} (hp : p ≤ 24) (hl : l.length ≤ 1000000) (hm : May l) : ∀ (d k i : Nat) (s : Int), i + d = l.length → d < k → 0 ≤ s → s ≤ 59 * i → rice_Total.l0 k p s l l.length i = some (s + totZ l p d) := by
  intro d
  induction d with
  | zero =>
    intro k i s hi hk hs hs2
    obtain ⟨k, rfl, _⟩ := pred_k hk
    rw [rice_Total.l0, if_neg (by omega), totZ, Int.add_zero]
  | succ d ih =>
    intro k i s hi hk hs hs2
    obtain ⟨k, rfl, hk⟩ := pred_k hk
    have h2 := hm i (by omega)
    have h3 := cost_range h2.1 h2.2 hp
    rw [rice_Total.l0, if_pos (by omega), if_pos (by omega), if_pos (by omega), cost_ok h2.1 h2.2 hp, bs, w64 (x := s + _) (by omega) (by omega), w64 (by omega) (by omega),
      show (i : Int) + 1 = ((i + 1 : Nat) : Int) by omega, ih k (i + 1) _ (by omega) (by omega) (by omega) (by omega), totZ, show l.length - (d + 1) = i by omega, Int.add_assoc]
theorem total_ok {l : List Int} {p k : Nat} (hp : p ≤ 24) (hl : l.length ≤ 1000000) (hm : May l) (hk : l.length < k) : rice_Total.f k l p = some (totZ l p l.length) := by
  unfold rice_Total.f
  have := total_l0 hp hl hm l.length k 0 0 (by omega) hk (Int.le_refl _) (by omega)
  rw [Int.zero_add] at this
  exact this
end Go.Proofs.Yteoncgijnkfhfaa.Pure
end
