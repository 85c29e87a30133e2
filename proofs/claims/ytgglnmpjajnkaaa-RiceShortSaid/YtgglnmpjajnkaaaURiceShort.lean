/- The pure statement of the law RiceShort. -/
import Derived.Test.YtgglnmpjajnkaaaPx0
import Derived.Test.YtgglnmpjajnkaaaPx5
import Derived.Test.YtgglnmpjajnkaaaURice
namespace Go.Proofs.Ytgglnmpjajnkaaa.Pure
open Go.RowKit Go.Proofs.Ytgglnmpjajnkaaa.P Go.Proofs.YtgglnmpjajnkaaaW.PrintWords Go.Proofs.YtgglnmpjajnkaaaW.PrintLast Go.Proofs.YtgglnmpjajnkaaaW.PrintMore
set_option linter.unusedVariables false
set_option linter.unusedSimpArgs false

theorem fold_short {n : Int} {k : Nat} (h1 : n < 2 ^ k) (h2 : n ≥ -2 ^ k) : foldZ n / 2 ^ k ≤ 1 := by
  have hp : (0 : Int) < 2 ^ k := Int.pow_pos (by omega)
  have : foldZ n < 2 * 2 ^ k := by
    unfold foldZ
    split <;> omega
  have := (Int.ediv_lt_iff_lt_mul hp (a := foldZ n) (b := 2)).2 (by omega)
  omega
theorem RiceShort : ∀ (a0 : Int) (a1 : Int), (Lit.int .i64 a0).wf = true → (Lit.int .u8 a1).wf = true → ∃ k, sackbutlaw02_RiceShort.f k a0 a1 = some true := by
  intro n g hn0 hg0
  have hgb := u8b hg0
  have hnb := i64b hn0
  refine ⟨60, ?_⟩
  unfold sackbutlaw02_RiceShort.f
  rw [awake02, bs, if_pos rfl]
  have e1 : wrap64 (Int.tmod g 25) = ((g % 25).toNat : Nat) := by
    rw [Int.tmod_eq_emod_of_nonneg hgb.1, w64 (by omega) (by omega)]
    omega
  have hj : ∀ c, (c = true ∨ (-8589934592 ≤ n ∧ n ≤ 8589934591)) → sackbutlaw02_RiceShort.j0 60 n (wrap64 (Int.tmod g 25)) c = some true := by
    intro c hc
    rw [e1]
    generalize hp : (g % 25).toNat = p
    have hp' : p ≤ 24 := by omega
    rw [show 60 = 59 + 1 from rfl]
    simp only [sackbutlaw02_RiceShort.j0]
    cases c with
    | true => rw [if_pos rfl, awake02, bs]
    | false =>
      obtain ⟨h1, h2⟩ := hc.resolve_left (by simp)
      have hb := cost_range h1 h2 hp'
      have hpow := pow_bound (show p ≤ 62 by omega)
      rw [if_neg (by simp), cost_ok h1 h2 hp', bs, power_ok (by omega) (by omega), bs]
      have hs : n < 2 ^ p → n ≥ -2 ^ p → costZ n p ≤ p + 2 := by
        intro ha hb
        have := fold_short ha hb
        unfold costZ
        rw [if_pos (by omega)]
        omega
      clear hc e1 hp hn0 hg0
      split
      · rename_i ha
        rw [bs, if_pos (by omega), if_pos (by omega), w64 (x := -(2 : Int) ^ p) (by omega) (by omega), w64 (x := (p : Int) + 2) (by omega) (by omega)]
        split
        · rename_i hb'
          rw [decide_eq_true (hs ha hb')]
        · rfl
      · rw [if_pos (by omega), if_pos (by omega)]
  split
  · exact hj _ (.inl rfl)
  · refine hj _ ?_
    by_cases h : n > 8589934591
    · exact .inl (decide_eq_true h)
    · exact .inr ⟨by omega, by omega⟩
end Go.Proofs.Ytgglnmpjajnkaaa.Pure
