/- The pure statement of the law RiceRises. -/
import Derived.Test.YtgglnmpjajnkaaaPx0
import Derived.Test.YtgglnmpjajnkaaaPx6
import Derived.Test.YtgglnmpjajnkaaaURice
namespace Go.Proofs.Ytgglnmpjajnkaaa.Pure
open Go.RowKit Go.Proofs.Ytgglnmpjajnkaaa.P Go.Proofs.YtgglnmpjajnkaaaW.PrintWords Go.Proofs.YtgglnmpjajnkaaaW.PrintLast Go.Proofs.YtgglnmpjajnkaaaW.PrintMore
set_option linter.unusedVariables false
set_option linter.unusedSimpArgs false

theorem RiceRises : ∀ (a0 : Int) (a1 : Int) (a2 : Int), (Lit.int .i64 a0).wf = true → (Lit.int .i64 a1).wf = true → (Lit.int .u8 a2).wf = true → ∃ k, sackbutlaw02_RiceRises.f k a0 a1 a2 = some true := by
  intro n m g hn0 hm0 hg0
  have hgb := u8b hg0
  have hnb := i64b hn0
  have hmb := i64b hm0
  refine ⟨60, ?_⟩
  unfold sackbutlaw02_RiceRises.f
  rw [awake02, bs, if_pos rfl]
  have e1 : wrap64 (Int.tmod g 25) = ((g % 25).toNat : Nat) := by
    rw [Int.tmod_eq_emod_of_nonneg hgb.1, w64 (by omega) (by omega)]
    omega
  have hj : ∀ c, (c = true ∨ (-8589934592 ≤ n ∧ n ≤ 8589934591 ∧ -8589934592 ≤ m ∧ m ≤ 8589934591)) → sackbutlaw02_RiceRises.j0 60 n m (wrap64 (Int.tmod g 25)) c = some true := by
    intro c hc
    rw [e1]
    generalize hp : (g % 25).toNat = p
    have hp' : p ≤ 24 := by omega
    rw [show 60 = 59 + 1 from rfl]
    simp only [sackbutlaw02_RiceRises.j0]
    cases c with
    | true => rw [if_pos rfl, awake02, bs]
    | false =>
      obtain ⟨h1, h2, h3, h4⟩ := hc.resolve_left (by simp)
      have hb := cost_range h1 h2 hp'
      have hb' := cost_range h3 h4 hp'
      rw [if_neg (by simp), cost_ok h1 h2 hp', bs, cost_ok h3 h4 hp', bs, ref_fold h1 h2, bs, ref_fold h3 h4, bs]
      split
      · rename_i hle
        rw [if_pos (cost_mono hp' hle), decide_eq_true (by omega)]
      · rename_i hle
        rw [if_pos (cost_mono hp' (by omega)), decide_eq_true (by omega)]
  split
  · exact hj _ (.inl rfl)
  · split
    · exact hj _ (.inl rfl)
    · split
      · exact hj _ (.inl rfl)
      · refine hj _ ?_
        by_cases h : m > 8589934591
        · exact .inl (decide_eq_true h)
        · exact .inr ⟨by omega, by omega, by omega, by omega⟩
end Go.Proofs.Ytgglnmpjajnkaaa.Pure
