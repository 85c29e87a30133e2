/- The pure statement of the law RiceFolds. -/
import Derived.Test.YtgglnmpjajnkaaaPx0
import Derived.Test.YtgglnmpjajnkaaaPx7
import Derived.Test.YtgglnmpjajnkaaaURice
namespace Go.Proofs.Ytgglnmpjajnkaaa.Pure
open Go.RowKit Go.Proofs.Ytgglnmpjajnkaaa.P Go.Proofs.YtgglnmpjajnkaaaW.PrintWords Go.Proofs.YtgglnmpjajnkaaaW.PrintLast Go.Proofs.YtgglnmpjajnkaaaW.PrintMore
set_option linter.unusedVariables false
set_option linter.unusedSimpArgs false

theorem RiceFolds : ∀ (a0 : Int), (Lit.int .i64 a0).wf = true → ∃ k, sackbutlaw02_RiceFolds.f k a0 = some true := by
  intro n hn0
  have hnb := i64b hn0
  refine ⟨60, ?_⟩
  unfold sackbutlaw02_RiceFolds.f
  rw [awake02, bs, if_pos rfl]
  have hj : ∀ c, (c = true ∨ (-8589934592 ≤ n ∧ n ≤ 8589934591)) → sackbutlaw02_RiceFolds.j0 60 n c = some true := by
    intro c hc
    rw [show 60 = 59 + 1 from rfl]
    simp only [sackbutlaw02_RiceFolds.j0]
    cases c with
    | true => rw [if_pos rfl, awake02, bs]
    | false =>
      obtain ⟨h1, h2⟩ := hc.resolve_left (by simp)
      have hz := foldZ_bound h1 (show n < 8589934592 by omega)
      rw [if_neg (by simp), fold_eq (by omega) (by omega), bs, ref_fold h1 h2, bs, if_pos rfl, if_pos (by omega), unfold_ok h1 h2, bs]
      simp
  split
  · exact hj _ (.inl rfl)
  · refine hj _ ?_
    by_cases h : n > 8589934591
    · exact .inl (decide_eq_true h)
    · exact .inr ⟨by omega, by omega⟩
end Go.Proofs.Ytgglnmpjajnkaaa.Pure
