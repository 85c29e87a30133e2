/- The pure statement of the law RiceBits: its walk says that it answers true within the bounds of its arguments. -/
import Derived.Test.YtgglnmpjajnkaaaPx0
import Derived.Test.YtgglnmpjajnkaaaHLawRB
import Derived.Test.YtgglnmpjajnkaaaUTools
namespace Go.Proofs.Ytgglnmpjajnkaaa.Pure
open Go.RowKit Go.Proofs.Ytgglnmpjajnkaaa.P Go.Proofs.YtgglnmpjajnkaaaW.PrintWords Go.Proofs.YtgglnmpjajnkaaaW.PrintLast Go.Proofs.YtgglnmpjajnkaaaW.PrintMore

theorem RiceBits : ∀ (l0 : List Int) (a1 : Int), l0.length ≤ maxLen → l0.length * 1 ≤ 140737488351232 → (∀ x ∈ l0, (Lit.int .u8 x).wf = true) → (Lit.int .u8 a1).wf = true → sackbutlaw02_RiceBits.f l0 a1 = some true := by
  intro l a _ hl hb ha
  have h1 := u8b ha
  unfold sackbutlaw02_RiceBits.f
  rw [if_pos]
  refine ⟨by omega, h1.1, h1.2, ?_⟩
  rw [List.all_eq_true]
  intro x hx
  have := u8b (hb x hx)
  simp
  omega

end Go.Proofs.Ytgglnmpjajnkaaa.Pure
