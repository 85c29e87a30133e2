/- The pure statement of the law RicePuts (its walk says all). -/
import Derived.Test.YtgglnmpjajnkaaaPx0
import Derived.Test.YtgglnmpjajnkaaaHLawRP
import Derived.Test.YtgglnmpjajnkaaaUTools
namespace Go.Proofs.Ytgglnmpjajnkaaa.Pure
open Go.RowKit Go.Proofs.Ytgglnmpjajnkaaa.P Go.Proofs.YtgglnmpjajnkaaaW.PrintWords Go.Proofs.YtgglnmpjajnkaaaW.PrintLast Go.Proofs.YtgglnmpjajnkaaaW.PrintMore

theorem RicePuts : ∀ (a0 : Int) (a1 : Int), (Lit.int .i64 a0).wf = true → (Lit.int .i64 a1).wf = true → sackbutlaw02_RicePuts.f a0 a1 = some true := by
  intro n k _ hk
  have hb := i64b hk
  unfold sackbutlaw02_RicePuts.f
  rw [if_pos hb]
end Go.Proofs.Ytgglnmpjajnkaaa.Pure
