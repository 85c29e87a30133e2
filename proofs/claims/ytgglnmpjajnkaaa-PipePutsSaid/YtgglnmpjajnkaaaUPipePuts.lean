/- The pure statement of the law PipePuts. -/
import Derived.Test.YtgglnmpjajnkaaaPx0
import Derived.Test.YtgglnmpjajnkaaaUActs
namespace Go.Proofs.Ytgglnmpjajnkaaa.Pure
open Go.RowKit Go.Proofs.Ytgglnmpjajnkaaa.P Go.Proofs.YtgglnmpjajnkaaaW.PrintWords Go.Proofs.YtgglnmpjajnkaaaW.PrintLast Go.Proofs.YtgglnmpjajnkaaaW.PrintMore

theorem PipePuts : ∀ (l0 : List P.S28), l0.length ≤ maxLen → (∀ x ∈ l0, P.actIn x = true) → ∃ k, sackbutlaw01_PipePuts.f k l0 = some true := fun l0 _ h => PipePuts_pure l0 h
end Go.Proofs.Ytgglnmpjajnkaaa.Pure
