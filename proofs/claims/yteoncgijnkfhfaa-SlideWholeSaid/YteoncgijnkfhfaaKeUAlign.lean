/- A reader's alignment and its end, as the plain machine has it. -/
import Derived.Test.YteoncgijnkfhfaaKePx0
import Derived.Test.YteoncgijnkfhfaaKePx1
import Derived.Test.YteoncgijnkfhfaaKeHEnd
import Derived.Test.YteoncgijnkfhfaaKeUReader
namespace Go.Proofs.Yteoncgijnkfhfaa.Pure
open Go.RowKit Go.Proofs.Yteoncgijnkfhfaa.P Go.Proofs.YteoncgijnkfhfaaW.PrintWords Go.Proofs.YteoncgijnkfhfaaW.PrintLast Go.Proofs.YteoncgijnkfhfaaW.PrintMore
set_option linter.unusedVariables false
set_option linter.unusedSimpArgs false

def alignR (s : List Bool) (e : Int) : List Bool × Int :=
  if (takeB s e ((s.length % 8 : Nat) : Int)).1 = 0 then (takeB s e ((s.length % 8 : Nat) : Int)).2 else ((takeB s e ((s.length % 8 : Nat) : Int)).2.1, giveB (takeB s e ((s.length % 8 : Nat) : Int)).2.2 5)
theorem ralign_ok {b : List Int} (hb : Bytes8 b) (hl : b.length ≤ 10000000) {s : List Bool} (hs : s <:+ unpack b) (e : Int) {k : Nat} (hk : 52 < k) : pipe_Reader_Align.f k b (pos b s) e = some (pos b (alignR s e).1, (alignR s e).2) := by
  have hn := suf_len hs
  have e1 : Int.tmod (wrap64 (8 - Int.tmod (pos b s) 8)) 8 = ((s.length % 8 : Nat) : Int) := by
    have h0 : 0 ≤ pos b s := by unfold pos; omega
    rw [Int.tmod_eq_emod_of_nonneg h0, w64 (by omega) (by omega), Int.tmod_eq_emod_of_nonneg (by omega)]
    unfold pos
    omega
  unfold pipe_Reader_Align.f alignR
  rw [e1, take_ok hb hl hs _ _ hk, bs]
  split
  · rfl
  · rw [give_ok, bs]
end Go.Proofs.Yteoncgijnkfhfaa.Pure
