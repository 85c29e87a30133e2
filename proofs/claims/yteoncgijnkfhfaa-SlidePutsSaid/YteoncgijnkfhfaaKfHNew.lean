/- A writer that was just made. -/
import Derived.Test.YteoncgijnkfhfaaKfPx0
import Derived.Test.YteoncgijnkfhfaaKfHBytes
namespace Go.Proofs.Yteoncgijnkfhfaa.P
open Go.RowKit Go.Proofs.YteoncgijnkfhfaaW.PrintWords Go.Proofs.YteoncgijnkfhfaaW.PrintLast Go.Proofs.YteoncgijnkfhfaaW.PrintMore
set_option linter.unusedVariables false
set_option linter.unusedSimpArgs false

theorem isWr_new (w0 w : World) (hB : Below w0.heap.size w0 w) : IsWr w0 (w.alloc (.cells #[.slice none 0 0, .int .i64 0] 56)) w.heap.size (.slice none 0 0) [] :=
  ⟨blk_new w _, hB.size, own_nil _ _ _ _⟩
theorem own_below {w w' : World} {B e size n : Nat} {v : Value} {xs : List Value} (h : w.ownsRow B e size v n xs) (hb : Below w.heap.size w w') : w'.ownsRow B e size v n xs := by
  obtain ⟨hn, ⟨hv, h0⟩ | ⟨r, c, cur, h1, h2, h3, h4, h5, h6, h7⟩⟩ := h
  · exact ⟨hn, .inl ⟨hv, h0⟩⟩
  · exact ⟨hn, .inr ⟨r, c, cur, h1, h2, blk_below h3 hb, h4, h5, h6, h7⟩⟩
theorem isWr_below {w0 w w' : World} {g : Nat} {v : Value} {l : List Bool} (h : IsWr w0 w g v l) (hb : Below w.heap.size w w') : IsWr w0 w' g v l :=
  ⟨blk_below h.1 hb, h.2.1, own_below h.2.2 hb⟩
end Go.Proofs.Yteoncgijnkfhfaa.P
