/- A reader's alignment, as the plain machine has it. -/
import Derived.Test.YtlebgjcpidpgnaaPx0
import Derived.Test.YtlebgjcpidpgnaaPx1
import Derived.Test.YtlebgjcpidpgnaaUReader
namespace Go.Proofs.Ytlebgjcpidpgnaa.Pure
open Go.RowKit Go.Proofs.Ytlebgjcpidpgnaa.P Go.Proofs.YtlebgjcpidpgnaaW.PrintWords Go.Proofs.YtlebgjcpidpgnaaW.PrintLast Go.Proofs.YtlebgjcpidpgnaaW.PrintMore
set_option linter.unusedVariables false
set_option linter.unusedSimpArgs false

def alignR (s : List Bool) (e : Int) : List Bool × Int :=
  if (takeB s e ((s.length % 8 : Nat) : Int)).1 = 0 then (takeB s e ((s.length % 8 : Nat) : Int)).2 else ((takeB s e ((s.length % 8 : Nat) : Int)).2.1, giveB (takeB s e ((s.length % 8 : Nat) : Int)).2.2 5)
theorem ralign_ok {b : List Int} (hb : Bytes8 b) (hl : b.length ≤ 10000000) {s : List Bool} (hs : s <:+ unpack b) (e : Int) {k : Nat} (hk : 52 < k) : pipe_Reader_Align.f k b (pos b s) e = some (pos b (alignR s e).1, (alignR s e).2) := by
  have hn := suf_len hs
  have e1 : Int.tmod (wrap64 (8 - Int.tmod (pos b s) 8)) 8 = ((s.length % 8 : Nat) : Int) := by
    have h0 : 0 ≤ pos b s := by unfold pos; omega
    rw [Int.tmod_eq_emod_of_nonneg h0, w64 (by omega) (by omega), Int.tmod_eq_emod_of_nonneg (by omega)]
    unfold pos
    omega
  unfold pipe_Reader_Align.f alignR
  rw [e1, take_ok hb hl hs _ _ hk, bs]
  split
  · rfl
  · rw [give_ok, bs]
theorem alignR_pad (m : Nat) (s : List Bool) (hm : m < 8) (hs : s.length % 8 = 0) : alignR (List.replicate m false ++ s) 0 = (s, 0) := by
  have hl : (List.replicate m false ++ s).length % 8 = m := by simp; omega
  have e : takeB (List.replicate m false ++ s) 0 (m : Int) = (0, s, 0) := by
    unfold takeB
    rw [if_neg (by simp), if_neg (by omega), if_neg (by simp; omega), Int.toNat_natCast, List.take_left' (by simp), List.drop_left' (by simp)]
    have : ∀ n, numL (List.replicate n false) = 0 := by
      intro n
      induction n with
      | zero => rfl
      | succ n ih => rw [List.replicate_succ, numL_cons, ih]; rfl
    rw [this]
  unfold alignR
  rw [hl, e, if_pos rfl]
end Go.Proofs.Ytlebgjcpidpgnaa.Pure
