/- A reader's alignment and its end, as the plain machine has it. -/
import Derived.Test.YtgglnmpjajnkaaaPx0
import Derived.Test.YtgglnmpjajnkaaaPx2
import Derived.Test.YtgglnmpjajnkaaaHEnd
import Derived.Test.YtgglnmpjajnkaaaUReader
namespace Go.Proofs.Ytgglnmpjajnkaaa.Pure
open Go.RowKit Go.Proofs.Ytgglnmpjajnkaaa.P Go.Proofs.YtgglnmpjajnkaaaW.PrintWords Go.Proofs.YtgglnmpjajnkaaaW.PrintLast Go.Proofs.YtgglnmpjajnkaaaW.PrintMore
set_option linter.unusedVariables false
set_option linter.unusedSimpArgs false

def alignR (s : List Bool) (e : Int) : List Bool × Int :=
  if (takeB s e ((s.length % 8 : Nat) : Int)).1 = 0 then (takeB s e ((s.length % 8 : Nat) : Int)).2 else ((takeB s e ((s.length % 8 : Nat) : Int)).2.1, giveB (takeB s e ((s.length % 8 : Nat) : Int)).2.2 5)
theorem ralign_ok {b : List Int} (hb : Bytes8 b) (hl : b.length ≤ 10000000) {s : List Bool} (hs : s <:+ unpack b) (e : Int) {k : Nat} (hk : 52 < k) : pipe_Reader_Align.f k b (pos b s) e = some (pos b (alignR s e).1, (alignR s e).2) := by
  have hn := suf_len hs
  have e1 : Int.tmod (wrap64 (8 - Int.tmod (pos b s) 8)) 8 = ((s.length % 8 : Nat) : Int) := by
    have h0 : 0 ≤ pos b s := by unfold pos; omega
    rw [Int.tmod_eq_emod_of_nonneg h0, w64 (by omega) (by omega), Int.tmod_eq_emod_of_nonneg (by omega)]
    unfold pos
    omega
  unfold pipe_Reader_Align.f alignR
  rw [e1, take_ok hb hl hs _ _ hk, bs]
  split
  · rfl
  · rw [give_ok, bs]
def endR (s : List Bool) (e : Int) : Int := if e = 0 ∧ 8 ≤ s.length then 4 else (alignR s e).2
theorem end_ok {b : List Int} (hb : Bytes8 b) (hl : b.length ≤ 10000000) {s : List Bool} (hs : s <:+ unpack b) (e : Int) {k : Nat} (hk : 52 < k) : pipe_Reader_End.f k b (pos b s) e = some (endR s e, pos b s, e) := by
  unfold pipe_Reader_End.f pipe_Reader_End.j endR
  by_cases he : e = 0
  · rw [if_pos he, left_ok hl hs, bs]
    by_cases h8 : 8 ≤ s.length
    · rw [if_pos (by show (s.length : Int) ≥ 8; omega), if_pos ⟨he, h8⟩]
    · rw [if_neg (by show ¬ (s.length : Int) ≥ 8; omega), if_neg (by omega), ralign_ok hb hl hs _ hk, bs]
  · rw [if_neg he, if_neg (by omega), ralign_ok hb hl hs _ hk, bs]
theorem numL_zero (l : List Bool) : numL l = 0 ↔ l.any id = false := by
  induction l with
  | nil => simp [numL, numA]
  | cons c l ih =>
    have hr := numL_range l
    have hp : (0 : Int) < 2 ^ l.length := Int.pow_pos (by omega)
    rw [numL_cons, List.any_cons]
    cases c
    · simpa using ih
    · simp only [if_true, id]
      constructor
      · intro h; omega
      · intro h; simp at h
/-- The end of fewer than eight bits. -/
theorem end_few {s : List Bool} (h : s.length < 8) : endR s 0 = if s.any id = true then 5 else 0 := by
  have e8 : s.length % 8 = s.length := by omega
  have ht : takeB s 0 ((s.length % 8 : Nat) : Int) = (numL s, s.drop s.length, 0) := by
    unfold takeB
    rw [if_neg (by omega), e8, if_neg (by omega), if_neg (by omega), Int.toNat_natCast, List.take_length]
  unfold endR alignR
  rw [if_neg (by omega), ht]
  by_cases hz : numL s = 0
  · rw [if_pos hz, (numL_zero s).mp hz]
    rfl
  · rw [if_neg hz]
    cases ha : s.any id
    · exact absurd ((numL_zero s).mpr ha) hz
    · rfl
end Go.Proofs.Ytgglnmpjajnkaaa.Pure
