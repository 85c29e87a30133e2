/- container/heap's Push, and rice.Best. -/
import Derived.Test.YtoglefgjiaoopaaPx0
import Derived.Test.YtoglefgjiaoopaaHTUp
import Derived.Test.YtoglefgjiaoopaaPx1
import Derived.Deep.QuietTactic
import Derived.BigQuiet
namespace Go.Proofs.Ytoglefgjiaoopaa.P
open Go Go.RowKit Go.Proofs.YtoglefgjiaoopaaW.PrintWords Go.Proofs.YtoglefgjiaoopaaW.PrintLast Go.Proofs.YtoglefgjiaoopaaW.PrintMore
set_option linter.unusedVariables false
set_option linter.unusedSimpArgs false

def pushL (xs : List QE) (x : QE) : List QE := upL (xs.length + 1) (xs ++ [x]) xs.length
theorem upL_length : ∀ (f : Nat) (xs : List QE) (j : Nat), (upL f xs j).length = xs.length := by
  intro f
  induction f with
  | zero => intro xs j; rfl
  | succ f ih =>
    intro xs j
    rw [upL]
    split
    · rfl
    · split
      · rw [ih, swapL_length]
      · rfl
theorem pushL_length (xs : List QE) (x : QE) : (pushL xs x).length = xs.length + 1 := by unfold pushL; rw [upL_length]; simp

set_option maxHeartbeats 8000000 in
set_option maxRecDepth 100000 in
theorem heap_Push (w0 w : World) (base g : Nat) (v : Value) (xs : List QE) (x0 x1 : Int) (hm : xs.length ≤ 900) (hb : base ≤ w.heap.size) (hB : Below base w0 w) (hQ : IsQ w base g v xs) :
    Calls Try.prog 54 #[.iface 58 (.pointer (some ⟨g, 0, none⟩)), .iface 63 (.agg #[.int .i64 x0, .int .i64 x1])] w fun e w' => e = .returned (.tuple #[]) ∧ (∃ v', IsQ w' base g v' (pushL xs ⟨x0, x1⟩)) ∧ Below base w0 w' := by
  have HQ := Aside0.mk hQ
  have HB := Aside0.mk hB
  have hmP := fun n => m_Push ⟨g, 0, none⟩ w n
  clear hQ hB
  go_enter Try.func54, Try.ntmps54
  go_wp2_with fail
  (with_reducible refine (q_Push w0 w base g v xs ⟨x0, x1⟩ (by omega) hb HB.out HQ.out).mono ?_)
  rintro e w1 ⟨rfl, ⟨v1, hq1⟩, hb1⟩
  obtain ⟨ys, hys⟩ : ∃ ys : List QE, xs ++ [⟨x0, x1⟩] = ys := ⟨_, rfl⟩
  have hl : ys.length = xs.length + 1 := by rw [← hys]; simp
  rw [hys] at hq1
  have HYS := Aside0.mk hys
  have HJ := Aside0.mk (show ((ys.length : Int) - 1) = (xs.length : Int) by omega)
  have hlb : ys.length ≤ 1000 := by omega
  have hlb1 : 1 ≤ ys.length := by omega
  have HJL := Aside0.mk (show xs.length < ys.length by omega)
  clear hys hl
  obtain ⟨hg1, hbg, hR1⟩ := hq1
  obtain ⟨A1, c1, rfl, hle1, hC1⟩ := Kd.R_reads hR1
  have hc1 := (blk_cell hg1 0).trans rfl
  have hmL := fun n => m_Len ⟨g, 0, none⟩ w1 n
  have HQ1 := Aside0.mk (show IsQ w1 base g (.slice A1 ys.length c1) ys from ⟨hg1, hbg, hR1⟩)
  have HB1 := Aside0.mk hb1
  have HBS := Aside0.mk (Nat.le_trans hbg (Nat.le_of_lt (blk_lt hg1)))
  have HC1 := Aside0.mk hC1
  clear hg1 hR1 hb1 hC1 hmP
  go_wp2_with fail
  (with_reducible refine (filter_trials_Len.calls A1 c1 ys _ w1 HC1.out hle1 rfl).mono ?_)
  rintro e w2 ⟨rfl, hd⟩
  have HQ2 := Aside0.mk (isQ_below HQ1.out hd.below)
  have HB2 := Aside0.mk (HB1.out.trans (hd.below.mono HBS.out))
  have hbs2 : base ≤ w2.heap.size := Nat.le_trans HBS.out hd.below.size
  clear hd hc1 hmL
  go_wp2_with fail
  rw [HJ.out]
  (with_reducible refine (heap_up w0 w2 base g _ ys xs.length HJL.out hlb hbs2 HB2.out HQ2.out).mono ?_)
  rintro e w3 ⟨rfl, hq3, hb3⟩
  have HQ3 := Aside0.mk hq3
  have HB3 := Aside0.mk hb3
  clear hq3 hb3
  go_wp2
  go_end0
  exact ⟨rfl, ⟨_, by unfold pushL; rw [HYS.out]; exact HQ3.out⟩, HB3.out⟩


end Go.Proofs.Ytoglefgjiaoopaa.P
