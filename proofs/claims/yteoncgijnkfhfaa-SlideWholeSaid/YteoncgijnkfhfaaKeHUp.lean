/- container/heap's up and Push over the queue of tried parameters. -/
import Derived.Test.YteoncgijnkfhfaaKePx0
import Derived.Test.YteoncgijnkfhfaaKeHQueue
import Derived.Sort.LoopGhostIn
import Derived.Deep.RegionWith
namespace Go.Proofs.Yteoncgijnkfhfaa.P
open Go Go.RowKit Go.Proofs.YteoncgijnkfhfaaW.PrintWords Go.Proofs.YteoncgijnkfhfaaW.PrintLast Go.Proofs.YteoncgijnkfhfaaW.PrintMore
set_option linter.unusedVariables false
set_option linter.unusedSimpArgs false

theorem m_recv (a : Addr) (w : World) (nm : String) : (receiverAt 103 (.val (.pointer (some a))) false (some nm)).run Try.prog w = (loadVar 101 a).run Try.prog w := by kernel_rfl
theorem m_Less (a : Addr) (w : World) (n : Nat) : (method (n + 1) 103 (.pointer (some a)) "Less").run Try.prog w = ((loadVar 101 a).run Try.prog w).andThen fun v w' => .ok (95, v) w' := by
  have h : (method (n + 1) 103 (.pointer (some a)) "Less").run Try.prog w = (do pure (95, ← receiverAt 103 (.val (.pointer (some a))) false (some "Less")) : Sem (FuncId × Value)).run Try.prog w := by kernel_rfl
  rw [h]
  simp only [Sem.run_bind, Sem.run_pure, m_recv]
theorem m_Swap (a : Addr) (w : World) (n : Nat) : (method (n + 1) 103 (.pointer (some a)) "Swap").run Try.prog w = ((loadVar 101 a).run Try.prog w).andThen fun v w' => .ok (96, v) w' := by
  have h : (method (n + 1) 103 (.pointer (some a)) "Swap").run Try.prog w = (do pure (96, ← receiverAt 103 (.val (.pointer (some a))) false (some "Swap")) : Sem (FuncId × Value)).run Try.prog w := by kernel_rfl
  rw [h]
  simp only [Sem.run_bind, Sem.run_pure, m_recv]
theorem m_Len (a : Addr) (w : World) (n : Nat) : (method (n + 1) 103 (.pointer (some a)) "Len").run Try.prog w = ((loadVar 101 a).run Try.prog w).andThen fun v w' => .ok (94, v) w' := by
  have h : (method (n + 1) 103 (.pointer (some a)) "Len").run Try.prog w = (do pure (94, ← receiverAt 103 (.val (.pointer (some a))) false (some "Len")) : Sem (FuncId × Value)).run Try.prog w := by kernel_rfl
  rw [h]
  simp only [Sem.run_bind, Sem.run_pure, m_recv]
theorem m_Push (a : Addr) (w : World) (n : Nat) : (method (n + 1) 103 (.pointer (some a)) "Push").run Try.prog w = .ok (98, .pointer (some a)) w := by kernel_rfl

def lessQ (a b : QE) : Bool := decide (a.f1 < b.f1) || (decide (a.f1 = b.f1) && decide (a.f0 < b.f0))
def getQ (xs : List QE) (i : Nat) : QE := xs.getD i z105
/-- Sifted up from place j. -/
def upL : Nat → List QE → Nat → List QE
  | 0, xs, _ => xs
  | f + 1, xs, j => if j = 0 then xs else if lessQ (getQ xs j) (getQ xs ((j - 1) / 2)) = true then upL f (swapL xs ((j - 1) / 2) j) ((j - 1) / 2) else xs

theorem swapL_length (xs : List QE) (i j : Nat) : (swapL xs i j).length = xs.length := by simp [swapL]
theorem upL_fuel : ∀ (f f' : Nat) (xs : List QE) (j : Nat), j < f → j < f' → upL f xs j = upL f' xs j := by
  intro f
  induction f with
  | zero => intro f' xs j h; omega
  | succ f ih =>
    intro f' xs j h h'
    obtain ⟨f', rfl⟩ : ∃ m, f' = m + 1 := ⟨f' - 1, by omega⟩
    rw [upL, upL]
    by_cases h0 : j = 0
    · rw [if_pos h0, if_pos h0]
    · rw [if_neg h0, if_neg h0]
      split
      · exact ih _ _ _ (by omega) (by omega)
      · rfl
theorem less_eq {xs : List QE} {i j : Nat} (hi : i < xs.length) (hj : j < xs.length) : rice_queue_Less.f xs (i : Int) (j : Int) = some (lessQ (getQ xs i) (getQ xs j)) := by
  unfold rice_queue_Less.f
  rw [if_pos (by omega), if_pos (by omega), if_pos (by omega), if_pos (by omega)]
  have e : ∀ n : Nat, rd_T105 xs (n : Int) = getQ xs n := fun n => by unfold rd_T105 getQ; rw [Int.toNat_natCast]
  rw [e, e]
  unfold rice_tried_less.f lessQ
  by_cases h1 : (getQ xs i).f1 < (getQ xs j).f1
  · rw [if_pos h1, decide_eq_true h1] <;> rfl
  · rw [if_neg h1, decide_eq_false h1, Bool.false_or]
    by_cases h2 : (getQ xs i).f1 = (getQ xs j).f1
    · rw [if_pos h2, decide_eq_true h2, Bool.true_and] <;> rfl
    · rw [if_neg h2, decide_eq_false h2] <;> rfl
theorem isQ_below {W W' : World} {base g : Nat} {v : Value} {xs : List QE} (h : IsQ W base g v xs) (hb : Below W.heap.size W W') : IsQ W' base g v xs := ⟨blk_below h.1 hb, h.2.1, Kd.R_below h.2.2 hb⟩

set_option maxHeartbeats 8000000 in
set_option maxRecDepth 100000 in
theorem heap_up (w0 w : World) (base g : Nat) (v : Value) (xs : List QE) (j : Nat) (hj : j < xs.length) (hm : xs.length ≤ 1000) (hb : base ≤ w.heap.size) (hB : Below base w0 w) (hQ : IsQ w base g v xs) :
    Calls Try.prog 77 #[.iface 103 (.pointer (some ⟨g, 0, none⟩)), .int .i64 j] w fun e w' => e = .returned (.tuple #[]) ∧ IsQ w' base g v (upL (j + 1) xs j) ∧ Below base w0 w' := by
  have HQ := Aside0.mk hQ
  have HB := Aside0.mk hB
  clear hQ hB
  go_enter Try.func77, Try.ntmps77
  go_wp2
  go_loopg [1, 4] j (fun kq v1 v4 wr => ∃ (i : Nat) (ys : List QE), v1 = .int .i64 i ∧ kq = i ∧ i < ys.length ∧ ys.length ≤ 1000 ∧ Aside0 (ys.length = xs.length) ∧ Aside0 (upL (i + 1) ys i = upL (j + 1) xs j) ∧ Aside0 (IsQ wr base g v ys) ∧ Aside0 (Below base w0 wr) ∧ Aside0 (base ≤ wr.heap.size))
  case atStart => exact ⟨j, xs, rfl, rfl, hj, hm, ⟨rfl⟩, ⟨rfl⟩, HQ, HB, ⟨hb⟩⟩
  case round =>
    obtain ⟨i, ys, rfl, hk, hil, hym, HYL, HE, HQ, HB, HS⟩ := hrel
    subst hk
    obtain ⟨hg, hbg, hR⟩ := HQ.out
    obtain ⟨A, c, rfl⟩ := Kd.R_slice hR
    have hc0 := (blk_cell hg 0).trans rfl
    have hmL := fun n => m_Less ⟨g, 0, none⟩ wr n
    have hmS := fun W n => m_Swap ⟨g, 0, none⟩ W n
    have hR' := Aside0.mk hR
    have hg' := Aside0.mk hg
    clear hR hg
    have hx := HE.out
    rw [upL] at hx
    by_cases h0 : gk = 0
    · subst h0
      rw [if_pos rfl] at hx
      have HX := Aside0.mk hx
      clear hx
      go_wp2
      go_end0
      exact ⟨rfl, by rw [← HX.out]; exact HQ.out, HB.out⟩
    · have hp : (((gk : Int) - 1).tdiv 2) = (((gk - 1) / 2 : Nat) : Int) := by rw [Int.tdiv_eq_ediv_of_nonneg (by omega)]; omega
      have ht : (((gk : Int) - 1) / 2 == (gk : Int)) = false := by rw [beq_eq_false_iff_ne]; omega
      have hpi : ((gk : Int) - 1) / 2 = (((gk - 1) / 2 : Nat) : Int) := by omega
      rw [if_neg h0] at hx
      have HX := Aside0.mk hx
      have HP := Aside0.mk hpi
      have HP2 := Aside0.mk hp
      clear hx hpi hp
      go_wp2_with fail
      rw [HP.out]
      obtain ⟨p, hpp⟩ : ∃ p, (gk - 1) / 2 = p := ⟨_, rfl⟩
      have hpl : p < gk := by omega
      rw [hpp] at HX ⊢
      obtain ⟨A', c', he, hle, hC⟩ := Kd.R_reads hR'.out
      cases he
      have HPP := Aside0.mk (show p < ys.length by omega)
      have HLS := Aside0.mk (less_eq (show gk < ys.length from hil) HPP.out)
      clear hpp
      (with_reducible refine (rice_queue_Less.calls A c ys (gk : Int) (p : Int) (lessQ (getQ ys gk) (getQ ys p)) wr hC hle HLS.out).mono ?_)
      rintro e w2 ⟨rfl, hb2⟩
      replace hb2 : Below wr.heap.size wr w2 := by first | exact hb2 | exact hb2.below
      have HQ2 := Aside0.mk (isQ_below HQ.out hb2)
      have HB2 := Aside0.mk (HB.out.trans (hb2.mono HS.out))
      have HS2 := Aside0.mk (Nat.le_trans HS.out hb2.size)
      clear hb2 hC hc0 hmL
      obtain ⟨hg2, _, hR2⟩ := HQ2.out
      have hc2 := (blk_cell hg2 0).trans rfl
      have HR2 := Aside0.mk hR2
      have HG2 := Aside0.mk hg2
      clear hg2 hR2
      cases hl : lessQ (getQ ys gk) (getQ ys p) with
      | false =>
        have hx := HX.out
        rw [hl, if_neg (by simp)] at hx
        have HX' := Aside0.mk hx
        clear hx hl
        go_wp2
        go_end0
        exact ⟨rfl, by rw [← HX'.out]; exact HQ2.out, HB2.out⟩
      | true =>
        have hx := HX.out
        rw [hl, if_pos rfl] at hx
        have HX' := Aside0.mk hx
        clear hx hl
        go_wp2_with fail
        (with_reducible refine (q_Swap w0 w2 base _ ys p gk (by omega) HPP.out hil (by omega) HS2.out HB2.out HR2.out).mono ?_)
        rintro e w3 ⟨rfl, hr3, hb3, hk3⟩
        have HQ3 := Aside0.mk (show IsQ w3 base g (.slice A ys.length c) (swapL ys p gk) from ⟨(hk3.2 g (blk_lt HG2.out) (Nat.ne_of_lt (blk_lt HG2.out)) (Kd.R_ne HR2.out HG2.out (by decide))).trans HG2.out, hbg, hr3⟩)
        have HB3 := Aside0.mk hb3
        have HS3 := Aside0.mk (Nat.le_trans HS2.out hk3.1)
        have HUP := Aside0.mk (show upL (p + 1) (swapL ys p gk) p = upL (j + 1) xs j by rw [← HX'.out]; exact upL_fuel _ _ _ _ (by omega) (by omega))
        have HLN := Aside0.mk (show (swapL ys p gk).length = xs.length by rw [swapL_length, HYL.out])
        clear hr3 hb3 hk3
        go_wp2
        go_roundg p
        case rel => exact ⟨p, swapL ys p gk, rfl, rfl, by rw [swapL_length]; exact HPP.out, by rw [swapL_length]; exact hym, HLN, HUP, HQ3, HB3, HS3⟩
        case measure => exact hpl
end Go.Proofs.Yteoncgijnkfhfaa.P
