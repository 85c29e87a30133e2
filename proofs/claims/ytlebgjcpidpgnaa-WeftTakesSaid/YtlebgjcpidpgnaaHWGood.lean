/- weft.Good: may a weave be among so many channels? -/
import Derived.Test.YtlebgjcpidpgnaaPx0
import Derived.Test.YtlebgjcpidpgnaaPx3
import Derived.Sort.LoopGhostIn
import Derived.ChangeKeysEq
import Derived.BigQuiet
import Derived.Deep.QuietTactic
namespace Go.Proofs.Ytlebgjcpidpgnaa.P
open Go Go.RowKit Go.Proofs.YtlebgjcpidpgnaaW.PrintWords Go.Proofs.YtlebgjcpidpgnaaW.PrintLast Go.Proofs.YtlebgjcpidpgnaaW.PrintMore
set_option linter.unusedVariables false
set_option linter.unusedSimpArgs false

def wOut (g : Int) : Bool := decide (g < -16) || decide (g > 15)
def weft_Good.f (s : Bool) (m g0 g1 g2 n : Int) : Option Bool :=
  some (if s = false then decide (m = 0) && decide (g0 = 0 ∧ g1 = 0 ∧ g2 = 0) else !(wOut g0 || wOut g1 || wOut g2) && (decide (0 ≤ m) && (decide (m < n) && decide (m < 8))) && !decide (g0 = 0 ∧ g1 = 0 ∧ g2 = 0))
theorem eqArr (d : Nat) (w : World) (x0 y0 x1 y1 x2 y2 : Int) :
    (Op.equalIn (d + 2) 42 (.agg #[.int .i64 x0, .int .i64 x1, .int .i64 x2]) (.agg #[.int .i64 y0, .int .i64 y1, .int .i64 y2])).run Try.prog w = .ok (decide (x0 = y0 ∧ x1 = y1 ∧ x2 = y2)) w := by
  obtain ⟨i0, hi, _⟩ := info_parts (show (Try.prog.info? 3).map (fun i => (i.zero, i.size, i.bytes)) = some (some (.int .i64 0), 1, 8) from by kernel_rfl)
  rw [show d + 2 = (d + 1) + 1 from rfl, run_equalIn_array _ (d + 1) _ _ Try.underlying42 hi, show Try.prog.cellsOf 3 = 1 by kernel_rfl, show List.range 3 = [0, 1, 2] from rfl]
  simp only [Op.eqItems, Sem.run_bind]
  go_simp
  by_cases h0 : x0 = y0 <;> by_cases h1 : x1 = y1 <;> by_cases h2 : x2 = y2 <;> simp [h0, h1, h2]
theorem eqWeave (d : Nat) (w : World) (s s' : Bool) (m m' x0 x1 x2 y0 y1 y2 : Int) :
    (Op.equalIn (d + 4) 44 (.agg #[.bool s, .int .i64 m, .int .i64 x0, .int .i64 x1, .int .i64 x2]) (.agg #[.bool s', .int .i64 m', .int .i64 y0, .int .i64 y1, .int .i64 y2])).run Try.prog w = .ok (s == s' && (m == m' && (decide (x0 = y0 ∧ x1 = y1 ∧ x2 = y2)))) w := by
  refine eqA_of Try.underlying44 (by kernel_rfl) ?_
  refine eqf_cons (by rfl) (by go_simp; rfl) (by go_simp; rfl) (by go_simp) ?_
  refine eqf_cons (by rfl) (by go_simp; rfl) (by go_simp; rfl) (by go_simp) ?_
  exact eqf_last (by rfl) (by go_simp) (by go_simp) (eqArr (d + 1) w _ _ _ _ _ _)

attribute [local go_sem high] eqWeave eqArr
set_option maxHeartbeats 8000000 in
set_option maxRecDepth 100000 in
theorem weft_Good.calls (a0_0 : Bool) (a0_1 a0_2 a0_3 a0_4 : Int) (a1 : Int) (r : Bool) (w : World) (h : weft_Good.f a0_0 a0_1 a0_2 a0_3 a0_4 a1 = some r) :
    Calls Try.prog 70 #[.agg #[.bool a0_0, .int .i64 a0_1, .int .i64 a0_2, .int .i64 a0_3, .int .i64 a0_4], .int .i64 a1] w fun e w' => e = .returned (.bool r) ∧ Below w.heap.size w w' := by
  have HF := Aside0.mk (Option.some.inj h)
  clear h
  have hu := Try.underlying42
  have hu2 := Try.underlying44
  go_enter Try.func70, Try.ntmps70
  have ix0 : ∀ w, (Instr.index 42 (.agg #[.int .i64 a0_2, .int .i64 a0_3, .int .i64 a0_4]) (.int .i64 0)).run Try.prog w = .ok (.int .i64 a0_2) w := fun _ => by kernel_rfl
  have ix1 : ∀ w, (Instr.index 42 (.agg #[.int .i64 a0_2, .int .i64 a0_3, .int .i64 a0_4]) (.int .i64 1)).run Try.prog w = .ok (.int .i64 a0_3) w := fun _ => by kernel_rfl
  have ix2 : ∀ w, (Instr.index 42 (.agg #[.int .i64 a0_2, .int .i64 a0_3, .int .i64 a0_4]) (.int .i64 2)).run Try.prog w = .ok (.int .i64 a0_4) w := fun _ => by kernel_rfl
  cases a0_0 with
  | false =>
    go_wp2
    go_ret
    refine ⟨?_, below_alloc (Below.refl _ _) _⟩
    rw [← HF.out]
    simp [Bool.beq_eq_decide_eq]
  | true =>
    go_wp2
    have hblk := blk_new w (.cells #[.bool true, .int .i64 a0_1, .int .i64 a0_2, .int .i64 a0_3, .int .i64 a0_4] 44)
    have hbel := below_alloc (Below.refl w.heap.size w) (.cells #[.bool true, .int .i64 a0_1, .int .i64 a0_2, .int .i64 a0_3, .int .i64 a0_4] 44)
    generalize w.alloc (.cells #[.bool true, .int .i64 a0_1, .int .i64 a0_2, .int .i64 a0_3, .int .i64 a0_4] 44) = w1 at hblk hbel ⊢
    generalize w.heap.size = g at hblk ⊢
    have HB := Aside0.mk hbel
    clear hbel
    have hc1 := (blk_cell hblk 1).trans rfl
    have hc2 := (blk_cell hblk 2).trans rfl
    have hc3 := (blk_cell hblk 3).trans rfl
    have hc4 := (blk_cell hblk 4).trans rfl
    clear hblk
    rw [if_neg (by simp)] at HF
    go_loopg [6, 15] 3 (fun kq v6 v15 wr => ∃ i : Nat, v15 = .int .i64 i ∧ kq + i = 3 ∧ wr = w1 ∧ Aside0 ((0 < i → wOut a0_2 = false) ∧ (1 < i → wOut a0_3 = false) ∧ (2 < i → wOut a0_4 = false)))
    case atStart => exact ⟨0, rfl, rfl, rfl, ⟨by simp⟩⟩
    case round =>
      obtain ⟨i, rfl, hk, rfl, HW⟩ := hrel
      have hc : i = 0 ∨ i = 1 ∨ i = 2 ∨ i = 3 := by omega
      rcases hc with rfl | rfl | rfl | rfl
      · by_cases h1 : a0_2 < -16
        · have hd := decide_eq_true h1
          have HO := Aside0.mk (show wOut a0_2 = true by unfold wOut; rw [hd]; rfl)
          go_wp2
          go_ret
          exact ⟨by rw [← HF.out, HO.out]; simp, HB.out⟩
        · have hd := decide_eq_false h1
          by_cases h2 : a0_2 > 15
          · have hd2 : decide (15 < a0_2) = true := decide_eq_true h2
            have HO := Aside0.mk (show wOut a0_2 = true by unfold wOut; rw [hd, Bool.false_or]; exact decide_eq_true h2)
            go_wp2
            go_ret
            exact ⟨by rw [← HF.out, HO.out]; simp, HB.out⟩
          · have hd2 : decide (15 < a0_2) = false := decide_eq_false h2
            have HO := Aside0.mk (show wOut a0_2 = false by unfold wOut; rw [hd, Bool.false_or]; exact decide_eq_false h2)
            go_wp2
            go_roundg (gk - 1)
            case rel => exact ⟨1, rfl, by omega, rfl, ⟨fun _ => HO.out, fun h => absurd h (by omega), fun h => absurd h (by omega)⟩⟩
            case measure => omega
      · by_cases h1 : a0_3 < -16
        · have hd := decide_eq_true h1
          have HO := Aside0.mk (show wOut a0_3 = true by unfold wOut; rw [hd]; rfl)
          go_wp2
          go_ret
          exact ⟨by rw [← HF.out, HO.out]; simp, HB.out⟩
        · have hd := decide_eq_false h1
          by_cases h2 : a0_3 > 15
          · have hd2 : decide (15 < a0_3) = true := decide_eq_true h2
            have HO := Aside0.mk (show wOut a0_3 = true by unfold wOut; rw [hd, Bool.false_or]; exact decide_eq_true h2)
            go_wp2
            go_ret
            exact ⟨by rw [← HF.out, HO.out]; simp, HB.out⟩
          · have hd2 : decide (15 < a0_3) = false := decide_eq_false h2
            have HO := Aside0.mk (show wOut a0_3 = false by unfold wOut; rw [hd, Bool.false_or]; exact decide_eq_false h2)
            go_wp2
            go_roundg (gk - 1)
            case rel => exact ⟨2, rfl, by omega, rfl, ⟨fun _ => HW.out.1 (by omega), fun _ => HO.out, fun h => absurd h (by omega)⟩⟩
            case measure => omega
      · by_cases h1 : a0_4 < -16
        · have hd := decide_eq_true h1
          have HO := Aside0.mk (show wOut a0_4 = true by unfold wOut; rw [hd]; rfl)
          go_wp2
          go_ret
          exact ⟨by rw [← HF.out, HO.out]; simp, HB.out⟩
        · have hd := decide_eq_false h1
          by_cases h2 : a0_4 > 15
          · have hd2 : decide (15 < a0_4) = true := decide_eq_true h2
            have HO := Aside0.mk (show wOut a0_4 = true by unfold wOut; rw [hd, Bool.false_or]; exact decide_eq_true h2)
            go_wp2
            go_ret
            exact ⟨by rw [← HF.out, HO.out]; simp, HB.out⟩
          · have hd2 : decide (15 < a0_4) = false := decide_eq_false h2
            have HO := Aside0.mk (show wOut a0_4 = false by unfold wOut; rw [hd, Bool.false_or]; exact decide_eq_false h2)
            go_wp2
            go_roundg (gk - 1)
            case rel => exact ⟨3, rfl, by omega, rfl, ⟨fun _ => HW.out.1 (by omega), fun _ => HW.out.2.1 (by omega), fun _ => HO.out⟩⟩
            case measure => omega
      · have HW3 := Aside0.mk (show wOut a0_2 = false ∧ wOut a0_3 = false ∧ wOut a0_4 = false from ⟨HW.out.1 (by omega), HW.out.2.1 (by omega), HW.out.2.2 (by omega)⟩)
        clear HW
        go_wp2
        all_goals go_ret
        all_goals refine ⟨?_, HB.out⟩
        all_goals rw [← HF.out, HW3.out.1, HW3.out.2.1, HW3.out.2.2]
        all_goals (first | (simp; done) | (simp; omega) | (simp_all; done) | (simp_all; omega))
end Go.Proofs.Ytlebgjcpidpgnaa.P
