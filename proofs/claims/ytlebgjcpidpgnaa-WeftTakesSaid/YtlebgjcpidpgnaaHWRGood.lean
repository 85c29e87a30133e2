/- sackbutref11.Good: the document's answer whether a weave may be. -/
import Derived.Test.YtlebgjcpidpgnaaPx0
import Derived.Test.YtlebgjcpidpgnaaHWGood
namespace Go.Proofs.Ytlebgjcpidpgnaa.P
open Go Go.RowKit Go.Proofs.YtlebgjcpidpgnaaW.PrintWords Go.Proofs.YtlebgjcpidpgnaaW.PrintLast Go.Proofs.YtlebgjcpidpgnaaW.PrintMore
set_option linter.unusedVariables false
set_option linter.unusedSimpArgs false

def sackbutref11_Good.f (k : Nat) (s : Bool) (m g0 g1 g2 n : Int) : Option Bool := weft_Good.f s m g0 g1 g2 n
theorem sackbutref11_Good.mono : ∀ a0 a1 a2 a3 a4 a5 k, LeO (sackbutref11_Good.f k a0 a1 a2 a3 a4 a5) (sackbutref11_Good.f (k + 1) a0 a1 a2 a3 a4 a5) := fun _ _ _ _ _ _ _ => LeO.refl _

set_option maxHeartbeats 8000000 in
set_option maxRecDepth 100000 in
theorem sackbutref11_Good.calls (k : Nat) (a0_0 : Bool) (a0_1 a0_2 a0_3 a0_4 : Int) (a1 : Int) (r : Bool) (w : World) (h : sackbutref11_Good.f k a0_0 a0_1 a0_2 a0_3 a0_4 a1 = some r) :
    Calls Try.prog 52 #[.agg #[.bool a0_0, .int .i64 a0_1, .int .i64 a0_2, .int .i64 a0_3, .int .i64 a0_4], .int .i64 a1] w fun e w' => e = .returned (.bool r) ∧ Below w.heap.size w w' := by
  have HF := Aside0.mk (Option.some.inj h)
  clear h
  have hu := Try.underlying42
  have hu2 := Try.underlying44
  cases a0_0 with
  | false =>
    go_enter Try.func52, Try.ntmps52
    go_wp2
    all_goals go_ret
    all_goals refine ⟨?_, below_alloc (Below.refl _ _) _⟩
    all_goals rw [← HF.out]
    all_goals (first | (simp [Bool.beq_eq_decide_eq]; done) | (simp_all; done) | (simp_all [Bool.beq_eq_decide_eq]; done))
  | true =>
    rw [if_neg (by simp)] at HF
    obtain ⟨b0, hb0⟩ : ∃ b, (a0_2 == 0) = b := ⟨_, rfl⟩
    obtain ⟨b1, hb1⟩ : ∃ b, (a0_3 == 0) = b := ⟨_, rfl⟩
    obtain ⟨b2, hb2⟩ : ∃ b, (a0_4 == 0) = b := ⟨_, rfl⟩
    have HN : Aside0 (decide (a0_2 = 0 ∧ a0_3 = 0 ∧ a0_4 = 0) = (b0 && (b1 && b2))) := ⟨by rw [← hb0, ← hb1, ← hb2]; simp [Bool.beq_eq_decide_eq]⟩
    go_enter Try.func52, Try.ntmps52
    rcases b0 with _ | _ <;> rcases b1 with _ | _ <;> rcases b2 with _ | _
    all_goals
      go_wp2
      have hblk := blk_new w (.cells #[.bool true, .int .i64 a0_1, .int .i64 a0_2, .int .i64 a0_3, .int .i64 a0_4] 44)
      have hbel := below_alloc (Below.refl w.heap.size w) (.cells #[.bool true, .int .i64 a0_1, .int .i64 a0_2, .int .i64 a0_3, .int .i64 a0_4] 44)
      generalize w.alloc (.cells #[.bool true, .int .i64 a0_1, .int .i64 a0_2, .int .i64 a0_3, .int .i64 a0_4] 44) = w1 at hblk hbel ⊢
      generalize w.heap.size = g at hblk ⊢
      have HB := Aside0.mk hbel
      clear hbel
      have hc1 := (blk_cell hblk 1).trans rfl
      have hc2 := (blk_cell hblk 2).trans rfl
      have hc3 := (blk_cell hblk 3).trans rfl
      have hc4 := (blk_cell hblk 4).trans rfl
      clear hblk
      go_loopg [6, 32] 3 (fun kq v6 v32 wr => ∃ i : Nat, v32 = .int .i64 i ∧ kq + i = 3 ∧ wr = w1 ∧ Aside0 ((0 < i → wOut a0_2 = false) ∧ (1 < i → wOut a0_3 = false) ∧ (2 < i → wOut a0_4 = false)))
      case atStart => exact ⟨0, rfl, rfl, rfl, ⟨by simp⟩⟩
      case round =>
        obtain ⟨i, rfl, hk, rfl, HW⟩ := hrel
        have hc : i = 0 ∨ i = 1 ∨ i = 2 ∨ i = 3 := by omega
        rcases hc with rfl | rfl | rfl | rfl
        · by_cases h1 : a0_2 < -16
          · have hd := decide_eq_true h1
            have HO := Aside0.mk (show wOut a0_2 = true by unfold wOut; rw [hd]; rfl)
            go_wp2
            go_ret
            exact ⟨by rw [← HF.out, HO.out]; simp, HB.out⟩
          · have hd := decide_eq_false h1
            by_cases h2 : a0_2 > 15
            · have hd2 : decide (15 < a0_2) = true := decide_eq_true h2
              have HO := Aside0.mk (show wOut a0_2 = true by unfold wOut; rw [hd, Bool.false_or]; exact decide_eq_true h2)
              go_wp2
              go_ret
              exact ⟨by rw [← HF.out, HO.out]; simp, HB.out⟩
            · have hd2 : decide (15 < a0_2) = false := decide_eq_false h2
              have HO := Aside0.mk (show wOut a0_2 = false by unfold wOut; rw [hd, Bool.false_or]; exact decide_eq_false h2)
              go_wp2
              go_roundg (gk - 1)
              case rel => exact ⟨1, rfl, by omega, rfl, ⟨fun _ => HO.out, fun h => absurd h (by omega), fun h => absurd h (by omega)⟩⟩
              case measure => omega
        · by_cases h1 : a0_3 < -16
          · have hd := decide_eq_true h1
            have HO := Aside0.mk (show wOut a0_3 = true by unfold wOut; rw [hd]; rfl)
            go_wp2
            go_ret
            exact ⟨by rw [← HF.out, HO.out]; simp, HB.out⟩
          · have hd := decide_eq_false h1
            by_cases h2 : a0_3 > 15
            · have hd2 : decide (15 < a0_3) = true := decide_eq_true h2
              have HO := Aside0.mk (show wOut a0_3 = true by unfold wOut; rw [hd, Bool.false_or]; exact decide_eq_true h2)
              go_wp2
              go_ret
              exact ⟨by rw [← HF.out, HO.out]; simp, HB.out⟩
            · have hd2 : decide (15 < a0_3) = false := decide_eq_false h2
              have HO := Aside0.mk (show wOut a0_3 = false by unfold wOut; rw [hd, Bool.false_or]; exact decide_eq_false h2)
              go_wp2
              go_roundg (gk - 1)
              case rel => exact ⟨2, rfl, by omega, rfl, ⟨fun _ => HW.out.1 (by omega), fun _ => HO.out, fun h => absurd h (by omega)⟩⟩
              case measure => omega
        · by_cases h1 : a0_4 < -16
          · have hd := decide_eq_true h1
            have HO := Aside0.mk (show wOut a0_4 = true by unfold wOut; rw [hd]; rfl)
            go_wp2
            go_ret
            exact ⟨by rw [← HF.out, HO.out]; simp, HB.out⟩
          · have hd := decide_eq_false h1
            by_cases h2 : a0_4 > 15
            · have hd2 : decide (15 < a0_4) = true := decide_eq_true h2
              have HO := Aside0.mk (show wOut a0_4 = true by unfold wOut; rw [hd, Bool.false_or]; exact decide_eq_true h2)
              go_wp2
              go_ret
              exact ⟨by rw [← HF.out, HO.out]; simp, HB.out⟩
            · have hd2 : decide (15 < a0_4) = false := decide_eq_false h2
              have HO := Aside0.mk (show wOut a0_4 = false by unfold wOut; rw [hd, Bool.false_or]; exact decide_eq_false h2)
              go_wp2
              go_roundg (gk - 1)
              case rel => exact ⟨3, rfl, by omega, rfl, ⟨fun _ => HW.out.1 (by omega), fun _ => HW.out.2.1 (by omega), fun _ => HO.out⟩⟩
              case measure => omega
        · have HW3 := Aside0.mk (show wOut a0_2 = false ∧ wOut a0_3 = false ∧ wOut a0_4 = false from ⟨HW.out.1 (by omega), HW.out.2.1 (by omega), HW.out.2.2 (by omega)⟩)
          clear HW
          go_wp2
          all_goals go_ret
          all_goals refine ⟨?_, HB.out⟩
          all_goals rw [← HF.out, HW3.out.1, HW3.out.2.1, HW3.out.2.2, HN.out]
          all_goals (first | (simp; done) | (simp; omega) | (simp_all; done) | (simp_all; omega))
end Go.Proofs.Ytlebgjcpidpgnaa.P
