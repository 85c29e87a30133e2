/- weft.foreseen: what gains foresee of a place. -/
import Derived.Test.YtlebgjcpidpgnaaPx0
import Derived.Test.YtlebgjcpidpgnaaPx3
import Derived.Sort.LoopGhostIn
namespace Go.Proofs.Ytlebgjcpidpgnaa.P
open Go Go.RowKit Go.Proofs.YtlebgjcpidpgnaaW.PrintWords Go.Proofs.YtlebgjcpidpgnaaW.PrintLast Go.Proofs.YtlebgjcpidpgnaaW.PrintMore
set_option linter.unusedVariables false
set_option linter.unusedSimpArgs false

def atZ (l : List Int) (i : Int) : Int := if i < 0 then 0 else if i ≥ (l.length : Int) then 0 else rd l i
theorem at_eq (l : List Int) (i : Int) : weft_at.f l i = some (atZ l i) := by
  unfold weft_at.f atZ
  split
  · rfl
  · split
    · rfl
    · rw [if_pos (by omega), if_pos (by omega)]
def foreS (g0 g1 g2 : Int) (l : List Int) (i : Int) : Nat → Int
  | 0 => 0
  | 1 => wrap64 (0 + wrap64 (g0 * atZ l (i - 1)))
  | 2 => wrap64 (wrap64 (0 + wrap64 (g0 * atZ l (i - 1))) + wrap64 (g1 * atZ l i))
  | _ => wrap64 (wrap64 (wrap64 (0 + wrap64 (g0 * atZ l (i - 1))) + wrap64 (g1 * atZ l i)) + wrap64 (g2 * atZ l (i + 1)))
def weft_foreseen.f (g0 g1 g2 : Int) (l : List Int) (i : Int) : Option Int := if 0 ≤ i ∧ i ≤ 1000000000 then some (foreS g0 g1 g2 l i 3 / 16) else none

set_option maxHeartbeats 8000000 in
set_option maxRecDepth 100000 in
theorem weft_foreseen.calls (a0_0 a0_1 a0_2 : Int) (A1 : Option Addr) (c1 : Nat) (l1 : List Int) (a2 : Int) (r : Int) (w : World) (hr1 : Kd.C (Kd.int .i64) w A1 l1.length l1) (hc1 : l1.length ≤ c1) (h : weft_foreseen.f a0_0 a0_1 a0_2 l1 a2 = some r) :
    Calls Try.prog 64 #[.agg #[.int .i64 a0_0, .int .i64 a0_1, .int .i64 a0_2], .slice A1 l1.length c1, .int .i64 a2] w fun e w' => e = .returned (.int .i64 r) ∧ Below w.heap.size w w' := by
  unfold weft_foreseen.f at h
  by_cases hi : 0 ≤ a2 ∧ a2 ≤ 1000000000
  case neg => rw [if_neg hi] at h; cases h
  rw [if_pos hi] at h
  have HF := Aside0.mk (Option.some.inj h)
  have HR := Aside0.mk hr1
  obtain ⟨hi0, hi1⟩ := hi
  clear h hr1
  have hu := Try.underlying42
  have ix0 : ∀ w, (Instr.index 42 (.agg #[.int .i64 a0_0, .int .i64 a0_1, .int .i64 a0_2]) (.int .i64 0)).run Try.prog w = .ok (.int .i64 a0_0) w := fun _ => by kernel_rfl
  have ix1 : ∀ w, (Instr.index 42 (.agg #[.int .i64 a0_0, .int .i64 a0_1, .int .i64 a0_2]) (.int .i64 1)).run Try.prog w = .ok (.int .i64 a0_1) w := fun _ => by kernel_rfl
  have ix2 : ∀ w, (Instr.index 42 (.agg #[.int .i64 a0_0, .int .i64 a0_1, .int .i64 a0_2]) (.int .i64 2)).run Try.prog w = .ok (.int .i64 a0_2) w := fun _ => by kernel_rfl
  go_enter Try.func64, Try.ntmps64
  go_wp2
  go_loopg [7, 8, 9, 11] 3 (fun kq v7 v8 v9 v11 wr => ∃ i : Nat, v11 = .int .i64 i ∧ kq + i = 3 ∧ v7 = .int .i64 (foreS a0_0 a0_1 a0_2 l1 a2 i) ∧ Aside0 (Below w.heap.size w wr))
  case atStart => exact ⟨0, rfl, rfl, rfl, ⟨below_alloc (Below.refl _ _) _⟩⟩
  case round =>
    obtain ⟨i, rfl, hk, rfl, HB⟩ := hrel
    have hc : i = 0 ∨ i = 1 ∨ i = 2 ∨ i = 3 := by omega
    rcases hc with rfl | rfl | rfl | rfl
    · have HA := Aside0.mk (at_eq l1 (a2 - 1))
      go_wp2_with fail
      (with_reducible refine (weft_at.calls A1 c1 l1 _ (atZ l1 (a2 - 1)) wr (Kd.C_below HR.out HB.out) hc1 ?_).mono ?_)
      · first | exact HA.out | (rw [show a2 + 2 - 1 = a2 + 1 by omega]; exact HA.out)
      rintro e w2 ⟨rfl, hd⟩
      have HB2 := Aside0.mk (below_then HB.out HB.out.size hd.below)
      clear hd
      go_wp2
      go_roundg (gk - 1)
      case rel => exact ⟨1, rfl, by omega, by first | rfl | (simp [foreS]; done), HB2⟩
      case measure => omega
    · have HA := Aside0.mk (at_eq l1 a2)
      go_wp2_with fail
      (with_reducible refine (weft_at.calls A1 c1 l1 _ (atZ l1 a2) wr (Kd.C_below HR.out HB.out) hc1 ?_).mono ?_)
      · first | exact HA.out | (rw [show a2 + 2 - 1 = a2 + 1 by omega]; exact HA.out)
      rintro e w2 ⟨rfl, hd⟩
      have HB2 := Aside0.mk (below_then HB.out HB.out.size hd.below)
      clear hd
      go_wp2
      go_roundg (gk - 1)
      case rel => exact ⟨2, rfl, by omega, by first | rfl | (simp [foreS]; done), HB2⟩
      case measure => omega
    · have HA := Aside0.mk (at_eq l1 (a2 + 1))
      go_wp2_with fail
      (with_reducible refine (weft_at.calls A1 c1 l1 _ (atZ l1 (a2 + 1)) wr (Kd.C_below HR.out HB.out) hc1 ?_).mono ?_)
      · first | exact HA.out | (rw [show a2 + 2 - 1 = a2 + 1 by omega]; exact HA.out)
      rintro e w2 ⟨rfl, hd⟩
      have HB2 := Aside0.mk (below_then HB.out HB.out.size hd.below)
      clear hd
      go_wp2
      go_roundg (gk - 1)
      case rel => exact ⟨3, rfl, by omega, by first | rfl | (simp [foreS]; done), HB2⟩
      case measure => omega
    · go_wp2
      go_ret
      exact ⟨by first | rfl | (rw [← HF.out]; rfl), HB.out⟩
end Go.Proofs.Ytlebgjcpidpgnaa.P
