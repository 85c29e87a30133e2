/- sackbutref11.Foreseen: the document's answer to what gains foresee of a place. -/
import Derived.Test.YtlebgjcpidpgnaaPx0
import Derived.Test.YtlebgjcpidpgnaaPx10
import Derived.Test.YtlebgjcpidpgnaaHWFore
import Derived.Deep.QuietTactic
import Derived.BigQuiet
namespace Go.Proofs.Ytlebgjcpidpgnaa.P
open Go Go.RowKit Go.Proofs.YtlebgjcpidpgnaaW.PrintWords Go.Proofs.YtlebgjcpidpgnaaW.PrintLast Go.Proofs.YtlebgjcpidpgnaaW.PrintMore
set_option linter.unusedVariables false
set_option linter.unusedSimpArgs false

theorem rsample_eq (l : List Int) (i : Int) : sackbutref11_sample.f l i = some (atZ l i) := by
  unfold sackbutref11_sample.f atZ
  by_cases h : i < 0
  · rw [if_neg (by omega), if_pos h]
  · rw [if_pos (by omega), if_neg h]
    by_cases h2 : i ≥ (l.length : Int)
    · rw [if_neg (by omega), if_pos h2]
    · rw [if_pos (by omega), if_neg h2, if_pos (by omega)]
def foreT (g0 g1 g2 : Int) (l : List Int) (i : Int) : Int := wrap64 (wrap64 (wrap64 (g0 * atZ l (i - 1)) + wrap64 (g1 * atZ l i)) + wrap64 (g2 * atZ l (i + 1)))
def sackbutref11_Foreseen.f (g0 g1 g2 : Int) (l : List Int) (i : Int) : Option Int :=
  if 0 ≤ i ∧ i ≤ 1000000000 then some (if Int.tmod (foreT g0 g1 g2 l i) 16 < 0 then wrap64 (wrap64 (Int.tdiv (foreT g0 g1 g2 l i) 16) - 1) else wrap64 (Int.tdiv (foreT g0 g1 g2 l i) 16)) else none
theorem quiet_d {P : Program} {f : FuncId} {args : Array Value} {w W : World} {n : Nat} {v : Value} (hW : W = w.drewN n) (h : Calls P f args W fun e w' => e = .returned v ∧ Drawn0 W w') : Calls P f args W fun e w'' => e = .returned v ∧ ∃ m, w'' = w.drewN m :=
  h.mono fun _ _ ⟨he, hd⟩ => by
    obtain ⟨m, rfl⟩ := hd.out
    exact ⟨he, n + m, by rw [hW, World.drewN_drewN]⟩

set_option maxHeartbeats 8000000 in
set_option maxRecDepth 100000 in
theorem sackbutref11_Foreseen.calls (a0_0 a0_1 a0_2 : Int) (A1 : Option Addr) (c1 : Nat) (l1 : List Int) (a2 : Int) (r : Int) (w : World) (hr1 : Kd.C (Kd.int .i64) w A1 l1.length l1) (hc1 : l1.length ≤ c1) (h : sackbutref11_Foreseen.f a0_0 a0_1 a0_2 l1 a2 = some r) :
    Calls Try.prog 54 #[.agg #[.int .i64 a0_0, .int .i64 a0_1, .int .i64 a0_2], .slice A1 l1.length c1, .int .i64 a2] w fun e w' => e = .returned (.int .i64 r) ∧ Below w.heap.size w w' := by
  unfold sackbutref11_Foreseen.f at h
  by_cases hi : 0 ≤ a2 ∧ a2 ≤ 1000000000
  case neg => rw [if_neg hi] at h; cases h
  rw [if_pos hi] at h
  have HF := Aside0.mk (Option.some.inj h)
  have HB := Aside0.mk (below_alloc (Below.refl w.heap.size w) (.cells #[.int .i64 a0_0, .int .i64 a0_1, .int .i64 a0_2] 42))
  have HR := Aside0.mk (Kd.C_below hr1 (below_alloc (Below.refl w.heap.size w) (.cells #[.int .i64 a0_0, .int .i64 a0_1, .int .i64 a0_2] 42)))
  obtain ⟨hi0, hi1⟩ := hi
  clear h hr1
  have hu := Try.underlying42
  have hw1 : IntKind.i64.wrap (a2 - 1) = a2 - 1 := IntWalk.i64_in _ (by omega)
  have hw2 : IntKind.i64.wrap (a2 + 1) = a2 + 1 := IntWalk.i64_in _ (by omega)
  have S0 := Aside0.mk (rsample_eq l1 (a2 - 1))
  have S1 := Aside0.mk (rsample_eq l1 a2)
  have S2 := Aside0.mk (rsample_eq l1 (a2 + 1))
  have hblk := blk_new w (.cells #[.int .i64 a0_0, .int .i64 a0_1, .int .i64 a0_2] 42)
  have hc0 := (blk_cell hblk 0).trans rfl
  have hc1' := (blk_cell hblk 1).trans rfl
  have hc2 := (blk_cell hblk 2).trans rfl
  clear hblk
  go_enter Try.func54, Try.ntmps54
  go_wp2
  generalize w.alloc (.cells #[.int .i64 a0_0, .int .i64 a0_1, .int .i64 a0_2] 42) = w1 at HB HR hc0 hc1' hc2 ⊢
  go_quiet ((first
    | (go_at_call 79; refine quiet_d (n := _) rfl (sackbutref11_sample.calls A1 c1 l1 _ _ _ (Kd.C_drewN HR.out _) hc1 S0.out))
    | (go_at_call 79; refine quiet_d (n := _) rfl (sackbutref11_sample.calls A1 c1 l1 _ _ _ (Kd.C_drewN HR.out _) hc1 S1.out))
    | (go_at_call 79; refine quiet_d (n := _) rfl (sackbutref11_sample.calls A1 c1 l1 _ _ _ (Kd.C_drewN HR.out _) hc1 S2.out))))
  clear hw1 hw2
  obtain ⟨z, hz⟩ : ∃ z, wrap64 (wrap64 (wrap64 (a0_0 * atZ l1 (a2 - 1)) + wrap64 (a0_1 * atZ l1 a2)) + wrap64 (a0_2 * atZ l1 (a2 + 1))) = z := ⟨_, rfl⟩
  have hz2 : foreT a0_0 a0_1 a0_2 l1 a2 = z := hz
  rw [hz]
  rw [hz2] at HF
  clear hz hz2
  have HB2 := Aside0.mk (pw_below_drewN HB.out nq)
  by_cases hm : Int.tmod z 16 < 0
  · have hd := decide_eq_true hm
    rw [if_pos hm] at HF
    go_wp2
    go_ret
    exact ⟨by rw [← HF.out]; rfl, HB2.out⟩
  · have hd := decide_eq_false hm
    rw [if_neg hm] at HF
    go_wp2
    go_ret
    exact ⟨by rw [← HF.out]; rfl, HB2.out⟩
end Go.Proofs.Ytlebgjcpidpgnaa.P
