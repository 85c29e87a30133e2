/- The law LatticeSteps, walked. -/
import Derived.Test.YtoglefgjiaoopaaPx0
import Derived.Test.YtoglefgjiaoopaaPx2
import Derived.Test.YtoglefgjiaoopaaHStepsF
import Derived.Test.YtoglefgjiaoopaaHCoefs
namespace Go.Proofs.Ytoglefgjiaoopaa.P
open Go.RowKit Go.Proofs.YtoglefgjiaoopaaW.PrintWords Go.Proofs.YtoglefgjiaoopaaW.PrintLast Go.Proofs.YtoglefgjiaoopaaW.PrintMore Go.Proofs.Ytoglefgjiaoopaa.Pure
set_option linter.unusedVariables false
set_option linter.unusedSimpArgs false

def sackbutlaw06_LatticeSteps.f (l : List Int) (a1 : Int) : Option Bool := if l.length ≤ 140737488351232 ∧ 0 ≤ a1 ∧ a1 ≤ 255 then some true else none
theorem steps_calls (A : Option Addr) (c m : Nat) (w : World) :
    Calls Try.prog 17 #[.slice A m c] w fun e w' => e = .returned (.func (.func 39) #[] #[.pointer (some ⟨w.heap.size, 0, none⟩)]) ∧ w' = w.alloc (.cells #[.slice A m c] 22) := (callsIn_wide (n := 4)).1 (steps_in 4 A c m w)

set_option maxHeartbeats 8000000 in
set_option maxRecDepth 100000 in
theorem sackbutlaw06_LatticeSteps.calls (A0 : Option Addr) (c0 : Nat) (l0 : List Int) (a1 : Int) (r : Bool) (w : World) (hr0 : Kd.C (Kd.int .i64) w A0 l0.length l0) (hc0 : l0.length ≤ c0) (h : sackbutlaw06_LatticeSteps.f l0 a1 = some r) :
    Calls Try.prog 3 #[.slice A0 l0.length c0, .int .u8 a1] w fun e w' => e = .returned (.bool r) ∧ Below w.heap.size w w' := by
  unfold sackbutlaw06_LatticeSteps.f at h
  by_cases hb : l0.length ≤ 140737488351232 ∧ 0 ≤ a1 ∧ a1 ≤ 255
  case neg => rw [if_neg hb] at h; cases h
  rw [if_pos hb] at h
  cases h
  obtain ⟨hl, ha0, ha1⟩ := hb
  have HR := Aside0.mk hr0
  have HAW := Aside0.mk (awake06 (k := 20) (Nat.le_refl _))
  have HGD := Aside0.mk (rgood_ok (l := l0) hl (k := l0.length + 1) (by omega))
  clear hr0
  have hmf : ∀ (fn : Fn) (first : Array Value) (cap : Array Value) (w : World), (Instr.makeFunc fn first cap).run Try.prog w = .ok (.func fn first cap) w := fun _ _ _ _ => rfl
  have hx := blk_new w (.cells #[.slice A0 l0.length c0] 22)
  have hB0 := below_alloc (Below.refl w.heap.size w) (.cells #[.slice A0 l0.length c0] 22)
  have HX := Aside0.mk hx
  have HB0 := Aside0.mk hB0
  clear hx hB0
  go_enter Try.func3, Try.ntmps3
  go_wp2_with fail
  (with_reducible refine (sackbutlaw06_awake.calls 20 true _ HAW.out).mono ?_)
  rintro e w1 ⟨rfl, hb1⟩
  have hx1 := blk_below HX.out hb1
  have HX1 := Aside0.mk hx1
  have HB1 := Aside0.mk (below_then HB0.out HB0.out.size hb1)
  have hc1 := (blk_cell hx1 0).trans rfl
  clear hx1 hb1 HX HB0
  go_wp2_with fail
  (with_reducible refine (sackbutref06_Good.calls (l0.length + 1) A0 c0 l0 (goodL l0) w1 (Kd.C_below HR.out HB1.out) hc0 HGD.out).mono ?_)
  rintro e w2 ⟨rfl, hd⟩
  have hx2 := blk_below HX1.out hd.below
  have HX2 := Aside0.mk hx2
  have HB2 := Aside0.mk (below_then HB1.out HB1.out.size hd.below)
  have hc2 := (blk_cell hx2 0).trans rfl
  clear hx2 hd HX1 HB1 hc1
  cases hg : goodL l0 with
  | false =>
    go_wp2_with fail
    (with_reducible refine (sackbutlaw06_awake.calls 20 true _ HAW.out).mono ?_)
    rintro e w3 ⟨rfl, hb3⟩
    have HB3 := Aside0.mk (below_then HB2.out HB2.out.size hb3)
    clear hb3
    go_wp2
    go_ret
    exact ⟨rfl, HB3.out⟩
  | true =>
    have h16 : l0.length ≤ 16 := by
      unfold goodL at hg
      by_cases h : l0.length ≤ 16
      · exact h
      · simp [h] at hg
    clear hg
    have h20 : a1 % 20 < 20 := by omega
    have h20' : 0 ≤ a1 % 20 := by omega
    obtain ⟨m, hm⟩ : ∃ m, m = a1 % 20 := ⟨_, rfl⟩
    have hls : LS w (((w2.alloc (.cells #[.int .i64 0] 3)).alloc (.cells #[.int .i64 (a1 % 20)] 3)).alloc (.cells #[.bool true] 4)) A0 c0 l0 (w2.heap.size + 1 + 1) w2.heap.size w.heap.size (w2.heap.size + 1) 0 (a1 % 20) := by
      have hs := HB2.out.size
      refine ⟨below_alloc (below_alloc (below_alloc HB2.out _) _) _, ?_, blk_alloc (blk_alloc (blk_new _ _) _) _, blk_alloc (blk_alloc (blk_alloc HX2.out _) _) _, ?_, by omega, by omega, by omega, by omega, by omega⟩
      · have := blk_new ((w2.alloc (.cells #[.int .i64 0] 3)).alloc (.cells #[.int .i64 (a1 % 20)] 3)) (.cells #[.bool true] 4)
        rwa [World.size_alloc, World.size_alloc] at this
      · have := blk_alloc (blk_new (w2.alloc (.cells #[.int .i64 0] 3)) (.cells #[.int .i64 (a1 % 20)] 3)) (.cells #[.bool true] 4)
        rwa [World.size_alloc] at this
    have HLS := Aside0.mk hls
    have hc3 := (blk_cell hls.l 0).trans rfl
    clear hls hc2 HX2 HB2
    go_wp2_with fail
    (with_reducible refine (steps_calls A0 c0 l0.length _).mono ?_)
    rintro e w4 ⟨rfl, rfl⟩
    have hbx := blk_new (((w2.alloc (.cells #[.int .i64 0] 3)).alloc (.cells #[.int .i64 (a1 % 20)] 3)).alloc (.cells #[.bool true] 4)) (.cells #[.slice A0 l0.length c0] 22)
    have HLS2 := Aside0.mk (HLS.out.keep (below_alloc (Below.refl _ _) (.cells #[.slice A0 l0.length c0] 22)))
    have hsf := stepsF_calls w _ A0 c0 l0 (w2.heap.size + 1 + 1) w2.heap.size w.heap.size (w2.heap.size + 1) _ (a1 % 20) h16 HR.out hc0 HLS2.out hbx
    simp only [World.size_alloc] at hsf
    have HSF := Aside0.mk hsf
    clear hsf hbx HLS hc3
    go_wp2_with fail
    (with_reducible refine HSF.out.mono ?_)
    rintro e w5 ⟨rfl, hs5⟩
    have HB5 := Aside0.mk hs5.below
    have e1 := (blk_cell hs5.ok 0).trans rfl
    have e2 := (blk_cell hs5.n 0).trans rfl
    have e3 := (blk_cell hs5.l 0).trans rfl
    have e4 := (blk_cell hs5.m 0).trans rfl
    have HN := Aside0.mk (show stepsN l0.length (a1 % 20) = min ((l0.length : Int) + 1) (max (a1 % 20) 1) by unfold stepsN; split <;> omega)
    clear HSF HLS2 hs5
    generalize stepsN l0.length (a1 % 20) = n at e2 HN
    clear hm m
    have hfin : ∀ {x : Int}, n = x → (n == x) = true := fun h => beq_iff_eq.mpr h
    go_wp2
    all_goals rename_i hh
    all_goals first | rw [if_pos h] at hh | rw [if_neg (by omega)] at hh
    all_goals go_ret
    all_goals refine ⟨?_, HB5.out⟩
    all_goals have hn := HN.out
    all_goals exact congrArg (fun b => Ending.returned (Value.bool b)) (hfin (by omega))
end Go.Proofs.Ytoglefgjiaoopaa.P
