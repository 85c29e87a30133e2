/- weft.Rest: what isn't foreseen of a channel. -/
import Derived.Test.YtlebgjcpidpgnaaPx0
import Derived.Test.YtlebgjcpidpgnaaPx5
import Derived.Test.YtlebgjcpidpgnaaPx4
import Derived.Test.YtlebgjcpidpgnaaHFn
import Derived.Sort.LoopGhostIn
namespace Go.Proofs.Ytlebgjcpidpgnaa.P
open Go Go.RowKit Go.Proofs.YtlebgjcpidpgnaaW.PrintWords Go.Proofs.YtlebgjcpidpgnaaW.PrintLast Go.Proofs.YtlebgjcpidpgnaaW.PrintMore
set_option linter.unusedVariables false
set_option linter.unusedSimpArgs false

def farP (x : Int) : Bool := decide (x < -8388608) || decide (x ≥ 8388608)
theorem weft_far_p (x : Int) (W : World) : Calls Try.prog 59 #[.int .i64 x] W fun e w' => e = .returned (.bool (farP x)) ∧ Drawn0 W w' :=
  weft_far.calls x (farP x) W (by
    unfold weft_far.f farP
    by_cases h : x < -8388608
    · rw [if_pos h]; simp [h]
    · rw [if_neg h]; simp only [h, decide_false, Bool.false_or])
theorem weft_far_enters : ∀ (args : Array Value) (w : World), (callFunc 59 args).run Try.prog w = .ok (.enter 59 args) w := enters_of Try.func59 (by kernel_rfl) rfl
def weft_Rest.f (k : Nat) (s : Bool) (m g0 g1 g2 : Int) (own master : List Int) : Option (List Int × Int) :=
  (weft_wrong.f s m g0 g1 g2 own master).bind fun e => if e = 0 then (if own.length ≤ 1000000000 then (if master.length ≤ 1000000000 then (if own.any farP = true then some ([], 9) else if master.any farP = true then some ([], 9) else (weft_rest.f k g0 g1 g2 own master).bind fun l => some (l, 0)) else none) else none) else some ([], e)
theorem weft_Rest.mono : ∀ a0 a1 a2 a3 a4 a5 a6 k, LeO (weft_Rest.f k a0 a1 a2 a3 a4 a5 a6) (weft_Rest.f (k + 1) a0 a1 a2 a3 a4 a5 a6) := by
  intro a0 a1 a2 a3 a4 a5 a6 k
  exact LeO.bind (LeO.refl _) (fun e => LeO.ite (LeO.ite (LeO.ite (LeO.ite (LeO.refl _) (LeO.ite (LeO.refl _) (LeO.bind (weft_rest.mono _ _ _ _ _ _) (fun _ => LeO.refl _)))) (LeO.refl _)) (LeO.refl _)) (LeO.refl _))

set_option maxHeartbeats 8000000 in
set_option maxRecDepth 100000 in
theorem weft_Rest.calls (k : Nat) (a0_0 : Bool) (a0_1 a0_2 a0_3 a0_4 : Int) (A1 : Option Addr) (c1 : Nat) (l1 : List Int) (A2 : Option Addr) (c2 : Nat) (l2 : List Int) (r1 : List Int) (r2 : Int) (w : World) (hr1 : Kd.C (Kd.int .i64) w A1 l1.length l1) (hc1 : l1.length ≤ c1) (hr2 : Kd.C (Kd.int .i64) w A2 l2.length l2) (hc2 : l2.length ≤ c2) (h : weft_Rest.f k a0_0 a0_1 a0_2 a0_3 a0_4 l1 l2 = some (r1, r2)) :
    Calls Try.prog 25 #[.agg #[.bool a0_0, .int .i64 a0_1, .int .i64 a0_2, .int .i64 a0_3, .int .i64 a0_4], .slice A1 l1.length c1, .slice A2 l2.length c2] w fun e w' => ∃ v0_ : Value, e = .returned (.tuple #[v0_, .int .i64 r2]) ∧ Kd.R (Kd.int .i64) 3 w' w.heap.size (fun _ => True) v0_ r1 ∧ Below w.heap.size w w' := by
  have HR1 := Aside0.mk hr1
  have HR2 := Aside0.mk hr2
  clear hr1 hr2
  obtain ⟨e0, hw, h⟩ := Option.bind_eq_some_iff.mp h
  have HW := Aside0.mk hw
  clear hw
  have hu := Try.underlying42
  have hu2 := Try.underlying44
  have hblk := blk_new w (.cells #[.bool a0_0, .int .i64 a0_1, .int .i64 a0_2, .int .i64 a0_3, .int .i64 a0_4] 44)
  have HBLK := Aside0.mk hblk
  have HB0 := Aside0.mk (below_alloc (Below.refl w.heap.size w) (.cells #[.bool a0_0, .int .i64 a0_1, .int .i64 a0_2, .int .i64 a0_3, .int .i64 a0_4] 44))
  clear hblk
  go_enter Try.func25, Try.ntmps25
  go_wp2_with fail
  (with_reducible refine (weft_wrong.calls a0_0 a0_1 a0_2 a0_3 a0_4 A1 c1 l1 A2 c2 l2 e0 _ (Kd.C_below HR1.out HB0.out) hc1 (Kd.C_below HR2.out HB0.out) hc2 HW.out).mono ?_)
  rintro e w1 ⟨rfl, hb1⟩
  have HBLK1 := Aside0.mk (blk_below HBLK.out hb1)
  have HB1 := Aside0.mk (below_then HB0.out HB0.out.size hb1)
  clear hb1 HBLK
  by_cases he : e0 = 0
  case neg =>
    rw [if_neg he] at h
    cases h
    have hn : (r2 != 0) = true := bne_iff_ne.mpr he
    go_wp2
    go_ret2
    exact ⟨_, rfl, Kd.R_nil _ _ _ _ _, HB1.out⟩
  subst he
  rw [if_pos rfl] at h
  by_cases hm : l1.length ≤ 1000000000
  case neg => rw [if_neg hm] at h; cases h
  rw [if_pos hm] at h
  by_cases hm2 : l2.length ≤ 1000000000
  case neg => rw [if_neg hm2] at h; cases h
  rw [if_pos hm2] at h
  have HM := Aside0.mk hm
  have HM2 := Aside0.mk hm2
  clear hm hm2
  go_wp2_with fail
  (with_reducible refine (containsFunc_calls 59 farP weft_far_enters weft_far_p A1 c1 l1 _ (Kd.C_below HR1.out HB1.out) hc1 (by have := HM.out; omega)).mono ?_)
  rintro e w2 ⟨rfl, hd2⟩
  have HB2 := Aside0.mk (below_then HB1.out HB1.out.size hd2.below)
  have HBLK2 := Aside0.mk (blk_below HBLK1.out hd2.below)
  clear hd2 HBLK1
  by_cases hf : l1.any farP = true
  · rw [if_pos hf] at h
    cases h
    rw [hf]
    clear hf
    go_wp2
    go_ret2
    exact ⟨_, rfl, Kd.R_nil _ _ _ _ _, HB2.out⟩
  rw [if_neg hf] at h
  rw [Bool.eq_false_iff.mpr hf]
  clear hf
  go_wp2_with fail
  (with_reducible refine (containsFunc_calls 59 farP weft_far_enters weft_far_p A2 c2 l2 _ (Kd.C_below HR2.out HB2.out) hc2 (by have := HM2.out; omega)).mono ?_)
  rintro e w3 ⟨rfl, hd3⟩
  have HB3 := Aside0.mk (below_then HB2.out HB2.out.size hd3.below)
  have HBLK3 := Aside0.mk (blk_below HBLK2.out hd3.below)
  clear hd3 HBLK2
  by_cases hf : l2.any farP = true
  · rw [if_pos hf] at h
    cases h
    rw [hf]
    clear hf
    go_wp2
    go_ret2
    exact ⟨_, rfl, Kd.R_nil _ _ _ _ _, HB3.out⟩
  rw [if_neg hf] at h
  rw [Bool.eq_false_iff.mpr hf]
  clear hf
  obtain ⟨l, hl, h⟩ := Option.bind_eq_some_iff.mp h
  cases h
  have HL := Aside0.mk hl
  clear hl
  have hc2' := (blk_cell HBLK3.out 2).trans rfl
  have hc3' := (blk_cell HBLK3.out 3).trans rfl
  have hc4' := (blk_cell HBLK3.out 4).trans rfl
  go_wp2_with fail
  (with_reducible refine (weft_rest.calls k a0_2 a0_3 a0_4 A1 c1 l1 A2 c2 l2 r1 w3 (Kd.C_below HR1.out HB3.out) hc1 (Kd.C_below HR2.out HB3.out) hc2 HL.out).mono ?_)
  rintro e w4 ⟨v4, rfl, hr4, hb4⟩
  obtain ⟨A4, c4, rfl⟩ := Kd.R_slice hr4
  have HR4 := Aside0.mk (Kd.R_lower hr4 HB3.out.size)
  have HB4 := Aside0.mk (below_then HB3.out HB3.out.size hb4)
  clear hr4 hb4
  go_wp2
  go_ret2
  exact ⟨_, rfl, HR4.out, HB4.out⟩
end Go.Proofs.Ytlebgjcpidpgnaa.P
