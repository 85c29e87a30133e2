/- The contracts of layer 3's Good and Parts.good. -/
import Derived.Test.YteoncgijnkfhfaaKfPx0
import Derived.Test.YteoncgijnkfhfaaKfHFn
import Derived.Test.YteoncgijnkfhfaaKfPx1
import Derived.BigQuiet
import Derived.Deep.QuietTactic
namespace Go.Proofs.Yteoncgijnkfhfaa.P
open Go.RowKit Go.Proofs.YteoncgijnkfhfaaW.PrintWords Go.Proofs.YteoncgijnkfhfaaW.PrintLast Go.Proofs.YteoncgijnkfhfaaW.PrintMore
set_option linter.unusedVariables false
set_option linter.unusedSimpArgs false

def wholeZ (n p : Int) : Bool := decide (1 ≤ n) && (decide (n ≤ 1024) && (decide (0 ≤ p) && (decide (p ≤ 3) && decide (n % 2 ^ p.toNat = 0))))
theorem whole_eq (n p : Int) : slide_whole.f n p = some (wholeZ n p) := by
  unfold slide_whole.f wholeZ
  by_cases h1 : n ≥ 1
  · rw [if_pos h1, decide_eq_true h1]
    by_cases h2 : n ≤ 1024
    · rw [if_pos h2, decide_eq_true h2]
      by_cases h3 : p ≥ 0
      · rw [if_pos h3, decide_eq_true h3]
        by_cases h4 : p ≤ 3
        · rw [if_pos h4, decide_eq_true h4, if_pos h3]
          have hp : p = 0 ∨ p = 1 ∨ p = 2 ∨ p = 3 := by omega
          have hsh : shl .i64 1 p = 2 ^ p.toNat ∧ (2 : Int) ^ p.toNat ≠ 0 := by
            rcases hp with rfl | rfl | rfl | rfl <;> decide +kernel
          rw [hsh.1, if_neg hsh.2, Int.tmod_eq_emod_of_nonneg (by omega)]
          simp only [Bool.true_and]
          congr 1
        · rw [if_neg h4, decide_eq_false h4]
          simp
      · rw [if_neg h3, decide_eq_false (show ¬ 0 ≤ p from h3)]
        simp
    · rw [if_neg h2, decide_eq_false h2]
      simp
  · rw [if_neg h1, decide_eq_false (show ¬ 1 ≤ n from h1)]
    simp
theorem whole_calls (n p : Int) (w : World) : Calls Try.prog 34 #[.int .i64 n, .int .i64 p] w fun e w' => e = .returned (.bool (wholeZ n p)) ∧ Drawn0 w w' := slide_whole.calls n p _ w (whole_eq n p)
def outZ (k : Int) : Bool := decide (k < 0) || decide (24 < k)
theorem out_eq (k : Int) : slide_outside.f k = some (outZ k) := by
  unfold slide_outside.f outZ
  by_cases h : k < 0
  · rw [if_pos h, decide_eq_true h]
    rfl
  · rw [if_neg h, decide_eq_false h]
    rfl
def farZ (k : Int) : Bool := decide (k < -8589934592) || decide (8589934592 ≤ k)
theorem far_eq (k : Int) : slide_far.f k = some (farZ k) := by
  unfold slide_far.f farZ
  by_cases h : k < -8589934592
  · rw [if_pos h, decide_eq_true h]
    rfl
  · rw [if_neg h, decide_eq_false h]
    rfl
theorem out_contains (A : Option Addr) (c : Nat) (l : List Int) (w : World) (hr : Kd.C (Kd.int .i64) w A l.length l) (hc : l.length ≤ c) (hm : l.length ≤ 140737488355328) :
    Calls Try.prog 35 #[.slice A l.length c, .func (.func 45) #[] #[]] w fun e w' => e = .returned (.bool (l.any outZ)) ∧ Drawn0 w w' :=
  containsFunc_calls _ outZ (enters_of Try.func45 (by kernel_rfl) rfl) (fun x W => slide_outside.calls x _ W (out_eq x)) A c l w hr hc hm
theorem far_contains (A : Option Addr) (c : Nat) (l : List Int) (w : World) (hr : Kd.C (Kd.int .i64) w A l.length l) (hc : l.length ≤ c) (hm : l.length ≤ 140737488355328) :
    Calls Try.prog 35 #[.slice A l.length c, .func (.func 36) #[] #[]] w fun e w' => e = .returned (.bool (l.any farZ)) ∧ Drawn0 w w' :=
  containsFunc_calls _ farZ (enters_of Try.func36 (by kernel_rfl) rfl) (fun x W => slide_far.calls x _ W (far_eq x)) A c l w hr hc hm
theorem quiet_d {P : Program} {f : FuncId} {args : Array Value} {w W : World} {n : Nat} {v : Value} (hW : W = w.drewN n) (h : Calls P f args W fun e w' => e = .returned v ∧ Drawn0 W w') : Calls P f args W fun e w'' => e = .returned v ∧ ∃ m, w'' = w.drewN m :=
  h.mono fun _ _ ⟨he, hd⟩ => by
    obtain ⟨m, rfl⟩ := hd.out
    exact ⟨he, n + m, by rw [hW, World.drewN_drewN]⟩
/-- May a list of so many numbers be told so? -/
def goodZ (n p : Int) (ks : List Int) : Bool := wholeZ n p && (decide ((ks.length : Int) = 2 ^ p.toNat) && !ks.any outZ)
def slide_Good.f (n p : Int) (ks : List Int) : Option Bool := if ks.length ≤ 140737488355328 then some (goodZ n p ks) else none

set_option maxHeartbeats 8000000 in
set_option maxRecDepth 100000 in
theorem slide_Good.calls (a0 : Int) (a1_0 : Int) (A1_1 : Option Addr) (c1_1 : Nat) (l1_1 : List Int) (r : Bool) (w : World) (hr1_1 : Kd.C (Kd.int .i64) w A1_1 l1_1.length l1_1) (hc1_1 : l1_1.length ≤ c1_1) (h : slide_Good.f a0 a1_0 l1_1 = some r) :
    Calls Try.prog 18 #[.int .i64 a0, .agg #[.int .i64 a1_0, .slice A1_1 l1_1.length c1_1]] w fun e w' => e = .returned (.bool r) ∧ Below w.heap.size w w' := by
  unfold slide_Good.f at h
  by_cases hm : l1_1.length ≤ 140737488355328
  case neg => rw [if_neg hm] at h; cases h
  rw [if_pos hm] at h
  obtain rfl := Option.some.inj h
  clear h
  have HB := Aside0.mk (below_alloc (Below.refl w.heap.size w) (.cells #[.int .i64 a1_0, .slice A1_1 l1_1.length c1_1] 24))
  have hblk := blk_new w (.cells #[.int .i64 a1_0, .slice A1_1 l1_1.length c1_1] 24)
  have HR := Aside0.mk (Kd.C_below hr1_1 HB.out)
  have hc0 : (w.alloc (.cells #[.int .i64 a1_0, .slice A1_1 l1_1.length c1_1] 24)).cell? ⟨w.heap.size, 0, none⟩ = some (.int .i64 a1_0) := (blk_cell hblk 0).trans rfl
  have hc1 : (w.alloc (.cells #[.int .i64 a1_0, .slice A1_1 l1_1.length c1_1] 24)).cell? ⟨w.heap.size, 1, none⟩ = some (.slice A1_1 l1_1.length c1_1) := (blk_cell hblk 1).trans rfl
  have HM := Aside0.mk hm
  have HC := Aside0.mk hc1_1
  clear hblk hr1_1 hm hc1_1
  cases hw : wholeZ a0 a1_0 with
  | false =>
    have e : goodZ a0 a1_0 l1_1 = false := by unfold goodZ; rw [hw]; rfl
    rw [e]
    have HW := Aside0.mk hw
    clear e hw
    go_enter Try.func18, Try.ntmps18
    go_wp2
    generalize w.alloc (.cells #[.int .i64 a1_0, .slice A1_1 l1_1.length c1_1] 24) = w1 at HB HR hc0 hc1 ⊢
    have HWC := Aside0.mk (fun W => HW.out ▸ whole_calls a0 a1_0 W)
    go_quiet (first | (go_at_call 34; exact quiet_d (n := _) rfl (HWC.out _)))
    go_wp2
    go_ret
    exact ⟨rfl, pw_below_drewN HB.out _⟩
  | true =>
    have hp : a1_0 = 0 ∨ a1_0 = 1 ∨ a1_0 = 2 ∨ a1_0 = 3 := by
      unfold wholeZ at hw
      simp at hw
      omega
    have HW := Aside0.mk hw
    have hgd : goodZ a0 a1_0 l1_1 = (decide ((l1_1.length : Int) = 2 ^ a1_0.toNat) && !l1_1.any outZ) := by unfold goodZ; rw [hw]; rfl
    rw [hgd]
    clear hw hgd
    have hsh : IntKind.i64.wrap (1 * 2 ^ min a1_0.toNat 64) = 2 ^ a1_0.toNat := by rcases hp with rfl | rfl | rfl | rfl <;> decide +kernel
    obtain ⟨P, hP⟩ : ∃ P : Nat, a1_0 = P := ⟨a1_0.toNat, by omega⟩
    subst hP
    have HWC := Aside0.mk (fun W => HW.out ▸ whole_calls a0 (P : Int) W)
    have hP3 : P ≤ 3 := by omega
    have hwr : IntKind.i64.wrap (2 ^ P) = 2 ^ P := by
      have : P = 0 ∨ P = 1 ∨ P = 2 ∨ P = 3 := by omega
      rcases this with rfl | rfl | rfl | rfl <;> decide +kernel
    have HWR := Aside0.mk hwr
    clear hp hsh HW hwr
    by_cases hl : (l1_1.length : Int) = 2 ^ P
    · have hlb : ((l1_1.length : Int) == IntKind.i64.wrap (2 ^ P)) = true := by rw [HWR.out, hl]; exact beq_self_eq_true _
      rw [show decide ((l1_1.length : Int) = 2 ^ (P : Int).toNat) = true from decide_eq_true hl]
      have HOC := Aside0.mk (fun n => out_contains A1_1 c1_1 l1_1 _ (Kd.C_drewN HR.out n) HC.out HM.out)
      clear hl
      go_enter Try.func18, Try.ntmps18
      go_wp2
      generalize w.alloc (.cells #[.int .i64 (P : Int), .slice A1_1 l1_1.length c1_1] 24) = w1 at HB HR hc0 hc1 HOC ⊢
      go_quiet (first | (go_at_call 34; exact quiet_d (n := _) rfl (HWC.out _)) | (go_at_call 35; exact quiet_d (n := _) rfl (HOC.out _)))
      go_wp2
      go_ret
      exact ⟨rfl, pw_below_drewN HB.out _⟩
    · have hlb : ((l1_1.length : Int) == IntKind.i64.wrap (2 ^ P)) = false := by rw [HWR.out]; simp [hl]
      rw [show decide ((l1_1.length : Int) = 2 ^ (P : Int).toNat) = false from decide_eq_false hl]
      clear hl
      go_enter Try.func18, Try.ntmps18
      go_wp2
      generalize w.alloc (.cells #[.int .i64 (P : Int), .slice A1_1 l1_1.length c1_1] 24) = w1 at HB HR hc0 hc1 ⊢
      go_quiet (first | (go_at_call 34; exact quiet_d (n := _) rfl (HWC.out _)))
      go_wp2
      go_ret
      exact ⟨rfl, pw_below_drewN HB.out _⟩
def goodP (p : Int) (ks l : List Int) : Bool := goodZ l.length p ks && !l.any farZ
def slide_Parts_good.f (p : Int) (ks l : List Int) : Option Bool := if ks.length ≤ 140737488355328 ∧ l.length ≤ 140737488355328 then some (goodP p ks l) else none

set_option maxHeartbeats 8000000 in
set_option maxRecDepth 100000 in
theorem slide_Parts_good.calls (a0_0 : Int) (A0_1 : Option Addr) (c0_1 : Nat) (l0_1 : List Int) (A1 : Option Addr) (c1 : Nat) (l1 : List Int) (r : Bool) (w : World) (hr0_1 : Kd.C (Kd.int .i64) w A0_1 l0_1.length l0_1) (hc0_1 : l0_1.length ≤ c0_1) (hr1 : Kd.C (Kd.int .i64) w A1 l1.length l1) (hc1 : l1.length ≤ c1) (h : slide_Parts_good.f a0_0 l0_1 l1 = some r) :
    Calls Try.prog 41 #[.agg #[.int .i64 a0_0, .slice A0_1 l0_1.length c0_1], .slice A1 l1.length c1] w fun e w' => e = .returned (.bool r) ∧ Below w.heap.size w w' := by
  unfold slide_Parts_good.f at h
  by_cases hm : l0_1.length ≤ 140737488355328 ∧ l1.length ≤ 140737488355328
  case neg => rw [if_neg hm] at h; cases h
  rw [if_pos hm] at h
  obtain rfl := Option.some.inj h
  clear h
  have HB := Aside0.mk (below_alloc (Below.refl w.heap.size w) (.cells #[.int .i64 a0_0, .slice A0_1 l0_1.length c0_1] 24))
  have hblk := blk_new w (.cells #[.int .i64 a0_0, .slice A0_1 l0_1.length c0_1] 24)
  have HR0 := Aside0.mk (Kd.C_below hr0_1 HB.out)
  have HR1 := Aside0.mk (Kd.C_below hr1 HB.out)
  have hx0 : (w.alloc (.cells #[.int .i64 a0_0, .slice A0_1 l0_1.length c0_1] 24)).cell? ⟨w.heap.size, 0, none⟩ = some (.int .i64 a0_0) := (blk_cell hblk 0).trans rfl
  have hx1 : (w.alloc (.cells #[.int .i64 a0_0, .slice A0_1 l0_1.length c0_1] 24)).cell? ⟨w.heap.size, 1, none⟩ = some (.slice A0_1 l0_1.length c0_1) := (blk_cell hblk 1).trans rfl
  have HM := Aside0.mk hm
  have HC0 := Aside0.mk hc0_1
  have HC1 := Aside0.mk hc1
  have HGF := Aside0.mk (show slide_Good.f (l1.length : Int) a0_0 l0_1 = some (goodZ l1.length a0_0 l0_1) by unfold slide_Good.f; rw [if_pos hm.1])
  clear hblk hr0_1 hr1 hm hc0_1 hc1
  cases hg : goodZ l1.length a0_0 l0_1 with
  | false =>
    have e : goodP a0_0 l0_1 l1 = false := by unfold goodP; rw [hg]; rfl
    rw [e]
    rw [hg] at HGF
    clear e hg
    go_enter Try.func41, Try.ntmps41
    go_wp2_with fail
    (with_reducible refine (slide_Good.calls (l1.length : Int) a0_0 A0_1 c0_1 l0_1 _ _ HR0.out HC0.out HGF.out).mono ?_)
    rintro e w2 ⟨rfl, hb2⟩
    have HB2 := Aside0.mk (below_then HB.out HB.out.size hb2)
    clear hb2
    go_wp2
    go_ret
    exact ⟨rfl, HB2.out⟩
  | true =>
    have e : goodP a0_0 l0_1 l1 = !l1.any farZ := by unfold goodP; rw [hg]; rfl
    rw [e]
    rw [hg] at HGF
    clear e hg
    go_enter Try.func41, Try.ntmps41
    go_wp2_with fail
    (with_reducible refine (slide_Good.calls (l1.length : Int) a0_0 A0_1 c0_1 l0_1 _ _ HR0.out HC0.out HGF.out).mono ?_)
    rintro e w2 ⟨rfl, hb2⟩
    have HB2 := Aside0.mk (below_then HB.out HB.out.size hb2)
    have HR2 := Aside0.mk (Kd.C_below HR1.out hb2)
    clear hb2
    go_wp2_with fail
    (with_reducible refine (far_contains A1 c1 l1 w2 HR2.out HC1.out HM.out.2).mono ?_)
    rintro e w3 ⟨rfl, hd3⟩
    have HB3 := Aside0.mk (below_then HB2.out HB2.out.size hd3.below)
    clear hd3
    go_wp2
    go_ret
    exact ⟨rfl, HB3.out⟩
end Go.Proofs.Yteoncgijnkfhfaa.P
