/- filter.Residuals: what isn't foreseen of each sample. -/
import Derived.Test.YtoglefgjiaoopaaPx0
import Derived.Test.YtoglefgjiaoopaaPx1
import Derived.Test.YtoglefgjiaoopaaHOpen
import Derived.Test.YtoglefgjiaoopaaHLat
import Derived.Test.YtoglefgjiaoopaaHFn
import Derived.Sort.LoopGhostIn
namespace Go.Proofs.Ytoglefgjiaoopaa.P
open Go Go.RowKit Go.Proofs.YtoglefgjiaoopaaW.PrintWords Go.Proofs.YtoglefgjiaoopaaW.PrintLast Go.Proofs.YtoglefgjiaoopaaW.PrintMore
set_option linter.unusedVariables false
set_option linter.unusedSimpArgs false

def loudP (x : Int) : Bool := decide (x < -67108864) || decide (x > 67108864)
theorem filter_loud_p (x : Int) (W : World) : Calls Try.prog 46 #[.int .i64 x] W fun e w' => e = .returned (.bool (loudP x)) ∧ Drawn0 W w' :=
  filter_loud.calls x (loudP x) W (by
    unfold filter_loud.f loudP
    by_cases h : x < -67108864
    · rw [if_pos h]; simp [h]
    · rw [if_neg h]; simp only [h, decide_false, Bool.false_or])
theorem filter_loud_enters : ∀ (args : Array Value) (w : World), (callFunc 46 args).run Try.prog w = .ok (.enter 46 args) w := enters_of Try.func46 (by kernel_rfl) rfl
theorem filter_res_enters : ∀ (args : Array Value) (w : World), (callFunc 49 args).run Try.prog w = .ok (.enter 49 args) w := enters_of Try.func49 (by kernel_rfl) rfl

/-- The residuals of the first n places. -/
def resAll (k : Nat) (b : List (List Int)) (s : List Int) : Nat → Option (List Int)
  | 0 => some []
  | n + 1 => (resAll k b s n).bind fun l => (filter_bank_residual.f k b s n).bind fun x => some (l ++ [x])
theorem resAll_mono (k : Nat) (b : List (List Int)) (s : List Int) : ∀ n, LeO (resAll k b s n) (resAll (k + 1) b s n)
  | 0 => LeO.refl _
  | n + 1 => LeO.bind (resAll_mono k b s n) (fun _ => LeO.bind (filter_bank_residual.mono _ _ _ _) (fun _ => LeO.refl _))
theorem resAll_length (k : Nat) (b : List (List Int)) (s : List Int) : ∀ (n : Nat) (l : List Int), resAll k b s n = some l → l.length = n := by
  intro n
  induction n with
  | zero => intro l h; cases h; rfl
  | succ n ih =>
    intro l h
    rw [resAll] at h
    obtain ⟨l1, h1, h⟩ := Option.bind_eq_some_iff.mp h
    obtain ⟨x, _, h⟩ := Option.bind_eq_some_iff.mp h
    cases h
    rw [List.length_append, ih l1 h1]
    rfl
/-- What answers at n answered before. -/
theorem resAll_le {k : Nat} {b : List (List Int)} {s : List Int} {n : Nat} {l : List Int} (h : resAll k b s n = some l) (m : Nat) (hm : m ≤ n) : ∃ l', resAll k b s m = some l' := by
  induction n generalizing l with
  | zero =>
    obtain rfl : m = 0 := by omega
    exact ⟨l, h⟩
  | succ n ih =>
    by_cases e : m = n + 1
    · subst e
      exact ⟨l, h⟩
    · rw [resAll] at h
      obtain ⟨l1, h1, _⟩ := Option.bind_eq_some_iff.mp h
      exact ih h1 (by omega)

set_option maxHeartbeats 8000000 in
set_option maxRecDepth 100000 in
theorem filter_all_calls (k : Nat) (Ab : Option Addr) (cb : Nat) (b : List (List Int)) (A : Option Addr) (c : Nat) (s r : List Int) (w : World) (hrb : Kd.C KdL w Ab b.length b) (hcb : b.length ≤ cb) (hr : Kd.C (Kd.int .i64) w A s.length s) (hc : s.length ≤ c) (hm : s.length ≤ 1000000000)
    (h : resAll k b s s.length = some r) :
    Calls Try.prog 47 #[.slice A s.length c, .func (.func 49) #[.agg #[.slice Ab b.length cb]] #[]] w fun e w' => ∃ v, e = .returned v ∧ Kd.R (Kd.int .i64) 3 w' w.heap.size (fun _ => True) v r ∧ Below w.heap.size w w' := by
  have HRB := Aside0.mk hrb
  have HR := Aside0.mk hr
  have H := Aside0.mk h
  have hE := filter_res_enters
  clear hrb hr h
  go_enter Try.func47, Try.ntmps47
  go_wp2
  go_loopg [5, 6, 9] s.length (fun kq v5 v6 v9 wr => ∃ (i : Nat) (l : List Int), v9 = .int .i64 i ∧ kq + i = s.length ∧ Aside0 (resAll k b s i = some l) ∧ Aside0 (wr.ownsRow w.heap.size 3 1 v5 l.length (nums .i64 l)) ∧ Aside0 (Below w.heap.size w wr))
  case atStart => exact ⟨0, [], rfl, by omega, ⟨rfl⟩, ⟨own_nil _ _ _ _⟩, ⟨Below.refl _ _⟩⟩
  case round =>
    obtain ⟨i, l, rfl, hi, HL, HO, HB⟩ := hrel
    have hll := resAll_length _ _ _ _ _ HL.out
    by_cases hlt : i < s.length
    · have hme : gk - 1 < gk := by omega
      obtain ⟨l2, hl2⟩ := resAll_le H.out (i + 1) (by omega)
      rw [resAll, HL.out, Option.bind_some] at hl2
      obtain ⟨x, hx, hl2⟩ := Option.bind_eq_some_iff.mp hl2
      have HL2 : Aside0 (resAll k b s (i + 1) = some (l ++ [x])) := ⟨by rw [resAll, HL.out, Option.bind_some, hx]; rfl⟩
      have HX := Aside0.mk hx
      have HW1 := Aside0.mk (show wrap64 ((i : Int) + 1) = (i : Int) + 1 from wrap64_id (by omega) (by omega))
      have hdec : decide ((i : Int) < (s.length : Int)) = true := decide_eq_true (by omega)
      have hdecn : decide (i < s.length) = true := decide_eq_true hlt
      obtain ⟨A5, c5, rfl, _⟩ := own_reads HO.out
      have HLL := Aside0.mk (show (l.length + 1) * 8 ≤ 140737488355328 by omega)
      have HME := Aside0.mk (show gk - 1 + (i + 1) = s.length by omega)
      clear hx hl2 hll
      go_wp2_with fail
      (with_reducible refine (filter_bank_residual.calls k Ab cb b A c s (i : Int) x wr (Kd.C_below HRB.out HB.out) hcb (Kd.C_below HR.out HB.out) hc HX.out).mono ?_)
      rintro e w1 ⟨rfl, hb1⟩
      have HO1 := Aside0.mk (own_below HO.out hb1)
      have HB1 := Aside0.mk (below_then HB.out HB.out.size hb1)
      have hsz := HB1.out.size
      clear hb1 HO HB
      go_wp2_with (at_builtin; refine print_append_num (w0 := w) w.heap.size rfl _ _ 22 3 .i64 8 rfl Try.underlying22 int_info (by decide) (.slice A5 l.length c5) l x rfl rfl HO1.out HB1.out hsz ?c1 ?_)
      case c1 => exact HLL.out
      intro v1 w2 hown hb2 _ _
      have HO2 := Aside0.mk hown
      have HB2 := Aside0.mk hb2
      clear hown hb2
      go_wp2
      go_roundg (gk - 1)
      case rel => exact ⟨i + 1, l ++ [x], by first | rfl | (rw [HW1.out]; rfl), HME.out, HL2, ⟨by rw [List.length_append]; exact HO2.out⟩, HB2⟩
      case measure => exact hme
    · have hii : i = s.length := by omega
      have hdec : decide ((i : Int) < (s.length : Int)) = false := decide_eq_false (by omega)
      have hdecn : decide (i < s.length) = false := decide_eq_false hlt
      have hlr : l = r := by
        have := HL.out
        rw [hii, H.out] at this
        exact (Option.some.inj this).symm
      have HLR := Aside0.mk hlr
      clear hlr hii hll
      go_wp2
      go_ret
      refine ⟨_, rfl, ?_, HB.out⟩
      rw [← HLR.out]
      exact Kd.R_of_own HO.out (fun _ _ => trivial)

def filter_Residuals.f (k : Nat) (index s : List Int) : Option (List Int × Int) :=
  (lattice_Good.f index).bind fun g => if g = true then (if s.length ≤ 1000000000 then (if s.any loudP = true then some ([], 9) else (filter_open.f k index).bind fun b => (resAll k b s s.length).bind fun l => some (l, 0)) else none) else some ([], 1)
theorem filter_Residuals.mono : ∀ a0 a1 k, LeO (filter_Residuals.f k a0 a1) (filter_Residuals.f (k + 1) a0 a1) := by
  intro a0 a1 k
  exact LeO.bind (LeO.refl _) (fun g => LeO.ite (LeO.ite (LeO.ite (LeO.refl _) (LeO.bind (filter_open.mono _ _) (fun b => LeO.bind (resAll_mono _ _ _ _) (fun _ => LeO.refl _)))) (LeO.refl _)) (LeO.refl _))

set_option maxHeartbeats 8000000 in
set_option maxRecDepth 100000 in
theorem filter_Residuals.calls (k : Nat) (A0 : Option Addr) (c0 : Nat) (l0 : List Int) (A1 : Option Addr) (c1 : Nat) (l1 : List Int) (r1 : List Int) (r2 : Int) (w : World) (hr0 : Kd.C (Kd.int .i64) w A0 l0.length l0) (hc0 : l0.length ≤ c0) (hr1 : Kd.C (Kd.int .i64) w A1 l1.length l1) (hc1 : l1.length ≤ c1) (h : filter_Residuals.f k l0 l1 = some (r1, r2)) :
    Calls Try.prog 33 #[.slice A0 l0.length c0, .slice A1 l1.length c1] w fun e w' => ∃ v0_ : Value, e = .returned (.tuple #[v0_, .int .i64 r2]) ∧ Kd.R (Kd.int .i64) 3 w' w.heap.size (fun _ => True) v0_ r1 ∧ Below w.heap.size w w' := by
  have HR0 := Aside0.mk hr0
  have HR1 := Aside0.mk hr1
  clear hr0 hr1
  obtain ⟨g, hg, h⟩ := Option.bind_eq_some_iff.mp h
  have HG := Aside0.mk hg
  clear hg
  have hmf : ∀ (fn : Fn) (first cap : Array Value) (w : World), (Instr.makeFunc fn first cap).run Try.prog w = .ok (.func fn first cap) w := fun _ _ _ _ => rfl
  go_enter Try.func33, Try.ntmps33
  go_wp2_with fail
  (with_reducible refine (lattice_Good.calls A0 c0 l0 g _ HR0.out hc0 HG.out).mono ?_)
  rintro e w1 ⟨rfl, hb1⟩
  have HB1 := Aside0.mk hb1
  clear hb1
  cases g with
  | false =>
    rw [if_neg (by simp)] at h
    cases h
    go_wp2
    go_ret2
    exact ⟨_, rfl, Kd.R_nil _ _ _ _ _, HB1.out⟩
  | true =>
    rw [if_pos rfl] at h
    by_cases hm : l1.length ≤ 1000000000
    case neg => rw [if_neg hm] at h; cases h
    rw [if_pos hm] at h
    have HM := Aside0.mk hm
    clear hm
    go_wp2_with fail
    (with_reducible refine (containsFunc_calls 46 loudP filter_loud_enters filter_loud_p A1 c1 l1 _ (Kd.C_below HR1.out HB1.out) hc1 (by have := HM.out; omega)).mono ?_)
    rintro e w2 ⟨rfl, hd2⟩
    have HB2 := Aside0.mk (below_then HB1.out HB1.out.size hd2.below)
    clear hd2
    by_cases hf : l1.any loudP = true
    · rw [if_pos hf] at h
      cases h
      rw [hf]
      clear hf
      go_wp2
      go_ret2
      exact ⟨_, rfl, Kd.R_nil _ _ _ _ _, HB2.out⟩
    · rw [if_neg hf] at h
      rw [Bool.eq_false_iff.mpr hf]
      clear hf
      obtain ⟨b, hb, h⟩ := Option.bind_eq_some_iff.mp h
      obtain ⟨l, hl, h⟩ := Option.bind_eq_some_iff.mp h
      cases h
      have HOP := Aside0.mk hb
      have HL := Aside0.mk hl
      clear hb hl
      go_wp2_with fail
      (with_reducible refine (filter_open.calls k A0 c0 l0 b _ (Kd.C_below HR0.out HB2.out) hc0 HOP.out).mono ?_)
      rintro e w3 ⟨v3, rfl, hrb, hb3⟩
      obtain ⟨Ab, cb, rfl, hlb, hCb⟩ := Kd.R_reads hrb
      have HB3 := Aside0.mk (below_then HB2.out HB2.out.size hb3)
      have HCB := Aside0.mk hCb
      clear hrb hb3 hCb
      go_wp2_with fail
      (with_reducible refine (filter_all_calls k Ab cb b A1 c1 l1 r1 w3 HCB.out hlb (Kd.C_below HR1.out HB3.out) hc1 HM.out HL.out).mono ?_)
      rintro e w4 ⟨v4, rfl, hr4, hb4⟩
      obtain ⟨A4, c4, rfl⟩ := Kd.R_slice hr4
      have HR4 := Aside0.mk (Kd.R_lower hr4 HB3.out.size)
      have HB4 := Aside0.mk (below_then HB3.out HB3.out.size hb4)
      clear hr4 hb4
      go_wp2
      go_ret2
      exact ⟨_, rfl, HR4.out, HB4.out⟩
end Go.Proofs.Ytoglefgjiaoopaa.P
