/- filter.Samples: the samples that have these residuals. -/
import Derived.Test.YtoglefgjiaoopaaPx0
import Derived.Test.YtoglefgjiaoopaaPx1
import Derived.Test.YtoglefgjiaoopaaPx2
import Derived.Test.YtoglefgjiaoopaaHOpen
import Derived.Test.YtoglefgjiaoopaaHLat
import Derived.Test.YtoglefgjiaoopaaHFn
import Derived.Sort.LoopGhostIn
namespace Go.Proofs.Ytoglefgjiaoopaa.P
open Go Go.RowKit Go.Proofs.YtoglefgjiaoopaaW.PrintWords Go.Proofs.YtoglefgjiaoopaaW.PrintLast Go.Proofs.YtoglefgjiaoopaaW.PrintMore
set_option linter.unusedVariables false
set_option linter.unusedSimpArgs false

def hugeP (x : Int) : Bool := decide (x < -1152921504606846976) || decide (x > 1152921504606846976)
theorem filter_huge_p (x : Int) (W : World) : Calls Try.prog 51 #[.int .i64 x] W fun e w' => e = .returned (.bool (hugeP x)) ∧ Drawn0 W w' :=
  filter_huge.calls x (hugeP x) W (by
    unfold filter_huge.f hugeP
    by_cases h : x < -1152921504606846976
    · rw [if_pos h]; simp [h]
    · rw [if_neg h]; simp only [h, decide_false, Bool.false_or])
theorem filter_huge_enters : ∀ (args : Array Value) (w : World), (callFunc 51 args).run Try.prog w = .ok (.enter 51 args) w := enters_of Try.func51 (by kernel_rfl) rfl

/-- The samples behind 'out' of the residuals that are left. -/
def samAll (k : Nat) (b : List (List Int)) (most : Int) : List Int → List Int → Option (List Int × Int)
  | out, [] => some (out, 0)
  | out, e :: es => (filter_bank_foresee.f k b out).bind fun f => if wrap64 (e + f) < -most - 1 then some ([], 9) else if wrap64 (e + f) > most then some ([], 9) else samAll k b most (out ++ [wrap64 (e + f)]) es
theorem samAll_mono (k : Nat) (b : List (List Int)) (most : Int) : ∀ es out, LeO (samAll k b most out es) (samAll (k + 1) b most out es) := by
  intro es
  induction es with
  | nil => intro out; exact LeO.refl _
  | cons e es ih => intro out; exact LeO.bind (filter_bank_foresee.mono _ _ _) (fun f => LeO.ite (LeO.refl _) (LeO.ite (LeO.refl _) (ih _)))
def filter_Samples.f (k : Nat) (index s : List Int) (most : Int) : Option (List Int × Int) :=
  (lattice_Good.f index).bind fun g => if g = true then (if most < 0 then some ([], 1) else if most > 67108864 then some ([], 1) else if s.length ≤ 1000000000 then (if s.any hugeP = true then some ([], 9) else (filter_open.f k index).bind fun b => samAll k b most [] s) else none) else some ([], 1)
theorem filter_Samples.mono : ∀ a0 a1 a2 k, LeO (filter_Samples.f k a0 a1 a2) (filter_Samples.f (k + 1) a0 a1 a2) := by
  intro a0 a1 a2 k
  exact LeO.bind (LeO.refl _) (fun g => LeO.ite (LeO.ite (LeO.refl _) (LeO.ite (LeO.refl _) (LeO.ite (LeO.ite (LeO.refl _) (LeO.bind (filter_open.mono _ _) (fun b => samAll_mono _ _ _ _ _))) (LeO.refl _)))) (LeO.refl _))

set_option maxHeartbeats 8000000 in
set_option maxRecDepth 100000 in
theorem filter_Samples.calls (k : Nat) (A0 : Option Addr) (c0 : Nat) (l0 : List Int) (A1 : Option Addr) (c1 : Nat) (l1 : List Int) (a2 : Int) (r1 : List Int) (r2 : Int) (w : World) (hr0 : Kd.C (Kd.int .i64) w A0 l0.length l0) (hc0 : l0.length ≤ c0) (hr1 : Kd.C (Kd.int .i64) w A1 l1.length l1) (hc1 : l1.length ≤ c1) (h : filter_Samples.f k l0 l1 a2 = some (r1, r2)) :
    Calls Try.prog 35 #[.slice A0 l0.length c0, .slice A1 l1.length c1, .int .i64 a2] w fun e w' => ∃ v0_ : Value, e = .returned (.tuple #[v0_, .int .i64 r2]) ∧ Kd.R (Kd.int .i64) 3 w' w.heap.size (fun _ => True) v0_ r1 ∧ Below w.heap.size w w' := by
  have HR0 := Aside0.mk hr0
  have HR1 := Aside0.mk hr1
  clear hr0 hr1
  obtain ⟨g, hg, h⟩ := Option.bind_eq_some_iff.mp h
  have HG := Aside0.mk hg
  clear hg
  have hu := Try.underlying55
  go_enter Try.func35, Try.ntmps35
  go_wp2_with fail
  (with_reducible refine (lattice_Good.calls A0 c0 l0 g _ HR0.out hc0 HG.out).mono ?_)
  rintro e w1 ⟨rfl, hb1⟩
  have HB1 := Aside0.mk hb1
  clear hb1
  cases g with
  | false =>
    rw [if_neg (by simp)] at h
    cases h
    go_wp2
    go_ret2
    exact ⟨_, rfl, Kd.R_nil _ _ _ _ _, HB1.out⟩
  | true =>
    rw [if_pos rfl] at h
    by_cases hlo : a2 < 0
    · rw [if_pos hlo] at h
      cases h
      have hd := decide_eq_true hlo
      go_wp2
      go_ret2
      exact ⟨_, rfl, Kd.R_nil _ _ _ _ _, HB1.out⟩
    rw [if_neg hlo] at h
    have hdlo := decide_eq_false hlo
    by_cases hhi : a2 > 67108864
    · rw [if_pos hhi] at h
      cases h
      have hd : decide (67108864 < a2) = true := decide_eq_true hhi
      go_wp2
      go_ret2
      exact ⟨_, rfl, Kd.R_nil _ _ _ _ _, HB1.out⟩
    rw [if_neg hhi] at h
    have hdhi : decide (67108864 < a2) = false := decide_eq_false hhi
    have hm0 : 0 ≤ a2 := by omega
    have hm1 : a2 ≤ 67108864 := by omega
    by_cases hm : l1.length ≤ 1000000000
    case neg => rw [if_neg hm] at h; cases h
    rw [if_pos hm] at h
    have HM := Aside0.mk hm
    clear hm hlo hhi
    go_wp2_with fail
    (with_reducible refine (containsFunc_calls 51 hugeP filter_huge_enters filter_huge_p A1 c1 l1 _ (Kd.C_below HR1.out HB1.out) hc1 (by have := HM.out; omega)).mono ?_)
    rintro e w2 ⟨rfl, hd2⟩
    have HB2 := Aside0.mk (below_then HB1.out HB1.out.size hd2.below)
    clear hd2
    by_cases hf : l1.any hugeP = true
    · rw [if_pos hf] at h
      cases h
      rw [hf]
      clear hf
      go_wp2
      go_ret2
      exact ⟨_, rfl, Kd.R_nil _ _ _ _ _, HB2.out⟩
    rw [if_neg hf] at h
    rw [Bool.eq_false_iff.mpr hf]
    clear hf
    obtain ⟨b, hb, h⟩ := Option.bind_eq_some_iff.mp h
    have HOP := Aside0.mk hb
    have H := Aside0.mk h
    clear hb h
    go_wp2_with fail
    (with_reducible refine (filter_open.calls k A0 c0 l0 b _ (Kd.C_below HR0.out HB2.out) hc0 HOP.out).mono ?_)
    rintro e w3 ⟨v3, rfl, hrb, hb3⟩
    obtain ⟨Ab, cb, rfl, hlb, hCb⟩ := Kd.R_reads hrb
    have HB3 := Aside0.mk (below_then HB2.out HB2.out.size hb3)
    have HCB := Aside0.mk hCb
    clear hrb hb3 hCb
    have hblk : (w3.alloc (.cells #[.slice Ab b.length cb] 55)).heap[w3.heap.size]? = some (.cells #[.slice Ab b.length cb] 55 (0, 0)) := blk_new w3 _
    have HBLK := Aside0.mk hblk
    have HB4 := Aside0.mk (below_alloc HB3.out (.cells #[.slice Ab b.length cb] 55))
    have HCB4 := Aside0.mk (Kd.C_below HCB.out (below_alloc (Below.refl _ _) (.cells #[.slice Ab b.length cb] 55)))
    clear hblk
    go_wp2
    generalize w3.alloc (.cells #[.slice Ab b.length cb] 55) = w4 at HBLK HB4 HCB4 ⊢
    generalize w3.heap.size = g8 at HBLK ⊢
    go_loopg [9, 11, 12, 32] l1.length (fun kq v9 v11 v12 v32 wr => ∃ (i : Nat) (out : List Int), v32 = .int .i64 i ∧ kq + i = l1.length ∧ out.length ≤ i ∧ Aside0 (samAll k b a2 out (l1.drop i) = some (r1, r2)) ∧ Aside0 (wr.ownsRow w4.heap.size 3 1 v9 out.length (nums .i64 out)) ∧ Aside0 (Below w4.heap.size w4 wr))
    case atStart => exact ⟨0, [], rfl, by omega, Nat.le_refl _, H, ⟨own_nil _ _ _ _⟩, ⟨Below.refl _ _⟩⟩
    case round =>
      obtain ⟨i, out, rfl, hi, hol, HL, HO, HB⟩ := hrel
      have HBW := Aside0.mk (below_then HB4.out HB4.out.size HB.out)
      by_cases hlt : i < l1.length
      · have hme : gk - 1 < gk := by omega
        have hl := HL.out
        rw [List.drop_eq_getElem_cons hlt, samAll] at hl
        obtain ⟨f, hf, hl⟩ := Option.bind_eq_some_iff.mp hl
        have HF := Aside0.mk hf
        have hdec : decide ((i : Int) < (l1.length : Int)) = true := decide_eq_true (by omega)
        have hdecn : decide (i < l1.length) = true := decide_eq_true hlt
        have hp0 : (0 ≤ (i : Int)) = True := eq_true (by omega)
        have hp1 : ((i : Int) < (l1.length : Int)) = True := eq_true (by omega)
        have hp2 : (i < l1.length) = True := eq_true hlt
        have hx0 : rd l1 i = l1[i] := by simp [rd, List.getD, hlt]
        obtain ⟨ad, had, hcell⟩ := Kd.at_int (Kd.C_below HR1.out HBW.out) (i : Int) (by omega) (by omega)
        subst had
        rw [hx0, Int.toNat_natCast] at hcell
        obtain ⟨x, hx⟩ : ∃ x : Int, l1[i] = x := ⟨_, rfl⟩
        rw [hx] at hl hcell
        obtain ⟨y, hy⟩ : ∃ y : Int, wrap64 (x + f) = y := ⟨_, rfl⟩
        rw [hy] at hl
        have HY := Aside0.mk hy
        have hc8 := (blk_cell (blk_below HBLK.out HB.out) 0).trans rfl
        obtain ⟨A9, c9, rfl, hle9, hC9⟩ := owns_readsI HO.out
        have HC9 := Aside0.mk hC9
        have HL' := Aside0.mk hl
        have HME := Aside0.mk (show gk - 1 + (i + 1) = l1.length by omega)
        have HOL := Aside0.mk (show (out.length + 1) * 8 ≤ 140737488355328 by have := HM.out; omega)
        have HOL2 := Aside0.mk (show (out ++ [y]).length ≤ i + 1 by rw [List.length_append]; simp; omega)
        have HW1 := Aside0.mk (show wrap64 ((i : Int) + 1) = (i : Int) + 1 from wrap64_id (by have := HM.out; omega) (by have := HM.out; omega))
        clear hf hl hx hx0 hy hC9 HL hol
        go_wp2_with fail
        (with_reducible refine (filter_bank_foresee.calls k Ab cb b A9 c9 out f wr (Kd.C_below HCB4.out HB.out) hlb HC9.out hle9 HF.out).mono ?_)
        rintro e w5 ⟨rfl, hb5⟩
        have HO5 := Aside0.mk (own_below HO.out hb5)
        have HB5 := Aside0.mk (below_then HB.out HB.out.size hb5)
        have hsz := HB5.out.size
        clear hb5 HO HB hcell hc8 HC9
        by_cases h1 : y < -a2 - 1
        · have hl := HL'.out
          rw [if_pos h1] at hl
          cases hl
          have hd1 := decide_eq_true h1
          have hy' := HY.out
          go_wp2
          go_ret2
          exact ⟨_, rfl, Kd.R_nil _ _ _ _ _, below_then HB4.out HB4.out.size HB5.out⟩
        · by_cases h2 : y > a2
          · have hl := HL'.out
            rw [if_neg h1, if_pos h2] at hl
            cases hl
            have hd1 := decide_eq_false h1
            have hd2 : decide (a2 < y) = true := decide_eq_true h2
            have hy' := HY.out
            go_wp2
            go_ret2
            exact ⟨_, rfl, Kd.R_nil _ _ _ _ _, below_then HB4.out HB4.out.size HB5.out⟩
          · have hl := HL'.out
            rw [if_neg h1, if_neg h2] at hl
            have HL2 := Aside0.mk hl
            have hd1 := decide_eq_false h1
            have hd2 : decide (a2 < y) = false := decide_eq_false h2
            have hy' := HY.out
            clear hl HL'
            go_wp2_with (at_builtin; refine print_append_num (w0 := w4) w4.heap.size rfl _ _ 22 3 .i64 8 rfl Try.underlying22 int_info (by decide) (.slice A9 out.length c9) out y rfl rfl HO5.out HB5.out hsz ?c1 ?_)
            case c1 => exact HOL.out
            intro v1 w6 hown hb6 _ _
            have HO6 := Aside0.mk hown
            have HB6 := Aside0.mk hb6
            clear hown hb6
            go_wp2
            go_roundg (gk - 1)
            case rel => exact ⟨i + 1, out ++ [y], by first | rfl | (rw [HW1.out]; rfl), HME.out, HOL2.out, HL2, ⟨by rw [List.length_append]; exact HO6.out⟩, HB6⟩
            case measure => exact hme
      · have hii : i = l1.length := by omega
        have hdec : decide ((i : Int) < (l1.length : Int)) = false := decide_eq_false (by omega)
        have hdecn : decide (i < l1.length) = false := decide_eq_false hlt
        have hl := HL.out
        rw [hii, List.drop_length, samAll] at hl
        cases hl
        clear hii
        go_wp2
        go_ret2
        refine ⟨_, rfl, ?_, HBW.out⟩
        exact Kd.R_lower (Kd.R_of_own HO.out (fun _ _ => trivial)) HB4.out.size
end Go.Proofs.Ytoglefgjiaoopaa.P
