/- weft.Back: the channel that has a rest. -/
import Derived.Test.YtlebgjcpidpgnaaPx0
import Derived.Test.YtlebgjcpidpgnaaHWRest
import Derived.Test.YtlebgjcpidpgnaaHWFore
import Derived.Sort.LoopGhostIn
namespace Go.Proofs.Ytlebgjcpidpgnaa.P
open Go Go.RowKit Go.Proofs.YtlebgjcpidpgnaaW.PrintWords Go.Proofs.YtlebgjcpidpgnaaW.PrintLast Go.Proofs.YtlebgjcpidpgnaaW.PrintMore
set_option linter.unusedVariables false
set_option linter.unusedSimpArgs false

theorem wint_info : (Try.prog.info? 3).map (fun i => (i.zero, i.size, i.bytes)) = some (some (.int .i64 0), 1, 8) := by kernel_rfl
theorem wown_below {w w' : World} {B e size n : Nat} {v : Value} {xs : List Value} (h : w.ownsRow B e size v n xs) (hb : Below w.heap.size w w') : w'.ownsRow B e size v n xs :=
  own_move h fun k hk => hb.block k (own_lt h k hk)
theorem fore_range {g0 g1 g2 : Int} {l : List Int} {i f : Int} (h : weft_foreseen.f g0 g1 g2 l i = some f) : -576460752303423488 ≤ f ∧ f ≤ 576460752303423487 := by
  unfold weft_foreseen.f at h
  split at h
  · have := Option.some.inj h
    subst this
    have e : foreS g0 g1 g2 l i 3 = wrap64 (wrap64 (wrap64 (0 + wrap64 (g0 * atZ l (i - 1))) + wrap64 (g1 * atZ l i)) + wrap64 (g2 * atZ l (i + 1))) := rfl
    rw [e]
    generalize wrap64 (wrap64 (0 + wrap64 (g0 * atZ l (i - 1))) + wrap64 (g1 * atZ l i)) + wrap64 (g2 * atZ l (i + 1)) = z
    unfold wrap64
    omega
  · cases h
def backAll (g0 g1 g2 : Int) (m : List Int) (most : Int) : Nat → List Int → List Int → Option (List Int × Int)
  | _, out, [] => some (out, 0)
  | i, out, n :: es => (weft_foreseen.f g0 g1 g2 m i).bind fun f => if n > most - f then some ([], 9) else if n < -most - 1 - f then some ([], 9) else backAll g0 g1 g2 m most (i + 1) (out ++ [n + f]) es
def weft_Back.f (k : Nat) (s : Bool) (m g0 g1 g2 : Int) (rest master : List Int) (most : Int) : Option (List Int × Int) :=
  (weft_wrong.f s m g0 g1 g2 rest master).bind fun e => if e = 0 then (if most < 0 then some ([], 1) else if most ≥ 8388608 then some ([], 1) else if rest.length ≤ 1000000000 then (if master.length ≤ 1000000000 then (if master.any farP = true then some ([], 9) else backAll g0 g1 g2 master most 0 [] rest) else none) else none) else some ([], e)
theorem weft_Back.mono : ∀ a0 a1 a2 a3 a4 a5 a6 a7 k, LeO (weft_Back.f k a0 a1 a2 a3 a4 a5 a6 a7) (weft_Back.f (k + 1) a0 a1 a2 a3 a4 a5 a6 a7) := fun _ _ _ _ _ _ _ _ _ => LeO.refl _

set_option maxHeartbeats 8000000 in
set_option maxRecDepth 100000 in
theorem weft_Back.calls (k : Nat) (a0_0 : Bool) (a0_1 a0_2 a0_3 a0_4 : Int) (A1 : Option Addr) (c1 : Nat) (l1 : List Int) (A2 : Option Addr) (c2 : Nat) (l2 : List Int) (a3 : Int) (r1 : List Int) (r2 : Int) (w : World) (hr1 : Kd.C (Kd.int .i64) w A1 l1.length l1) (hc1 : l1.length ≤ c1) (hr2 : Kd.C (Kd.int .i64) w A2 l2.length l2) (hc2 : l2.length ≤ c2) (h : weft_Back.f k a0_0 a0_1 a0_2 a0_3 a0_4 l1 l2 a3 = some (r1, r2)) :
    Calls Try.prog 29 #[.agg #[.bool a0_0, .int .i64 a0_1, .int .i64 a0_2, .int .i64 a0_3, .int .i64 a0_4], .slice A1 l1.length c1, .slice A2 l2.length c2, .int .i64 a3] w fun e w' => ∃ v0_ : Value, e = .returned (.tuple #[v0_, .int .i64 r2]) ∧ Kd.R (Kd.int .i64) 3 w' w.heap.size (fun _ => True) v0_ r1 ∧ Below w.heap.size w w' := by
  have HR1 := Aside0.mk hr1
  have HR2 := Aside0.mk hr2
  clear hr1 hr2
  obtain ⟨e0, hw, h⟩ := Option.bind_eq_some_iff.mp h
  have HW := Aside0.mk hw
  clear hw
  have hu := Try.underlying42
  have hu2 := Try.underlying44
  have hblk := blk_new w (.cells #[.bool a0_0, .int .i64 a0_1, .int .i64 a0_2, .int .i64 a0_3, .int .i64 a0_4] 44)
  have HBLK := Aside0.mk hblk
  have HB0 := Aside0.mk (below_alloc (Below.refl w.heap.size w) (.cells #[.bool a0_0, .int .i64 a0_1, .int .i64 a0_2, .int .i64 a0_3, .int .i64 a0_4] 44))
  clear hblk
  go_enter Try.func29, Try.ntmps29
  go_wp2_with fail
  (with_reducible refine (weft_wrong.calls a0_0 a0_1 a0_2 a0_3 a0_4 A1 c1 l1 A2 c2 l2 e0 _ (Kd.C_below HR1.out HB0.out) hc1 (Kd.C_below HR2.out HB0.out) hc2 HW.out).mono ?_)
  rintro e w1 ⟨rfl, hb1⟩
  have HBLK1 := Aside0.mk (blk_below HBLK.out hb1)
  have HB1 := Aside0.mk (below_then HB0.out HB0.out.size hb1)
  clear hb1 HBLK
  by_cases he : e0 = 0
  case neg =>
    rw [if_neg he] at h
    cases h
    have hn : (r2 != 0) = true := bne_iff_ne.mpr he
    go_wp2
    go_ret2
    exact ⟨_, rfl, Kd.R_nil _ _ _ _ _, HB1.out⟩
  subst he
  rw [if_pos rfl] at h
  by_cases hlo : a3 < 0
  · rw [if_pos hlo] at h
    cases h
    have hd := decide_eq_true hlo
    go_wp2
    go_ret2
    exact ⟨_, rfl, Kd.R_nil _ _ _ _ _, HB1.out⟩
  rw [if_neg hlo] at h
  have hdlo := decide_eq_false hlo
  by_cases hhi : a3 ≥ 8388608
  · rw [if_pos hhi] at h
    cases h
    have hd : decide (8388608 ≤ a3) = true := decide_eq_true hhi
    go_wp2
    go_ret2
    exact ⟨_, rfl, Kd.R_nil _ _ _ _ _, HB1.out⟩
  rw [if_neg hhi] at h
  have hdhi : decide (8388608 ≤ a3) = false := decide_eq_false hhi
  have hm0 : 0 ≤ a3 := by omega
  have hm1 : a3 ≤ 8388607 := by omega
  by_cases hm : l1.length ≤ 1000000000
  case neg => rw [if_neg hm] at h; cases h
  rw [if_pos hm] at h
  by_cases hm2 : l2.length ≤ 1000000000
  case neg => rw [if_neg hm2] at h; cases h
  rw [if_pos hm2] at h
  have HM := Aside0.mk hm
  have HM2 := Aside0.mk hm2
  clear hm hm2 hlo hhi
  go_wp2_with fail
  (with_reducible refine (containsFunc_calls 59 farP weft_far_enters weft_far_p A2 c2 l2 _ (Kd.C_below HR2.out HB1.out) hc2 (by have := HM2.out; omega)).mono ?_)
  rintro e w4 ⟨rfl, hd2⟩
  have HB4 := Aside0.mk (below_then HB1.out HB1.out.size hd2.below)
  have HBLK4 := Aside0.mk (blk_below HBLK1.out hd2.below)
  clear hd2 HBLK1
  by_cases hf : l2.any farP = true
  · rw [if_pos hf] at h
    cases h
    rw [hf]
    clear hf
    go_wp2
    go_ret2
    exact ⟨_, rfl, Kd.R_nil _ _ _ _ _, HB4.out⟩
  rw [if_neg hf] at h
  rw [Bool.eq_false_iff.mpr hf]
  clear hf
  have H := Aside0.mk h
  clear h
  go_wp2
  go_loopg [11, 12, 13, 14, 32] l1.length (fun kq v11 v12 v13 v14 v32 wr => ∃ (i : Nat) (out : List Int), v32 = .int .i64 i ∧ kq + i = l1.length ∧ out.length ≤ i ∧ Aside0 (backAll a0_2 a0_3 a0_4 l2 a3 i out (l1.drop i) = some (r1, r2)) ∧ Aside0 (wr.ownsRow w4.heap.size 3 1 v11 out.length (nums .i64 out)) ∧ Aside0 (Below w4.heap.size w4 wr))
  case atStart => exact ⟨0, [], rfl, by omega, Nat.le_refl _, H, ⟨own_nil _ _ _ _⟩, ⟨Below.refl _ _⟩⟩
  case round =>
    obtain ⟨i, out, rfl, hi, hol, HL, HO, HB⟩ := hrel
    have HBW := Aside0.mk (below_then HB4.out HB4.out.size HB.out)
    by_cases hlt : i < l1.length
    · have hme : gk - 1 < gk := by omega
      have hl := HL.out
      rw [List.drop_eq_getElem_cons hlt, backAll] at hl
      obtain ⟨f, hf, hl⟩ := Option.bind_eq_some_iff.mp hl
      have hfr := fore_range hf
      obtain ⟨hf0, hf1⟩ := hfr
      have HF := Aside0.mk hf
      have hdec : decide ((i : Int) < (l1.length : Int)) = true := decide_eq_true (by omega)
      have hdecn : decide (i < l1.length) = true := decide_eq_true hlt
      have hp0 : (0 ≤ (i : Int)) = True := eq_true (by omega)
      have hp1 : ((i : Int) < (l1.length : Int)) = True := eq_true (by omega)
      have hp2 : (i < l1.length) = True := eq_true hlt
      have hx0 : rd l1 i = l1[i] := by simp [rd, List.getD, hlt]
      obtain ⟨ad, had, hcell⟩ := Kd.at_int (Kd.C_below HR1.out HBW.out) (i : Int) (by omega) (by omega)
      subst had
      rw [hx0, Int.toNat_natCast] at hcell
      obtain ⟨x, hx⟩ : ∃ x : Int, l1[i] = x := ⟨_, rfl⟩
      rw [hx] at hl hcell
      have hbw := blk_below HBLK4.out HB.out
      have hc2' := (blk_cell hbw 2).trans rfl
      have hc3' := (blk_cell hbw 3).trans rfl
      have hc4' := (blk_cell hbw 4).trans rfl
      obtain ⟨A9, c9, rfl, _⟩ := own_reads HO.out
      have HL' := Aside0.mk hl
      have HME := Aside0.mk (show gk - 1 + (i + 1) = l1.length by omega)
      have HOL := Aside0.mk (show (out.length + 1) * 8 ≤ 140737488355328 by have := HM.out; omega)
      have HOL2 := Aside0.mk (show (out ++ [x + f]).length ≤ i + 1 by rw [List.length_append]; simp; omega)
      have HW1 := Aside0.mk (show wrap64 ((i : Int) + 1) = (i : Int) + 1 by have := HM.out; unfold wrap64; omega)
      clear hf hl hx hx0 hbw HL hol
      go_wp2_with fail
      (with_reducible refine (weft_foreseen.calls a0_2 a0_3 a0_4 A2 c2 l2 (i : Int) f wr (Kd.C_below HR2.out HBW.out) hc2 HF.out).mono ?_)
      rintro e w5 ⟨rfl, hb5⟩
      have HO5 := Aside0.mk (wown_below HO.out hb5)
      have HB5 := Aside0.mk (below_then HB.out HB.out.size hb5)
      have hsz := HB5.out.size
      clear hb5 HO HB hcell hc2' hc3' hc4'
      by_cases h1 : x > a3 - f
      · have hl := HL'.out
        rw [if_pos h1] at hl
        cases hl
        have hd1 : decide (a3 - f < x) = true := decide_eq_true h1
        go_wp2
        go_ret2
        exact ⟨_, rfl, Kd.R_nil _ _ _ _ _, below_then HB4.out HB4.out.size HB5.out⟩
      · by_cases h2 : x < -a3 - 1 - f
        · have hl := HL'.out
          rw [if_neg h1, if_pos h2] at hl
          cases hl
          have hd1 : decide (a3 - f < x) = false := decide_eq_false h1
          have hd2 : decide (x < -a3 - 1 - f) = true := decide_eq_true h2
          go_wp2
          go_ret2
          exact ⟨_, rfl, Kd.R_nil _ _ _ _ _, below_then HB4.out HB4.out.size HB5.out⟩
        · have hl := HL'.out
          rw [if_neg h1, if_neg h2] at hl
          have HL2 := Aside0.mk hl
          have hd1 : decide (a3 - f < x) = false := decide_eq_false h1
          have hd2 : decide (x < -a3 - 1 - f) = false := decide_eq_false h2
          have hs1 : -8388608 ≤ x + f := by omega
          have hs2 : x + f ≤ 8388607 := by omega
          clear hl HL'
          go_wp2_with (at_builtin; refine print_append_num (w0 := w4) w4.heap.size rfl _ _ 23 3 .i64 8 rfl Try.underlying23 wint_info (by decide) (.slice A9 out.length c9) out (x + f) rfl rfl HO5.out HB5.out hsz ?c1 ?_)
          case c1 => exact HOL.out
          intro v1 w6 hown hb6 _ _
          have HO6 := Aside0.mk hown
          have HB6 := Aside0.mk hb6
          clear hown hb6
          go_wp2
          go_roundg (gk - 1)
          case rel => exact ⟨i + 1, out ++ [x + f], by first | rfl | (rw [HW1.out]; rfl), HME.out, HOL2.out, HL2, ⟨by rw [List.length_append]; exact HO6.out⟩, HB6⟩
          case measure => exact hme
    · have hii : i = l1.length := by omega
      have hdec : decide ((i : Int) < (l1.length : Int)) = false := decide_eq_false (by omega)
      have hdecn : decide (i < l1.length) = false := decide_eq_false hlt
      have hl := HL.out
      rw [hii, List.drop_length, backAll] at hl
      cases hl
      clear hii
      go_wp2
      go_ret2
      refine ⟨_, rfl, ?_, HBW.out⟩
      exact Kd.R_lower (Kd.R_of_own HO.out (fun _ _ => trivial)) HB4.out.size
end Go.Proofs.Ytlebgjcpidpgnaa.P
