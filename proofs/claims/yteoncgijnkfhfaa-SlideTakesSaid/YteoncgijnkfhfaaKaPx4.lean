/- Printed by a program of ours out of Lean's own print of the translation: functions and their contracts. -/
import Derived.Test.YteoncgijnkfhfaaKaPx0
import Derived.Test.YteoncgijnkfhfaaKaPx3
namespace Go.Proofs.Yteoncgijnkfhfaa.P
open Go.RowKit Go.Proofs.YteoncgijnkfhfaaW.PrintWords Go.Proofs.YteoncgijnkfhfaaW.PrintLast Go.Proofs.YteoncgijnkfhfaaW.PrintMore
attribute [local go_sem] max2_int min2_int max_two min_two max_three min_three max_four min_four   -- for this text's walks alone
set_option linter.unusedVariables false
set_option linter.unusedSimpArgs false

/-! ### sackbutref01_Run: function 68 -/
def sackbutref01_Run.l0 : Nat → Int → Int → ByteArray → Int → Int → Option (ByteArray × Int × Int × Int)
  | 0, _, _, _, _, _ => none
  | k + 1, x1, x6, x179000, x179001, x179002 => if x179002 = 0 then (if x179000.toList = ([] : List UInt8) then ((sackbutref01_Give.f x179000 x179001 x179002 3).bind fun bt180 => (some (bt180.1, bt180.2.1, bt180.2.2, 0))) else (if 0 < (x179000.size : Int) then (if 1 ≤ (x179000.size : Int) then (if (bt x179000 0) = 49 then (some (x179000.extract 1 x179000.size, x179001, x179002, x6)) else (if x6 ≥ x1 then ((sackbutref01_Give.f (x179000.extract 1 x179000.size) x179001 x179002 1).bind fun bt183 => (some (bt183.1, bt183.2.1, bt183.2.2, 0))) else (sackbutref01_Run.l0 k x1 (wrap64 (x6 + 1)) (x179000.extract 1 x179000.size) x179001 x179002))) else (none)) else (none))) else (some (x179000, x179001, x179002, 0))
def sackbutref01_Run.f (k : Nat) (a0_0 : ByteArray) (a0_1 : Int) (a0_2 : Int) (a1 : Int) : Option (ByteArray × Int × Int × Int) := sackbutref01_Run.l0 k a1 0 a0_0 a0_1 a0_2
set_option maxHeartbeats 8000000 in
set_option maxRecDepth 100000 in
theorem sackbutref01_Run.calls (k : Nat) (a0_0 : ByteArray) (a0_1 : Int) (a0_2 : Int) (a1 : Int) (r1 : ByteArray) (r2 : Int) (r3 : Int) (r4 : Int) (w : World) (h : sackbutref01_Run.f k a0_0 a0_1 a0_2 a1 = some (r1, r2, r3, r4)) :
    Calls Try.prog 68 #[.agg #[.string a0_0, .int .i64 a0_1, .int .i64 a0_2], .int .i64 a1] w fun e w' => e = .returned (.tuple #[.agg #[.string r1, .int .i64 r2, .int .i64 r3], .int .i64 r4]) ∧ Below w.heap.size w w' := by
  have hu44 := Try.underlying44
  have HB := Aside0.mk (Below.refl w.heap.size w)
  have H : (sackbutref01_Run.l0 k a1 0 a0_0 a0_1 a0_2) = some (r1, r2, r3, r4) := h
  clear h
  have H' := Aside0.mk H
  clear H
  go_enter Try.func68, Try.ntmps68
  go_wp2_with (first | ((with_reducible refine gate_dst (N := 2) rfl ?_); refine box_event ?hg (N := 2) ?hd (cs := #[.string a0_0, .int .i64 a0_1, .int .i64 a0_2]) (t := 44) ?hr ?_; (case hd => rfl); (case hg => rfl); (case hr => first | (go_simp; done) | (go_simp; rfl)); intro gb178 hg w3 hbox hb; have n0_ := Aside0.mk (below_step (by repeat (first | (with_reducible first | exact HB.out | apply below_alloc | apply pw_below_drewN | apply below_drew1) | exact HB.out)) hb); have n1_ := Aside0.mk (hbox); have n2_ := Aside0.mk ((by rw [hg]; exact (below_size (by repeat (first | (with_reducible first | exact HB.out | apply below_alloc | apply pw_below_drewN | apply below_drew1) | exact HB.out))) : w.heap.size ≤ gb178)); have n3_ := Aside0.mk ((by rw [hg]; exact (below_size (by repeat (first | (with_reducible first | exact HB.out | apply below_alloc | apply pw_below_drewN | apply below_drew1) | exact HB.out))) : w.heap.size ≤ gb178)); clear HB; have HB := n0_; have BK178 := n1_; have GW178 := n2_; have GE178 := n3_; clear n0_ n1_ n2_ n3_; clear hb hbox hg) | ((with_reducible refine gate_dst (N := 4) rfl ?_); refine box_event ?hg (N := 4) ?hd (cs := #[.string (⟨#[]⟩ : ByteArray), .int .i64 0, .int .i64 0]) (t := 44) ?hr ?_; (case hd => rfl); (case hg => rfl); (case hr => first | (go_simp; done) | (go_simp; rfl)); intro gb179 hg w4 hbox hb; have n0_ := Aside0.mk (blk_below (g := gb178) (o := .cells #[.string a0_0, .int .i64 a0_1, .int .i64 a0_2] 44 (0, 0)) (by (with_reducible repeat (first | refine blk_drewN ?_ _ | refine blk_drew ?_ | refine blk_alloc ?_ _)); exact BK178.out) hb); have n1_ := Aside0.mk (below_step (by repeat (first | (with_reducible first | exact HB.out | apply below_alloc | apply pw_below_drewN | apply below_drew1 | refine below_set ?_ GE178.out) | exact HB.out)) hb); have n2_ := Aside0.mk (hbox); have n3_ := Aside0.mk ((by rw [hg]; exact (below_size (by repeat (first | (with_reducible first | exact HB.out | apply below_alloc | apply pw_below_drewN | apply below_drew1 | refine below_set ?_ GE178.out) | exact HB.out))) : w.heap.size ≤ gb179)); have n4_ := Aside0.mk ((by rw [hg]; exact (below_size (by repeat (first | (with_reducible first | exact HB.out | apply below_alloc | apply pw_below_drewN | apply below_drew1 | refine below_set ?_ GE178.out) | exact HB.out))) : w.heap.size ≤ gb179)); have n5_ := Aside0.mk ((by rw [hg]; exact Nat.ne_of_lt (blk_lt (g := gb178) (o := .cells #[.string a0_0, .int .i64 a0_1, .int .i64 a0_2] 44 (0, 0)) (by (with_reducible repeat (first | refine blk_drewN ?_ _ | refine blk_drew ?_ | refine blk_alloc ?_ _)); exact BK178.out)) : gb178 ≠ gb179)); have n6_ := Aside0.mk ((by rw [hg]; exact Nat.ne_of_gt (blk_lt (g := gb178) (o := .cells #[.string a0_0, .int .i64 a0_1, .int .i64 a0_2] 44 (0, 0)) (by (with_reducible repeat (first | refine blk_drewN ?_ _ | refine blk_drew ?_ | refine blk_alloc ?_ _)); exact BK178.out)) : gb179 ≠ gb178)); clear BK178; clear HB; have BK178 := n0_; have HB := n1_; have BK179 := n2_; have GW179 := n3_; have GE179 := n4_; have NB178_179 := n5_; have NB179_178 := n6_; clear n0_ n1_ n2_ n3_ n4_ n5_ n6_; clear hb hbox hg))
  go_loopg [6] k (fun kq v6 w' => ∃ (x6_1 : Int) (x179000_1 : ByteArray) (x180000_1 : ByteArray) (x180001_1 : Int) (x180002_1 : Int), v6 = .int .i64 x6_1 ∧ Aside0 (sackbutref01_Run.l0 kq a1 x6_1 x179000_1 a0_1 a0_2 = some (r1, r2, r3, r4)) ∧ Aside0 (kq ≤ k) ∧ Aside0 (w'.heap[gb178]? = some (.cells #[.string x179000_1, .int .i64 a0_1, .int .i64 a0_2] 44 (0, 0))) ∧ Aside0 (w'.heap[gb179]? = some (.cells #[.string x180000_1, .int .i64 x180001_1, .int .i64 x180002_1] 44 (0, 0))) ∧ Aside0 (Below w.heap.size w w'))
  case atStart => exact ⟨(0), (a0_0), ((⟨#[]⟩ : ByteArray)), (0), (0), (by first | rfl | (simp; done) | (simp [*]; done)), H', ⟨Nat.le_refl _⟩, ⟨by (with_reducible repeat (first | refine blk_drewN ?_ _ | refine blk_drew ?_ | refine blk_alloc ?_ _)); exact BK178.out⟩, ⟨by (with_reducible repeat (first | refine blk_drewN ?_ _ | refine blk_drew ?_ | refine blk_alloc ?_ _)); exact BK179.out⟩, ⟨by repeat (first | (with_reducible first | exact HB.out | apply below_alloc | apply pw_below_drewN | apply below_drew1 | refine below_set ?_ GE178.out | refine below_set ?_ GE179.out) | exact HB.out)⟩⟩
  case round =>
    clear H'
    try clear p2
    obtain ⟨x6_1, x179000_1, x180000_1, x180001_1, x180002_1, rfl, HA, HK1, BK178, BK179, HB⟩ := hrel
    cases gk with
    | zero => exact absurd HA.out (by simp [sackbutref01_Run.l0])
    | succ k1 =>
      have H := HA.out
      clear HA
      simp only [sackbutref01_Run.l0] at H
      by_cases c5 : a0_2 = 0
      · rw [if_pos c5] at H
        have c5b0 : (a0_2 == 0) = true := beq_iff_eq.mpr c5
        have c5b1 : (a0_2 != 0) = false := bne_eq_false_iff_eq.mpr c5
        clear c5
        by_cases c6 : x179000_1.toList = ([] : List UInt8)
        · rw [if_pos c6] at H
          have c6b0 : (x179000_1.toList == ([] : List UInt8)) = true := beq_iff_eq.mpr c6
          have c6b1 : (x179000_1.toList != ([] : List UInt8)) = false := bne_eq_false_iff_eq.mpr c6
          clear c6
          replace H := Option.bind_eq_some_iff.mp H
          obtain ⟨⟨t180, t181, t182⟩, A70, H⟩ := H
          replace H : (some (t180, t181, t182, 0)) = some (r1, r2, r3, r4) := H
          have A7 := Aside0.mk A70
          clear A70
          simp only [Option.some.injEq, Prod.mk.injEq] at H
          obtain ⟨rfl, rfl, rfl, rfl⟩ := H
          have hnb8 := NB178_179.out
          have hnc8 := NB179_178.out
          have hcz9_0 : wr.cell? ⟨gb178, 0, none⟩ = some (.string x179000_1) := (blk_cell BK178.out 0).trans rfl
          have hcz9_1 : wr.cell? ⟨gb178, 1, none⟩ = some (.int .i64 a0_1) := (blk_cell BK178.out 1).trans rfl
          have hcz9_2 : wr.cell? ⟨gb178, 2, none⟩ = some (.int .i64 a0_2) := (blk_cell BK178.out 2).trans rfl
          have hfz9_0 := blk_frozen BK178.out 0
          have hfz9_1 := blk_frozen BK178.out 1
          have hfz9_2 := blk_frozen BK178.out 2
          go_wp2_with (first | ((with_reducible refine gate_callee (f := 49) rfl ?_); refine goesL_ (some 15) rfl rfl Try.func49 (by kernel_rfl) rfl #[.agg #[.string x179000_1, .int .i64 a0_1, .int .i64 a0_2], .int .i64 3] rfl (by (try simp only [List.map_toArray, List.map_cons, List.map_nil]); first | done | rfl | (simp only [List.length_drop, List.length_take]; rfl)) ?_; (with_reducible refine (sackbutref01_Give.calls x179000_1 a0_1 a0_2 3 t180 t181 t182 _ A7.out).mono ?_); rintro e w10 ⟨rfl, hb⟩; refine ⟨_, rfl, ?_⟩; have n0_ := Aside0.mk (blk_below (g := gb178) (o := .cells #[.string x179000_1, .int .i64 a0_1, .int .i64 a0_2] 44 (0, 0)) (by (with_reducible repeat (first | refine blk_drewN ?_ _ | refine blk_drew ?_ | refine blk_alloc ?_ _)); exact BK178.out) hb); have n1_ := Aside0.mk (blk_below (g := gb179) (o := .cells #[.string x180000_1, .int .i64 x180001_1, .int .i64 x180002_1] 44 (0, 0)) (by (with_reducible repeat (first | refine blk_drewN ?_ _ | refine blk_drew ?_ | refine blk_alloc ?_ _)); exact BK179.out) hb); have n2_ := Aside0.mk (below_step (by repeat (first | (with_reducible first | exact HB.out | apply below_alloc | apply pw_below_drewN | apply below_drew1 | refine below_set ?_ GE178.out | refine below_set ?_ GE179.out) | exact HB.out)) hb); clear BK178; clear BK179; clear HB; have BK178 := n0_; have BK179 := n1_; have HB := n2_; clear n0_ n1_ n2_; (try clear hb); (try clear hb2); (try clear hk); (try clear hi); have hcz11_0 : w10.cell? ⟨gb179, 0, none⟩ = some (.string x180000_1) := (blk_cell BK179.out 0).trans rfl; have hcz11_1 : w10.cell? ⟨gb179, 1, none⟩ = some (.int .i64 x180001_1) := (blk_cell BK179.out 1).trans rfl; have hcz11_2 : w10.cell? ⟨gb179, 2, none⟩ = some (.int .i64 x180002_1) := (blk_cell BK179.out 2).trans rfl; have hfz11_0 := blk_frozen BK179.out 0; have hfz11_1 := blk_frozen BK179.out 1; have hfz11_2 := blk_frozen BK179.out 2))
          refine bodyPost_ret (results_ct rfl _ _ gb179 44 #[.string t180, .int .i64 t181, .int .i64 t182] (0, 0) _ rfl (by (with_reducible repeat (first | refine blk_drewN ?_ _ | refine blk_drew ?_ | refine blk_alloc ?_ _)); refine blk_put (cs := #[.string t180, .int .i64 t181, .int .i64 x180002_1]) ?_ 2 _ rfl; (with_reducible repeat (first | refine blk_drewN ?_ _ | refine blk_drew ?_ | refine blk_alloc ?_ _)); refine blk_put (cs := #[.string t180, .int .i64 x180001_1, .int .i64 x180002_1]) ?_ 1 _ rfl; (with_reducible repeat (first | refine blk_drewN ?_ _ | refine blk_drew ?_ | refine blk_alloc ?_ _)); refine blk_put (cs := #[.string x180000_1, .int .i64 x180001_1, .int .i64 x180002_1]) ?_ 0 _ rfl; (with_reducible repeat (first | refine blk_drewN ?_ _ | refine blk_drew ?_ | refine blk_alloc ?_ _)); exact BK179.out) Try.underlying44 rfl (by kernel_rfl)) rfl ?_
          exact ⟨by first | rfl | (simp [errW_none, errW_some] <;> rfl) | (simp [*, errW_none, errW_some] <;> rfl), by repeat (first | (with_reducible first | exact HB.out | apply below_alloc | apply pw_below_drewN | apply below_drew1 | refine below_set ?_ GE178.out | refine below_set ?_ GE179.out) | exact HB.out)⟩
        · rw [if_neg c6] at H
          have c6b0 : (x179000_1.toList == ([] : List UInt8)) = false := beq_eq_false_iff_ne.mpr c6
          have c6b1 : (x179000_1.toList != ([] : List UInt8)) = true := bne_iff_ne.mpr c6
          by_cases c12 : 0 < (x179000_1.size : Int)
          · rw [if_pos c12] at H
            have c12b0 : decide (0 < (x179000_1.size : Int)) = true := decide_eq_true c12
            have c12b1 : decide (0 < x179000_1.size) = true := decide_eq_true (by omega)
            clear c12
            by_cases c14 : 1 ≤ (x179000_1.size : Int)
            · rw [if_pos c14] at H
              have c14b0 := eq_true c14
              have c14b1 : decide (1 ≤ (x179000_1.size : Int)) = true := decide_eq_true c14
              clear c14
              by_cases c15 : (bt x179000_1 0) = 49
              · rw [if_pos c15] at H
                have c15b0 : ((bt x179000_1 0) == 49) = true := beq_iff_eq.mpr c15
                have c15b1 : ((bt x179000_1 0) != 49) = false := bne_eq_false_iff_eq.mpr c15
                clear c15
                simp only [Option.some.injEq, Prod.mk.injEq] at H
                obtain ⟨rfl, rfl, rfl, rfl⟩ := H
                have hnb16 := NB178_179.out
                have hnc16 := NB179_178.out
                have hcz17_0 : wr.cell? ⟨gb178, 0, none⟩ = some (.string x179000_1) := (blk_cell BK178.out 0).trans rfl
                have hcz17_1 : wr.cell? ⟨gb178, 1, none⟩ = some (.int .i64 a0_1) := (blk_cell BK178.out 1).trans rfl
                have hcz17_2 : wr.cell? ⟨gb178, 2, none⟩ = some (.int .i64 a0_2) := (blk_cell BK178.out 2).trans rfl
                have hfz17_0 := blk_frozen BK178.out 0
                have hfz17_1 := blk_frozen BK178.out 1
                have hfz17_2 := blk_frozen BK178.out 2
                have p13 : 0 ≤ (0 : Int) := (by omega)
                have q13 : 0 < x179000_1.size := (by have : (0 : Int) < (x179000_1.size : Int) := of_decide_eq_true (by first | (with_reducible assumption) | assumption); omega)
                have hx13 : ∀ h : 0 < x179000_1.size, ((x179000_1[0]'h).toNat : Int) = bt x179000_1 0 := bt_at x179000_1 0
                clear p13
                have qi13 : (0 < (x179000_1.size : Int)) = True := eq_true (of_decide_eq_true (by first | (with_reducible assumption) | assumption))
                replace q13 := eq_true q13
                have hcz18_0 : wr.cell? ⟨gb179, 0, none⟩ = some (.string x180000_1) := (blk_cell BK179.out 0).trans rfl
                have hcz18_1 : wr.cell? ⟨gb179, 1, none⟩ = some (.int .i64 x180001_1) := (blk_cell BK179.out 1).trans rfl
                have hcz18_2 : wr.cell? ⟨gb179, 2, none⟩ = some (.int .i64 x180002_1) := (blk_cell BK179.out 2).trans rfl
                have hfz18_0 := blk_frozen BK179.out 0
                have hfz18_1 := blk_frozen BK179.out 1
                have hfz18_2 := blk_frozen BK179.out 2
                go_wp2
                refine bodyPost_ret (results_ct rfl _ _ gb179 44 #[.string (x179000_1.extract 1 x179000_1.size), .int .i64 a0_1, .int .i64 a0_2] (0, 0) _ rfl (by (with_reducible repeat (first | refine blk_drewN ?_ _ | refine blk_drew ?_ | refine blk_alloc ?_ _)); refine blk_put (cs := #[.string (x179000_1.extract 1 x179000_1.size), .int .i64 a0_1, .int .i64 x180002_1]) ?_ 2 _ rfl; (with_reducible repeat (first | refine blk_drewN ?_ _ | refine blk_drew ?_ | refine blk_alloc ?_ _)); refine blk_put (cs := #[.string (x179000_1.extract 1 x179000_1.size), .int .i64 x180001_1, .int .i64 x180002_1]) ?_ 1 _ rfl; (with_reducible repeat (first | refine blk_drewN ?_ _ | refine blk_drew ?_ | refine blk_alloc ?_ _)); refine blk_put (cs := #[.string x180000_1, .int .i64 x180001_1, .int .i64 x180002_1]) ?_ 0 _ rfl; (with_reducible repeat (first | refine blk_drewN ?_ _ | refine blk_drew ?_ | refine blk_alloc ?_ _)); refine blk_far ?_ NB179_178.out _; (with_reducible repeat (first | refine blk_drewN ?_ _ | refine blk_drew ?_ | refine blk_alloc ?_ _)); exact BK179.out) Try.underlying44 rfl (by kernel_rfl)) rfl ?_
                exact ⟨by first | rfl | (simp [errW_none, errW_some] <;> rfl) | (simp [*, errW_none, errW_some] <;> rfl), by repeat (first | (with_reducible first | exact HB.out | apply below_alloc | apply pw_below_drewN | apply below_drew1 | refine below_set ?_ GE178.out | refine below_set ?_ GE179.out) | exact HB.out)⟩
              · rw [if_neg c15] at H
                have c15b0 : ((bt x179000_1 0) == 49) = false := beq_eq_false_iff_ne.mpr c15
                have c15b1 : ((bt x179000_1 0) != 49) = true := bne_iff_ne.mpr c15
                by_cases c19 : x6_1 ≥ a1
                · rw [if_pos c19] at H
                  have c19b0 : decide (a1 ≤ x6_1) = true := decide_eq_true c19
                  clear c19
                  replace H := Option.bind_eq_some_iff.mp H
                  obtain ⟨⟨t183, t184, t185⟩, A200, H⟩ := H
                  replace H : (some (t183, t184, t185, 0)) = some (r1, r2, r3, r4) := H
                  have A20 := Aside0.mk A200
                  clear A200
                  simp only [Option.some.injEq, Prod.mk.injEq] at H
                  obtain ⟨rfl, rfl, rfl, rfl⟩ := H
                  have hnb21 := NB178_179.out
                  have hnc21 := NB179_178.out
                  have hcz22_0 : wr.cell? ⟨gb178, 0, none⟩ = some (.string x179000_1) := (blk_cell BK178.out 0).trans rfl
                  have hcz22_1 : wr.cell? ⟨gb178, 1, none⟩ = some (.int .i64 a0_1) := (blk_cell BK178.out 1).trans rfl
                  have hcz22_2 : wr.cell? ⟨gb178, 2, none⟩ = some (.int .i64 a0_2) := (blk_cell BK178.out 2).trans rfl
                  have hfz22_0 := blk_frozen BK178.out 0
                  have hfz22_1 := blk_frozen BK178.out 1
                  have hfz22_2 := blk_frozen BK178.out 2
                  have p13 : 0 ≤ (0 : Int) := (by omega)
                  have q13 : 0 < x179000_1.size := (by have : (0 : Int) < (x179000_1.size : Int) := of_decide_eq_true (by first | (with_reducible assumption) | assumption); omega)
                  have hx13 : ∀ h : 0 < x179000_1.size, ((x179000_1[0]'h).toNat : Int) = bt x179000_1 0 := bt_at x179000_1 0
                  clear p13
                  have qi13 : (0 < (x179000_1.size : Int)) = True := eq_true (of_decide_eq_true (by first | (with_reducible assumption) | assumption))
                  replace q13 := eq_true q13
                  go_wp2_with (first | ((with_reducible refine gate_callee (f := 49) rfl ?_); refine goesL_ (some 31) rfl rfl Try.func49 (by kernel_rfl) rfl #[.agg #[.string (x179000_1.extract 1 x179000_1.size), .int .i64 a0_1, .int .i64 a0_2], .int .i64 1] rfl (by (try simp only [List.map_toArray, List.map_cons, List.map_nil]); first | done | rfl | (simp only [List.length_drop, List.length_take]; rfl)) ?_; (with_reducible refine (sackbutref01_Give.calls (x179000_1.extract 1 x179000_1.size) a0_1 a0_2 1 t183 t184 t185 _ A20.out).mono ?_); rintro e w23 ⟨rfl, hb⟩; refine ⟨_, rfl, ?_⟩; have n0_ := Aside0.mk (blk_below (g := gb178) (o := .cells #[.string (x179000_1.extract 1 x179000_1.size), .int .i64 a0_1, .int .i64 a0_2] 44 (0, 0)) (by (with_reducible repeat (first | refine blk_drewN ?_ _ | refine blk_drew ?_ | refine blk_alloc ?_ _)); refine blk_put (cs := #[.string x179000_1, .int .i64 a0_1, .int .i64 a0_2]) ?_ 0 _ rfl; (with_reducible repeat (first | refine blk_drewN ?_ _ | refine blk_drew ?_ | refine blk_alloc ?_ _)); exact BK178.out) hb); have n1_ := Aside0.mk (blk_below (g := gb179) (o := .cells #[.string x180000_1, .int .i64 x180001_1, .int .i64 x180002_1] 44 (0, 0)) (by (with_reducible repeat (first | refine blk_drewN ?_ _ | refine blk_drew ?_ | refine blk_alloc ?_ _)); refine blk_far ?_ NB179_178.out _; (with_reducible repeat (first | refine blk_drewN ?_ _ | refine blk_drew ?_ | refine blk_alloc ?_ _)); exact BK179.out) hb); have n2_ := Aside0.mk (below_step (by repeat (first | (with_reducible first | exact HB.out | apply below_alloc | apply pw_below_drewN | apply below_drew1 | refine below_set ?_ GE178.out | refine below_set ?_ GE179.out) | exact HB.out)) hb); clear BK178; clear BK179; clear HB; have BK178 := n0_; have BK179 := n1_; have HB := n2_; clear n0_ n1_ n2_; (try clear hb); (try clear hb2); (try clear hk); (try clear hi); have hcz24_0 : w23.cell? ⟨gb179, 0, none⟩ = some (.string x180000_1) := (blk_cell BK179.out 0).trans rfl; have hcz24_1 : w23.cell? ⟨gb179, 1, none⟩ = some (.int .i64 x180001_1) := (blk_cell BK179.out 1).trans rfl; have hcz24_2 : w23.cell? ⟨gb179, 2, none⟩ = some (.int .i64 x180002_1) := (blk_cell BK179.out 2).trans rfl; have hfz24_0 := blk_frozen BK179.out 0; have hfz24_1 := blk_frozen BK179.out 1; have hfz24_2 := blk_frozen BK179.out 2))
                  refine bodyPost_ret (results_ct rfl _ _ gb179 44 #[.string t183, .int .i64 t184, .int .i64 t185] (0, 0) _ rfl (by (with_reducible repeat (first | refine blk_drewN ?_ _ | refine blk_drew ?_ | refine blk_alloc ?_ _)); refine blk_put (cs := #[.string t183, .int .i64 t184, .int .i64 x180002_1]) ?_ 2 _ rfl; (with_reducible repeat (first | refine blk_drewN ?_ _ | refine blk_drew ?_ | refine blk_alloc ?_ _)); refine blk_put (cs := #[.string t183, .int .i64 x180001_1, .int .i64 x180002_1]) ?_ 1 _ rfl; (with_reducible repeat (first | refine blk_drewN ?_ _ | refine blk_drew ?_ | refine blk_alloc ?_ _)); refine blk_put (cs := #[.string x180000_1, .int .i64 x180001_1, .int .i64 x180002_1]) ?_ 0 _ rfl; (with_reducible repeat (first | refine blk_drewN ?_ _ | refine blk_drew ?_ | refine blk_alloc ?_ _)); exact BK179.out) Try.underlying44 rfl (by kernel_rfl)) rfl ?_
                  exact ⟨by first | rfl | (simp [errW_none, errW_some] <;> rfl) | (simp [*, errW_none, errW_some] <;> rfl), by repeat (first | (with_reducible first | exact HB.out | apply below_alloc | apply pw_below_drewN | apply below_drew1 | refine below_set ?_ GE178.out | refine below_set ?_ GE179.out) | exact HB.out)⟩
                · rw [if_neg c19] at H
                  have c19b0 : decide (a1 ≤ x6_1) = false := decide_eq_false c19
                  clear c19
                  have H' := Aside0.mk H
                  clear H
                  have hnb25 := NB178_179.out
                  have hnc25 := NB179_178.out
                  have hcz26_0 : wr.cell? ⟨gb178, 0, none⟩ = some (.string x179000_1) := (blk_cell BK178.out 0).trans rfl
                  have hcz26_1 : wr.cell? ⟨gb178, 1, none⟩ = some (.int .i64 a0_1) := (blk_cell BK178.out 1).trans rfl
                  have hcz26_2 : wr.cell? ⟨gb178, 2, none⟩ = some (.int .i64 a0_2) := (blk_cell BK178.out 2).trans rfl
                  have hfz26_0 := blk_frozen BK178.out 0
                  have hfz26_1 := blk_frozen BK178.out 1
                  have hfz26_2 := blk_frozen BK178.out 2
                  have p13 : 0 ≤ (0 : Int) := (by omega)
                  have q13 : 0 < x179000_1.size := (by have : (0 : Int) < (x179000_1.size : Int) := of_decide_eq_true (by first | (with_reducible assumption) | assumption); omega)
                  have hx13 : ∀ h : 0 < x179000_1.size, ((x179000_1[0]'h).toNat : Int) = bt x179000_1 0 := bt_at x179000_1 0
                  clear p13
                  have qi13 : (0 < (x179000_1.size : Int)) = True := eq_true (of_decide_eq_true (by first | (with_reducible assumption) | assumption))
                  replace q13 := eq_true q13
                  go_wp2
                  go_roundg k1
                  case measure => have := HK1.out; omega
                  case rel => exact ⟨(wrap64 (x6_1 + 1)), (x179000_1.extract 1 x179000_1.size), (x180000_1), (x180001_1), (x180002_1), (by first | rfl | (simp; done) | (simp [*]; done)), H', ⟨by have := HK1.out; omega⟩, ⟨by (with_reducible repeat (first | refine blk_drewN ?_ _ | refine blk_drew ?_ | refine blk_alloc ?_ _)); refine blk_put (cs := #[.string x179000_1, .int .i64 a0_1, .int .i64 a0_2]) ?_ 0 _ rfl; (with_reducible repeat (first | refine blk_drewN ?_ _ | refine blk_drew ?_ | refine blk_alloc ?_ _)); exact BK178.out⟩, ⟨by (with_reducible repeat (first | refine blk_drewN ?_ _ | refine blk_drew ?_ | refine blk_alloc ?_ _)); refine blk_far ?_ NB179_178.out _; (with_reducible repeat (first | refine blk_drewN ?_ _ | refine blk_drew ?_ | refine blk_alloc ?_ _)); exact BK179.out⟩, ⟨by repeat (first | (with_reducible first | exact HB.out | apply below_alloc | apply pw_below_drewN | apply below_drew1 | refine below_set ?_ GE178.out | refine below_set ?_ GE179.out) | exact HB.out)⟩⟩
            · rw [if_neg c14] at H
              exact absurd H (by simp)
          · rw [if_neg c12] at H
            exact absurd H (by simp)
      · rw [if_neg c5] at H
        have c5b0 : (a0_2 == 0) = false := beq_eq_false_iff_ne.mpr c5
        have c5b1 : (a0_2 != 0) = true := bne_iff_ne.mpr c5
        simp only [Option.some.injEq, Prod.mk.injEq] at H
        obtain ⟨rfl, rfl, rfl, rfl⟩ := H
        have hnb27 := NB178_179.out
        have hnc27 := NB179_178.out
        have hcz28_0 : wr.cell? ⟨gb178, 0, none⟩ = some (.string x179000_1) := (blk_cell BK178.out 0).trans rfl
        have hcz28_1 : wr.cell? ⟨gb178, 1, none⟩ = some (.int .i64 a0_1) := (blk_cell BK178.out 1).trans rfl
        have hcz28_2 : wr.cell? ⟨gb178, 2, none⟩ = some (.int .i64 a0_2) := (blk_cell BK178.out 2).trans rfl
        have hfz28_0 := blk_frozen BK178.out 0
        have hfz28_1 := blk_frozen BK178.out 1
        have hfz28_2 := blk_frozen BK178.out 2
        have hcz29_0 : wr.cell? ⟨gb179, 0, none⟩ = some (.string x180000_1) := (blk_cell BK179.out 0).trans rfl
        have hcz29_1 : wr.cell? ⟨gb179, 1, none⟩ = some (.int .i64 x180001_1) := (blk_cell BK179.out 1).trans rfl
        have hcz29_2 : wr.cell? ⟨gb179, 2, none⟩ = some (.int .i64 x180002_1) := (blk_cell BK179.out 2).trans rfl
        have hfz29_0 := blk_frozen BK179.out 0
        have hfz29_1 := blk_frozen BK179.out 1
        have hfz29_2 := blk_frozen BK179.out 2
        go_wp2
        refine bodyPost_ret (results_ct rfl _ _ gb179 44 #[.string x179000_1, .int .i64 a0_1, .int .i64 a0_2] (0, 0) _ rfl (by (with_reducible repeat (first | refine blk_drewN ?_ _ | refine blk_drew ?_ | refine blk_alloc ?_ _)); refine blk_put (cs := #[.string x179000_1, .int .i64 a0_1, .int .i64 x180002_1]) ?_ 2 _ rfl; (with_reducible repeat (first | refine blk_drewN ?_ _ | refine blk_drew ?_ | refine blk_alloc ?_ _)); refine blk_put (cs := #[.string x179000_1, .int .i64 x180001_1, .int .i64 x180002_1]) ?_ 1 _ rfl; (with_reducible repeat (first | refine blk_drewN ?_ _ | refine blk_drew ?_ | refine blk_alloc ?_ _)); refine blk_put (cs := #[.string x180000_1, .int .i64 x180001_1, .int .i64 x180002_1]) ?_ 0 _ rfl; (with_reducible repeat (first | refine blk_drewN ?_ _ | refine blk_drew ?_ | refine blk_alloc ?_ _)); exact BK179.out) Try.underlying44 rfl (by kernel_rfl)) rfl ?_
        exact ⟨by first | rfl | (simp [errW_none, errW_some] <;> rfl) | (simp [*, errW_none, errW_some] <;> rfl), by repeat (first | (with_reducible first | exact HB.out | apply below_alloc | apply pw_below_drewN | apply below_drew1 | refine below_set ?_ GE178.out | refine below_set ?_ GE179.out) | exact HB.out)⟩

/-! ### sackbutref02_Take: function 51 -/
mutual
def sackbutref02_Take.j0 : Nat → Int → Bool → ByteArray → Int → Int → Option (ByteArray × Int × Int × Int)
  | 0, _, _, _, _, _ => none
  | k + 1, x1, x17, x187000, x187001, x187002 => if x17 = true then ((sackbutref01_Give.f x187000 x187001 x187002 1).bind fun bt188 => (some (bt188.1, bt188.2.1, bt188.2.2, 0))) else ((sackbutref01_Run.f k x187000 x187001 x187002 24).bind fun bt191 => (if bt191.2.2.2 < 24 then ((sackbutref01_Take.f k bt191.1 bt191.2.1 bt191.2.2.1 x1).bind fun bt195 => ((sackbutref01_Power.f k x1).bind fun t200 => (sackbutref02_Take.j1 k (wrap64 ((wrap64 (bt191.2.2.2 * t200)) + bt195.2.2.2)) bt195.1 bt195.2.1 bt195.2.2.1))) else ((sackbutref01_Take.f k bt191.1 bt191.2.1 bt191.2.2.1 34).bind fun bt201 => ((sackbutref01_Power.f k x1).bind fun t206 => (if t206 = 0 then (none) else (if (wrap64 (Int.tdiv bt201.2.2.2 t206)) < 24 then ((sackbutref01_Give.f bt201.1 bt201.2.1 bt201.2.2.1 2).bind fun bt207 => (sackbutref02_Take.j1 k bt201.2.2.2 bt207.1 bt207.2.1 bt207.2.2)) else (sackbutref02_Take.j1 k bt201.2.2.2 bt201.1 bt201.2.1 bt201.2.2.1)))))))
def sackbutref02_Take.j1 : Nat → Int → ByteArray → Int → Int → Option (ByteArray × Int × Int × Int)
  | 0, _, _, _, _ => none
  | k + 1, x7, x187000, x187001, x187002 => if x187002 = 0 then (if (Int.tmod x7 2) = 1 then (some (x187000, x187001, x187002, wrap64 (Int.tdiv (wrap64 (-(wrap64 (x7 + 1)))) 2))) else (some (x187000, x187001, x187002, wrap64 (Int.tdiv x7 2)))) else (some (x187000, x187001, x187002, 0))
end
def sackbutref02_Take.f (k : Nat) (a0_0 : ByteArray) (a0_1 : Int) (a0_2 : Int) (a1 : Int) : Option (ByteArray × Int × Int × Int) := if a1 < 0 then (sackbutref02_Take.j0 k a1 true a0_0 a0_1 a0_2) else (sackbutref02_Take.j0 k a1 (decide (a1 > 24)) a0_0 a0_1 a0_2)
set_option maxHeartbeats 8000000 in
set_option maxRecDepth 100000 in
theorem sackbutref02_Take.calls (k : Nat) (a0_0 : ByteArray) (a0_1 : Int) (a0_2 : Int) (a1 : Int) (r1 : ByteArray) (r2 : Int) (r3 : Int) (r4 : Int) (w : World) (h : sackbutref02_Take.f k a0_0 a0_1 a0_2 a1 = some (r1, r2, r3, r4)) :
    Calls Try.prog 51 #[.agg #[.string a0_0, .int .i64 a0_1, .int .i64 a0_2], .int .i64 a1] w fun e w' => e = .returned (.tuple #[.agg #[.string r1, .int .i64 r2, .int .i64 r3], .int .i64 r4]) ∧ Below w.heap.size w w' := by
  have hu44 := Try.underlying44
  have HB := Aside0.mk (Below.refl w.heap.size w)
  have H : (if a1 < 0 then (sackbutref02_Take.j0 k a1 true a0_0 a0_1 a0_2) else (sackbutref02_Take.j0 k a1 (decide (a1 > 24)) a0_0 a0_1 a0_2)) = some (r1, r2, r3, r4) := h
  clear h
  have HC3 := Aside0.mk H
  clear H
  go_enter Try.func51, Try.ntmps51
  go_upto_region 1 with (first | ((with_reducible refine gate_dst (N := 2) rfl ?_); refine box_event ?hg (N := 2) ?hd (cs := #[.string a0_0, .int .i64 a0_1, .int .i64 a0_2]) (t := 44) ?hr ?_; (case hd => rfl); (case hg => rfl); (case hr => first | (go_simp; done) | (go_simp; rfl)); intro gb186 hg w4 hbox hb; have n0_ := Aside0.mk (below_step (by repeat (first | (with_reducible first | exact HB.out | apply below_alloc | apply pw_below_drewN | apply below_drew1) | exact HB.out)) hb); have n1_ := Aside0.mk (hbox); have n2_ := Aside0.mk ((by rw [hg]; exact (below_size (by repeat (first | (with_reducible first | exact HB.out | apply below_alloc | apply pw_below_drewN | apply below_drew1) | exact HB.out))) : w.heap.size ≤ gb186)); have n3_ := Aside0.mk ((by rw [hg]; exact (below_size (by repeat (first | (with_reducible first | exact HB.out | apply below_alloc | apply pw_below_drewN | apply below_drew1) | exact HB.out))) : w.heap.size ≤ gb186)); clear HB; have HB := n0_; have BK186 := n1_; have GW186 := n2_; have GE186 := n3_; clear n0_ n1_ n2_ n3_; clear hb hbox hg) | ((with_reducible refine gate_dst (N := 4) rfl ?_); refine box_event ?hg (N := 4) ?hd (cs := #[.string (⟨#[]⟩ : ByteArray), .int .i64 0, .int .i64 0]) (t := 44) ?hr ?_; (case hd => rfl); (case hg => rfl); (case hr => first | (go_simp; done) | (go_simp; rfl)); intro gb187 hg w5 hbox hb; have n0_ := Aside0.mk (blk_below (g := gb186) (o := .cells #[.string a0_0, .int .i64 a0_1, .int .i64 a0_2] 44 (0, 0)) (by (with_reducible repeat (first | refine blk_drewN ?_ _ | refine blk_drew ?_ | refine blk_alloc ?_ _)); exact BK186.out) hb); have n1_ := Aside0.mk (below_step (by repeat (first | (with_reducible first | exact HB.out | apply below_alloc | apply pw_below_drewN | apply below_drew1 | refine below_set ?_ GE186.out) | exact HB.out)) hb); have n2_ := Aside0.mk (hbox); have n3_ := Aside0.mk ((by rw [hg]; exact (below_size (by repeat (first | (with_reducible first | exact HB.out | apply below_alloc | apply pw_below_drewN | apply below_drew1 | refine below_set ?_ GE186.out) | exact HB.out))) : w.heap.size ≤ gb187)); have n4_ := Aside0.mk ((by rw [hg]; exact (below_size (by repeat (first | (with_reducible first | exact HB.out | apply below_alloc | apply pw_below_drewN | apply below_drew1 | refine below_set ?_ GE186.out) | exact HB.out))) : w.heap.size ≤ gb187)); have n5_ := Aside0.mk ((by rw [hg]; exact Nat.ne_of_lt (blk_lt (g := gb186) (o := .cells #[.string a0_0, .int .i64 a0_1, .int .i64 a0_2] 44 (0, 0)) (by (with_reducible repeat (first | refine blk_drewN ?_ _ | refine blk_drew ?_ | refine blk_alloc ?_ _)); exact BK186.out)) : gb186 ≠ gb187)); have n6_ := Aside0.mk ((by rw [hg]; exact Nat.ne_of_gt (blk_lt (g := gb186) (o := .cells #[.string a0_0, .int .i64 a0_1, .int .i64 a0_2] 44 (0, 0)) (by (with_reducible repeat (first | refine blk_drewN ?_ _ | refine blk_drew ?_ | refine blk_alloc ?_ _)); exact BK186.out)) : gb187 ≠ gb186)); clear BK186; clear HB; have BK186 := n0_; have HB := n1_; have BK187 := n2_; have GW187 := n3_; have GE187 := n4_; have NB186_187 := n5_; have NB187_186 := n6_; clear n0_ n1_ n2_ n3_ n4_ n5_ n6_; clear hb hbox hg))
  (try simp only [Act.put, List.setIfInBounds_toArray, List.set_cons_zero, List.set_cons_succ])
  go_cut [17] (fun v17 wc => ∃ (kq : Nat) (x17_2 : Bool), v17 = .bool x17_2 ∧ Aside0 (sackbutref02_Take.j0 kq a1 x17_2 a0_0 a0_1 a0_2 = some (r1, r2, r3, r4)) ∧ Aside0 (kq ≤ k) ∧ Aside0 (wc.heap[gb186]? = some (.cells #[.string a0_0, .int .i64 a0_1, .int .i64 a0_2] 44 (0, 0))) ∧ Aside0 (wc.heap[gb187]? = some (.cells #[.string (⟨#[]⟩ : ByteArray), .int .i64 0, .int .i64 0] 44 (0, 0))) ∧ Aside0 (Below w.heap.size w wc))
  case first =>
    have H := HC3.out
    clear HC3
    by_cases c6 : a1 < 0
    · rw [if_pos c6] at H
      have c6b0 : decide (a1 < 0) = true := decide_eq_true c6
      clear c6
      (first | rw [c6b0] | (simp only [i64_w, i32_w]; rw [c6b0]) | skip)
      have H' := Aside0.mk H
      clear H
      go_wp2
      go_meet
      case rel => exact ⟨_, (true), (by first | rfl | (simp; done) | (simp [*]; done)), H', ⟨by first | omega | exact Nat.le_refl _⟩, ⟨by (with_reducible repeat (first | refine blk_drewN ?_ _ | refine blk_drew ?_ | refine blk_alloc ?_ _)); exact BK186.out⟩, ⟨by (with_reducible repeat (first | refine blk_drewN ?_ _ | refine blk_drew ?_ | refine blk_alloc ?_ _)); exact BK187.out⟩, ⟨by repeat (first | (with_reducible first | exact HB.out | apply below_alloc | apply pw_below_drewN | apply below_drew1 | refine below_set ?_ GE186.out | refine below_set ?_ GE187.out) | exact HB.out)⟩⟩
    · rw [if_neg c6] at H
      have c6b0 : decide (a1 < 0) = false := decide_eq_false c6
      clear c6
      (first | rw [c6b0] | (simp only [i64_w, i32_w]; rw [c6b0]) | skip)
      have H' := Aside0.mk H
      clear H
      go_wp2
      go_meet
      case rel => exact ⟨_, (decide (a1 > 24)), (by first | rfl | (simp; done) | (simp [*]; done)), H', ⟨by first | omega | exact Nat.le_refl _⟩, ⟨by (with_reducible repeat (first | refine blk_drewN ?_ _ | refine blk_drew ?_ | refine blk_alloc ?_ _)); exact BK186.out⟩, ⟨by (with_reducible repeat (first | refine blk_drewN ?_ _ | refine blk_drew ?_ | refine blk_alloc ?_ _)); exact BK187.out⟩, ⟨by repeat (first | (with_reducible first | exact HB.out | apply below_alloc | apply pw_below_drewN | apply below_drew1 | refine below_set ?_ GE186.out | refine below_set ?_ GE187.out) | exact HB.out)⟩⟩
  case rest =>
    clear HC3
    try clear p2
    try clear c5
    try clear c6
    try clear c6b0
    obtain ⟨kq, x17_2, rfl, HA, HJ2, BK186, BK187, HB⟩ := hcut
    cases kq with
    | zero => exact absurd HA.out (by simp [sackbutref02_Take.j0])
    | succ kj2 =>
      have H := HA.out
      clear HA
      simp only [sackbutref02_Take.j0] at H
      by_cases c7 : x17_2 = true
      · subst c7
        have H1 : ((sackbutref01_Give.f a0_0 a0_1 a0_2 1).bind fun bt188 => (some (bt188.1, bt188.2.1, bt188.2.2, 0))) = some (r1, r2, r3, r4) := by rw [if_pos rfl] at H; exact H
        clear H
        have H := H1
        clear H1
        replace H := Option.bind_eq_some_iff.mp H
        obtain ⟨⟨t188, t189, t190⟩, A80, H⟩ := H
        replace H : (some (t188, t189, t190, 0)) = some (r1, r2, r3, r4) := H
        have A8 := Aside0.mk A80
        clear A80
        simp only [Option.some.injEq, Prod.mk.injEq] at H
        obtain ⟨rfl, rfl, rfl, rfl⟩ := H
        have hnb9 := NB186_187.out
        have hnc9 := NB187_186.out
        have hcz10_0 : wc.cell? ⟨gb186, 0, none⟩ = some (.string a0_0) := (blk_cell BK186.out 0).trans rfl
        have hcz10_1 : wc.cell? ⟨gb186, 1, none⟩ = some (.int .i64 a0_1) := (blk_cell BK186.out 1).trans rfl
        have hcz10_2 : wc.cell? ⟨gb186, 2, none⟩ = some (.int .i64 a0_2) := (blk_cell BK186.out 2).trans rfl
        have hfz10_0 := blk_frozen BK186.out 0
        have hfz10_1 := blk_frozen BK186.out 1
        have hfz10_2 := blk_frozen BK186.out 2
        go_wp2_with (first | ((with_reducible refine gate_callee (f := 49) rfl ?_); refine goesL_ (some 19) rfl rfl Try.func49 (by kernel_rfl) rfl #[.agg #[.string a0_0, .int .i64 a0_1, .int .i64 a0_2], .int .i64 1] rfl (by (try simp only [List.map_toArray, List.map_cons, List.map_nil]); first | done | rfl | (simp only [List.length_drop, List.length_take]; rfl)) ?_; (with_reducible refine (sackbutref01_Give.calls a0_0 a0_1 a0_2 1 t188 t189 t190 _ A8.out).mono ?_); rintro e w11 ⟨rfl, hb⟩; refine ⟨_, rfl, ?_⟩; have n0_ := Aside0.mk (blk_below (g := gb186) (o := .cells #[.string a0_0, .int .i64 a0_1, .int .i64 a0_2] 44 (0, 0)) (by (with_reducible repeat (first | refine blk_drewN ?_ _ | refine blk_drew ?_ | refine blk_alloc ?_ _)); exact BK186.out) hb); have n1_ := Aside0.mk (blk_below (g := gb187) (o := .cells #[.string (⟨#[]⟩ : ByteArray), .int .i64 0, .int .i64 0] 44 (0, 0)) (by (with_reducible repeat (first | refine blk_drewN ?_ _ | refine blk_drew ?_ | refine blk_alloc ?_ _)); exact BK187.out) hb); have n2_ := Aside0.mk (below_step (by repeat (first | (with_reducible first | exact HB.out | apply below_alloc | apply pw_below_drewN | apply below_drew1 | refine below_set ?_ GE186.out | refine below_set ?_ GE187.out) | exact HB.out)) hb); clear BK186; clear BK187; clear HB; have BK186 := n0_; have BK187 := n1_; have HB := n2_; clear n0_ n1_ n2_; (try clear hb); (try clear hb2); (try clear hk); (try clear hi); have hcz12_0 : w11.cell? ⟨gb187, 0, none⟩ = some (.string (⟨#[]⟩ : ByteArray)) := (blk_cell BK187.out 0).trans rfl; have hcz12_1 : w11.cell? ⟨gb187, 1, none⟩ = some (.int .i64 0) := (blk_cell BK187.out 1).trans rfl; have hcz12_2 : w11.cell? ⟨gb187, 2, none⟩ = some (.int .i64 0) := (blk_cell BK187.out 2).trans rfl; have hfz12_0 := blk_frozen BK187.out 0; have hfz12_1 := blk_frozen BK187.out 1; have hfz12_2 := blk_frozen BK187.out 2))
        refine bodyPost_ret (results_ct rfl _ _ gb187 44 #[.string t188, .int .i64 t189, .int .i64 t190] (0, 0) _ rfl (by (with_reducible repeat (first | refine blk_drewN ?_ _ | refine blk_drew ?_ | refine blk_alloc ?_ _)); refine blk_put (cs := #[.string t188, .int .i64 t189, .int .i64 0]) ?_ 2 _ rfl; (with_reducible repeat (first | refine blk_drewN ?_ _ | refine blk_drew ?_ | refine blk_alloc ?_ _)); refine blk_put (cs := #[.string t188, .int .i64 0, .int .i64 0]) ?_ 1 _ rfl; (with_reducible repeat (first | refine blk_drewN ?_ _ | refine blk_drew ?_ | refine blk_alloc ?_ _)); refine blk_put (cs := #[.string (⟨#[]⟩ : ByteArray), .int .i64 0, .int .i64 0]) ?_ 0 _ rfl; (with_reducible repeat (first | refine blk_drewN ?_ _ | refine blk_drew ?_ | refine blk_alloc ?_ _)); exact BK187.out) Try.underlying44 rfl (by kernel_rfl)) rfl ?_
        exact ⟨by first | rfl | (simp [errW_none, errW_some] <;> rfl) | (simp [*, errW_none, errW_some] <;> rfl), by repeat (first | (with_reducible first | exact HB.out | apply below_alloc | apply pw_below_drewN | apply below_drew1 | refine below_set ?_ GE186.out | refine below_set ?_ GE187.out) | exact HB.out)⟩
      · replace c7 := Bool.eq_false_iff.mpr c7
        subst c7
        have H1 : ((sackbutref01_Run.f kj2 a0_0 a0_1 a0_2 24).bind fun bt191 => (if bt191.2.2.2 < 24 then ((sackbutref01_Take.f kj2 bt191.1 bt191.2.1 bt191.2.2.1 a1).bind fun bt195 => ((sackbutref01_Power.f kj2 a1).bind fun t200 => (sackbutref02_Take.j1 kj2 (wrap64 ((wrap64 (bt191.2.2.2 * t200)) + bt195.2.2.2)) bt195.1 bt195.2.1 bt195.2.2.1))) else ((sackbutref01_Take.f kj2 bt191.1 bt191.2.1 bt191.2.2.1 34).bind fun bt201 => ((sackbutref01_Power.f kj2 a1).bind fun t206 => (if t206 = 0 then (none) else (if (wrap64 (Int.tdiv bt201.2.2.2 t206)) < 24 then ((sackbutref01_Give.f bt201.1 bt201.2.1 bt201.2.2.1 2).bind fun bt207 => (sackbutref02_Take.j1 kj2 bt201.2.2.2 bt207.1 bt207.2.1 bt207.2.2)) else (sackbutref02_Take.j1 kj2 bt201.2.2.2 bt201.1 bt201.2.1 bt201.2.2.1))))))) = some (r1, r2, r3, r4) := by rw [if_neg (show ¬ (false = true) by decide)] at H; exact H
        clear H
        have H := H1
        clear H1
        replace H := Option.bind_eq_some_iff.mp H
        obtain ⟨⟨t191, t192, t193, t194⟩, A130, H⟩ := H
        replace H : (if t194 < 24 then ((sackbutref01_Take.f kj2 t191 t192 t193 a1).bind fun bt195 => ((sackbutref01_Power.f kj2 a1).bind fun t200 => (sackbutref02_Take.j1 kj2 (wrap64 ((wrap64 (t194 * t200)) + bt195.2.2.2)) bt195.1 bt195.2.1 bt195.2.2.1))) else ((sackbutref01_Take.f kj2 t191 t192 t193 34).bind fun bt201 => ((sackbutref01_Power.f kj2 a1).bind fun t206 => (if t206 = 0 then (none) else (if (wrap64 (Int.tdiv bt201.2.2.2 t206)) < 24 then ((sackbutref01_Give.f bt201.1 bt201.2.1 bt201.2.2.1 2).bind fun bt207 => (sackbutref02_Take.j1 kj2 bt201.2.2.2 bt207.1 bt207.2.1 bt207.2.2)) else (sackbutref02_Take.j1 kj2 bt201.2.2.2 bt201.1 bt201.2.1 bt201.2.2.1)))))) = some (r1, r2, r3, r4) := H
        have A13 := Aside0.mk A130
        clear A130
        have HC14 := Aside0.mk H
        clear H
        have hnb15 := NB186_187.out
        have hnc15 := NB187_186.out
        have hcz16_0 : wc.cell? ⟨gb186, 0, none⟩ = some (.string a0_0) := (blk_cell BK186.out 0).trans rfl
        have hcz16_1 : wc.cell? ⟨gb186, 1, none⟩ = some (.int .i64 a0_1) := (blk_cell BK186.out 1).trans rfl
        have hcz16_2 : wc.cell? ⟨gb186, 2, none⟩ = some (.int .i64 a0_2) := (blk_cell BK186.out 2).trans rfl
        have hfz16_0 := blk_frozen BK186.out 0
        have hfz16_1 := blk_frozen BK186.out 1
        have hfz16_2 := blk_frozen BK186.out 2
        go_upto_if 26 with (first | ((with_reducible refine gate_callee (f := 68) rfl ?_); refine goesL_ (some 22) rfl rfl Try.func68 (by kernel_rfl) rfl #[.agg #[.string a0_0, .int .i64 a0_1, .int .i64 a0_2], .int .i64 24] rfl (by (try simp only [List.map_toArray, List.map_cons, List.map_nil]); first | done | rfl | (simp only [List.length_drop, List.length_take]; rfl)) ?_; (with_reducible refine (sackbutref01_Run.calls kj2 a0_0 a0_1 a0_2 24 t191 t192 t193 t194 _ A13.out).mono ?_); rintro e w17 ⟨rfl, hb⟩; refine ⟨_, rfl, ?_⟩; have n0_ := Aside0.mk (blk_below (g := gb186) (o := .cells #[.string a0_0, .int .i64 a0_1, .int .i64 a0_2] 44 (0, 0)) (by (with_reducible repeat (first | refine blk_drewN ?_ _ | refine blk_drew ?_ | refine blk_alloc ?_ _)); exact BK186.out) hb); have n1_ := Aside0.mk (blk_below (g := gb187) (o := .cells #[.string (⟨#[]⟩ : ByteArray), .int .i64 0, .int .i64 0] 44 (0, 0)) (by (with_reducible repeat (first | refine blk_drewN ?_ _ | refine blk_drew ?_ | refine blk_alloc ?_ _)); exact BK187.out) hb); have n2_ := Aside0.mk (below_step (by repeat (first | (with_reducible first | exact HB.out | apply below_alloc | apply pw_below_drewN | apply below_drew1 | refine below_set ?_ GE186.out | refine below_set ?_ GE187.out) | exact HB.out)) hb); clear BK186; clear BK187; clear HB; have BK186 := n0_; have BK187 := n1_; have HB := n2_; clear n0_ n1_ n2_; (try clear hb); (try clear hb2); (try clear hk); (try clear hi); have hcz18_0 : w17.cell? ⟨gb186, 0, none⟩ = some (.string a0_0) := (blk_cell BK186.out 0).trans rfl; have hcz18_1 : w17.cell? ⟨gb186, 1, none⟩ = some (.int .i64 a0_1) := (blk_cell BK186.out 1).trans rfl; have hcz18_2 : w17.cell? ⟨gb186, 2, none⟩ = some (.int .i64 a0_2) := (blk_cell BK186.out 2).trans rfl; have hfz18_0 := blk_frozen BK186.out 0; have hfz18_1 := blk_frozen BK186.out 1; have hfz18_2 := blk_frozen BK186.out 2))
        (try simp only [Act.put, List.setIfInBounds_toArray, List.set_cons_zero, List.set_cons_succ])
        go_cut [7] (fun v7 wc => ∃ (kq : Nat) (x7_13 : Int) (x187000_13 : ByteArray) (x187001_13 : Int) (x187002_13 : Int), v7 = .int .i64 x7_13 ∧ Aside0 (sackbutref02_Take.j1 kq x7_13 x187000_13 x187001_13 x187002_13 = some (r1, r2, r3, r4)) ∧ Aside0 (kq ≤ kj2) ∧ Aside0 (wc.heap[gb186]? = some (.cells #[.string x187000_13, .int .i64 x187001_13, .int .i64 x187002_13] 44 (0, 0))) ∧ Aside0 (wc.heap[gb187]? = some (.cells #[.string (⟨#[]⟩ : ByteArray), .int .i64 0, .int .i64 0] 44 (0, 0))) ∧ Aside0 (Below w.heap.size w wc))
        case first =>
          have H := HC14.out
          clear HC14
          by_cases c19 : t194 < 24
          · rw [if_pos c19] at H
            have c19b0 : decide (t194 < 24) = true := decide_eq_true c19
            clear c19
            (first | rw [c19b0] | (simp only [i64_w, i32_w]; rw [c19b0]) | skip)
            replace H := Option.bind_eq_some_iff.mp H
            obtain ⟨⟨t195, t196, t197, t198⟩, A200, H⟩ := H
            replace H : ((sackbutref01_Power.f kj2 a1).bind fun t200 => (sackbutref02_Take.j1 kj2 (wrap64 ((wrap64 (t194 * t200)) + t198)) t195 t196 t197)) = some (r1, r2, r3, r4) := H
            have A20 := Aside0.mk A200
            clear A200
            replace H := Option.bind_eq_some_iff.mp H
            obtain ⟨t200, A210, H⟩ := H
            replace H : (sackbutref02_Take.j1 kj2 (wrap64 ((wrap64 (t194 * t200)) + t198)) t195 t196 t197) = some (r1, r2, r3, r4) := H
            have A21 := Aside0.mk A210
            clear A210
            have H' := Aside0.mk H
            clear H
            have hnb22 := NB186_187.out
            have hnc22 := NB187_186.out
            have hcz23_0 : w17.cell? ⟨gb186, 0, none⟩ = some (.string a0_0) := (blk_cell BK186.out 0).trans rfl
            have hcz23_1 : w17.cell? ⟨gb186, 1, none⟩ = some (.int .i64 a0_1) := (blk_cell BK186.out 1).trans rfl
            have hcz23_2 : w17.cell? ⟨gb186, 2, none⟩ = some (.int .i64 a0_2) := (blk_cell BK186.out 2).trans rfl
            have hfz23_0 := blk_frozen BK186.out 0
            have hfz23_1 := blk_frozen BK186.out 1
            have hfz23_2 := blk_frozen BK186.out 2
            go_wp2_with (first | ((with_reducible refine gate_callee (f := 50) rfl ?_); refine goesL_ (some 30) rfl rfl Try.func50 (by kernel_rfl) rfl #[.agg #[.string t191, .int .i64 t192, .int .i64 t193], .int .i64 a1] rfl (by (try simp only [List.map_toArray, List.map_cons, List.map_nil]); first | done | rfl | (simp only [List.length_drop, List.length_take]; rfl)) ?_; (with_reducible refine (sackbutref01_Take.calls kj2 t191 t192 t193 a1 t195 t196 t197 t198 _ A20.out).mono ?_); rintro e w24 ⟨rfl, hb⟩; refine ⟨_, rfl, ?_⟩; have n0_ := Aside0.mk (blk_below (g := gb186) (o := .cells #[.string t191, .int .i64 t192, .int .i64 t193] 44 (0, 0)) (by (with_reducible repeat (first | refine blk_drewN ?_ _ | refine blk_drew ?_ | refine blk_alloc ?_ _)); refine blk_put (cs := #[.string t191, .int .i64 t192, .int .i64 a0_2]) ?_ 2 _ rfl; (with_reducible repeat (first | refine blk_drewN ?_ _ | refine blk_drew ?_ | refine blk_alloc ?_ _)); refine blk_put (cs := #[.string t191, .int .i64 a0_1, .int .i64 a0_2]) ?_ 1 _ rfl; (with_reducible repeat (first | refine blk_drewN ?_ _ | refine blk_drew ?_ | refine blk_alloc ?_ _)); refine blk_put (cs := #[.string a0_0, .int .i64 a0_1, .int .i64 a0_2]) ?_ 0 _ rfl; (with_reducible repeat (first | refine blk_drewN ?_ _ | refine blk_drew ?_ | refine blk_alloc ?_ _)); exact BK186.out) hb); have n1_ := Aside0.mk (blk_below (g := gb187) (o := .cells #[.string (⟨#[]⟩ : ByteArray), .int .i64 0, .int .i64 0] 44 (0, 0)) (by (with_reducible repeat (first | refine blk_drewN ?_ _ | refine blk_drew ?_ | refine blk_alloc ?_ _)); refine blk_far ?_ NB187_186.out _; (with_reducible repeat (first | refine blk_drewN ?_ _ | refine blk_drew ?_ | refine blk_alloc ?_ _)); refine blk_far ?_ NB187_186.out _; (with_reducible repeat (first | refine blk_drewN ?_ _ | refine blk_drew ?_ | refine blk_alloc ?_ _)); refine blk_far ?_ NB187_186.out _; (with_reducible repeat (first | refine blk_drewN ?_ _ | refine blk_drew ?_ | refine blk_alloc ?_ _)); exact BK187.out) hb); have n2_ := Aside0.mk (below_step (by repeat (first | (with_reducible first | exact HB.out | apply below_alloc | apply pw_below_drewN | apply below_drew1 | refine below_set ?_ GE186.out | refine below_set ?_ GE187.out) | exact HB.out)) hb); clear BK186; clear BK187; clear HB; have BK186 := n0_; have BK187 := n1_; have HB := n2_; clear n0_ n1_ n2_; (try clear hb); (try clear hb2); (try clear hk); (try clear hi)) | ((with_reducible refine gate_dst (N := 8) rfl ?_); refine box_event ?hg (N := 8) ?hd (cs := #[.string (⟨#[]⟩ : ByteArray), .int .i64 0, .int .i64 0]) (t := 44) ?hr ?_; (case hd => rfl); (case hg => rfl); (case hr => first | (go_simp; done) | (go_simp; rfl)); intro gb199 hg w25 hbox hb; have n0_ := Aside0.mk (blk_below (g := gb186) (o := .cells #[.string t191, .int .i64 t192, .int .i64 t193] 44 (0, 0)) (by (with_reducible repeat (first | refine blk_drewN ?_ _ | refine blk_drew ?_ | refine blk_alloc ?_ _)); exact BK186.out) hb); have n1_ := Aside0.mk (blk_below (g := gb187) (o := .cells #[.string (⟨#[]⟩ : ByteArray), .int .i64 0, .int .i64 0] 44 (0, 0)) (by (with_reducible repeat (first | refine blk_drewN ?_ _ | refine blk_drew ?_ | refine blk_alloc ?_ _)); exact BK187.out) hb); have n2_ := Aside0.mk (below_step (by repeat (first | (with_reducible first | exact HB.out | apply below_alloc | apply pw_below_drewN | apply below_drew1 | refine below_set ?_ GE186.out | refine below_set ?_ GE187.out) | exact HB.out)) hb); have n3_ := Aside0.mk (hbox); have n4_ := Aside0.mk ((by rw [hg]; exact (below_size (by repeat (first | (with_reducible first | exact HB.out | apply below_alloc | apply pw_below_drewN | apply below_drew1 | refine below_set ?_ GE186.out | refine below_set ?_ GE187.out) | exact HB.out))) : w.heap.size ≤ gb199)); have n5_ := Aside0.mk ((by rw [hg]; exact (below_size (by repeat (first | (with_reducible first | exact HB.out | apply below_alloc | apply pw_below_drewN | apply below_drew1 | refine below_set ?_ GE186.out | refine below_set ?_ GE187.out) | exact HB.out))) : w.heap.size ≤ gb199)); have n6_ := Aside0.mk ((by rw [hg]; exact Nat.ne_of_lt (blk_lt (g := gb186) (o := .cells #[.string t191, .int .i64 t192, .int .i64 t193] 44 (0, 0)) (by (with_reducible repeat (first | refine blk_drewN ?_ _ | refine blk_drew ?_ | refine blk_alloc ?_ _)); exact BK186.out)) : gb186 ≠ gb199)); have n7_ := Aside0.mk ((by rw [hg]; exact Nat.ne_of_gt (blk_lt (g := gb186) (o := .cells #[.string t191, .int .i64 t192, .int .i64 t193] 44 (0, 0)) (by (with_reducible repeat (first | refine blk_drewN ?_ _ | refine blk_drew ?_ | refine blk_alloc ?_ _)); exact BK186.out)) : gb199 ≠ gb186)); have n8_ := Aside0.mk ((by rw [hg]; exact Nat.ne_of_lt (blk_lt (g := gb187) (o := .cells #[.string (⟨#[]⟩ : ByteArray), .int .i64 0, .int .i64 0] 44 (0, 0)) (by (with_reducible repeat (first | refine blk_drewN ?_ _ | refine blk_drew ?_ | refine blk_alloc ?_ _)); exact BK187.out)) : gb187 ≠ gb199)); have n9_ := Aside0.mk ((by rw [hg]; exact Nat.ne_of_gt (blk_lt (g := gb187) (o := .cells #[.string (⟨#[]⟩ : ByteArray), .int .i64 0, .int .i64 0] 44 (0, 0)) (by (with_reducible repeat (first | refine blk_drewN ?_ _ | refine blk_drew ?_ | refine blk_alloc ?_ _)); exact BK187.out)) : gb199 ≠ gb187)); clear BK186; clear BK187; clear HB; have BK186 := n0_; have BK187 := n1_; have HB := n2_; have BK199 := n3_; have GW199 := n4_; have GE199 := n5_; have NB186_199 := n6_; have NB199_186 := n7_; have NB187_199 := n8_; have NB199_187 := n9_; clear n0_ n1_ n2_ n3_ n4_ n5_ n6_ n7_ n8_ n9_; clear hb hbox hg; have hnb26 := NB199_186.out; have hnc26 := NB186_199.out; have hnb27 := NB199_187.out; have hnc27 := NB187_199.out; have hcz28_0 : w25.cell? ⟨gb199, 0, none⟩ = some (.string (⟨#[]⟩ : ByteArray)) := (blk_cell BK199.out 0).trans rfl; have hcz28_1 : w25.cell? ⟨gb199, 1, none⟩ = some (.int .i64 0) := (blk_cell BK199.out 1).trans rfl; have hcz28_2 : w25.cell? ⟨gb199, 2, none⟩ = some (.int .i64 0) := (blk_cell BK199.out 2).trans rfl; have hfz28_0 := blk_frozen BK199.out 0; have hfz28_1 := blk_frozen BK199.out 1; have hfz28_2 := blk_frozen BK199.out 2; have hcz29_0 : w25.cell? ⟨gb186, 0, none⟩ = some (.string t191) := (blk_cell BK186.out 0).trans rfl; have hcz29_1 : w25.cell? ⟨gb186, 1, none⟩ = some (.int .i64 t192) := (blk_cell BK186.out 1).trans rfl; have hcz29_2 : w25.cell? ⟨gb186, 2, none⟩ = some (.int .i64 t193) := (blk_cell BK186.out 2).trans rfl; have hfz29_0 := blk_frozen BK186.out 0; have hfz29_1 := blk_frozen BK186.out 1; have hfz29_2 := blk_frozen BK186.out 2) | ((with_reducible refine gate_callee (f := 38) rfl ?_); refine goesL_ (some 36) rfl rfl Try.func38 (by kernel_rfl) rfl #[.int .i64 a1] rfl (by (try simp only [List.map_toArray, List.map_cons, List.map_nil]); first | done | rfl | (simp only [List.length_drop, List.length_take]; rfl)) ?_; (with_reducible refine (sackbutref01_Power.calls kj2 a1 t200 _ A21.out).mono ?_); rintro e w' ⟨rfl, ⟨nd, rfl⟩⟩; refine ⟨_, rfl, ?_⟩))
            go_meet
            case rel => exact ⟨_, (wrap64 ((wrap64 (t194 * t200)) + t198)), (t195), (t196), (t197), (by first | rfl | (simp; done) | (simp [*]; done)), H', ⟨by have := HJ2.out; first | omega | exact Nat.le_refl _⟩, ⟨by (with_reducible repeat (first | refine blk_drewN ?_ _ | refine blk_drew ?_ | refine blk_alloc ?_ _)); refine blk_put (cs := #[.string t195, .int .i64 t196, .int .i64 t193]) ?_ 2 _ rfl; (with_reducible repeat (first | refine blk_drewN ?_ _ | refine blk_drew ?_ | refine blk_alloc ?_ _)); refine blk_put (cs := #[.string t195, .int .i64 t192, .int .i64 t193]) ?_ 1 _ rfl; (with_reducible repeat (first | refine blk_drewN ?_ _ | refine blk_drew ?_ | refine blk_alloc ?_ _)); refine blk_put (cs := #[.string t191, .int .i64 t192, .int .i64 t193]) ?_ 0 _ rfl; (with_reducible repeat (first | refine blk_drewN ?_ _ | refine blk_drew ?_ | refine blk_alloc ?_ _)); refine blk_far ?_ NB186_199.out _; (with_reducible repeat (first | refine blk_drewN ?_ _ | refine blk_drew ?_ | refine blk_alloc ?_ _)); refine blk_far ?_ NB186_199.out _; (with_reducible repeat (first | refine blk_drewN ?_ _ | refine blk_drew ?_ | refine blk_alloc ?_ _)); refine blk_far ?_ NB186_199.out _; (with_reducible repeat (first | refine blk_drewN ?_ _ | refine blk_drew ?_ | refine blk_alloc ?_ _)); exact BK186.out⟩, ⟨by (with_reducible repeat (first | refine blk_drewN ?_ _ | refine blk_drew ?_ | refine blk_alloc ?_ _)); refine blk_far ?_ NB187_186.out _; (with_reducible repeat (first | refine blk_drewN ?_ _ | refine blk_drew ?_ | refine blk_alloc ?_ _)); refine blk_far ?_ NB187_186.out _; (with_reducible repeat (first | refine blk_drewN ?_ _ | refine blk_drew ?_ | refine blk_alloc ?_ _)); refine blk_far ?_ NB187_186.out _; (with_reducible repeat (first | refine blk_drewN ?_ _ | refine blk_drew ?_ | refine blk_alloc ?_ _)); refine blk_far ?_ NB187_199.out _; (with_reducible repeat (first | refine blk_drewN ?_ _ | refine blk_drew ?_ | refine blk_alloc ?_ _)); refine blk_far ?_ NB187_199.out _; (with_reducible repeat (first | refine blk_drewN ?_ _ | refine blk_drew ?_ | refine blk_alloc ?_ _)); refine blk_far ?_ NB187_199.out _; (with_reducible repeat (first | refine blk_drewN ?_ _ | refine blk_drew ?_ | refine blk_alloc ?_ _)); exact BK187.out⟩, ⟨by repeat (first | (with_reducible first | exact HB.out | apply below_alloc | apply pw_below_drewN | apply below_drew1 | refine below_set ?_ GE186.out | refine below_set ?_ GE187.out | refine below_set ?_ GE199.out) | exact HB.out)⟩⟩
          · rw [if_neg c19] at H
            have c19b0 : decide (t194 < 24) = false := decide_eq_false c19
            clear c19
            (first | rw [c19b0] | (simp only [i64_w, i32_w]; rw [c19b0]) | skip)
            replace H := Option.bind_eq_some_iff.mp H
            obtain ⟨⟨t201, t202, t203, t204⟩, A300, H⟩ := H
            replace H : ((sackbutref01_Power.f kj2 a1).bind fun t206 => (if t206 = 0 then (none) else (if (wrap64 (Int.tdiv t204 t206)) < 24 then ((sackbutref01_Give.f t201 t202 t203 2).bind fun bt207 => (sackbutref02_Take.j1 kj2 t204 bt207.1 bt207.2.1 bt207.2.2)) else (sackbutref02_Take.j1 kj2 t204 t201 t202 t203)))) = some (r1, r2, r3, r4) := H
            have A30 := Aside0.mk A300
            clear A300
            replace H := Option.bind_eq_some_iff.mp H
            obtain ⟨t206, A310, H⟩ := H
            replace H : (if t206 = 0 then (none) else (if (wrap64 (Int.tdiv t204 t206)) < 24 then ((sackbutref01_Give.f t201 t202 t203 2).bind fun bt207 => (sackbutref02_Take.j1 kj2 t204 bt207.1 bt207.2.1 bt207.2.2)) else (sackbutref02_Take.j1 kj2 t204 t201 t202 t203))) = some (r1, r2, r3, r4) := H
            have A31 := Aside0.mk A310
            clear A310
            by_cases c32 : t206 = 0
            · rw [if_pos c32] at H
              exact absurd H (by simp)
            · rw [if_neg c32] at H
              have c32b0 : (t206 == 0) = false := beq_eq_false_iff_ne.mpr c32
              have c32b1 : (t206 != 0) = true := bne_iff_ne.mpr c32
              by_cases c33 : (wrap64 (Int.tdiv t204 t206)) < 24
              · rw [if_pos c33] at H
                have c33b0 : decide ((wrap64 (Int.tdiv t204 t206)) < 24) = true := decide_eq_true c33
                clear c33
                replace H := Option.bind_eq_some_iff.mp H
                obtain ⟨⟨t207, t208, t209⟩, A340, H⟩ := H
                replace H : (sackbutref02_Take.j1 kj2 t204 t207 t208 t209) = some (r1, r2, r3, r4) := H
                have A34 := Aside0.mk A340
                clear A340
                have H' := Aside0.mk H
                clear H
                have hnb35 := NB186_187.out
                have hnc35 := NB187_186.out
                have hcz36_0 : w17.cell? ⟨gb186, 0, none⟩ = some (.string a0_0) := (blk_cell BK186.out 0).trans rfl
                have hcz36_1 : w17.cell? ⟨gb186, 1, none⟩ = some (.int .i64 a0_1) := (blk_cell BK186.out 1).trans rfl
                have hcz36_2 : w17.cell? ⟨gb186, 2, none⟩ = some (.int .i64 a0_2) := (blk_cell BK186.out 2).trans rfl
                have hfz36_0 := blk_frozen BK186.out 0
                have hfz36_1 := blk_frozen BK186.out 1
                have hfz36_2 := blk_frozen BK186.out 2
                go_wp2_with (first | ((with_reducible refine gate_callee (f := 50) rfl ?_); refine goesL_ (some 42) rfl rfl Try.func50 (by kernel_rfl) rfl #[.agg #[.string t191, .int .i64 t192, .int .i64 t193], .int .i64 34] rfl (by (try simp only [List.map_toArray, List.map_cons, List.map_nil]); first | done | rfl | (simp only [List.length_drop, List.length_take]; rfl)) ?_; (with_reducible refine (sackbutref01_Take.calls kj2 t191 t192 t193 34 t201 t202 t203 t204 _ A30.out).mono ?_); rintro e w37 ⟨rfl, hb⟩; refine ⟨_, rfl, ?_⟩; have n0_ := Aside0.mk (blk_below (g := gb186) (o := .cells #[.string t191, .int .i64 t192, .int .i64 t193] 44 (0, 0)) (by (with_reducible repeat (first | refine blk_drewN ?_ _ | refine blk_drew ?_ | refine blk_alloc ?_ _)); refine blk_put (cs := #[.string t191, .int .i64 t192, .int .i64 a0_2]) ?_ 2 _ rfl; (with_reducible repeat (first | refine blk_drewN ?_ _ | refine blk_drew ?_ | refine blk_alloc ?_ _)); refine blk_put (cs := #[.string t191, .int .i64 a0_1, .int .i64 a0_2]) ?_ 1 _ rfl; (with_reducible repeat (first | refine blk_drewN ?_ _ | refine blk_drew ?_ | refine blk_alloc ?_ _)); refine blk_put (cs := #[.string a0_0, .int .i64 a0_1, .int .i64 a0_2]) ?_ 0 _ rfl; (with_reducible repeat (first | refine blk_drewN ?_ _ | refine blk_drew ?_ | refine blk_alloc ?_ _)); exact BK186.out) hb); have n1_ := Aside0.mk (blk_below (g := gb187) (o := .cells #[.string (⟨#[]⟩ : ByteArray), .int .i64 0, .int .i64 0] 44 (0, 0)) (by (with_reducible repeat (first | refine blk_drewN ?_ _ | refine blk_drew ?_ | refine blk_alloc ?_ _)); refine blk_far ?_ NB187_186.out _; (with_reducible repeat (first | refine blk_drewN ?_ _ | refine blk_drew ?_ | refine blk_alloc ?_ _)); refine blk_far ?_ NB187_186.out _; (with_reducible repeat (first | refine blk_drewN ?_ _ | refine blk_drew ?_ | refine blk_alloc ?_ _)); refine blk_far ?_ NB187_186.out _; (with_reducible repeat (first | refine blk_drewN ?_ _ | refine blk_drew ?_ | refine blk_alloc ?_ _)); exact BK187.out) hb); have n2_ := Aside0.mk (below_step (by repeat (first | (with_reducible first | exact HB.out | apply below_alloc | apply pw_below_drewN | apply below_drew1 | refine below_set ?_ GE186.out | refine below_set ?_ GE187.out) | exact HB.out)) hb); clear BK186; clear BK187; clear HB; have BK186 := n0_; have BK187 := n1_; have HB := n2_; clear n0_ n1_ n2_; (try clear hb); (try clear hb2); (try clear hk); (try clear hi)) | ((with_reducible refine gate_dst (N := 10) rfl ?_); refine box_event ?hg (N := 10) ?hd (cs := #[.string (⟨#[]⟩ : ByteArray), .int .i64 0, .int .i64 0]) (t := 44) ?hr ?_; (case hd => rfl); (case hg => rfl); (case hr => first | (go_simp; done) | (go_simp; rfl)); intro gb205 hg w38 hbox hb; have n0_ := Aside0.mk (blk_below (g := gb186) (o := .cells #[.string t191, .int .i64 t192, .int .i64 t193] 44 (0, 0)) (by (with_reducible repeat (first | refine blk_drewN ?_ _ | refine blk_drew ?_ | refine blk_alloc ?_ _)); exact BK186.out) hb); have n1_ := Aside0.mk (blk_below (g := gb187) (o := .cells #[.string (⟨#[]⟩ : ByteArray), .int .i64 0, .int .i64 0] 44 (0, 0)) (by (with_reducible repeat (first | refine blk_drewN ?_ _ | refine blk_drew ?_ | refine blk_alloc ?_ _)); exact BK187.out) hb); have n2_ := Aside0.mk (below_step (by repeat (first | (with_reducible first | exact HB.out | apply below_alloc | apply pw_below_drewN | apply below_drew1 | refine below_set ?_ GE186.out | refine below_set ?_ GE187.out) | exact HB.out)) hb); have n3_ := Aside0.mk (hbox); have n4_ := Aside0.mk ((by rw [hg]; exact (below_size (by repeat (first | (with_reducible first | exact HB.out | apply below_alloc | apply pw_below_drewN | apply below_drew1 | refine below_set ?_ GE186.out | refine below_set ?_ GE187.out) | exact HB.out))) : w.heap.size ≤ gb205)); have n5_ := Aside0.mk ((by rw [hg]; exact (below_size (by repeat (first | (with_reducible first | exact HB.out | apply below_alloc | apply pw_below_drewN | apply below_drew1 | refine below_set ?_ GE186.out | refine below_set ?_ GE187.out) | exact HB.out))) : w.heap.size ≤ gb205)); have n6_ := Aside0.mk ((by rw [hg]; exact Nat.ne_of_lt (blk_lt (g := gb186) (o := .cells #[.string t191, .int .i64 t192, .int .i64 t193] 44 (0, 0)) (by (with_reducible repeat (first | refine blk_drewN ?_ _ | refine blk_drew ?_ | refine blk_alloc ?_ _)); exact BK186.out)) : gb186 ≠ gb205)); have n7_ := Aside0.mk ((by rw [hg]; exact Nat.ne_of_gt (blk_lt (g := gb186) (o := .cells #[.string t191, .int .i64 t192, .int .i64 t193] 44 (0, 0)) (by (with_reducible repeat (first | refine blk_drewN ?_ _ | refine blk_drew ?_ | refine blk_alloc ?_ _)); exact BK186.out)) : gb205 ≠ gb186)); have n8_ := Aside0.mk ((by rw [hg]; exact Nat.ne_of_lt (blk_lt (g := gb187) (o := .cells #[.string (⟨#[]⟩ : ByteArray), .int .i64 0, .int .i64 0] 44 (0, 0)) (by (with_reducible repeat (first | refine blk_drewN ?_ _ | refine blk_drew ?_ | refine blk_alloc ?_ _)); exact BK187.out)) : gb187 ≠ gb205)); have n9_ := Aside0.mk ((by rw [hg]; exact Nat.ne_of_gt (blk_lt (g := gb187) (o := .cells #[.string (⟨#[]⟩ : ByteArray), .int .i64 0, .int .i64 0] 44 (0, 0)) (by (with_reducible repeat (first | refine blk_drewN ?_ _ | refine blk_drew ?_ | refine blk_alloc ?_ _)); exact BK187.out)) : gb205 ≠ gb187)); clear BK186; clear BK187; clear HB; have BK186 := n0_; have BK187 := n1_; have HB := n2_; have BK205 := n3_; have GW205 := n4_; have GE205 := n5_; have NB186_205 := n6_; have NB205_186 := n7_; have NB187_205 := n8_; have NB205_187 := n9_; clear n0_ n1_ n2_ n3_ n4_ n5_ n6_ n7_ n8_ n9_; clear hb hbox hg; have hnb39 := NB205_186.out; have hnc39 := NB186_205.out; have hnb40 := NB205_187.out; have hnc40 := NB187_205.out; have hcz41_0 : w38.cell? ⟨gb205, 0, none⟩ = some (.string (⟨#[]⟩ : ByteArray)) := (blk_cell BK205.out 0).trans rfl; have hcz41_1 : w38.cell? ⟨gb205, 1, none⟩ = some (.int .i64 0) := (blk_cell BK205.out 1).trans rfl; have hcz41_2 : w38.cell? ⟨gb205, 2, none⟩ = some (.int .i64 0) := (blk_cell BK205.out 2).trans rfl; have hfz41_0 := blk_frozen BK205.out 0; have hfz41_1 := blk_frozen BK205.out 1; have hfz41_2 := blk_frozen BK205.out 2; have hcz42_0 : w38.cell? ⟨gb186, 0, none⟩ = some (.string t191) := (blk_cell BK186.out 0).trans rfl; have hcz42_1 : w38.cell? ⟨gb186, 1, none⟩ = some (.int .i64 t192) := (blk_cell BK186.out 1).trans rfl; have hcz42_2 : w38.cell? ⟨gb186, 2, none⟩ = some (.int .i64 t193) := (blk_cell BK186.out 2).trans rfl; have hfz42_0 := blk_frozen BK186.out 0; have hfz42_1 := blk_frozen BK186.out 1; have hfz42_2 := blk_frozen BK186.out 2) | ((with_reducible refine gate_callee (f := 38) rfl ?_); refine goesL_ (some 49) rfl rfl Try.func38 (by kernel_rfl) rfl #[.int .i64 a1] rfl (by (try simp only [List.map_toArray, List.map_cons, List.map_nil]); first | done | rfl | (simp only [List.length_drop, List.length_take]; rfl)) ?_; (with_reducible refine (sackbutref01_Power.calls kj2 a1 t206 _ A31.out).mono ?_); rintro e w' ⟨rfl, ⟨nd, rfl⟩⟩; refine ⟨_, rfl, ?_⟩) | ((with_reducible refine gate_callee (f := 49) rfl ?_); refine goesL_ (some 53) rfl rfl Try.func49 (by kernel_rfl) rfl #[.agg #[.string t201, .int .i64 t202, .int .i64 t203], .int .i64 2] rfl (by (try simp only [List.map_toArray, List.map_cons, List.map_nil]); first | done | rfl | (simp only [List.length_drop, List.length_take]; rfl)) ?_; (with_reducible refine (sackbutref01_Give.calls t201 t202 t203 2 t207 t208 t209 _ A34.out).mono ?_); rintro e w43 ⟨rfl, hb⟩; refine ⟨_, rfl, ?_⟩; have n0_ := Aside0.mk (blk_below (g := gb186) (o := .cells #[.string t201, .int .i64 t202, .int .i64 t203] 44 (0, 0)) (by (with_reducible repeat (first | refine blk_drewN ?_ _ | refine blk_drew ?_ | refine blk_alloc ?_ _)); refine blk_put (cs := #[.string t201, .int .i64 t202, .int .i64 t193]) ?_ 2 _ rfl; (with_reducible repeat (first | refine blk_drewN ?_ _ | refine blk_drew ?_ | refine blk_alloc ?_ _)); refine blk_put (cs := #[.string t201, .int .i64 t192, .int .i64 t193]) ?_ 1 _ rfl; (with_reducible repeat (first | refine blk_drewN ?_ _ | refine blk_drew ?_ | refine blk_alloc ?_ _)); refine blk_put (cs := #[.string t191, .int .i64 t192, .int .i64 t193]) ?_ 0 _ rfl; (with_reducible repeat (first | refine blk_drewN ?_ _ | refine blk_drew ?_ | refine blk_alloc ?_ _)); refine blk_far ?_ NB186_205.out _; (with_reducible repeat (first | refine blk_drewN ?_ _ | refine blk_drew ?_ | refine blk_alloc ?_ _)); refine blk_far ?_ NB186_205.out _; (with_reducible repeat (first | refine blk_drewN ?_ _ | refine blk_drew ?_ | refine blk_alloc ?_ _)); refine blk_far ?_ NB186_205.out _; (with_reducible repeat (first | refine blk_drewN ?_ _ | refine blk_drew ?_ | refine blk_alloc ?_ _)); exact BK186.out) hb); have n1_ := Aside0.mk (blk_below (g := gb187) (o := .cells #[.string (⟨#[]⟩ : ByteArray), .int .i64 0, .int .i64 0] 44 (0, 0)) (by (with_reducible repeat (first | refine blk_drewN ?_ _ | refine blk_drew ?_ | refine blk_alloc ?_ _)); refine blk_far ?_ NB187_186.out _; (with_reducible repeat (first | refine blk_drewN ?_ _ | refine blk_drew ?_ | refine blk_alloc ?_ _)); refine blk_far ?_ NB187_186.out _; (with_reducible repeat (first | refine blk_drewN ?_ _ | refine blk_drew ?_ | refine blk_alloc ?_ _)); refine blk_far ?_ NB187_186.out _; (with_reducible repeat (first | refine blk_drewN ?_ _ | refine blk_drew ?_ | refine blk_alloc ?_ _)); refine blk_far ?_ NB187_205.out _; (with_reducible repeat (first | refine blk_drewN ?_ _ | refine blk_drew ?_ | refine blk_alloc ?_ _)); refine blk_far ?_ NB187_205.out _; (with_reducible repeat (first | refine blk_drewN ?_ _ | refine blk_drew ?_ | refine blk_alloc ?_ _)); refine blk_far ?_ NB187_205.out _; (with_reducible repeat (first | refine blk_drewN ?_ _ | refine blk_drew ?_ | refine blk_alloc ?_ _)); exact BK187.out) hb); have n2_ := Aside0.mk (blk_below (g := gb205) (o := .cells #[.string t201, .int .i64 t202, .int .i64 t203] 44 (0, 0)) (by (with_reducible repeat (first | refine blk_drewN ?_ _ | refine blk_drew ?_ | refine blk_alloc ?_ _)); refine blk_far ?_ NB205_186.out _; (with_reducible repeat (first | refine blk_drewN ?_ _ | refine blk_drew ?_ | refine blk_alloc ?_ _)); refine blk_far ?_ NB205_186.out _; (with_reducible repeat (first | refine blk_drewN ?_ _ | refine blk_drew ?_ | refine blk_alloc ?_ _)); refine blk_far ?_ NB205_186.out _; (with_reducible repeat (first | refine blk_drewN ?_ _ | refine blk_drew ?_ | refine blk_alloc ?_ _)); refine blk_put (cs := #[.string t201, .int .i64 t202, .int .i64 0]) ?_ 2 _ rfl; (with_reducible repeat (first | refine blk_drewN ?_ _ | refine blk_drew ?_ | refine blk_alloc ?_ _)); refine blk_put (cs := #[.string t201, .int .i64 0, .int .i64 0]) ?_ 1 _ rfl; (with_reducible repeat (first | refine blk_drewN ?_ _ | refine blk_drew ?_ | refine blk_alloc ?_ _)); refine blk_put (cs := #[.string (⟨#[]⟩ : ByteArray), .int .i64 0, .int .i64 0]) ?_ 0 _ rfl; (with_reducible repeat (first | refine blk_drewN ?_ _ | refine blk_drew ?_ | refine blk_alloc ?_ _)); exact BK205.out) hb); have n3_ := Aside0.mk (below_step (by repeat (first | (with_reducible first | exact HB.out | apply below_alloc | apply pw_below_drewN | apply below_drew1 | refine below_set ?_ GE186.out | refine below_set ?_ GE187.out | refine below_set ?_ GE205.out) | exact HB.out)) hb); clear BK186; clear BK187; clear BK205; clear HB; have BK186 := n0_; have BK187 := n1_; have BK205 := n2_; have HB := n3_; clear n0_ n1_ n2_ n3_; (try clear hb); (try clear hb2); (try clear hk); (try clear hi); have hcz44_0 : w43.cell? ⟨gb186, 0, none⟩ = some (.string t201) := (blk_cell BK186.out 0).trans rfl; have hcz44_1 : w43.cell? ⟨gb186, 1, none⟩ = some (.int .i64 t202) := (blk_cell BK186.out 1).trans rfl; have hcz44_2 : w43.cell? ⟨gb186, 2, none⟩ = some (.int .i64 t203) := (blk_cell BK186.out 2).trans rfl; have hfz44_0 := blk_frozen BK186.out 0; have hfz44_1 := blk_frozen BK186.out 1; have hfz44_2 := blk_frozen BK186.out 2))
                go_meet
                case rel => exact ⟨_, (t204), (t207), (t208), (t209), (by first | rfl | (simp; done) | (simp [*]; done)), H', ⟨by have := HJ2.out; first | omega | exact Nat.le_refl _⟩, ⟨by (with_reducible repeat (first | refine blk_drewN ?_ _ | refine blk_drew ?_ | refine blk_alloc ?_ _)); refine blk_put (cs := #[.string t207, .int .i64 t208, .int .i64 t203]) ?_ 2 _ rfl; (with_reducible repeat (first | refine blk_drewN ?_ _ | refine blk_drew ?_ | refine blk_alloc ?_ _)); refine blk_put (cs := #[.string t207, .int .i64 t202, .int .i64 t203]) ?_ 1 _ rfl; (with_reducible repeat (first | refine blk_drewN ?_ _ | refine blk_drew ?_ | refine blk_alloc ?_ _)); refine blk_put (cs := #[.string t201, .int .i64 t202, .int .i64 t203]) ?_ 0 _ rfl; (with_reducible repeat (first | refine blk_drewN ?_ _ | refine blk_drew ?_ | refine blk_alloc ?_ _)); exact BK186.out⟩, ⟨by (with_reducible repeat (first | refine blk_drewN ?_ _ | refine blk_drew ?_ | refine blk_alloc ?_ _)); refine blk_far ?_ NB187_186.out _; (with_reducible repeat (first | refine blk_drewN ?_ _ | refine blk_drew ?_ | refine blk_alloc ?_ _)); refine blk_far ?_ NB187_186.out _; (with_reducible repeat (first | refine blk_drewN ?_ _ | refine blk_drew ?_ | refine blk_alloc ?_ _)); refine blk_far ?_ NB187_186.out _; (with_reducible repeat (first | refine blk_drewN ?_ _ | refine blk_drew ?_ | refine blk_alloc ?_ _)); exact BK187.out⟩, ⟨by repeat (first | (with_reducible first | exact HB.out | apply below_alloc | apply pw_below_drewN | apply below_drew1 | refine below_set ?_ GE186.out | refine below_set ?_ GE187.out | refine below_set ?_ GE205.out) | exact HB.out)⟩⟩
              · rw [if_neg c33] at H
                have c33b0 : decide ((wrap64 (Int.tdiv t204 t206)) < 24) = false := decide_eq_false c33
                clear c33
                have H' := Aside0.mk H
                clear H
                have hnb45 := NB186_187.out
                have hnc45 := NB187_186.out
                have hcz46_0 : w17.cell? ⟨gb186, 0, none⟩ = some (.string a0_0) := (blk_cell BK186.out 0).trans rfl
                have hcz46_1 : w17.cell? ⟨gb186, 1, none⟩ = some (.int .i64 a0_1) := (blk_cell BK186.out 1).trans rfl
                have hcz46_2 : w17.cell? ⟨gb186, 2, none⟩ = some (.int .i64 a0_2) := (blk_cell BK186.out 2).trans rfl
                have hfz46_0 := blk_frozen BK186.out 0
                have hfz46_1 := blk_frozen BK186.out 1
                have hfz46_2 := blk_frozen BK186.out 2
                go_wp2_with (first | ((with_reducible refine gate_callee (f := 50) rfl ?_); refine goesL_ (some 42) rfl rfl Try.func50 (by kernel_rfl) rfl #[.agg #[.string t191, .int .i64 t192, .int .i64 t193], .int .i64 34] rfl (by (try simp only [List.map_toArray, List.map_cons, List.map_nil]); first | done | rfl | (simp only [List.length_drop, List.length_take]; rfl)) ?_; (with_reducible refine (sackbutref01_Take.calls kj2 t191 t192 t193 34 t201 t202 t203 t204 _ A30.out).mono ?_); rintro e w47 ⟨rfl, hb⟩; refine ⟨_, rfl, ?_⟩; have n0_ := Aside0.mk (blk_below (g := gb186) (o := .cells #[.string t191, .int .i64 t192, .int .i64 t193] 44 (0, 0)) (by (with_reducible repeat (first | refine blk_drewN ?_ _ | refine blk_drew ?_ | refine blk_alloc ?_ _)); refine blk_put (cs := #[.string t191, .int .i64 t192, .int .i64 a0_2]) ?_ 2 _ rfl; (with_reducible repeat (first | refine blk_drewN ?_ _ | refine blk_drew ?_ | refine blk_alloc ?_ _)); refine blk_put (cs := #[.string t191, .int .i64 a0_1, .int .i64 a0_2]) ?_ 1 _ rfl; (with_reducible repeat (first | refine blk_drewN ?_ _ | refine blk_drew ?_ | refine blk_alloc ?_ _)); refine blk_put (cs := #[.string a0_0, .int .i64 a0_1, .int .i64 a0_2]) ?_ 0 _ rfl; (with_reducible repeat (first | refine blk_drewN ?_ _ | refine blk_drew ?_ | refine blk_alloc ?_ _)); exact BK186.out) hb); have n1_ := Aside0.mk (blk_below (g := gb187) (o := .cells #[.string (⟨#[]⟩ : ByteArray), .int .i64 0, .int .i64 0] 44 (0, 0)) (by (with_reducible repeat (first | refine blk_drewN ?_ _ | refine blk_drew ?_ | refine blk_alloc ?_ _)); refine blk_far ?_ NB187_186.out _; (with_reducible repeat (first | refine blk_drewN ?_ _ | refine blk_drew ?_ | refine blk_alloc ?_ _)); refine blk_far ?_ NB187_186.out _; (with_reducible repeat (first | refine blk_drewN ?_ _ | refine blk_drew ?_ | refine blk_alloc ?_ _)); refine blk_far ?_ NB187_186.out _; (with_reducible repeat (first | refine blk_drewN ?_ _ | refine blk_drew ?_ | refine blk_alloc ?_ _)); exact BK187.out) hb); have n2_ := Aside0.mk (below_step (by repeat (first | (with_reducible first | exact HB.out | apply below_alloc | apply pw_below_drewN | apply below_drew1 | refine below_set ?_ GE186.out | refine below_set ?_ GE187.out) | exact HB.out)) hb); clear BK186; clear BK187; clear HB; have BK186 := n0_; have BK187 := n1_; have HB := n2_; clear n0_ n1_ n2_; (try clear hb); (try clear hb2); (try clear hk); (try clear hi)) | ((with_reducible refine gate_dst (N := 10) rfl ?_); refine box_event ?hg (N := 10) ?hd (cs := #[.string (⟨#[]⟩ : ByteArray), .int .i64 0, .int .i64 0]) (t := 44) ?hr ?_; (case hd => rfl); (case hg => rfl); (case hr => first | (go_simp; done) | (go_simp; rfl)); intro gb205 hg w48 hbox hb; have n0_ := Aside0.mk (blk_below (g := gb186) (o := .cells #[.string t191, .int .i64 t192, .int .i64 t193] 44 (0, 0)) (by (with_reducible repeat (first | refine blk_drewN ?_ _ | refine blk_drew ?_ | refine blk_alloc ?_ _)); exact BK186.out) hb); have n1_ := Aside0.mk (blk_below (g := gb187) (o := .cells #[.string (⟨#[]⟩ : ByteArray), .int .i64 0, .int .i64 0] 44 (0, 0)) (by (with_reducible repeat (first | refine blk_drewN ?_ _ | refine blk_drew ?_ | refine blk_alloc ?_ _)); exact BK187.out) hb); have n2_ := Aside0.mk (below_step (by repeat (first | (with_reducible first | exact HB.out | apply below_alloc | apply pw_below_drewN | apply below_drew1 | refine below_set ?_ GE186.out | refine below_set ?_ GE187.out) | exact HB.out)) hb); have n3_ := Aside0.mk (hbox); have n4_ := Aside0.mk ((by rw [hg]; exact (below_size (by repeat (first | (with_reducible first | exact HB.out | apply below_alloc | apply pw_below_drewN | apply below_drew1 | refine below_set ?_ GE186.out | refine below_set ?_ GE187.out) | exact HB.out))) : w.heap.size ≤ gb205)); have n5_ := Aside0.mk ((by rw [hg]; exact (below_size (by repeat (first | (with_reducible first | exact HB.out | apply below_alloc | apply pw_below_drewN | apply below_drew1 | refine below_set ?_ GE186.out | refine below_set ?_ GE187.out) | exact HB.out))) : w.heap.size ≤ gb205)); have n6_ := Aside0.mk ((by rw [hg]; exact Nat.ne_of_lt (blk_lt (g := gb186) (o := .cells #[.string t191, .int .i64 t192, .int .i64 t193] 44 (0, 0)) (by (with_reducible repeat (first | refine blk_drewN ?_ _ | refine blk_drew ?_ | refine blk_alloc ?_ _)); exact BK186.out)) : gb186 ≠ gb205)); have n7_ := Aside0.mk ((by rw [hg]; exact Nat.ne_of_gt (blk_lt (g := gb186) (o := .cells #[.string t191, .int .i64 t192, .int .i64 t193] 44 (0, 0)) (by (with_reducible repeat (first | refine blk_drewN ?_ _ | refine blk_drew ?_ | refine blk_alloc ?_ _)); exact BK186.out)) : gb205 ≠ gb186)); have n8_ := Aside0.mk ((by rw [hg]; exact Nat.ne_of_lt (blk_lt (g := gb187) (o := .cells #[.string (⟨#[]⟩ : ByteArray), .int .i64 0, .int .i64 0] 44 (0, 0)) (by (with_reducible repeat (first | refine blk_drewN ?_ _ | refine blk_drew ?_ | refine blk_alloc ?_ _)); exact BK187.out)) : gb187 ≠ gb205)); have n9_ := Aside0.mk ((by rw [hg]; exact Nat.ne_of_gt (blk_lt (g := gb187) (o := .cells #[.string (⟨#[]⟩ : ByteArray), .int .i64 0, .int .i64 0] 44 (0, 0)) (by (with_reducible repeat (first | refine blk_drewN ?_ _ | refine blk_drew ?_ | refine blk_alloc ?_ _)); exact BK187.out)) : gb205 ≠ gb187)); clear BK186; clear BK187; clear HB; have BK186 := n0_; have BK187 := n1_; have HB := n2_; have BK205 := n3_; have GW205 := n4_; have GE205 := n5_; have NB186_205 := n6_; have NB205_186 := n7_; have NB187_205 := n8_; have NB205_187 := n9_; clear n0_ n1_ n2_ n3_ n4_ n5_ n6_ n7_ n8_ n9_; clear hb hbox hg; have hnb49 := NB205_186.out; have hnc49 := NB186_205.out; have hnb50 := NB205_187.out; have hnc50 := NB187_205.out; have hcz51_0 : w48.cell? ⟨gb205, 0, none⟩ = some (.string (⟨#[]⟩ : ByteArray)) := (blk_cell BK205.out 0).trans rfl; have hcz51_1 : w48.cell? ⟨gb205, 1, none⟩ = some (.int .i64 0) := (blk_cell BK205.out 1).trans rfl; have hcz51_2 : w48.cell? ⟨gb205, 2, none⟩ = some (.int .i64 0) := (blk_cell BK205.out 2).trans rfl; have hfz51_0 := blk_frozen BK205.out 0; have hfz51_1 := blk_frozen BK205.out 1; have hfz51_2 := blk_frozen BK205.out 2; have hcz52_0 : w48.cell? ⟨gb186, 0, none⟩ = some (.string t191) := (blk_cell BK186.out 0).trans rfl; have hcz52_1 : w48.cell? ⟨gb186, 1, none⟩ = some (.int .i64 t192) := (blk_cell BK186.out 1).trans rfl; have hcz52_2 : w48.cell? ⟨gb186, 2, none⟩ = some (.int .i64 t193) := (blk_cell BK186.out 2).trans rfl; have hfz52_0 := blk_frozen BK186.out 0; have hfz52_1 := blk_frozen BK186.out 1; have hfz52_2 := blk_frozen BK186.out 2) | ((with_reducible refine gate_callee (f := 38) rfl ?_); refine goesL_ (some 49) rfl rfl Try.func38 (by kernel_rfl) rfl #[.int .i64 a1] rfl (by (try simp only [List.map_toArray, List.map_cons, List.map_nil]); first | done | rfl | (simp only [List.length_drop, List.length_take]; rfl)) ?_; (with_reducible refine (sackbutref01_Power.calls kj2 a1 t206 _ A31.out).mono ?_); rintro e w' ⟨rfl, ⟨nd, rfl⟩⟩; refine ⟨_, rfl, ?_⟩))
                go_meet
                case rel => exact ⟨_, (t204), (t201), (t202), (t203), (by first | rfl | (simp; done) | (simp [*]; done)), H', ⟨by have := HJ2.out; first | omega | exact Nat.le_refl _⟩, ⟨by (with_reducible repeat (first | refine blk_drewN ?_ _ | refine blk_drew ?_ | refine blk_alloc ?_ _)); refine blk_put (cs := #[.string t201, .int .i64 t202, .int .i64 t193]) ?_ 2 _ rfl; (with_reducible repeat (first | refine blk_drewN ?_ _ | refine blk_drew ?_ | refine blk_alloc ?_ _)); refine blk_put (cs := #[.string t201, .int .i64 t192, .int .i64 t193]) ?_ 1 _ rfl; (with_reducible repeat (first | refine blk_drewN ?_ _ | refine blk_drew ?_ | refine blk_alloc ?_ _)); refine blk_put (cs := #[.string t191, .int .i64 t192, .int .i64 t193]) ?_ 0 _ rfl; (with_reducible repeat (first | refine blk_drewN ?_ _ | refine blk_drew ?_ | refine blk_alloc ?_ _)); refine blk_far ?_ NB186_205.out _; (with_reducible repeat (first | refine blk_drewN ?_ _ | refine blk_drew ?_ | refine blk_alloc ?_ _)); refine blk_far ?_ NB186_205.out _; (with_reducible repeat (first | refine blk_drewN ?_ _ | refine blk_drew ?_ | refine blk_alloc ?_ _)); refine blk_far ?_ NB186_205.out _; (with_reducible repeat (first | refine blk_drewN ?_ _ | refine blk_drew ?_ | refine blk_alloc ?_ _)); exact BK186.out⟩, ⟨by (with_reducible repeat (first | refine blk_drewN ?_ _ | refine blk_drew ?_ | refine blk_alloc ?_ _)); refine blk_far ?_ NB187_186.out _; (with_reducible repeat (first | refine blk_drewN ?_ _ | refine blk_drew ?_ | refine blk_alloc ?_ _)); refine blk_far ?_ NB187_186.out _; (with_reducible repeat (first | refine blk_drewN ?_ _ | refine blk_drew ?_ | refine blk_alloc ?_ _)); refine blk_far ?_ NB187_186.out _; (with_reducible repeat (first | refine blk_drewN ?_ _ | refine blk_drew ?_ | refine blk_alloc ?_ _)); refine blk_far ?_ NB187_205.out _; (with_reducible repeat (first | refine blk_drewN ?_ _ | refine blk_drew ?_ | refine blk_alloc ?_ _)); refine blk_far ?_ NB187_205.out _; (with_reducible repeat (first | refine blk_drewN ?_ _ | refine blk_drew ?_ | refine blk_alloc ?_ _)); refine blk_far ?_ NB187_205.out _; (with_reducible repeat (first | refine blk_drewN ?_ _ | refine blk_drew ?_ | refine blk_alloc ?_ _)); exact BK187.out⟩, ⟨by repeat (first | (with_reducible first | exact HB.out | apply below_alloc | apply pw_below_drewN | apply below_drew1 | refine below_set ?_ GE186.out | refine below_set ?_ GE187.out | refine below_set ?_ GE205.out) | exact HB.out)⟩⟩
        case rest =>
          clear HC14
          try clear c1
          try clear c2
          try clear p2
          try clear c3
          try clear c4
          try clear c5
          try clear c6
          try clear c6b0
          try clear p6
          try clear c7
          try clear c9
          try clear c15
          try clear c19
          try clear c19b0
          try clear c22
          try clear c26
          try clear c27
          try clear c32
          try clear c32b0
          try clear c32b1
          try clear c33
          try clear c33b0
          try clear c35
          try clear c38
          try clear c39
          try clear c40
          try clear c45
          try clear c49
          try clear c50
          try clear c51
          try clear hcz10_0
          try clear hcz10_1
          try clear hcz10_2
          try clear hcz12_0
          try clear hcz12_1
          try clear hcz12_2
          try clear hcz16_0
          try clear hcz16_1
          try clear hcz16_2
          try clear hcz18_0
          try clear hcz18_1
          try clear hcz18_2
          try clear hcz23_0
          try clear hcz23_1
          try clear hcz23_2
          try clear hcz28_0
          try clear hcz28_1
          try clear hcz28_2
          try clear hcz29_0
          try clear hcz29_1
          try clear hcz29_2
          try clear hcz36_0
          try clear hcz36_1
          try clear hcz36_2
          try clear hcz41_0
          try clear hcz41_1
          try clear hcz41_2
          try clear hcz42_0
          try clear hcz42_1
          try clear hcz42_2
          try clear hcz44_0
          try clear hcz44_1
          try clear hcz44_2
          try clear hcz46_0
          try clear hcz46_1
          try clear hcz46_2
          try clear hcz51_0
          try clear hcz51_1
          try clear hcz51_2
          try clear hcz52_0
          try clear hcz52_1
          try clear hcz52_2
          try clear hfz10_0
          try clear hfz10_1
          try clear hfz10_2
          try clear hfz12_0
          try clear hfz12_1
          try clear hfz12_2
          try clear hfz16_0
          try clear hfz16_1
          try clear hfz16_2
          try clear hfz18_0
          try clear hfz18_1
          try clear hfz18_2
          try clear hfz23_0
          try clear hfz23_1
          try clear hfz23_2
          try clear hfz28_0
          try clear hfz28_1
          try clear hfz28_2
          try clear hfz29_0
          try clear hfz29_1
          try clear hfz29_2
          try clear hfz36_0
          try clear hfz36_1
          try clear hfz36_2
          try clear hfz41_0
          try clear hfz41_1
          try clear hfz41_2
          try clear hfz42_0
          try clear hfz42_1
          try clear hfz42_2
          try clear hfz44_0
          try clear hfz44_1
          try clear hfz44_2
          try clear hfz46_0
          try clear hfz46_1
          try clear hfz46_2
          try clear hfz51_0
          try clear hfz51_1
          try clear hfz51_2
          try clear hfz52_0
          try clear hfz52_1
          try clear hfz52_2
          try clear p2
          obtain ⟨kq, x7_13, x187000_13, x187001_13, x187002_13, rfl, HA, HJ13, BK186, BK187, HB⟩ := hcut
          cases kq with
          | zero => exact absurd HA.out (by simp [sackbutref02_Take.j1])
          | succ kj13 =>
            have H := HA.out
            clear HA
            simp only [sackbutref02_Take.j1] at H
            by_cases c53 : x187002_13 = 0
            · rw [if_pos c53] at H
              have c53b0 : (x187002_13 == 0) = true := beq_iff_eq.mpr c53
              have c53b1 : (x187002_13 != 0) = false := bne_eq_false_iff_eq.mpr c53
              clear c53
              by_cases c54 : (Int.tmod x7_13 2) = 1
              · rw [if_pos c54] at H
                have c54b0 : ((Int.tmod x7_13 2) == 1) = true := beq_iff_eq.mpr c54
                have c54b1 : ((Int.tmod x7_13 2) != 1) = false := bne_eq_false_iff_eq.mpr c54
                clear c54
                simp only [Option.some.injEq, Prod.mk.injEq] at H
                obtain ⟨rfl, rfl, rfl, rfl⟩ := H
                have hnb55 := NB186_187.out
                have hnc55 := NB187_186.out
                have hcz56_0 : wc.cell? ⟨gb186, 0, none⟩ = some (.string x187000_13) := (blk_cell BK186.out 0).trans rfl
                have hcz56_1 : wc.cell? ⟨gb186, 1, none⟩ = some (.int .i64 x187001_13) := (blk_cell BK186.out 1).trans rfl
                have hcz56_2 : wc.cell? ⟨gb186, 2, none⟩ = some (.int .i64 x187002_13) := (blk_cell BK186.out 2).trans rfl
                have hfz56_0 := blk_frozen BK186.out 0
                have hfz56_1 := blk_frozen BK186.out 1
                have hfz56_2 := blk_frozen BK186.out 2
                have hcz57_0 : wc.cell? ⟨gb187, 0, none⟩ = some (.string (⟨#[]⟩ : ByteArray)) := (blk_cell BK187.out 0).trans rfl
                have hcz57_1 : wc.cell? ⟨gb187, 1, none⟩ = some (.int .i64 0) := (blk_cell BK187.out 1).trans rfl
                have hcz57_2 : wc.cell? ⟨gb187, 2, none⟩ = some (.int .i64 0) := (blk_cell BK187.out 2).trans rfl
                have hfz57_0 := blk_frozen BK187.out 0
                have hfz57_1 := blk_frozen BK187.out 1
                have hfz57_2 := blk_frozen BK187.out 2
                go_wp2
                refine bodyPost_ret (results_ct rfl _ _ gb187 44 #[.string x187000_13, .int .i64 x187001_13, .int .i64 x187002_13] (0, 0) _ rfl (by (with_reducible repeat (first | refine blk_drewN ?_ _ | refine blk_drew ?_ | refine blk_alloc ?_ _)); refine blk_put (cs := #[.string x187000_13, .int .i64 x187001_13, .int .i64 0]) ?_ 2 _ rfl; (with_reducible repeat (first | refine blk_drewN ?_ _ | refine blk_drew ?_ | refine blk_alloc ?_ _)); refine blk_put (cs := #[.string x187000_13, .int .i64 0, .int .i64 0]) ?_ 1 _ rfl; (with_reducible repeat (first | refine blk_drewN ?_ _ | refine blk_drew ?_ | refine blk_alloc ?_ _)); refine blk_put (cs := #[.string (⟨#[]⟩ : ByteArray), .int .i64 0, .int .i64 0]) ?_ 0 _ rfl; (with_reducible repeat (first | refine blk_drewN ?_ _ | refine blk_drew ?_ | refine blk_alloc ?_ _)); exact BK187.out) Try.underlying44 rfl (by kernel_rfl)) rfl ?_
                exact ⟨by first | rfl | (simp [errW_none, errW_some] <;> rfl) | (simp [*, errW_none, errW_some] <;> rfl), by repeat (first | (with_reducible first | exact HB.out | apply below_alloc | apply pw_below_drewN | apply below_drew1 | refine below_set ?_ GE186.out | refine below_set ?_ GE187.out) | exact HB.out)⟩
              · rw [if_neg c54] at H
                have c54b0 : ((Int.tmod x7_13 2) == 1) = false := beq_eq_false_iff_ne.mpr c54
                have c54b1 : ((Int.tmod x7_13 2) != 1) = true := bne_iff_ne.mpr c54
                simp only [Option.some.injEq, Prod.mk.injEq] at H
                obtain ⟨rfl, rfl, rfl, rfl⟩ := H
                have hnb58 := NB186_187.out
                have hnc58 := NB187_186.out
                have hcz59_0 : wc.cell? ⟨gb186, 0, none⟩ = some (.string x187000_13) := (blk_cell BK186.out 0).trans rfl
                have hcz59_1 : wc.cell? ⟨gb186, 1, none⟩ = some (.int .i64 x187001_13) := (blk_cell BK186.out 1).trans rfl
                have hcz59_2 : wc.cell? ⟨gb186, 2, none⟩ = some (.int .i64 x187002_13) := (blk_cell BK186.out 2).trans rfl
                have hfz59_0 := blk_frozen BK186.out 0
                have hfz59_1 := blk_frozen BK186.out 1
                have hfz59_2 := blk_frozen BK186.out 2
                have hcz60_0 : wc.cell? ⟨gb187, 0, none⟩ = some (.string (⟨#[]⟩ : ByteArray)) := (blk_cell BK187.out 0).trans rfl
                have hcz60_1 : wc.cell? ⟨gb187, 1, none⟩ = some (.int .i64 0) := (blk_cell BK187.out 1).trans rfl
                have hcz60_2 : wc.cell? ⟨gb187, 2, none⟩ = some (.int .i64 0) := (blk_cell BK187.out 2).trans rfl
                have hfz60_0 := blk_frozen BK187.out 0
                have hfz60_1 := blk_frozen BK187.out 1
                have hfz60_2 := blk_frozen BK187.out 2
                go_wp2
                refine bodyPost_ret (results_ct rfl _ _ gb187 44 #[.string x187000_13, .int .i64 x187001_13, .int .i64 x187002_13] (0, 0) _ rfl (by (with_reducible repeat (first | refine blk_drewN ?_ _ | refine blk_drew ?_ | refine blk_alloc ?_ _)); refine blk_put (cs := #[.string x187000_13, .int .i64 x187001_13, .int .i64 0]) ?_ 2 _ rfl; (with_reducible repeat (first | refine blk_drewN ?_ _ | refine blk_drew ?_ | refine blk_alloc ?_ _)); refine blk_put (cs := #[.string x187000_13, .int .i64 0, .int .i64 0]) ?_ 1 _ rfl; (with_reducible repeat (first | refine blk_drewN ?_ _ | refine blk_drew ?_ | refine blk_alloc ?_ _)); refine blk_put (cs := #[.string (⟨#[]⟩ : ByteArray), .int .i64 0, .int .i64 0]) ?_ 0 _ rfl; (with_reducible repeat (first | refine blk_drewN ?_ _ | refine blk_drew ?_ | refine blk_alloc ?_ _)); exact BK187.out) Try.underlying44 rfl (by kernel_rfl)) rfl ?_
                exact ⟨by first | rfl | (simp [errW_none, errW_some] <;> rfl) | (simp [*, errW_none, errW_some] <;> rfl), by repeat (first | (with_reducible first | exact HB.out | apply below_alloc | apply pw_below_drewN | apply below_drew1 | refine below_set ?_ GE186.out | refine below_set ?_ GE187.out) | exact HB.out)⟩
            · rw [if_neg c53] at H
              have c53b0 : (x187002_13 == 0) = false := beq_eq_false_iff_ne.mpr c53
              have c53b1 : (x187002_13 != 0) = true := bne_iff_ne.mpr c53
              simp only [Option.some.injEq, Prod.mk.injEq] at H
              obtain ⟨rfl, rfl, rfl, rfl⟩ := H
              have hnb61 := NB186_187.out
              have hnc61 := NB187_186.out
              have hcz62_0 : wc.cell? ⟨gb186, 0, none⟩ = some (.string x187000_13) := (blk_cell BK186.out 0).trans rfl
              have hcz62_1 : wc.cell? ⟨gb186, 1, none⟩ = some (.int .i64 x187001_13) := (blk_cell BK186.out 1).trans rfl
              have hcz62_2 : wc.cell? ⟨gb186, 2, none⟩ = some (.int .i64 x187002_13) := (blk_cell BK186.out 2).trans rfl
              have hfz62_0 := blk_frozen BK186.out 0
              have hfz62_1 := blk_frozen BK186.out 1
              have hfz62_2 := blk_frozen BK186.out 2
              have hcz63_0 : wc.cell? ⟨gb187, 0, none⟩ = some (.string (⟨#[]⟩ : ByteArray)) := (blk_cell BK187.out 0).trans rfl
              have hcz63_1 : wc.cell? ⟨gb187, 1, none⟩ = some (.int .i64 0) := (blk_cell BK187.out 1).trans rfl
              have hcz63_2 : wc.cell? ⟨gb187, 2, none⟩ = some (.int .i64 0) := (blk_cell BK187.out 2).trans rfl
              have hfz63_0 := blk_frozen BK187.out 0
              have hfz63_1 := blk_frozen BK187.out 1
              have hfz63_2 := blk_frozen BK187.out 2
              go_wp2
              refine bodyPost_ret (results_ct rfl _ _ gb187 44 #[.string x187000_13, .int .i64 x187001_13, .int .i64 x187002_13] (0, 0) _ rfl (by (with_reducible repeat (first | refine blk_drewN ?_ _ | refine blk_drew ?_ | refine blk_alloc ?_ _)); refine blk_put (cs := #[.string x187000_13, .int .i64 x187001_13, .int .i64 0]) ?_ 2 _ rfl; (with_reducible repeat (first | refine blk_drewN ?_ _ | refine blk_drew ?_ | refine blk_alloc ?_ _)); refine blk_put (cs := #[.string x187000_13, .int .i64 0, .int .i64 0]) ?_ 1 _ rfl; (with_reducible repeat (first | refine blk_drewN ?_ _ | refine blk_drew ?_ | refine blk_alloc ?_ _)); refine blk_put (cs := #[.string (⟨#[]⟩ : ByteArray), .int .i64 0, .int .i64 0]) ?_ 0 _ rfl; (with_reducible repeat (first | refine blk_drewN ?_ _ | refine blk_drew ?_ | refine blk_alloc ?_ _)); exact BK187.out) Try.underlying44 rfl (by kernel_rfl)) rfl ?_
              exact ⟨by first | rfl | (simp [errW_none, errW_some] <;> rfl) | (simp [*, errW_none, errW_some] <;> rfl), by repeat (first | (with_reducible first | exact HB.out | apply below_alloc | apply pw_below_drewN | apply below_drew1 | refine below_set ?_ GE186.out | refine below_set ?_ GE187.out) | exact HB.out)⟩

end Go.Proofs.Yteoncgijnkfhfaa.P
