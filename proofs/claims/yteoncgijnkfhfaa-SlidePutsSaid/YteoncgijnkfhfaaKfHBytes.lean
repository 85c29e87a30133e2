/- The contracts of slices.Clone over bytes, and of the bit writer's bytes and its numbers in two's complement. -/
import Derived.Test.YteoncgijnkfhfaaKfPx0
import Derived.Test.YteoncgijnkfhfaaKfHPut
import Derived.Test.YteoncgijnkfhfaaKfHMask
import Derived.Lib.SliceRun
namespace Go.Proofs.Yteoncgijnkfhfaa.P
open Go.RowKit Go.Proofs.YteoncgijnkfhfaaW.PrintWords Go.Proofs.YteoncgijnkfhfaaW.PrintLast Go.Proofs.YteoncgijnkfhfaaW.PrintMore
set_option linter.unusedVariables false
set_option linter.unusedSimpArgs false

set_option maxHeartbeats 4000000 in
set_option maxRecDepth 100000 in
theorem cloneB_calls (A : Option Addr) (c : Nat) (l : List Int) (w : World) (hr : Kd.C (Kd.int .u8) w A l.length l) (hc : l.length ≤ c) (hm : l.length ≤ 1000000000) :
    Calls Try.prog 57 #[.slice A l.length c] w fun e w' => ∃ v, e = .returned v ∧ w'.ownsRow w.heap.size 5 1 v l.length (nums .u8 l) ∧ Below w.heap.size w w' := by
  have qT : ∀ (w : World) (a : Option Addr) (n c n' c' : Nat), (binOp .eql 38 (.slice a n c) (.slice none n' c')).run Try.prog w = .ok (.bool a.isNone) w := fun w a n c n' c' => Lib.run_eql_slice_nil w _ _ a n c n' c' Try.underlying38
  have HR := Aside0.mk hr
  clear hr
  cases A with
  | none =>
    have h0 : l = [] := by
      obtain ⟨_, _, h2⟩ := HR.out
      rcases Nat.eq_zero_or_pos l.length with h | h
      · exact List.eq_nil_of_length_eq_zero h
      · obtain ⟨ad, he, _⟩ := h2 h
        cases he
    subst h0
    go_enter Try.func57, Try.ntmps57
    go_wp2
    go_ret
    exact ⟨_, rfl, own_nil _ _ _ _, Below.refl _ _⟩
  | some ad =>
    have hin : (some ad).isNone = false := rfl
    go_enter Try.func57, Try.ntmps57
    go_wp2_with (at_builtin; refine print_append_row (w0 := w) (W := w.alloc (.cells #[] 5)) w.heap.size rfl _ _ 38 5 .u8 1 rfl Try.underlying38 wr_info (by decide) (.slice (some ⟨w.heap.size, 0, none⟩) 0 0) [] l (some ad) l.length c rfl rfl ?c1 ?c2 ?c3 ?c4 ?c5 ?_)
    case c1 => exact World.ownsRow_made w #[] 0 (Nat.le_refl _) (by unfold maxLen; omega) rfl
    case c2 => exact (Kd.reads_of_C (d := (0 : Int)) HR.out).below ((Below.refl _ _).alloc (Nat.le_refl _) _)
    case c3 => exact (Below.refl _ _).alloc (Nat.le_refl _) _
    case c4 => simp
    case c5 => simp; omega
    intro v1 w1 hown hB1 _ _
    have HO := Aside0.mk hown
    have HB := Aside0.mk hB1
    clear hown hB1
    go_wp2
    go_ret
    exact ⟨_, rfl, by simpa using HO.out, HB.out⟩

theorem owns_reads {w : World} {base : Nat} {v : Value} {l : List Int} (h : w.ownsRow base 5 1 v l.length (nums .u8 l)) : ∃ A c, v = .slice A l.length c ∧ l.length ≤ c ∧ Kd.C (Kd.int .u8) w A l.length l := by
  obtain ⟨A, c, rfl, hr⟩ := own_reads h
  exact ⟨A, c, rfl, own_le h, Kd.C_of_reads (d := (0 : Int)) (h1 := fun _ => rfl) hr⟩

set_option maxHeartbeats 4000000 in
set_option maxRecDepth 100000 in
/-- 'Bytes': its bytes, in memory of their own. -/
theorem wr_Bytes (w0 w : World) (g : Nat) (v : Value) (l : List Bool) (h : IsWr w0 w g v l) (hm : l.length ≤ 1000000000) :
    Calls Try.prog 29 #[.pointer (some ⟨g, 0, none⟩)] w fun e w' => ∃ v', e = .returned v' ∧ w'.ownsRow w.heap.size 5 1 v' (pack l).length (nums .u8 (pack l)) ∧ Below w.heap.size w w' := by
  have hc := isWr_val h
  have HW := Aside0.mk h
  clear h
  obtain ⟨A, c, rfl, hle, hr⟩ := owns_reads HW.out.2.2
  have HR := Aside0.mk hr
  have HM := Aside0.mk (show (pack l).length ≤ 1000000000 by rw [pack_length]; omega)
  clear hr
  go_enter Try.func29, Try.ntmps29
  go_wp2_with fail
  (with_reducible refine (cloneB_calls A c (pack l) _ HR.out hle HM.out).mono ?_)
  rintro e w1 ⟨v1, rfl, ho1, hb1⟩
  have HO := Aside0.mk ho1
  have HB := Aside0.mk hb1
  clear ho1 hb1
  go_wp2
  go_ret
  exact ⟨_, rfl, HO.out, HB.out⟩

end Go.Proofs.Yteoncgijnkfhfaa.P
