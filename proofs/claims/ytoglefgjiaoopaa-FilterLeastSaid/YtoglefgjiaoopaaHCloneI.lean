/- slices.Clone over whole numbers. -/
import Derived.Test.YtoglefgjiaoopaaPx0
import Derived.Lib.SliceRun
namespace Go.Proofs.Ytoglefgjiaoopaa.P
open Go.RowKit Go.Proofs.YtoglefgjiaoopaaW.PrintWords Go.Proofs.YtoglefgjiaoopaaW.PrintLast Go.Proofs.YtoglefgjiaoopaaW.PrintMore
set_option linter.unusedVariables false
set_option linter.unusedSimpArgs false

theorem int_info : (Try.prog.info? 3).map (fun i => (i.zero, i.size, i.bytes)) = some (some (.int .i64 0), 1, 8) := by kernel_rfl
set_option maxHeartbeats 4000000 in
set_option maxRecDepth 100000 in
theorem cloneI_calls (A : Option Addr) (c : Nat) (l : List Int) (w : World) (hr : Kd.C (Kd.int .i64) w A l.length l) (hc : l.length ≤ c) (hm : l.length ≤ 1000000000) :
    Calls Try.prog 41 #[.slice A l.length c] w fun e w' => ∃ v, e = .returned v ∧ w'.ownsRow w.heap.size 3 1 v l.length (nums .i64 l) ∧ Below w.heap.size w w' := by
  have qT : ∀ (w : World) (a : Option Addr) (n c n' c' : Nat), (binOp .eql 22 (.slice a n c) (.slice none n' c')).run Try.prog w = .ok (.bool a.isNone) w := fun w a n c n' c' => Lib.run_eql_slice_nil w _ _ a n c n' c' Try.underlying22
  have HR := Aside0.mk hr
  clear hr
  cases A with
  | none =>
    have h0 : l = [] := by
      obtain ⟨_, _, h2⟩ := HR.out
      rcases Nat.eq_zero_or_pos l.length with h | h
      · exact List.eq_nil_of_length_eq_zero h
      · obtain ⟨ad, he, _⟩ := h2 h
        cases he
    subst h0
    go_enter Try.func41, Try.ntmps41
    go_wp2
    go_ret
    exact ⟨_, rfl, own_nil _ _ _ _, Below.refl _ _⟩
  | some ad =>
    have hin : (some ad).isNone = false := rfl
    go_enter Try.func41, Try.ntmps41
    go_wp2_with (at_builtin; refine print_append_row (w0 := w) (W := w.alloc (.cells #[] 3)) w.heap.size rfl _ _ 22 3 .i64 8 rfl Try.underlying22 int_info (by decide) (.slice (some ⟨w.heap.size, 0, none⟩) 0 0) [] l (some ad) l.length c rfl rfl ?c1 ?c2 ?c3 ?c4 ?c5 ?_)
    case c1 => exact World.ownsRow_made w #[] 0 (Nat.le_refl _) (by unfold maxLen; omega) rfl
    case c2 => exact (Kd.reads_of_C (d := (0 : Int)) HR.out).below ((Below.refl _ _).alloc (Nat.le_refl _) _)
    case c3 => exact (Below.refl _ _).alloc (Nat.le_refl _) _
    case c4 => simp
    case c5 => simp; omega
    intro v1 w1 hown hB1 _ _
    have HO := Aside0.mk hown
    have HB := Aside0.mk hB1
    clear hown hB1
    go_wp2
    go_ret
    exact ⟨_, rfl, by simpa using HO.out, HB.out⟩
theorem owns_readsI {w : World} {base : Nat} {v : Value} {l : List Int} (h : w.ownsRow base 3 1 v l.length (nums .i64 l)) : ∃ A c, v = .slice A l.length c ∧ l.length ≤ c ∧ Kd.C (Kd.int .i64) w A l.length l := by
  obtain ⟨A, c, rfl, hr⟩ := own_reads h
  exact ⟨A, c, rfl, own_le h, Kd.C_of_reads (d := (0 : Int)) (h1 := fun _ => rfl) hr⟩
end Go.Proofs.Ytoglefgjiaoopaa.P
