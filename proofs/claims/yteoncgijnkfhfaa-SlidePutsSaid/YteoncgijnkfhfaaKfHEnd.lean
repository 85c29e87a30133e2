/- The end of a reader: fewer than eight bits may be left, all 0. -/
import Derived.Test.YteoncgijnkfhfaaKfPx0
import Derived.Test.YteoncgijnkfhfaaKfPx1
namespace Go.Proofs.Yteoncgijnkfhfaa.P
open Go.RowKit Go.Proofs.YteoncgijnkfhfaaW.PrintWords Go.Proofs.YteoncgijnkfhfaaW.PrintLast Go.Proofs.YteoncgijnkfhfaaW.PrintMore
set_option linter.unusedVariables false
set_option linter.unusedSimpArgs false

theorem end_keep {w w1 w2 : World} {g n : Nat} (h : KeepBut w w1 g none) (k : KeepBut w1 w2 n none) (hn : w.heap.size ≤ n) : KeepBut w w2 g none :=
  ⟨Nat.le_trans h.1 k.1, fun i hi hg hr => (k.2 i (Nat.lt_of_lt_of_le hi h.1) (by omega) (by simp)).trans (h.2 i hi hg hr)⟩
def pipe_Reader_End.j (k : Nat) (b : List Int) (p e : Int) : Option (Int × Int × Int) := (pipe_Reader_Align.f k b p e).bind fun x => some (x.2, p, e)
def pipe_Reader_End.f (k : Nat) (b : List Int) (p e : Int) : Option (Int × Int × Int) :=
  if e = 0 then (pipe_Reader_Left.f b p e).bind fun l => if l.1 ≥ 8 then some (4, p, e) else pipe_Reader_End.j k b p e
  else pipe_Reader_End.j k b p e
set_option maxHeartbeats 8000000 in
set_option maxRecDepth 100000 in
theorem pipe_Reader_End.calls (k : Nat) (g : Nat) (s0_0 : List Int) (s0_1 : Int) (s0_2 : Int) (r1 : Int) (r2 : Int) (r3 : Int) (w0 w : World) (hI : IsS74 w0 w g s0_0 s0_1 s0_2) (hB : Below w0.heap.size w0 w) (h : pipe_Reader_End.f k s0_0 s0_1 s0_2 = some (r1, r2, r3)) :
    Calls Try.prog 31 #[.pointer (some ⟨g, 0, none⟩)] w fun e w' => e = .returned (.int .i64 r1) ∧ IsS74 w0 w' g s0_0 r2 r3 ∧ Below w0.heap.size w0 w' ∧ KeepBut w w' g none := by
  have HI := Aside0.mk hI
  have HB := Aside0.mk hB
  have huR := Try.underlying74
  obtain ⟨A0, c0, hg0, hge, hC0⟩ := hI
  have HG := Aside0.mk hg0
  have HC := Aside0.mk hC0
  have hc0 := cellS74_0 hg0
  have hc1 := cellS74_1 hg0
  have hc2 := cellS74_2 hg0
  clear hB hg0 hC0
  have hlt := HI.out.lt
  have hlast : pipe_Reader_End.j k s0_0 s0_1 s0_2 = some (r1, r2, r3) → ∃ x, pipe_Reader_Align.f k s0_0 s0_1 s0_2 = some (x, r1) ∧ r2 = s0_1 ∧ r3 = s0_2 := by
    intro h
    obtain ⟨⟨x, y⟩, h1, h2⟩ := Option.bind_eq_some_iff.mp h
    simp only [Option.some.injEq, Prod.mk.injEq] at h2
    obtain ⟨rfl, rfl, rfl⟩ := h2
    exact ⟨x, h1, rfl, rfl⟩
  unfold pipe_Reader_End.f at h
  go_enter Try.func31, Try.ntmps31
  by_cases h0 : s0_2 = 0
  · subst h0
    rw [if_pos rfl] at h
    obtain ⟨⟨l, lp, le⟩, hl, h⟩ := Option.bind_eq_some_iff.mp h
    simp only [pipe_Reader_Left.f, Option.some.injEq, Prod.mk.injEq] at hl
    obtain ⟨hl, rfl, rfl⟩ := hl
    have hl' : pipe_Reader_Left.f s0_0 s0_1 0 = some (l, s0_1, 0) := by rw [pipe_Reader_Left.f, hl]
    go_wp2_with fail
    (with_reducible refine (pipe_Reader_Left.calls g s0_0 s0_1 0 l _ _ w0 w HI.out HB.out hl').mono ?_)
    rintro e w1 ⟨rfl, hi1, hb1, hk1⟩
    have HI1 := Aside0.mk hi1
    have HB1 := Aside0.mk hb1
    have HK1 := Aside0.mk hk1
    obtain ⟨A1, c1, hg1, hge1, hC1⟩ := hi1
    have HN := Aside0.mk (IsS74.new w0 w1 A1 c1 s0_0 s0_1 0 hb1 hC1)
    have HBN := Aside0.mk (below_alloc hb1 (.cells #[.slice A1 s0_0.length c1, .int .i64 s0_1, .int .i64 0] 74))
    have HI1' := Aside0.mk (HI1.out.alloc (.cells #[.slice A1 s0_0.length c1, .int .i64 s0_1, .int .i64 0] 74))
    have HK1' := Aside0.mk (HK1.out.trans (KeepBut.of_below (below_alloc (Below.refl w1.heap.size w1) (.cells #[.slice A1 s0_0.length c1, .int .i64 s0_1, .int .i64 0] 74)) g none) (.inl rfl))
    have hd0 := cellS74_0 hg1
    have hd1 := cellS74_1 hg1
    have hd2 := cellS74_2 hg1
    have hlt1 := HI1.out.lt
    clear hb1 hk1 hg1 hC1
    by_cases h8 : l ≥ 8
    · rw [if_pos h8] at h
      simp only [Option.some.injEq, Prod.mk.injEq] at h
      obtain ⟨rfl, rfl, rfl⟩ := h
      have hb8 := decide_eq_true h8
      go_wp2
      go_ret
      exact ⟨rfl, HI1.out, HB1.out, HK1.out⟩
    · rw [if_neg h8] at h
      obtain ⟨x, hx, rfl, rfl⟩ := hlast h
      have hb8 := decide_eq_false h8
      go_wp2_with fail
      (with_reducible refine (pipe_Reader_Align.calls k w1.heap.size s0_0 _ 0 x r1 w0 _ HN.out HBN.out hx).mono ?_)
      rintro e w2 ⟨rfl, hi2, hb2, hk2⟩
      have HI2 := Aside0.mk ((HI1'.out.kept (S := fun k => k = w1.heap.size) ⟨hk2.1, fun i hi hn => hk2.2 i hi hn (by simp)⟩ (Nat.ne_of_lt hlt1)))
      have HB2 := Aside0.mk hb2
      have HK2 := Aside0.mk (end_keep HK1'.out hk2 HK1.out.1)
      obtain ⟨A2, c2, hg2, hge2, hC2⟩ := hi2
      have he2 := cellS74_2 hg2
      clear hb2 hk2 hg2 hC2
      go_wp2
      go_ret
      exact ⟨rfl, HI2.out, HB2.out, HK2.out⟩
  · rw [if_neg h0] at h
    obtain ⟨x, hx, rfl, rfl⟩ := hlast h
    have hb : (r3 == 0) = false := beq_eq_false_iff_ne.mpr h0
    have HN := Aside0.mk (IsS74.new w0 w A0 c0 s0_0 r2 r3 HB.out HC.out)
    have HBN := Aside0.mk (below_alloc HB.out (.cells #[.slice A0 s0_0.length c0, .int .i64 r2, .int .i64 r3] 74))
    have HI1' := Aside0.mk (HI.out.alloc (.cells #[.slice A0 s0_0.length c0, .int .i64 r2, .int .i64 r3] 74))
    have HK1' := Aside0.mk (KeepBut.of_below (below_alloc (Below.refl w.heap.size w) (.cells #[.slice A0 s0_0.length c0, .int .i64 r2, .int .i64 r3] 74)) g none)
    go_wp2_with fail
    (with_reducible refine (pipe_Reader_Align.calls k w.heap.size s0_0 _ r3 x r1 w0 _ HN.out HBN.out hx).mono ?_)
    rintro e w2 ⟨rfl, hi2, hb2, hk2⟩
    have HI2 := Aside0.mk ((HI1'.out.kept (S := fun k => k = w.heap.size) ⟨hk2.1, fun i hi hn => hk2.2 i hi hn (by simp)⟩ (Nat.ne_of_lt hlt)))
    have HB2 := Aside0.mk hb2
    have HK2 := Aside0.mk (end_keep HK1'.out hk2 (Nat.le_refl _))
    obtain ⟨A2, c2, hg2, hge2, hC2⟩ := hi2
    have he2 := cellS74_2 hg2
    clear hb2 hk2 hg2 hC2
    go_wp2
    go_ret
    exact ⟨rfl, HI2.out, HB2.out, HK2.out⟩
end Go.Proofs.Yteoncgijnkfhfaa.P
