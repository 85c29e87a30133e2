/- The queue of tried parameters: its swap, its push. -/
import Derived.Test.YteoncgijnkfhfaaKePx0
import Derived.Test.YteoncgijnkfhfaaKePx5
import Derived.Test.YteoncgijnkfhfaaKePx4
import Derived.RegionTactic
import Derived.BigRegion
import Derived.Deep.RegionLaw
namespace Go.Proofs.Yteoncgijnkfhfaa.P
open Go Go.RowKit Go.Proofs.YteoncgijnkfhfaaW.PrintWords Go.Proofs.YteoncgijnkfhfaaW.PrintLast Go.Proofs.YteoncgijnkfhfaaW.PrintMore
set_option linter.unusedVariables false
set_option linter.unusedSimpArgs false

abbrev QE := S105
abbrev kq := k105
def swapL (xs : List QE) (i j : Nat) : List QE := (xs.set i (xs.getD j z105)).set j (xs.getD i z105)

theorem add0 (g m : Nat) : (⟨g, 0, none⟩ : Addr).add m = ⟨g, m, none⟩ := by
  unfold Addr.add
  by_cases h : m = 0
  · subst h; simp
  · simp [h]

theorem R_put {W : World} {base g n cap : Nat} {xs : List QE} (h : kq.R 105 W base (fun _ => True) (.slice (some ⟨g, 0, none⟩) n cap) xs) (i : Nat) (hi : i < n) (x : QE) :
    kq.R 105 ((W.setCell ⟨g, i * 2, none⟩ (.int .i64 x.f0)).setCell ⟨g, i * 2 + 1, none⟩ (.int .i64 x.f1)) base (fun _ => True) (.slice (some ⟨g, 0, none⟩) n cap) (xs.set i x) ∧ W.grownBy ((W.setCell ⟨g, i * 2, none⟩ (.int .i64 x.f0)).setCell ⟨g, i * 2 + 1, none⟩ (.int .i64 x.f1)) (some g) := by
  obtain ⟨c, hcl, _, hcc, _⟩ := Kd.R_elem h z105 (i : Int) (by omega) (by omega)
  have hcl2 : c.length = 2 := hcl
  have hM : kq.M W base (fun _ => False) x (c.take 0 ++ [.int .i64 x.f0, .int .i64 x.f1] ++ c.drop (0 + 2)) := by
    rw [List.take_zero, List.nil_append, List.drop_of_length_le (by omega), List.append_nil]
    exact k105_mkM W base _ x
  have := Kd.R_seg h (i : Int) (by omega) (by omega) hcl hcc (j := 0) (seg := [.int .i64 x.f0, .int .i64 x.f1]) (Nat.le_refl _) hM (fun _ h => h.elim)
  rw [Int.toNat_natCast] at this
  exact this

set_option maxHeartbeats 8000000 in
set_option maxRecDepth 100000 in
theorem q_Swap (w0 w : World) (base : Nat) (v : Value) (xs : List QE) (i j : Nat) (hij : i ≠ j) (hi : i < xs.length) (hj : j < xs.length) (hm : xs.length ≤ 1000) (hb : base ≤ w.heap.size)
    (hB : Below base w0 w) (hR : kq.R 105 w base (fun _ => True) v xs) :
    Calls Try.prog 96 #[v, .int .i64 i, .int .i64 j] w fun e w' => e = .returned (.tuple #[]) ∧ kq.R 105 w' base (fun _ => True) v (swapL xs i j) ∧ Below base w0 w' ∧ KeepBut w w' w.heap.size v.ownBlock := by
  obtain ⟨inner, hown⟩ := Kd.R_own hR
  obtain ⟨g, cap, rfl, hg, hgb⟩ : ∃ g cap, v = .slice (some ⟨g, 0, none⟩) xs.length cap ∧ base ≤ g ∧ ∃ cur, w.heap[g]? = some (.cells cur 105 (0, 0)) := by
    rcases hown.2 with ⟨_, h0⟩ | ⟨g, cap, cur, h1, h2, h3, _⟩
    · omega
    · exact ⟨g, cap, h1, h2, cur, h3⟩
  obtain ⟨cur, hcur⟩ := hgb
  obtain ⟨A, c, he, hle, hC⟩ := Kd.R_reads hR
  cases he
  obtain ⟨ad, hA, hi0, hi1⟩ := at_T105 hC (i : Int) (by omega) (by omega)
  cases hA
  obtain ⟨ad, hA, hj0, hj1⟩ := at_T105 hC (j : Int) (by omega) (by omega)
  cases hA
  have hf : ∀ o, w.frozen? ⟨g, o, none⟩ = false := fun o => blk_frozen hcur o
  rw [add0, Int.toNat_natCast] at hi0 hi1 hj0 hj1
  obtain ⟨a, ha⟩ : ∃ a, rd_T105 xs (i : Int) = a := ⟨_, rfl⟩
  obtain ⟨b, hb'⟩ : ∃ b, rd_T105 xs (j : Int) = b := ⟨_, rfl⟩
  rw [ha] at hi0 hi1
  rw [hb'] at hj0 hj1
  obtain ⟨a0, ha0⟩ : ∃ x, a.f0 = x := ⟨_, rfl⟩
  obtain ⟨a1, ha1⟩ : ∃ x, a.f1 = x := ⟨_, rfl⟩
  obtain ⟨b0, hb0⟩ : ∃ x, b.f0 = x := ⟨_, rfl⟩
  obtain ⟨b1, hb1⟩ : ∃ x, b.f1 = x := ⟨_, rfl⟩
  rw [ha0] at hi0
  rw [ha1] at hi1
  rw [hb0] at hj0
  rw [hb1] at hj1
  have hp0 : (0 ≤ (i : Int)) = True := eq_true (by omega)
  have hp1 : ((i : Int) < (xs.length : Int)) = True := eq_true (by omega)
  have hp2 : (i < xs.length) = True := eq_true hi
  have hq0 : (0 ≤ (j : Int)) = True := eq_true (by omega)
  have hq1 : ((j : Int) < (xs.length : Int)) = True := eq_true (by omega)
  have hq2 : (j < xs.length) = True := eq_true hj
  have hu := Try.underlying105
  have hf0 := hf (i * 2)
  have hf1 := hf (i * 2 + 1)
  have hf2 := hf (j * 2)
  have hf3 := hf (j * 2 + 1)
  have HR := Aside0.mk hR
  have HALL := Aside0.mk (And.intro ha (And.intro hb' (And.intro ha0 (And.intro ha1 (And.intro hb0 hb1)))))
  have HC := Aside0.mk hcur
  have HB := Aside0.mk hB
  clear hR hown hC hcur hB hf ha hb' ha0 ha1 hb0 hb1 inner
  obtain ⟨n, hn⟩ : ∃ n, n = xs.length := ⟨_, rfl⟩
  go_enter Try.func96, Try.ntmps96
  go_wp2
  go_region
  go_end0
  obtain ⟨ea, eb, e0, e1, e2, e3⟩ := HALL.out
  subst e0 e1 e2 e3
  obtain ⟨h1, g1⟩ := R_put HR.out i hi b
  obtain ⟨h2, g2⟩ := R_put h1 j hj a
  have hgg := World.grownBy.trans g1 g2
  refine ⟨rfl, ?_, ?_, ?_⟩
  · have hs : swapL xs i j = (xs.set i b).set j a := by unfold swapL; rw [← ea, ← eb]; rfl
    rw [hs]
    exact Kd.R_step h2 (fun _ _ _ => rfl)
  · exact below_drew (HB.out.trans ⟨hgg.os, hgg.tape, hgg.output, hgg.size, fun k hk => by
      refine hgg.block k (Nat.lt_of_lt_of_le hk hb) (fun e => ?_)
      injection e with e
      omega⟩)
  · exact ⟨hgg.size, fun k hk _ hne => hgg.block k hk hne⟩
/-- A queue at block g: these elements; what it owns is from 'base' on. -/
def IsQ (W : World) (base g : Nat) (v : Value) (xs : List QE) : Prop :=
  W.heap[g]? = some (.cells #[v] 101 (0, 0)) ∧ base ≤ g ∧ kq.R 105 W base (fun _ => True) v xs
theorem q_info : (Try.prog.info? 105).map (fun i => (i.zero, i.size, i.bytes)) = some (some (.agg #[.int .i64 0, .int .i64 0]), 2, 16) := by kernel_rfl

set_option maxHeartbeats 8000000 in
set_option maxRecDepth 100000 in
theorem q_Push (w0 w : World) (base g : Nat) (v : Value) (xs : List QE) (x : QE) (hm : xs.length ≤ 1000) (hb : base ≤ w.heap.size) (hB : Below base w0 w) (hQ : IsQ w base g v xs) :
    Calls Try.prog 98 #[.pointer (some ⟨g, 0, none⟩), .iface 105 (.agg #[.int .i64 x.f0, .int .i64 x.f1])] w fun e w' => e = .returned (.tuple #[]) ∧ (∃ v', IsQ w' base g v' (xs ++ [x])) ∧ Below base w0 w' := by
  obtain ⟨hg, hbg, hR⟩ := hQ
  obtain ⟨x0, x1⟩ := x
  have hc0 := (blk_cell hg 0).trans rfl
  have hf0 := blk_frozen hg 0
  obtain ⟨A, c, rfl⟩ := Kd.R_slice hR
  have hu := Try.underlying105
  have HR := Aside0.mk hR
  have HG := Aside0.mk hg
  have HB := Aside0.mk hB
  clear hR hg hB
  have hta : ∀ w, (Instr.typeAssert (.iface 105 (.agg #[.int .i64 x0, .int .i64 x1])) 20 105 true).run Try.prog w = .ok (.tuple #[.agg #[.int .i64 x0, .int .i64 x1], .bool true]) w := fun _ => by kernel_rfl
  go_enter Try.func98, Try.ntmps98
  go_wp2
  have hx := blk_new w (.cells #[.int .i64 x0, .int .i64 x1] 105)
  have hb1 := below_alloc (Below.refl w.heap.size w) (.cells #[.int .i64 x0, .int .i64 x1] 105)
  generalize w.alloc (.cells #[.int .i64 x0, .int .i64 x1] 105) = w1 at hx hb1 ⊢
  have hG1 := blk_below HG.out hb1
  have hc1 := (blk_cell hG1 0).trans rfl
  have hc1a := (blk_cell (blk_alloc hG1 (.cells #[.int .i64 x0, .int .i64 x1] 105)) 0).trans rfl
  have hx0 := (blk_cell hx 0).trans rfl
  have hx1 := (blk_cell hx 1).trans rfl
  have HG1 := Aside0.mk (blk_drew hG1)
  have HR1 := Aside0.mk (Kd.R_drew (Kd.R_below HR.out hb1))
  have HB1 := Aside0.mk (below_drew (HB.out.trans (hb1.mono hb)))
  have hsz1 : base ≤ w1.drew.heap.size := Nat.le_trans hb hb1.size
  have HSZ := Aside0.mk hsz1
  have HL := Aside0.mk (show (xs.length + 1) * 16 ≤ 140737488355328 by omega)
  have HP := Aside0.mk (k105_mkM w1.drew base (fun _ => False) (⟨x0, x1⟩ : QE))
  clear hx hb1 hG1 hc0 hf0 hsz1
  go_region_law (refine Kd.R_append_step kq (w0 := w0) base (by rfl) (.tmp 15) (.tmp 17) 101 105 (.agg #[.int .i64 0, .int .i64 0]) 16 rfl Try.underlying101 q_info rfl (by decide) (by decide) (.slice A xs.length c) xs ⟨x0, x1⟩ [.int .i64 x0, .int .i64 x1] (fun _ => True) (fun _ => False) rfl rfl HP.out (fun _ hk => hk.elim) (fun _ _ => trivial) HR1.out HB1.out HSZ.out HL.out ?_; intro v' w2 hr2 hbl2 hg2 hat2; obtain ⟨A2, c2, rfl⟩ := Kd.R_slice hr2; have hG2 := blk_grown HG1.out hg2 (Kd.R_ne HR1.out HG1.out (by decide)); have hc2 := (blk_cell hG2 0).trans rfl; have hf2 := blk_frozen hG2 0; have HG2 := Aside0.mk hG2; have HR2 := Aside0.mk hr2; have HB2 := Aside0.mk hbl2; clear hr2 hbl2 hg2 hat2 hG2)
  all_goals
    go_end0
    have hR := HR2.out
    rw [show (xs ++ [(⟨x0, x1⟩ : QE)]).length = xs.length + 1 by simp] at hR
    exact ⟨rfl, ⟨_, blk_put HG2.out 0 _ rfl, hbg, Kd.R_set hR HG2.out (by decide) 0 _⟩, HB2.out.setCell (p := ⟨g, 0, none⟩) hbg _⟩
end Go.Proofs.Yteoncgijnkfhfaa.P
