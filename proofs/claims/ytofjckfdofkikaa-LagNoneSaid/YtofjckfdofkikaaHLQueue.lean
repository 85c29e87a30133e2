/- The queue of tried parameters: its swap, its push. -/
import Derived.Test.YtofjckfdofkikaaPx0
import Derived.Test.YtofjckfdofkikaaPx3
import Derived.Test.YtofjckfdofkikaaPx2
import Derived.RegionTactic
import Derived.BigRegion
import Derived.Deep.RegionLaw
namespace Go.Proofs.Ytofjckfdofkikaa.P
open Go Go.RowKit Go.Proofs.YtofjckfdofkikaaW.PrintWords Go.Proofs.YtofjckfdofkikaaW.PrintLast Go.Proofs.YtofjckfdofkikaaW.PrintMore
set_option linter.unusedVariables false
set_option linter.unusedSimpArgs false

abbrev QE := S83
abbrev kq := k83
def swapL (xs : List QE) (i j : Nat) : List QE := (xs.set i (xs.getD j z83)).set j (xs.getD i z83)

theorem add0 (g m : Nat) : (⟨g, 0, none⟩ : Addr).add m = ⟨g, m, none⟩ := by
  unfold Addr.add
  by_cases h : m = 0
  · subst h; simp
  · simp [h]

abbrev putW (W : World) (g o : Nat) (x : QE) : World := ((W.setCell ⟨g, o, none⟩ (.int .i64 x.f0.f0)).setCell ⟨g, o + 1, none⟩ (.int .i64 x.f0.f1)).setCell ⟨g, o + 2, none⟩ (.int .i64 x.f1)
theorem R_put {W : World} {base g n cap : Nat} {xs : List QE} (h : kq.R 83 W base (fun _ => True) (.slice (some ⟨g, 0, none⟩) n cap) xs) (i : Nat) (hi : i < n) (x : QE) :
    kq.R 83 (putW W g (i * 3) x) base (fun _ => True) (.slice (some ⟨g, 0, none⟩) n cap) (xs.set i x) ∧ W.grownBy (putW W g (i * 3) x) (some g) := by
  obtain ⟨c, hcl, _, hcc, _⟩ := Kd.R_elem h z83 (i : Int) (by omega) (by omega)
  have hcl2 : c.length = 3 := hcl
  have hM : kq.M W base (fun _ => False) x (c.take 0 ++ [.int .i64 x.f0.f0, .int .i64 x.f0.f1, .int .i64 x.f1] ++ c.drop (0 + 3)) := by
    rw [List.take_zero, List.nil_append, List.drop_of_length_le (by omega), List.append_nil]
    exact k83_mkM W base _ x
  have := Kd.R_seg h (i : Int) (by omega) (by omega) hcl hcc (j := 0) (seg := [.int .i64 x.f0.f0, .int .i64 x.f0.f1, .int .i64 x.f1]) (Nat.le_refl _) hM (fun _ h => h.elim)
  rw [Int.toNat_natCast] at this
  exact this

set_option maxHeartbeats 8000000 in
set_option maxRecDepth 100000 in
theorem q_Swap (w0 w : World) (base : Nat) (v : Value) (xs : List QE) (i j : Nat) (hij : i ≠ j) (hi : i < xs.length) (hj : j < xs.length) (hm : xs.length ≤ 1000) (hb : base ≤ w.heap.size)
    (hB : Below base w0 w) (hR : kq.R 83 w base (fun _ => True) v xs) :
    Calls Try.prog 89 #[v, .int .i64 i, .int .i64 j] w fun e w' => e = .returned (.tuple #[]) ∧ kq.R 83 w' base (fun _ => True) v (swapL xs i j) ∧ Below base w0 w' ∧ KeepBut w w' w.heap.size v.ownBlock := by
  obtain ⟨inner, hown⟩ := Kd.R_own hR
  obtain ⟨g, cap, rfl, hg, hgb⟩ : ∃ g cap, v = .slice (some ⟨g, 0, none⟩) xs.length cap ∧ base ≤ g ∧ ∃ cur, w.heap[g]? = some (.cells cur 83 (0, 0)) := by
    rcases hown.2 with ⟨_, h0⟩ | ⟨g, cap, cur, h1, h2, h3, _⟩
    · omega
    · exact ⟨g, cap, h1, h2, cur, h3⟩
  obtain ⟨cur, hcur⟩ := hgb
  obtain ⟨A, c, he, hle, hC⟩ := Kd.R_reads hR
  cases he
  obtain ⟨ad, hA, hi0, hi1, hi2⟩ := at_T83 hC (i : Int) (by omega) (by omega)
  cases hA
  obtain ⟨ad, hA, hj0, hj1, hj2⟩ := at_T83 hC (j : Int) (by omega) (by omega)
  cases hA
  have hf : ∀ o, w.frozen? ⟨g, o, none⟩ = false := fun o => blk_frozen hcur o
  rw [add0, Int.toNat_natCast] at hi0 hi1 hi2 hj0 hj1 hj2
  obtain ⟨a, ha⟩ : ∃ a, rd_T83 xs (i : Int) = a := ⟨_, rfl⟩
  obtain ⟨b, hb'⟩ : ∃ b, rd_T83 xs (j : Int) = b := ⟨_, rfl⟩
  rw [ha] at hi0 hi1 hi2
  rw [hb'] at hj0 hj1 hj2
  obtain ⟨a0, ha0⟩ : ∃ x, a.f0.f0 = x := ⟨_, rfl⟩
  obtain ⟨a1, ha1⟩ : ∃ x, a.f0.f1 = x := ⟨_, rfl⟩
  obtain ⟨b0, hb0⟩ : ∃ x, b.f0.f0 = x := ⟨_, rfl⟩
  obtain ⟨b1, hb1⟩ : ∃ x, b.f0.f1 = x := ⟨_, rfl⟩
  obtain ⟨a2, ha2⟩ : ∃ x, a.f1 = x := ⟨_, rfl⟩
  obtain ⟨b2, hb2⟩ : ∃ x, b.f1 = x := ⟨_, rfl⟩
  rw [ha2] at hi2
  rw [hb2] at hj2
  rw [ha0] at hi0
  rw [ha1] at hi1
  rw [hb0] at hj0
  rw [hb1] at hj1
  have hp0 : (0 ≤ (i : Int)) = True := eq_true (by omega)
  have hp1 : ((i : Int) < (xs.length : Int)) = True := eq_true (by omega)
  have hp2 : (i < xs.length) = True := eq_true hi
  have hq0 : (0 ≤ (j : Int)) = True := eq_true (by omega)
  have hq1 : ((j : Int) < (xs.length : Int)) = True := eq_true (by omega)
  have hq2 : (j < xs.length) = True := eq_true hj
  have hu := Try.underlying83
  have hu2 := Try.underlying35
  have hf0 := hf (i * 3)
  have hf1 := hf (i * 3 + 1)
  have hf2 := hf (j * 3)
  have hf3 := hf (j * 3 + 1)
  have hf4 := hf (i * 3 + 2)
  have hf5 := hf (j * 3 + 2)
  have HR := Aside0.mk hR
  have HALL := Aside0.mk (And.intro ha (And.intro hb' (And.intro ha0 (And.intro ha1 (And.intro hb0 (And.intro hb1 (And.intro ha2 hb2)))))))
  have HC := Aside0.mk hcur
  have HB := Aside0.mk hB
  clear hR hown hC hcur hB hf ha hb' ha0 ha1 hb0 hb1 ha2 hb2 inner
  obtain ⟨n, hn⟩ : ∃ n, n = xs.length := ⟨_, rfl⟩
  go_enter Try.func89, Try.ntmps89
  go_wp2
  go_region
  go_end0
  obtain ⟨ea, eb, e0, e1, e2, e3, e4, e5⟩ := HALL.out
  subst e0 e1 e2 e3 e4 e5
  obtain ⟨h1, g1⟩ := R_put HR.out i hi b
  obtain ⟨h2, g2⟩ := R_put h1 j hj a
  have hgg := World.grownBy.trans g1 g2
  have hs : swapL xs i j = (xs.set i b).set j a := by unfold swapL; rw [← ea, ← eb]; rfl
  rw [hs]
  have fin : ∀ W2 : World, kq.R 83 W2 base (fun _ => True) (.slice (some ⟨g, 0, none⟩) xs.length cap) ((xs.set i b).set j a) → w.grownBy W2 (some g) →
      kq.R 83 W2.drew base (fun _ => True) (.slice (some ⟨g, 0, none⟩) xs.length cap) ((xs.set i b).set j a) ∧ Below base w0 W2.drew ∧ KeepBut w W2.drew w.heap.size (Value.slice (some ⟨g, 0, none⟩) xs.length cap).ownBlock := by
    intro W2 h2 hgg
    refine ⟨Kd.R_step h2 (fun _ _ _ => rfl), below_drew (HB.out.trans ⟨hgg.os, hgg.tape, hgg.output, hgg.size, fun k hk => by
      refine hgg.block k (Nat.lt_of_lt_of_le hk hb) (fun e => ?_)
      injection e with e
      omega⟩), ⟨hgg.size, fun k hk _ hne => hgg.block k hk hne⟩⟩
  exact ⟨rfl, fin _ h2 hgg⟩
/-- A queue at block g: these elements; what it owns is from 'base' on. -/
def IsQ (W : World) (base g : Nat) (v : Value) (xs : List QE) : Prop :=
  W.heap[g]? = some (.cells #[v] 86 (0, 0)) ∧ base ≤ g ∧ kq.R 83 W base (fun _ => True) v xs
theorem q_info : (Try.prog.info? 83).map (fun i => (i.zero, i.size, i.bytes)) = some (some (.agg #[.int .i64 0, .int .i64 0, .int .i64 0]), 3, 24) := by kernel_rfl
end Go.Proofs.Ytofjckfdofkikaa.P
