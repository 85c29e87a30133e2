/- The pure statement of the law WeftBest. -/
import Derived.Test.YtlebgjcpidpgnaaPx0
import Derived.Test.YtlebgjcpidpgnaaPx14
import Derived.Test.YtlebgjcpidpgnaaPx12
import Derived.Test.YtlebgjcpidpgnaaPx13
import Derived.Test.YtlebgjcpidpgnaaUWeft2
namespace Go.Proofs.Ytlebgjcpidpgnaa.Pure
open Go.RowKit Go.Proofs.Ytlebgjcpidpgnaa.P Go.Proofs.YtlebgjcpidpgnaaW.PrintWords Go.Proofs.YtlebgjcpidpgnaaW.PrintLast Go.Proofs.YtlebgjcpidpgnaaW.PrintMore
set_option linter.unusedVariables false
set_option linter.unusedSimpArgs false

/-- The sum of sizes of the first n. -/
def sumZ (l : List Int) : Nat → Int
  | 0 => 0
  | n + 1 => if rd l n < 0 then sumZ l n - rd l n else sumZ l n + rd l n
def smallL (l : List Int) : Prop := l.length ≤ 60 ∧ ∀ i : Nat, i < l.length → -100000000 ≤ rd l i ∧ rd l i ≤ 100000000
theorem sumZ_range {l : List Int} (h : smallL l) : ∀ n : Nat, n ≤ l.length → 0 ≤ sumZ l n ∧ sumZ l n ≤ n * 100000000 := by
  intro n
  induction n with
  | zero => intro _; simp [sumZ]
  | succ n ih =>
    intro hn
    have h1 := ih (by omega)
    have h2 := h.2 n (by omega)
    rw [sumZ]
    split <;> omega
theorem size_l0 {l : List Int} (h : smallL l) (d : Nat) : ∀ (k i : Nat), i + d = l.length → d < k → weft_size.l0 k (sumZ l i) l l.length i = some (sumZ l l.length) := by
  induction d with
  | zero =>
    intro k i hi hk
    obtain ⟨k, rfl, _⟩ := pred_k hk
    simp only [weft_size.l0]
    rw [if_neg (by omega), show i = l.length by omega]
  | succ d ih =>
    intro k i hi hk
    obtain ⟨k, rfl, _⟩ := pred_k hk
    simp only [weft_size.l0]
    have hl := h.1
    have h1 := sumZ_range h i (by omega)
    have h2 := h.2 i (by omega)
    have e : wrap64 (sumZ l i + mx (rd l i) (wrap64 (-rd l i))) = sumZ l (i + 1) := by
      rw [w64 (x := -rd l i) (by omega) (by omega), mx_eq, w64 (by omega) (by omega), sumZ]
      split <;> omega
    rw [if_pos (by omega), if_pos (by omega), if_pos (by omega), e, w64 (x := (i : Int) + 1) (by omega) (by omega)]
    exact ih k (i + 1) (by omega) (by omega)
theorem size_ok {l : List Int} (h : smallL l) {k : Nat} (hk : 60 < k) : weft_size.f k l = some (sumZ l l.length) := size_l0 h l.length k 0 (by omega) (by have := h.1; omega)
theorem sum_l0 {l : List Int} (h : smallL l) (d : Nat) : ∀ (k i : Nat), i + d = l.length → d < k → sackbutref07_Sum.l0 k l (sumZ l i) l.length i = some (sumZ l l.length) := by
  induction d with
  | zero =>
    intro k i hi hk
    obtain ⟨k, rfl, _⟩ := pred_k hk
    simp only [sackbutref07_Sum.l0]
    rw [if_neg (by omega), show i = l.length by omega]
  | succ d ih =>
    intro k i hi hk
    obtain ⟨k, rfl, _⟩ := pred_k hk
    simp only [sackbutref07_Sum.l0]
    have hl := h.1
    have h1 := sumZ_range h i (by omega)
    have h2 := h.2 i (by omega)
    have hih := ih k (i + 1) (by omega) (by omega)
    rw [sumZ] at hih
    rw [if_pos (by omega), if_pos (by omega), if_pos (by omega), w64 (x := (i : Int) + 1) (by omega) (by omega)]
    by_cases hn : rd l i < 0
    · rw [if_pos hn] at hih ⊢
      rw [w64 (by omega) (by omega)]
      exact hih
    · rw [if_neg hn] at hih ⊢
      rw [w64 (by omega) (by omega)]
      exact hih
theorem sum_ok {l : List Int} (h : smallL l) {k : Nat} (hk : 60 < k) : sackbutref07_Sum.f k l = some (sumZ l l.length) := sum_l0 h l.length k 0 (by omega) (by have := h.1; omega)
theorem own_small {l : List Int} (hl : l.length ≤ 60) (h : l.any farP = false) : smallL l := ⟨hl, fun i hi => by have := no_far h hi; omega⟩
theorem rest_small {own m : List Int} {g : Int} (hl : own.length ≤ 60) (ho : own.any farP = false) (hm : m.any farP = false) (hg : 0 ≤ g ∧ g ≤ 15) : smallL (wresZ 0 g 0 own m) := by
  refine ⟨by rw [wresZ_length]; exact hl, fun i hi => ?_⟩
  rw [wresZ_length] at hi
  have h1 := no_far ho hi
  have h2 := fore_small (g0 := 0) (g1 := g) (g2 := 0) (by omega) (by omega) (by omega) hm i
  unfold wresZ
  rw [rd_tab hi]
  unfold wresF
  rw [w64 (by omega) (by omega)]
  omega
theorem fore_none' (l : List Int) (i : Nat) : foreI 0 0 0 l i = 0 := by
  unfold foreI foreT
  rw [Int.zero_mul, Int.zero_mul, Int.zero_mul]
  decide +kernel
theorem wresZ_none' {own master : List Int} (h : own.any farP = false) : wresZ 0 0 0 own master = own := by
  refine ext_rd (wresZ_length _ _ _ _ _) fun i hi => ?_
  rw [wresZ_length] at hi
  have hb := no_far h hi
  unfold wresZ
  rw [rd_tab hi]
  unfold wresF
  rw [fore_none', Int.sub_zero, w64 (by omega) (by omega)]
def sumR (own m : List Int) (g : Int) : Int := sumZ (wresZ 0 g 0 own m) (wresZ 0 g 0 own m).length
theorem good_g {g : Int} (hg : 1 ≤ g ∧ g ≤ 15) : goodW true 0 0 g 0 = true := by
  have h1 : wOut g = false := by
    unfold wOut
    rw [decide_eq_false (by omega), decide_eq_false (by omega)]
    rfl
  unfold goodW
  rw [if_neg (by simp), h1, decide_eq_false (show ¬ ((0 : Int) = 0 ∧ g = 0 ∧ (0 : Int) = 0) by omega)]
  decide
/-- Both searches find the same, no worse than nothing. -/
theorem best_l0 {own m : List Int} (hl : own.length ≤ 60) (hlm : own.length = m.length) (ho : own.any farP = false) (hm : m.any farP = false) (d : Nat) : ∀ (k : Nat) (g b : Int), 1 ≤ g → g + d = 16 → 0 ≤ b → b ≤ 15 → sumR own m b ≤ sumR own m 0 → 200 + d < k →
    ∃ o : Int, weft_Best.l0 k own m (sumR own m b) g 0 b 0 = some (0, o, 0) ∧ sackbutref11_Best.l0 k own m (sumR own m b) g 0 b 0 = some (0, o, 0) ∧ 0 ≤ o ∧ o ≤ 15 ∧ sumR own m o ≤ sumR own m 0 := by
  induction d with
  | zero =>
    intro k g b hg hd hb0 hb1 hle hk
    obtain ⟨k, rfl, _⟩ := pred_k (show 0 < k by omega)
    refine ⟨b, ?_, ?_, hb0, hb1, hle⟩
    · simp only [weft_Best.l0]
      rw [if_neg (by omega)]
    · simp only [sackbutref11_Best.l0]
      rw [if_neg (by omega)]
  | succ d ih =>
    intro k g b hg hd hb0 hb1 hle hk
    obtain ⟨k, rfl, _⟩ := pred_k (show 0 < k by omega)
    have hsm := rest_small (g := g) hl ho hm (by omega)
    have hR : wrestR true 0 0 g 0 own m = (wresZ 0 g 0 own m, 0) := by
      unfold wrestR
      rw [if_pos (good_g (by omega)), if_pos hlm, if_neg (by rw [ho]; simp), if_neg (by rw [hm]; simp)]
    simp only [weft_Best.l0, sackbutref11_Best.l0]
    rw [if_pos (by omega), if_pos (by omega), wrest_ok 0 g 0 (by omega) (by omega), bs, size_ok hsm (by omega), bs, rRest_ok true 0 0 g 0 (by omega) (by omega) (by omega), bs, hR, sum_ok hsm (by omega), bs, w64 (x := g + 1) (by omega) (by omega)]
    show ∃ o : Int, (if sumR own m g < sumR own m b then weft_Best.l0 k own m (sumR own m g) (g + 1) 0 g 0 else weft_Best.l0 k own m (sumR own m b) (g + 1) 0 b 0) = _ ∧ (if sumR own m g < sumR own m b then sackbutref11_Best.l0 k own m (sumR own m g) (g + 1) 0 g 0 else sackbutref11_Best.l0 k own m (sumR own m b) (g + 1) 0 b 0) = _ ∧ _
    by_cases hlt : sumR own m g < sumR own m b
    · rw [if_pos hlt, if_pos hlt]
      exact ih k (g + 1) g (by omega) (by omega) (by omega) (by omega) (by omega) (by omega)
    · rw [if_neg hlt, if_neg hlt]
      exact ih k (g + 1) b (by omega) (by omega) hb0 hb1 hle (by omega)

theorem WeftBest : ∀ (l_1 : List Int) (l_2 : List Int), l_1.length ≤ maxLen → (∀ x ∈ l_1, (Lit.int .i64 x).wf = true) → l_2.length ≤ maxLen → (∀ x ∈ l_2, (Lit.int .i64 x).wf = true) → ∃ k, sackbutlaw11_WeftBest.f k l_1 l_2 = some true := by
  intro own master _ _ _ _
  refine ⟨1000 + 1, ?_⟩
  unfold sackbutlaw11_WeftBest.f
  rw [awake11 (by omega), bs, if_pos rfl]
  have hend : sackbutlaw11_WeftBest.j0 (1000 + 1) true own master = some true := by
    simp only [sackbutlaw11_WeftBest.j0]
    rw [if_pos trivial, awake11 (by omega), bs]
  by_cases h1 : (own.length : Int) > 60
  · rw [if_pos h1, hend]
  rw [if_neg h1]
  by_cases h2 : own.length = master.length
  case neg =>
    have hb : ((own.length : Int) != (master.length : Int)) = true := by rw [bne_iff_ne]; omega
    rw [hb, hend]
  have hb : ((own.length : Int) != (master.length : Int)) = false := by rw [bne_eq_false_iff_eq]; omega
  rw [hb]
  simp only [sackbutlaw11_WeftBest.j0]
  rw [if_neg (by simp), rRest_ok false 0 0 0 0 (by omega) (by omega) (by omega), bs]
  by_cases hz : (wrestR false 0 0 0 0 own master).2 = 0
  case neg => rw [if_neg hz]
  obtain ⟨_, _, ha, hbm, _⟩ := wrestR_zero hz
  have h00 : sumR own master 0 = sumZ own own.length := by
    unfold sumR
    rw [wresZ_none' ha]
  obtain ⟨o, ho1, ho2, ho3, ho4, ho5⟩ := best_l0 (own := own) (m := master) (by omega) h2 ha hbm 15 1000 1 0 (by omega) (by omega) (by omega) (by omega) (Int.le_refl _) (by omega)
  rw [h00] at ho1 ho2 ho5
  have hB : weft_Best.f 1000 own master = some (0, o, 0) := by
    unfold weft_Best.f
    rw [size_ok (own_small (by omega) ha) (by omega), bs]
    exact ho1
  have hB2 : sackbutref11_Best.f 1000 own master = some (0, o, 0) := by
    unfold sackbutref11_Best.f
    rw [sum_ok (own_small (by omega) ha) (by omega), bs]
    exact ho2
  have hcmp : (!((0 : Int) == 0) || (!(o == o) || (!((0 : Int) == 0)))) = false := by simp
  have hgood : goodW (!((0 : Int) == 0) || (!(o == 0) || (!((0 : Int) == 0)))) 0 0 o 0 = true := by
    by_cases hoz : o = 0
    · subst hoz
      decide
    · have : (!((0 : Int) == 0) || (!(o == 0) || (!((0 : Int) == 0)))) = true := by simp [hoz]
      rw [this]
      exact good_g (by omega)
  have hR : wrestR (!((0 : Int) == 0) || (!(o == 0) || (!((0 : Int) == 0)))) 0 0 o 0 own master = (wresZ 0 o 0 own master, 0) := by
    unfold wrestR
    rw [if_pos hgood, if_pos h2, if_neg (by rw [ha]; simp), if_neg (by rw [hbm]; simp)]
  rw [if_pos hz, hB, bs, hB2, bs]
  show (if (!((0 : Int) == 0) || (!(o == o) || (!((0 : Int) == 0)))) = true then some false else (weft_Rest.f 1000 (!((0 : Int) == 0) || (!(o == 0) || (!((0 : Int) == 0)))) 0 0 o 0 own master).bind _) = some true
  rw [hcmp, if_neg (by simp), Rest_ok _ 0 0 o 0 (by omega) (by omega) (by omega), bs, hR]
  show (if (0 : Int) = 0 then _ else _) = _
  rw [if_pos rfl]
  show ((sackbutref07_Sum.f 1000 (wresZ 0 o 0 own master)).bind _) = _
  rw [sum_ok (rest_small (by omega) ha hbm ⟨ho3, ho4⟩) (by omega), bs, sum_ok (own_small (by omega) ha) (by omega), bs]
  congr 1
  exact decide_eq_true ho5
end Go.Proofs.Ytlebgjcpidpgnaa.Pure
