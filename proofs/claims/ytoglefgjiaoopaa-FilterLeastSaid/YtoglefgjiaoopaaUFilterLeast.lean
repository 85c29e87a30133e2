/- The pure statement of the law FilterLeast. -/
import Derived.Test.YtoglefgjiaoopaaPx0
import Derived.Test.YtoglefgjiaoopaaPx5
import Derived.Test.YtoglefgjiaoopaaUFilterB
import Derived.Test.YtoglefgjiaoopaaUTHeap
import Derived.Test.YtoglefgjiaoopaaHLeast
namespace Go.Proofs.Ytoglefgjiaoopaa.Pure
open Go.RowKit Go.Proofs.Ytoglefgjiaoopaa.P Go.Proofs.YtoglefgjiaoopaaW.PrintWords Go.Proofs.YtoglefgjiaoopaaW.PrintLast Go.Proofs.YtoglefgjiaoopaaW.PrintMore
set_option linter.unusedVariables false
set_option linter.unusedSimpArgs false

def absI (x : Int) : Int := if x < 0 then -x else x
def absZ (l : List Int) : Nat → Int
  | 0 => 0
  | d + 1 => absI (rd l ((l.length - (d + 1) : Nat) : Int)) + absZ l d
def Small (l : List Int) : Prop := ∀ j : Nat, j < l.length → -70368811286528 ≤ rd l (j : Int) ∧ rd l (j : Int) ≤ 70368811286528
theorem absI_b {x : Int} (h1 : -70368811286528 ≤ x) (h2 : x ≤ 70368811286528) : 0 ≤ absI x ∧ absI x ≤ 70368811286528 := by
  unfold absI
  split <;> omega
theorem absZ_bound {l : List Int} (hm : Small l) : ∀ d, d ≤ l.length → 0 ≤ absZ l d := by
  intro d
  induction d with
  | zero => intro _; exact Int.le_refl _
  | succ d ih =>
    intro hd
    have h1 := ih (by omega)
    have h2 := hm (l.length - (d + 1)) (by omega)
    have h3 := absI_b h2.1 h2.2
    rw [absZ]
    omega
theorem fsum_l0 {l : List Int} (hl : l.length ≤ 1000) (hm : Small l) : ∀ (d k i : Nat) (s : Int), i + d = l.length → d < k → 0 ≤ s → s ≤ 70368811286528 * i → filter_sum.l0 k s l l.length i = some (s + absZ l d) := by
  intro d
  induction d with
  | zero =>
    intro k i s hi hk hs hs2
    obtain ⟨k, rfl, _⟩ := pred_k hk
    rw [filter_sum.l0, if_neg (by omega), absZ, Int.add_zero]
  | succ d ih =>
    intro k i s hi hk hs hs2
    obtain ⟨k, rfl, hk⟩ := pred_k hk
    have h2 := hm i (by omega)
    have h3 := absI_b h2.1 h2.2
    have e : mx (rd l (i : Int)) (wrap64 (-(rd l (i : Int)))) = absI (rd l (i : Int)) := by
      rw [w64 (by omega) (by omega)]
      unfold mx absI
      split <;> split <;> omega
    rw [filter_sum.l0, if_pos (by omega), if_pos (by omega), if_pos (by omega), e, w64 (x := s + _) (by omega) (by omega), w64 (by omega) (by omega),
      show (i : Int) + 1 = ((i + 1 : Nat) : Int) by omega, ih k (i + 1) _ (by omega) (by omega) (by omega) (by omega), absZ, show l.length - (d + 1) = i by omega, Int.add_assoc]
theorem fsum_ok {l : List Int} {k : Nat} (hl : l.length ≤ 1000) (hm : Small l) (hk : l.length < k) : filter_sum.f k l = some (absZ l l.length) := by
  unfold filter_sum.f
  have := fsum_l0 hl hm l.length k 0 0 (by omega) hk (Int.le_refl _) (by omega)
  rw [Int.zero_add] at this
  exact this
theorem rsum_l0 {l : List Int} (hl : l.length ≤ 1000) (hm : Small l) : ∀ (d k i : Nat) (s : Int), i + d = l.length → d < k → 0 ≤ s → s ≤ 70368811286528 * i → sackbutref07_Sum.l0 k l s l.length i = some (s + absZ l d) := by
  intro d
  induction d with
  | zero =>
    intro k i s hi hk hs hs2
    obtain ⟨k, rfl, _⟩ := pred_k hk
    rw [sackbutref07_Sum.l0, if_neg (by omega), absZ, Int.add_zero]
  | succ d ih =>
    intro k i s hi hk hs hs2
    obtain ⟨k, rfl, hk⟩ := pred_k hk
    have h2 := hm i (by omega)
    have h3 := absI_b h2.1 h2.2
    rw [sackbutref07_Sum.l0, if_pos (by omega), if_pos (by omega), if_pos (by omega), absZ, show l.length - (d + 1) = i by omega]
    unfold absI at h3 ⊢
    split
    · rename_i hn
      rw [if_pos hn] at h3
      rw [w64 (x := s - _) (by omega) (by omega), w64 (by omega) (by omega),
        show (i : Int) + 1 = ((i + 1 : Nat) : Int) by omega, ih k (i + 1) _ (by omega) (by omega) (by omega) (by omega)]
      congr 1
      omega
    · rename_i hn
      rw [if_neg hn] at h3
      rw [w64 (x := s + _) (by omega) (by omega), w64 (by omega) (by omega),
        show (i : Int) + 1 = ((i + 1 : Nat) : Int) by omega, ih k (i + 1) _ (by omega) (by omega) (by omega) (by omega)]
      congr 1
      omega
theorem rsum_ok {l : List Int} {k : Nat} (hl : l.length ≤ 1000) (hm : Small l) (hk : l.length < k) : sackbutref07_Sum.f k l = some (absZ l l.length) := by
  unfold sackbutref07_Sum.f
  have := rsum_l0 hl hm l.length k 0 0 (by omega) hk (Int.le_refl _) (by omega)
  rw [Int.zero_add] at this
  exact this
theorem good_take {l : List Int} (h : goodL l = true) (n : Nat) : goodL (l.take n) = true := by
  unfold goodL at h ⊢
  rw [Bool.and_eq_true, decide_eq_true_eq] at h ⊢
  refine ⟨by rw [List.length_take]; omega, ?_⟩
  have h2 := h.2
  rw [Bool.not_eq_true'] at h2 ⊢
  rw [List.any_eq_false] at h2 ⊢
  exact fun x hx => h2 x (List.mem_of_mem_take hx)
theorem res_small {l s : List Int} (h : goodL l = true) (ha : ¬ s.any loudP = true) : Small (resZ l s) := by
  intro i hi
  rw [resZ_length] at hi
  unfold resZ
  rw [rd_tab hi]
  have h1 := no_loud ha hi
  have h2 := fore_bound (p := s.take i) h (fun j hj => by
    rw [List.length_take] at hj
    rw [take_rd' _ _ _ (by omega)]
    exact no_loud ha (by omega))
  unfold resF
  rw [w64 (by omega) (by omega)]
  omega
/-- What n indices do not foresee. -/
def misZ (l s : List Int) (n : Nat) : Int := absZ (resZ (l.take n) s) s.length
theorem mis_nonneg {l s : List Int} (h : goodL l = true) (ha : ¬ s.any loudP = true) (n : Nat) : 0 ≤ misZ l s n :=
  absZ_bound (res_small (good_take h n) ha) _ (by rw [resZ_length]; exact Nat.le_refl _)
theorem resR_good {l s : List Int} (h : goodL l = true) (ha : ¬ s.any loudP = true) : resR l s = (resZ l s, 0) := by
  unfold resR
  rw [if_pos h, if_neg ha]
theorem leastQ_ok {l s : List Int} {k : Nat} (hg : goodL l = true) (ha : ¬ s.any loudP = true) (hl : l.length ≤ 24) (hs : s.length ≤ 60) (hk : 5000 < k) : ∀ n, n ≤ l.length + 1 → ∃ xs, leastQ k l s n = some xs ∧ TopQ xs ∧ ∀ x, InQ x xs ↔ ∃ p : Nat, p < n ∧ x = ⟨(p : Int), misZ l s p⟩ := by
  intro n
  induction n with
  | zero =>
    intro _
    refine ⟨[], rfl, fun i hi => absurd hi (by simp), fun x => ⟨?_, ?_⟩⟩
    · rintro ⟨i, hi, _⟩
      exact absurd hi (by simp)
    · rintro ⟨p, hp, _⟩
      omega
  | succ n ih =>
    intro hn
    obtain ⟨xs, h1, h2, h3⟩ := ih (by omega)
    refine ⟨pushL xs ⟨(n : Int), misZ l s n⟩, ?_, pushL_top _ h2, ?_⟩
    · have htl : (l.take n).length ≤ 24 := by rw [List.length_take]; omega
      rw [leastQ, h1, bs, res_ok (by omega) (by omega) (by omega), bs, resR_good (good_take hg n) ha, fsum_ok (by rw [resZ_length]; omega) (res_small (good_take hg n) ha) (by rw [resZ_length]; omega), bs, resZ_length]
      rfl
    · intro x
      rw [pushL_in, h3]
      constructor
      · rintro (⟨p, hp, rfl⟩ | rfl)
        · exact ⟨p, by omega, rfl⟩
        · exact ⟨n, by omega, rfl⟩
      · rintro ⟨p, hp, rfl⟩
        by_cases e : p = n
        · subst e
          exact .inr rfl
        · exact .inl ⟨p, by omega, rfl⟩
theorem rleast_l0 {l s : List Int} (hg : goodL l = true) (ha : ¬ s.any loudP = true) (hl : l.length ≤ 24) (hs : s.length ≤ 60) (b : Nat) (hb : b ≤ l.length) (hmin : ∀ q : Nat, q ≤ l.length → misZ l s b < misZ l s q ∨ (misZ l s b = misZ l s q ∧ b ≤ q)) :
    ∀ (d k i : Nat) (best least : Int), i + d = l.length + 1 → d + 5000 < k → ((i = 0 ∧ least = -1) ∨ (∃ c : Nat, c < i ∧ best = c ∧ least = misZ l s c ∧ ∀ q : Nat, q < i → misZ l s c < misZ l s q ∨ (misZ l s c = misZ l s q ∧ c ≤ q))) → sackbutref07_Least.l0 k l s best least i = some (b : Int) := by
  intro d
  induction d with
  | zero =>
    intro k i best least hi hk hI
    obtain ⟨k, rfl, _⟩ := pred_k (show 0 < k by omega)
    rw [sackbutref07_Least.l0, if_neg (by omega)]
    rcases hI with ⟨h0, _⟩ | ⟨c, hc, rfl, rfl, hall⟩
    · omega
    · have h1 := hmin c (by omega)
      have h2 := hall b (by omega)
      congr 1
      omega
  | succ d ih =>
    intro k i best least hi hk hI
    obtain ⟨k, rfl, _⟩ := pred_k (show 0 < k by omega)
    have htl : (l.take i).length ≤ 24 := by rw [List.length_take]; omega
    rw [sackbutref07_Least.l0, if_pos (by omega), if_pos (by omega), Int.toNat_natCast, rres_ok htl (by omega) (by omega), bs, resR_good (good_take hg i) ha,
      rsum_ok (by rw [resZ_length]; omega) (res_small (good_take hg i) ha) (by rw [resZ_length]; omega), bs, resZ_length, w64 (by omega) (by omega), show (i : Int) + 1 = ((i + 1 : Nat) : Int) by omega]
    change (if least < 0 then sackbutref07_Least.l0 k l s i (misZ l s i) ((i + 1 : Nat) : Int) else if misZ l s i < least then sackbutref07_Least.l0 k l s i (misZ l s i) ((i + 1 : Nat) : Int) else sackbutref07_Least.l0 k l s best least ((i + 1 : Nat) : Int)) = _
    have hn := mis_nonneg hg ha i
    rcases hI with ⟨rfl, rfl⟩ | ⟨c, hc, rfl, rfl, hall⟩
    · rw [if_pos (by omega)]
      exact ih k 1 _ _ (by omega) (by omega) (.inr ⟨0, by omega, rfl, rfl, fun q hq => .inr ⟨by rw [show q = 0 by omega], by omega⟩⟩)
    · have hn2 := mis_nonneg hg ha c
      rw [if_neg (by omega)]
      split
      · refine ih k (i + 1) _ _ (by omega) (by omega) (.inr ⟨i, by omega, rfl, rfl, fun q hq => ?_⟩)
        by_cases e : q = i
        · subst e
          exact .inr ⟨rfl, Nat.le_refl _⟩
        · have := hall q (by omega)
          omega
      · refine ih k (i + 1) _ _ (by omega) (by omega) (.inr ⟨c, by omega, rfl, rfl, fun q hq => ?_⟩)
        by_cases e : q = i
        · subst e
          omega
        · exact hall q (by omega)
theorem FilterLeast : ∀ (l0 : List Int) (l1 : List Int), l0.length ≤ maxLen → l0.length * 8 ≤ 140737488351232 → (∀ x ∈ l0, (Lit.int .i64 x).wf = true) → l1.length ≤ maxLen → l1.length * 8 ≤ 140737488351232 → (∀ x ∈ l1, (Lit.int .i64 x).wf = true) → ∃ k, sackbutlaw07_FilterLeast.f k l0 l1 = some true := by
  intro l s _ _ _ _ _ _
  refine ⟨6000 + 1, ?_⟩
  unfold sackbutlaw07_FilterLeast.f
  rw [awake07 (by omega), bs, if_pos rfl, few07, bs]
  simp only [sackbutlaw07_FilterLeast.j0]
  by_cases hf : (decide (l.length ≤ 24) && decide (s.length ≤ 60)) = true
  · rw [hf]
    rw [Bool.and_eq_true, decide_eq_true_eq, decide_eq_true_eq] at hf
    obtain ⟨hl, hs⟩ := hf
    rw [if_pos rfl, rgood_ok (by omega) (by omega), bs]
    by_cases hg : goodL l = true
    · rw [hg, if_neg (by simp), rres_ok (by simp) (by omega) (by omega), bs]
      by_cases ha : s.any loudP = true
      · have : resR [] s = ([], 9) := by
          unfold resR
          rw [if_pos (by rfl), if_pos ha]
        rw [this]
        rfl
      · have : resR [] s = (resZ [] s, 0) := by
          unfold resR
          rw [if_pos (by rfl), if_neg ha]
        rw [this]
        change (if (0 : Int) = 0 then _ else _) = _
        rw [if_pos rfl]
        obtain ⟨xs, h1, h2, h3⟩ := leastQ_ok (k := 6000) hg ha hl hs (by omega) (l.length + 1) (Nat.le_refl _)
        have hlen := leastQ_length _ _ _ _ _ h1
        obtain ⟨p, hp, hx⟩ := (h3 (getQ xs 0)).mp ⟨0, by omega, rfl⟩
        have hmin : ∀ q : Nat, q ≤ l.length → misZ l s p < misZ l s q ∨ (misZ l s p = misZ l s q ∧ p ≤ q) := by
          intro q hq
          obtain ⟨i, hi, he⟩ := (h3 ⟨(q : Int), misZ l s q⟩).mpr ⟨q, by omega, rfl⟩
          have := h2 i hi
          rw [he, hx] at this
          unfold LeQ at this
          simp only at this
          omega
        have hr := rleast_l0 hg ha hl hs p (by omega) hmin (l.length + 1) 6000 0 0 (-1) (by omega) (by omega) (.inl ⟨rfl, rfl⟩)
        have hp1 : filter_Least.f 6000 l s = some (p : Int) := by
          unfold filter_Least.f
          rw [if_pos (by omega), h1, bs, hx]
        have hr1 : sackbutref07_Least.f 6000 l s = some (p : Int) := hr
        rw [hp1, bs, hr1, bs, beq_self_eq_true]
    · rw [Bool.not_eq_true] at hg
      rw [hg]
      show (if true = true then _ else _) = _
      rw [if_pos rfl, awake07 (by omega), bs]
  · rw [Bool.not_eq_true] at hf
    rw [hf, if_neg (by simp), if_pos trivial, awake07 (by omega), bs]
end Go.Proofs.Ytoglefgjiaoopaa.Pure
