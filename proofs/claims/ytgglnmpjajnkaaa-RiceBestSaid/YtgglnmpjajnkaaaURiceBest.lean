/- The pure statement of the law RiceBest. -/
import Derived.Test.YtgglnmpjajnkaaaPx0
import Derived.Test.YtgglnmpjajnkaaaPx6
import Derived.Test.YtgglnmpjajnkaaaURice
import Derived.Test.YtgglnmpjajnkaaaUHeap
namespace Go.Proofs.Ytgglnmpjajnkaaa.Pure
open Go.RowKit Go.Proofs.Ytgglnmpjajnkaaa.P Go.Proofs.YtgglnmpjajnkaaaW.PrintWords Go.Proofs.YtgglnmpjajnkaaaW.PrintLast Go.Proofs.YtgglnmpjajnkaaaW.PrintMore
set_option linter.unusedVariables false
set_option linter.unusedSimpArgs false

/-- All costs of the list's numbers from the d-th last one on. -/
def totZ (l : List Int) (p : Nat) : Nat → Int
  | 0 => 0
  | d + 1 => costZ (rd l ((l.length - (d + 1) : Nat) : Int)) p + totZ l p d
def May (l : List Int) : Prop := ∀ j : Nat, j < l.length → -8589934592 ≤ rd l (j : Int) ∧ rd l (j : Int) ≤ 8589934591
theorem totZ_bound {l : List Int} {p : Nat} (hp : p ≤ 24) (hm : May l) : ∀ d, d ≤ l.length → 0 ≤ totZ l p d ∧ totZ l p d ≤ 59 * d := by
  intro d
  induction d with
  | zero => intro _; exact ⟨Int.le_refl _, by simp [totZ]⟩
  | succ d ih =>
    intro hd
    have h1 := ih (by omega)
    have h2 := hm (l.length - (d + 1)) (by omega)
    have h3 := cost_range h2.1 h2.2 hp
    rw [totZ]
    omega
theorem length_ok {n : Int} {p k : Nat} (h1 : -8589934592 ≤ n) (h2 : n ≤ 8589934591) (hp : p ≤ 24) (hk : 100 < k) : sackbutref02_Length.f k n p = some (costZ n p) := by
  unfold sackbutref02_Length.f
  have hz := foldZ_bound h1 (show n < 8589934592 by omega)
  have hpb := pow_bound (show p ≤ 62 by omega)
  have hq0 : 0 ≤ foldZ n / 2 ^ p := Int.ediv_nonneg hz.1 (by omega)
  have hq1 : foldZ n / 2 ^ p ≤ foldZ n := Int.ediv_le_self _ hz.1
  rw [ref_fold h1 h2, bs, power_ok (by omega) (by omega), bs, if_neg (by omega), Int.tdiv_eq_ediv_of_nonneg hz.1, w64 (x := foldZ n / 2 ^ p) (by omega) (by omega)]
  unfold costZ
  split
  · rw [w64 (x := foldZ n / 2 ^ p + 1) (by omega) (by omega), w64 (by omega) (by omega)]
  · rfl
theorem total_l0 {l : List Int} {p : Nat} (hp : p ≤ 24) (hl : l.length ≤ 1000000) (hm : May l) : ∀ (d k i : Nat) (s : Int), i + d = l.length → d < k → 0 ≤ s → s ≤ 59 * i → rice_Total.l0 k p s l l.length i = some (s + totZ l p d) := by
  intro d
  induction d with
  | zero =>
    intro k i s hi hk hs hs2
    obtain ⟨k, rfl, _⟩ := pred_k hk
    rw [rice_Total.l0, if_neg (by omega), totZ, Int.add_zero]
  | succ d ih =>
    intro k i s hi hk hs hs2
    obtain ⟨k, rfl, hk⟩ := pred_k hk
    have h2 := hm i (by omega)
    have h3 := cost_range h2.1 h2.2 hp
    rw [rice_Total.l0, if_pos (by omega), if_pos (by omega), if_pos (by omega), cost_ok h2.1 h2.2 hp, bs, w64 (x := s + _) (by omega) (by omega), w64 (by omega) (by omega),
      show (i : Int) + 1 = ((i + 1 : Nat) : Int) by omega, ih k (i + 1) _ (by omega) (by omega) (by omega) (by omega), totZ, show l.length - (d + 1) = i by omega, Int.add_assoc]
theorem total_ok {l : List Int} {p k : Nat} (hp : p ≤ 24) (hl : l.length ≤ 1000000) (hm : May l) (hk : l.length < k) : rice_Total.f k l p = some (totZ l p l.length) := by
  unfold rice_Total.f
  have := total_l0 hp hl hm l.length k 0 0 (by omega) hk (Int.le_refl _) (by omega)
  rw [Int.zero_add] at this
  exact this
theorem refTotal_l0 {l : List Int} {p : Nat} (hp : p ≤ 24) (hl : l.length ≤ 1000000) (hm : May l) : ∀ (d k i : Nat) (s : Int), i + d = l.length → d + 101 < k → 0 ≤ s → s ≤ 59 * i → sackbutref02_Total.l0 k l p s l.length i = some (s + totZ l p d) := by
  intro d
  induction d with
  | zero =>
    intro k i s hi hk hs hs2
    obtain ⟨k, rfl, _⟩ := pred_k (show 0 < k by omega)
    rw [sackbutref02_Total.l0, if_neg (by omega), totZ, Int.add_zero]
  | succ d ih =>
    intro k i s hi hk hs hs2
    obtain ⟨k, rfl, hk2⟩ := pred_k (show 0 < k by omega)
    have h2 := hm i (by omega)
    have h3 := cost_range h2.1 h2.2 hp
    rw [sackbutref02_Total.l0, if_pos (by omega), if_pos (by omega), if_pos (by omega), length_ok h2.1 h2.2 hp (by omega), bs, w64 (x := s + _) (by omega) (by omega), w64 (by omega) (by omega),
      show (i : Int) + 1 = ((i + 1 : Nat) : Int) by omega, ih k (i + 1) _ (by omega) (by omega) (by omega) (by omega), totZ, show l.length - (d + 1) = i by omega, Int.add_assoc]
theorem refTotal_ok {l : List Int} {p k : Nat} (hp : p ≤ 24) (hl : l.length ≤ 1000000) (hm : May l) (hk : l.length + 101 < k) : sackbutref02_Total.f k l p = some (totZ l p l.length) := by
  unfold sackbutref02_Total.f
  have := refTotal_l0 hp hl hm l.length k 0 0 (by omega) hk (Int.le_refl _) (by omega)
  rw [Int.zero_add] at this
  exact this
theorem bestQ_ok {l : List Int} {k : Nat} (hl : l.length ≤ 1000000) (hm : May l) (hk : l.length < k) : ∀ n, n ≤ 25 → ∃ xs, bestQ k l n = some xs ∧ TopQ xs ∧ ∀ x, InQ x xs ↔ ∃ p : Nat, p < n ∧ x = ⟨(p : Int), totZ l p l.length⟩ := by
  intro n
  induction n with
  | zero =>
    intro _
    refine ⟨[], rfl, fun i hi => absurd hi (by simp), fun x => ⟨?_, ?_⟩⟩
    · rintro ⟨i, hi, _⟩
      exact absurd hi (by simp)
    · rintro ⟨p, hp, _⟩
      omega
  | succ n ih =>
    intro hn
    obtain ⟨xs, h1, h2, h3⟩ := ih (by omega)
    refine ⟨pushL xs ⟨(n : Int), totZ l n l.length⟩, ?_, pushL_top _ h2, ?_⟩
    · rw [bestQ, h1, bs, total_ok (by omega) hl hm hk, bs]
    · intro x
      rw [pushL_in, h3]
      constructor
      · rintro (⟨p, hp, rfl⟩ | rfl)
        · exact ⟨p, by omega, rfl⟩
        · exact ⟨n, by omega, rfl⟩
      · rintro ⟨p, hp, rfl⟩
        by_cases e : p = n
        · subst e
          exact .inr rfl
        · exact .inl ⟨p, by omega, rfl⟩
theorem best_ok {l : List Int} {k : Nat} (hl : l.length ≤ 1000000) (hm : May l) (hk : l.length < k) : ∃ p : Nat, p ≤ 24 ∧ rice_Best.f k l = some ((p : Int), totZ l p l.length) ∧
    ∀ q : Nat, q ≤ 24 → totZ l p l.length < totZ l q l.length ∨ (totZ l p l.length = totZ l q l.length ∧ p ≤ q) := by
  obtain ⟨xs, h1, h2, h3⟩ := bestQ_ok hl hm hk 25 (Nat.le_refl _)
  have hlen := bestQ_length _ _ _ _ h1
  obtain ⟨p, hp, hx⟩ := (h3 (getQ xs 0)).mp ⟨0, by omega, rfl⟩
  refine ⟨p, by omega, ?_, ?_⟩
  · unfold rice_Best.f
    rw [h1, bs, hx]
  · intro q hq
    obtain ⟨i, hi, he⟩ := (h3 ⟨(q : Int), totZ l q l.length⟩).mpr ⟨q, by omega, rfl⟩
    have := h2 i hi
    rw [he, hx] at this
    unfold LeQ at this
    simp only at this
    omega
theorem RiceBest : ∀ (l0 : List Int), l0.length ≤ maxLen → l0.length * 8 ≤ 140737488351232 → (∀ x ∈ l0, (Lit.int .i64 x).wf = true) → ∃ k, sackbutlaw02_RiceBest.f k l0 = some true := by
  intro l _ _ _
  refine ⟨600, ?_⟩
  unfold sackbutlaw02_RiceBest.f
  rw [awake02, bs, if_pos rfl, show 600 = 599 + 1 from rfl, sackbutlaw02_RiceBest.j0]
  by_cases h60 : (l.length : Int) > 60
  · rw [decide_eq_true h60, if_pos rfl, awake02, bs]
  rw [decide_eq_false h60, if_neg (by simp)]
  have hl60 : l.length ≤ 60 := by omega
  have hmain : May l → ∀ k : Nat, 400 < k → (rice_Best.f k l).bind (fun bt201 => (if bt201.1 < 0 then (sackbutlaw02_RiceBest.j2 k l bt201.1 bt201.2 true) else (if bt201.1 > 24 then (sackbutlaw02_RiceBest.j2 k l bt201.1 bt201.2 true) else ((sackbutref02_Total.f k l bt201.1).bind fun t203 => (sackbutlaw02_RiceBest.j2 k l bt201.1 bt201.2 (bt201.2 != t203)))))) = some true := by
    intro hm k hk
    obtain ⟨p, hp, hb, hall⟩ := best_ok (show l.length ≤ 1000000 by omega) hm (show l.length < k by omega)
    rw [hb, bs, if_neg (by simp only; omega), if_neg (by simp only; omega), refTotal_ok hp (by omega) hm (by omega), bs]
    simp only
    rw [bne_self_eq_false]
    obtain ⟨k, rfl, hk2⟩ := pred_k hk
    rw [sackbutlaw02_RiceBest.j2, if_neg (by simp)]
    have hloop : ∀ (d i k : Nat), i + d = 25 → d + 200 < k → sackbutlaw02_RiceBest.l1 k l p (totZ l p l.length) i = some true := by
      intro d
      induction d with
      | zero =>
        intro i k hi hk
        obtain ⟨k, rfl, _⟩ := pred_k (show 0 < k by omega)
        rw [sackbutlaw02_RiceBest.l1, if_neg (by omega)]
      | succ d ih =>
        intro i k hi hk
        obtain ⟨k, rfl, _⟩ := pred_k (show 0 < k by omega)
        have h := hall i (by omega)
        rw [sackbutlaw02_RiceBest.l1, if_pos (by omega), refTotal_ok (by omega) (by omega) hm (by omega), bs, total_ok (by omega) (by omega) hm (by omega), bs, if_pos rfl, if_neg (by omega), w64 (by omega) (by omega),
          show (i : Int) + 1 = ((i + 1 : Nat) : Int) by omega, ih (i + 1) k (by omega) (by omega)]
        split
        · rw [if_neg (by omega)]
        · rfl
    exact hloop 25 0 k (by omega) (by omega)
  have hl0 : ∀ (d i k : Nat), i + d = l.length → d + 450 < k → (∀ j : Nat, j < i → -8589934592 ≤ rd l (j : Int) ∧ rd l (j : Int) ≤ 8589934591) → sackbutlaw02_RiceBest.l0 k l l l.length i = some true := by
    intro d
    induction d with
    | zero =>
      intro i k hi hk hp
      obtain ⟨k, rfl, _⟩ := pred_k (show 0 < k by omega)
      rw [sackbutlaw02_RiceBest.l0, if_neg (by omega)]
      exact hmain (fun j hj => hp j (by omega)) k (by omega)
    | succ d ih =>
      intro i k hi hk hp
      obtain ⟨k, rfl, _⟩ := pred_k (show 0 < k by omega)
      rw [sackbutlaw02_RiceBest.l0, if_pos (by omega), if_pos (by omega), if_pos (by omega)]
      split
      · rfl
      · split
        · rfl
        · rw [w64 (by omega) (by omega), show (i : Int) + 1 = ((i + 1 : Nat) : Int) by omega]
          refine ih (i + 1) k (by omega) (by omega) (fun j hj => ?_)
          by_cases e : j = i
          · subst e
            omega
          · exact hp j (by omega)
  exact hl0 l.length 0 599 (by omega) (by omega) (fun j hj => absurd hj (by omega))
end Go.Proofs.Ytgglnmpjajnkaaa.Pure
