/- What lag.Best and the document's answer are: the least trial. -/
import Derived.Test.YtofjckfdofkikaaPx0
import Derived.Test.YtofjckfdofkikaaPx7
import Derived.Test.YtofjckfdofkikaaHLBest
import Derived.Test.YtofjckfdofkikaaULag
import Derived.Test.YtofjckfdofkikaaUHeapI
namespace Go.Proofs.Ytofjckfdofkikaa.Pure
open Go.RowKit Go.Proofs.Ytofjckfdofkikaa.P Go.Proofs.YtofjckfdofkikaaW.PrintWords Go.Proofs.YtofjckfdofkikaaW.PrintLast Go.Proofs.YtofjckfdofkikaaW.PrintMore
set_option linter.unusedVariables false
set_option linter.unusedSimpArgs false

def absI (x : Int) : Int := if x < 0 then -x else x
def absZ (l : List Int) : Nat → Int
  | 0 => 0
  | d + 1 => absI (rd l ((l.length - (d + 1) : Nat) : Int)) + absZ l d
def Small (l : List Int) : Prop := ∀ j : Nat, j < l.length → -70368811286528 ≤ rd l (j : Int) ∧ rd l (j : Int) ≤ 70368811286528
theorem absI_b {x : Int} (h1 : -70368811286528 ≤ x) (h2 : x ≤ 70368811286528) : 0 ≤ absI x ∧ absI x ≤ 70368811286528 := by
  unfold absI
  split <;> omega
theorem absZ_bound {l : List Int} (hm : Small l) : ∀ d, d ≤ l.length → 0 ≤ absZ l d := by
  intro d
  induction d with
  | zero => intro _; exact Int.le_refl _
  | succ d ih =>
    intro hd
    have h1 := ih (by omega)
    have h2 := hm (l.length - (d + 1)) (by omega)
    have h3 := absI_b h2.1 h2.2
    rw [absZ]
    omega
theorem rsum_l0 {l : List Int} (hl : l.length ≤ 1000) (hm : Small l) : ∀ (d k i : Nat) (s : Int), i + d = l.length → d < k → 0 ≤ s → s ≤ 70368811286528 * i → sackbutref07_Sum.l0 k l s l.length i = some (s + absZ l d) := by
  intro d
  induction d with
  | zero =>
    intro k i s hi hk hs hs2
    obtain ⟨k, rfl, _⟩ := pred_k hk
    rw [sackbutref07_Sum.l0, if_neg (by omega), absZ, Int.add_zero]
  | succ d ih =>
    intro k i s hi hk hs hs2
    obtain ⟨k, rfl, hk⟩ := pred_k hk
    have h2 := hm i (by omega)
    have h3 := absI_b h2.1 h2.2
    rw [sackbutref07_Sum.l0, if_pos (by omega), if_pos (by omega), if_pos (by omega), absZ, show l.length - (d + 1) = i by omega]
    unfold absI at h3 ⊢
    split
    · rename_i hn
      rw [if_pos hn] at h3
      rw [w64 (x := s - _) (by omega) (by omega), w64 (by omega) (by omega),
        show (i : Int) + 1 = ((i + 1 : Nat) : Int) by omega, ih k (i + 1) _ (by omega) (by omega) (by omega) (by omega)]
      congr 1
      omega
    · rename_i hn
      rw [if_neg hn] at h3
      rw [w64 (x := s + _) (by omega) (by omega), w64 (by omega) (by omega),
        show (i : Int) + 1 = ((i + 1 : Nat) : Int) by omega, ih k (i + 1) _ (by omega) (by omega) (by omega) (by omega)]
      congr 1
      omega
theorem rsum_ok {l : List Int} {k : Nat} (hl : l.length ≤ 1000) (hm : Small l) (hk : l.length < k) : sackbutref07_Sum.f k l = some (absZ l l.length) := by
  unfold sackbutref07_Sum.f
  have := rsum_l0 hl hm l.length k 0 0 (by omega) hk (Int.le_refl _) (by omega)
  rw [Int.zero_add] at this
  exact this
theorem try_l0 {l : List Int} (a b : Int) (hl : l.length ≤ 1000) (hm : Small l) : ∀ (d k i : Nat) (s : Int), i + d = l.length → d < k → 0 ≤ s → s ≤ 70368811286528 * i → lag_try.l0 k s l l.length i a b = some (a, b, s + absZ l d) := by
  intro d
  induction d with
  | zero =>
    intro k i s hi hk hs hs2
    obtain ⟨k, rfl, _⟩ := pred_k hk
    rw [lag_try.l0, if_neg (by omega), absZ, Int.add_zero]
  | succ d ih =>
    intro k i s hi hk hs hs2
    obtain ⟨k, rfl, hk⟩ := pred_k hk
    have h2 := hm i (by omega)
    have h3 := absI_b h2.1 h2.2
    have e : mx (rd l (i : Int)) (wrap64 (-(rd l (i : Int)))) = absI (rd l (i : Int)) := by
      rw [w64 (by omega) (by omega)]
      unfold mx absI
      split <;> split <;> omega
    rw [lag_try.l0, if_pos (by omega), if_pos (by omega), if_pos (by omega), e, w64 (x := s + _) (by omega) (by omega), w64 (by omega) (by omega),
      show (i : Int) + 1 = ((i + 1 : Nat) : Int) by omega, ih k (i + 1) _ (by omega) (by omega) (by omega) (by omega), absZ, show l.length - (d + 1) = i by omega, Int.add_assoc]
theorem offT_length (a b : Int) (l : List Int) : (offT a b l).length = l.length := tab_length _ _
theorem off_small {a b : Int} {l : List Int} (hg : goodT a b = true) (hf : Fits l) : Small (offT a b l) := by
  intro i hi
  rw [offT_length] at hi
  unfold offT
  rw [rd_tab hi]
  have h1 := fits_rd hf i
  have h2 := part_bound hg hf i
  omega
def misT (l : List Int) (a b : Int) : Int := absZ (offT a b l) l.length
theorem try_ok {a b : Int} {l : List Int} (hg : goodT a b = true) (hf : Fits l) (hl : l.length ≤ 1000) {k : Nat} (hk : l.length < k) : lag_try.f k a b l = some (a, b, misT l a b) := by
  unfold lag_try.f
  rw [term_off hg hf (by omega) hk, bs, offT_length]
  have := try_l0 (l := offT a b l) a b (by rw [offT_length]; exact hl) (off_small hg hf) (offT a b l).length k 0 0 (by omega) (by rw [offT_length]; exact hk) (Int.le_refl _) (by omega)
  rw [Int.zero_add, offT_length] at this
  exact this
theorem rsumoff_ok {a b : Int} {l : List Int} (hg : goodT a b = true) (hf : Fits l) (hl : l.length ≤ 1000) {k : Nat} (hk : l.length < k) : sackbutref07_Sum.f k (offT a b l) = some (misT l a b) := by
  rw [rsum_ok (by rw [offT_length]; exact hl) (off_small hg hf) (by rw [offT_length]; exact hk), offT_length]
  rfl
theorem off_none (l : List Int) : offT 0 0 l = l := by
  unfold offT
  rw [tab_congr (g := fun i => rd l i) (fun i hi => by
    show rd l i - partT 0 0 l i = rd l i
    unfold partT
    rw [if_pos (.inl rfl)]
    omega), tab_self]
theorem good_none : goodT 0 0 = true := rfl
theorem good_some {a b : Int} (h1 : 1 ≤ a) (h2 : a ≤ 255) (h3 : 1 ≤ b) (h4 : b ≤ 15) : goodT a b = true := by
  simp [goodT]
  omega
abbrev trT (l : List Int) (a b : Int) : QE := ⟨⟨a, b⟩, misT l a b⟩
/-- The terms that were tried, up to this lag, this gain. -/
def Vis (a b A B : Int) : Prop := (A = 0 ∧ B = 0) ∨ (1 ≤ A ∧ A < a ∧ 1 ≤ B ∧ B ≤ 15) ∨ (A = a ∧ 1 ≤ B ∧ B < b)
theorem gain_ok {l : List Int} {k : Nat} (hf : Fits l) (hl : l.length ≤ 60) (hk : l.length < k) {a : Nat} (ha1 : 1 ≤ a) (ha2 : a ≤ 255) (xs : List QE) (hxs : ∀ x, InQ x xs ↔ ∃ A B, Vis a 1 A B ∧ x = trT l A B) : ∀ m : Nat, m ≤ 15 → ∃ ys, gainL k l (a : Int) xs m = some ys ∧ ∀ x, InQ x ys ↔ ∃ A B, Vis a ((m + 1 : Nat) : Int) A B ∧ x = trT l A B := by
  intro m
  induction m with
  | zero => intro _; exact ⟨xs, rfl, hxs⟩
  | succ m ih =>
    intro hm
    obtain ⟨ys, h1, h2⟩ := ih (by omega)
    have ht := try_ok (k := k) (good_some (a := a) (b := ((m + 1 : Nat) : Int)) (by omega) (by omega) (by omega) (by omega)) hf (show l.length ≤ 1000 by omega) hk
    refine ⟨ys ++ [mkQ ((a : Int), ((m + 1 : Nat) : Int), misT l a ((m + 1 : Nat) : Int))], by rw [gainL, h1, bs, ht, bs], fun x => ?_⟩
    rw [app_in, h2]
    constructor
    · rintro (⟨A, B, hv, rfl⟩ | rfl)
      · exact ⟨A, B, by unfold Vis at *; omega, rfl⟩
      · exact ⟨a, ((m + 1 : Nat) : Int), by unfold Vis; omega, rfl⟩
    · rintro ⟨A, B, hv, rfl⟩
      by_cases e : A = a ∧ B = ((m + 1 : Nat) : Int)
      · obtain ⟨rfl, rfl⟩ := e
        exact .inr rfl
      · exact .inl ⟨A, B, by unfold Vis at *; omega, rfl⟩
theorem lag_ok {l : List Int} {k : Nat} (hf : Fits l) (hl : l.length ≤ 60) (hk : l.length < k) : ∀ m : Nat, m ≤ 255 → ∃ ys, lagL k l m = some ys ∧ ∀ x, InQ x ys ↔ ∃ A B, Vis ((m + 1 : Nat) : Int) 1 A B ∧ x = trT l A B := by
  intro m
  induction m with
  | zero =>
    intro _
    refine ⟨[mkQ (0, 0, misT l 0 0)], by rw [lagL, try_ok good_none hf (by omega) hk, bs], fun x => ?_⟩
    rw [show [mkQ (0, 0, misT l 0 0)] = [] ++ [mkQ (0, 0, misT l 0 0)] from rfl, app_in]
    constructor
    · rintro (⟨i, hi, _⟩ | rfl)
      · exact absurd hi (by simp)
      · exact ⟨0, 0, .inl ⟨rfl, rfl⟩, rfl⟩
    · rintro ⟨A, B, hv, rfl⟩
      obtain ⟨rfl, rfl⟩ : A = 0 ∧ B = 0 := by unfold Vis at hv; omega
      exact .inr rfl
  | succ m ih =>
    intro hm
    obtain ⟨xs, h1, h2⟩ := ih (by omega)
    obtain ⟨ys, h3, h4⟩ := gain_ok hf hl hk (show 1 ≤ m + 1 by omega) (by omega) xs h2 15 (Nat.le_refl _)
    refine ⟨ys, by rw [lagL, h1, bs, h3], fun x => ?_⟩
    rw [h4]
    constructor
    · rintro ⟨A, B, hv, rfl⟩
      exact ⟨A, B, by unfold Vis at *; omega, rfl⟩
    · rintro ⟨A, B, hv, rfl⟩
      exact ⟨A, B, by unfold Vis at *; omega, rfl⟩
/-- A term that leaves the least. -/
def Least (l : List Int) (a b A B : Int) : Prop := Vis a b A B ∧ ∀ A' B', Vis a b A' B' → LeQ (trT l A B) (trT l A' B')
theorem best_least {l : List Int} {k : Nat} (hf : Fits l) (hl : l.length ≤ 60) (hk : l.length < k) : ∃ A B, lag_Best.f k l = some (A, B) ∧ Least l ((l.length - 1 + 1 : Nat) : Int) 1 A B := by
  obtain ⟨xs, h1, h2⟩ := lag_ok hf hl hk (l.length - 1) (by omega)
  have hlen := lagL_length _ _ h1
  have htop := init_top xs
  have hin := fun x => initL_in x xs.length (xs.length / 2) xs (by omega)
  have hln := initL_length xs.length (xs.length / 2) xs
  obtain ⟨zs, hzs⟩ : ∃ zs, initL xs.length (xs.length / 2) xs = zs := ⟨_, rfl⟩
  rw [hzs] at htop hin hln
  obtain ⟨A, B, hv, hx⟩ := (h2 (getQ zs 0)).mp ((hin _).mp ⟨0, by omega, rfl⟩)
  refine ⟨A, B, ?_, hv, fun A' B' hv' => ?_⟩
  · unfold lag_Best.f
    rw [if_pos hl, h1, bs, hzs, hx]
  · obtain ⟨i, hi, he⟩ := (hin _).mpr ((h2 (trT l A' B')).mpr ⟨A', B', hv', rfl⟩)
    have := htop i hi
    rw [hx, he] at this
    exact this
theorem least_one {l : List Int} {a b A B A' B' : Int} (h : Least l a b A B) (h' : Least l a b A' B') : A = A' ∧ B = B' := by
  have h1 := h.2 A' B' h'.1
  have h2 := h'.2 A B h.1
  unfold LeQ at h1 h2
  simp only at h1 h2
  omega
theorem vis_good {a b A B : Int} (ha1 : 1 ≤ a) (ha : a ≤ 255) (hb : b ≤ 16) (h : Vis a b A B) : goodT A B = true := by
  unfold Vis at h
  rcases h with ⟨rfl, rfl⟩ | h | h
  · rfl
  · exact good_some (by omega) (by omega) (by omega) (by omega)
  · exact good_some (by omega) (by omega) (by omega) (by omega)
theorem mis_nonneg {l : List Int} (hf : Fits l) {a b : Int} (hg : goodT a b = true) : 0 ≤ misT l a b := absZ_bound (off_small hg hf) _ (by rw [offT_length]; exact Nat.le_refl _)
theorem least_new {l : List Int} {a b A B : Int} (ha : 1 ≤ a) (hb : 1 ≤ b) (h : Least l a b A B) (hs : misT l a b < misT l A B) : Least l a (b + 1) a b := by
  refine ⟨by unfold Vis; omega, fun A' B' hv => ?_⟩
  by_cases e : A' = a ∧ B' = b
  · obtain ⟨rfl, rfl⟩ := e
    exact leQ_refl _
  · have := h.2 A' B' (by unfold Vis at *; omega)
    unfold LeQ at this ⊢
    simp only at this ⊢
    omega
theorem least_old {l : List Int} {a b A B : Int} (ha : 1 ≤ a) (hb : 1 ≤ b) (h : Least l a b A B) (hs : ¬misT l a b < misT l A B) : Least l a (b + 1) A B := by
  have hv := h.1
  refine ⟨by unfold Vis at *; omega, fun A' B' hv' => ?_⟩
  by_cases e : A' = a ∧ B' = b
  · obtain ⟨rfl, rfl⟩ := e
    unfold LeQ
    simp only
    unfold Vis at hv
    omega
  · exact h.2 A' B' (by unfold Vis at *; omega)
theorem least_next {l : List Int} {a A B : Int} (ha : 1 ≤ a) (h : Least l a 16 A B) : Least l (a + 1) 1 A B := by
  have hv := h.1
  exact ⟨by unfold Vis at *; omega, fun A' B' hv' => h.2 A' B' (by unfold Vis at *; omega)⟩
theorem rbest_l1 {l : List Int} (hf : Fits l) (hl : l.length ≤ 60) {a : Nat} (ha1 : 1 ≤ a) (ha2 : a ≤ 60) {r : Int × Int} (N : Nat)
    (hc : ∀ (A B : Int) (k : Nat), Least l ((a + 1 : Nat) : Int) 1 A B → N < k → sackbutref08_Best.l0 k l A B (misT l A B) ((a + 1 : Nat) : Int) = some r) :
    ∀ (d : Nat) (b : Nat) (A B : Int) (k : Nat), b + d = 16 → 1 ≤ b → Least l a b A B → N + d + 200 < k → sackbutref08_Best.l1 k l A B (misT l A B) a b = some r := by
  intro d
  induction d with
  | zero =>
    intro b A B k hb hb1 hL hk
    obtain ⟨k, rfl, _⟩ := pred_k (show 0 < k by omega)
    obtain rfl : b = 16 := by omega
    rw [sackbutref08_Best.l1, if_neg (by omega), w64 (by omega) (by omega)]
    exact hc A B k (least_next (by omega) hL) (by omega)
  | succ d ih =>
    intro b A B k hb hb1 hL hk
    obtain ⟨k, rfl, _⟩ := pred_k (show 0 < k by omega)
    have hg := good_some (a := a) (b := b) (by omega) (by omega) (by omega) (by omega)
    rw [sackbutref08_Best.l1, if_pos (by omega), ref_off hg hf (by omega) (by omega), bs, rsumoff_ok hg hf (by omega) (by omega), bs, w64 (by omega) (by omega), show (b : Int) + 1 = ((b + 1 : Nat) : Int) by omega]
    split
    · rename_i hs
      exact ih (b + 1) a b k (by omega) (by omega) (by rw [show ((b + 1 : Nat) : Int) = (b : Int) + 1 by omega]; exact least_new (by omega) (by omega) hL hs) (by omega)
    · rename_i hs
      exact ih (b + 1) A B k (by omega) (by omega) (by rw [show ((b + 1 : Nat) : Int) = (b : Int) + 1 by omega]; exact least_old (by omega) (by omega) hL hs) (by omega)
theorem rbest_l0 {l : List Int} (hf : Fits l) (hl : l.length ≤ 60) {r : Int × Int} (hr : Least l ((l.length - 1 + 1 : Nat) : Int) 1 r.1 r.2) :
    ∀ (d a : Nat) (A B : Int) (k : Nat), a + d = l.length - 1 + 1 → 1 ≤ a → Least l a 1 A B → 220 * d + 10 < k → sackbutref08_Best.l0 k l A B (misT l A B) a = some r := by
  intro d
  induction d with
  | zero =>
    intro a A B k ha ha1 hL hk
    obtain ⟨k, rfl, _⟩ := pred_k (show 0 < k by omega)
    obtain ⟨k, rfl, _⟩ := pred_k (show 0 < k by omega)
    rw [sackbutref08_Best.l0, if_neg (by omega), sackbutref08_Best.j1, if_neg (by simp)]
    rw [show a = l.length - 1 + 1 by omega] at hL
    obtain ⟨rfl, rfl⟩ := least_one hL hr
    rfl
  | succ d ih =>
    intro a A B k ha ha1 hL hk
    obtain ⟨k, rfl, _⟩ := pred_k (show 0 < k by omega)
    obtain ⟨k, rfl, _⟩ := pred_k (show 0 < k by omega)
    rw [sackbutref08_Best.l0, if_pos (by omega), sackbutref08_Best.j1, if_pos (by rw [decide_eq_true_eq]; omega)]
    exact rbest_l1 hf hl ha1 (by omega) (220 * d + 10) (fun A' B' k' hL' hk' => ih (a + 1) A' B' k' (by omega) (by omega) hL' hk') 15 1 A B k (by omega) (Nat.le_refl _) hL (by omega)
theorem rbest_ok {l : List Int} (hf : Fits l) (hl : l.length ≤ 60) {r : Int × Int} (hr : Least l ((l.length - 1 + 1 : Nat) : Int) 1 r.1 r.2) {k : Nat} (hk : 14000 < k) : sackbutref08_Best.f k l = some r := by
  unfold sackbutref08_Best.f
  have h0 := rsumoff_ok (l := l) good_none hf (show l.length ≤ 1000 by omega) (show l.length < k by omega)
  rw [off_none] at h0
  rw [h0, bs]
  refine rbest_l0 hf hl hr (l.length - 1) 1 0 0 k (by omega) (Nat.le_refl _) ⟨.inl ⟨rfl, rfl⟩, fun A' B' hv => ?_⟩ (by omega)
  obtain ⟨rfl, rfl⟩ : A' = 0 ∧ B' = 0 := by unfold Vis at hv; omega
  exact leQ_refl _
end Go.Proofs.Ytofjckfdofkikaa.Pure
