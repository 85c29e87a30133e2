/- The pure statement of the law HeadFrames: how many frames and units a good configuration has, and how long each frame is. -/
import Derived.Test.YtofjckfdofkikaaPx0
import Derived.Test.YtofjckfdofkikaaPx3
import Derived.Test.YtofjckfdofkikaaUTools
import Derived.Test.YtofjckfdofkikaaUHeadForms
namespace Go.Proofs.Ytofjckfdofkikaa.Pure
open Go.RowKit Go.Proofs.Ytofjckfdofkikaa.P Go.Proofs.YtofjckfdofkikaaW.PrintWords Go.Proofs.YtofjckfdofkikaaW.PrintLast Go.Proofs.YtofjckfdofkikaaW.PrintMore
set_option linter.unusedVariables false
set_option linter.unusedSimpArgs false

/-- A number divided by another one, up. -/
def upN (n m : Nat) : Nat := (n + m - 1) / m
theorem lt_up {n m i : Nat} (hm : 0 < m) : i < upN n m ↔ i * m < n := by
  unfold upN
  rw [show i < (n + m - 1) / m ↔ i + 1 ≤ (n + m - 1) / m from Iff.rfl, Nat.le_div_iff_mul_le hm, Nat.succ_mul]
  omega
theorem up_le {n m : Nat} (hm : 0 < m) : upN n m ≤ n := by
  unfold upN
  cases n with
  | zero => rw [Nat.div_eq_of_lt (by omega)]; exact Nat.le_refl _
  | succ n =>
    refine Nat.div_le_of_le_mul ?_
    rw [Nat.mul_succ]
    have : n * 1 ≤ m * n := by rw [Nat.mul_comm m n]; exact Nat.mul_le_mul_left n hm
    omega
theorem up_step {m i : Nat} (hm : 0 < m) : upN (i + 1) m = upN i m + (if i % m = 0 then 1 else 0) := by
  unfold upN
  have h := Nat.div_add_mod i m
  have hr := Nat.mod_lt i hm
  generalize hq : i / m = q at h
  generalize hrr : i % m = r at h hr ⊢
  have e1 : i + 1 + m - 1 = m * (q + 1) + r := by rw [Nat.mul_succ]; omega
  rw [e1, Nat.mul_add_div hm, Nat.div_eq_of_lt hr]
  by_cases h0 : r = 0
  · have e2 : i + m - 1 = m * q + (m - 1) := by omega
    rw [if_pos h0, e2, Nat.mul_add_div hm, Nat.div_eq_of_lt (by omega)]
  · have e2 : i + m - 1 = m * (q + 1) + (r - 1) := by rw [Nat.mul_succ]; omega
    rw [if_neg h0, e2, Nat.mul_add_div hm, Nat.div_eq_of_lt (by omega)]
theorem head_up_ok {n m : Nat} (hm : 0 < m) (hn : n ≤ 4000000000) (hm2 : m ≤ 4000000000) : head_up.f n m = some ((upN n m : Nat) : Int) := by
  unfold head_up.f upN
  rw [if_neg (by omega), w64 (x := (n : Int) + m) (by omega) (by omega), w64 (x := (n : Int) + m - 1) (by omega) (by omega), Int.tdiv_eq_ediv_of_nonneg (by omega)]
  have e : (n : Int) + m - 1 = ((n + m - 1 : Nat) : Int) := by omega
  have hle : (n + m - 1) / m ≤ n + m - 1 := Nat.div_le_self _ _
  rw [e, ← Int.natCast_ediv]
  generalize (n + m - 1) / m = q at hle ⊢
  rw [w64 (by omega) (by omega)]

def lenF (N F : Nat) (i : Nat) : Int := min F (N - ((i * F : Nat) : Int))
theorem lengths_l0 {N F : Nat} (hF : 0 < F) (hF2 : F ≤ 1024) (hN : N ≤ 100000) (c b : Int) (g : Bool) (r s u : Int) (d : Nat) : ∀ (k i : Nat), i + d = upN N F → d < k →
    sackbutref16_Lengths.l0 k (tab i (lenF N F)) (max ((N : Int) - ((i * F : Nat) : Int)) 0) c b g r F s u = some (tab (upN N F) (lenF N F)) := by
  have hle := up_le (n := N) hF
  induction d with
  | zero =>
    intro k i hi hk
    obtain ⟨k, rfl, _⟩ := pred_k hk
    simp only [sackbutref16_Lengths.l0]
    have := lt_up (n := N) (i := i) hF
    rw [if_neg (by omega)]
    obtain rfl : i = upN N F := by omega
    rfl
  | succ d ih =>
    intro k i hi hk
    obtain ⟨k, rfl, hk'⟩ := pred_k hk
    simp only [sackbutref16_Lengths.l0]
    have := lt_up (n := N) (i := i) hF
    have h1 : i * F < N := by omega
    have h2 := ih k (i + 1) (by omega) (by omega)
    have h3 : (i + 1) * F = i * F + F := Nat.succ_mul i F
    rw [if_pos (by omega), if_pos (by rw [tab_length]; omega), mn_eq, w64 (by omega) (by omega)]
    rw [tab_succ, h3] at h2
    have e1 : min (max ((N : Int) - ((i * F : Nat) : Int)) 0) F = lenF N F i := by unfold lenF; omega
    rw [e1]
    have e2 : max ((N : Int) - ((i * F : Nat) : Int)) 0 - lenF N F i = max ((N : Int) - ((i * F + F : Nat) : Int)) 0 := by unfold lenF; omega
    rw [e2]
    exact h2

theorem length_in {N F : Nat} (hF : 0 < F) (hF2 : F ≤ 1024) (hN : N ≤ 100000) (c b : Int) (g : Bool) (r s : Int) {i : Nat} (hi : i < upN N F) : head_Length.f c b g r F s N i = some (lenF N F i) := by
  unfold head_Length.f head_Frames.f
  have h1 := (lt_up (n := N) hF).mp hi
  have e : (i : Int) * F = ((i * F : Nat) : Int) := by simp
  rw [if_neg (by omega), head_up_ok hF (by omega) (by omega), bs, bs, if_neg (by omega), e, w64 (x := ((i * F : Nat) : Int)) (by omega) (by omega), w64 (by omega) (by omega), mn_eq]
  rfl
theorem length_out {N F : Nat} (hF : 0 < F) (hF2 : F ≤ 1024) (hN : N ≤ 100000) (c b : Int) (g : Bool) (r s : Int) {i : Int} (hi : i < 0 ∨ (upN N F : Int) ≤ i) : head_Length.f c b g r F s N i = some 0 := by
  unfold head_Length.f head_Frames.f
  by_cases h : i < 0
  · rw [if_pos h]
  · rw [if_neg h, head_up_ok hF (by omega) (by omega), bs, bs, if_pos (by omega)]

def unitsF (S i : Nat) : Nat := if S = 0 then 0 else upN i S
theorem frames_l0 {N F S : Nat} (hF : 0 < F) (hF2 : F ≤ 1024) (hN : N ≤ 100000) (hS : S ≤ 255) (c b : Int) (g : Bool) (r : Int) (d : Nat) : ∀ (k i : Nat), i + d = upN N F → 2 * d < k →
    sackbutlaw16_HeadFrames.l0 k (min ((i * F : Nat) : Int) N) (unitsF S i) (tab (upN N F) (lenF N F)) (upN N F) i c b g r F S N = some true := by
  have hle := up_le (n := N) hF
  induction d with
  | zero =>
    intro k i hi hk
    obtain ⟨k, rfl, _⟩ := pred_k hk
    simp only [sackbutlaw16_HeadFrames.l0]
    have := lt_up (n := N) (i := i) hF
    obtain rfl : i = upN N F := by omega
    rw [if_neg (by omega), if_pos (by omega)]
    unfold head_Units.f unitsF head_Frames.f
    by_cases h0 : S = 0
    · rw [if_pos (by omega), bs, if_pos h0]
      simp
    · rw [if_neg (by omega), head_up_ok hF (by omega) (by omega), bs, bs, head_up_ok (by omega) (by omega) (by omega), bs, bs, if_neg h0]
      simp
  | succ d ih =>
    intro k i hi hk
    obtain ⟨k, rfl, hk'⟩ := pred_k hk
    obtain ⟨k, rfl⟩ : ∃ m, k = m + 1 := ⟨k - 1, by omega⟩
    simp only [sackbutlaw16_HeadFrames.l0]
    have h0 := lt_up (n := N) (i := i) hF
    have h1 : i * F < N := by omega
    have h2 := ih k (i + 1) (by omega) (by omega)
    have h3 : (i + 1) * F = i * F + F := Nat.succ_mul i F
    have hu : unitsF S i ≤ i := by
      unfold unitsF
      split
      · omega
      · exact up_le (by omega)
    have hu1 : wrap64 ((unitsF S i : Int) + 1) = ((unitsF S i + 1 : Nat) : Int) := w64 (by omega) (by omega)
    rw [h3] at h2
    have hl : rd (tab (upN N F) (lenF N F)) i = lenF N F i := rd_tab (by omega)
    rw [if_pos (by omega), if_pos (by omega), if_pos (by rw [tab_length]; omega), length_in hF hF2 hN _ _ _ _ _ (by omega), bs, hl, if_pos rfl]
    simp only [sackbutlaw16_HeadFrames.j3]
    have hp : 1 ≤ lenF N F i := by unfold lenF; omega
    have hs : wrap64 (min ((i * F : Nat) : Int) N + lenF N F i) = min ((i * F + F : Nat) : Int) N := by
      rw [w64 (by unfold lenF; omega) (by unfold lenF; omega)]
      unfold lenF
      omega
    have hi1 : wrap64 ((i : Int) + 1) = ((i + 1 : Nat) : Int) := w64 (by omega) (by omega)
    rw [if_neg (by simp; omega), hs, hi1]
    by_cases hS0 : S = 0
    · rw [if_neg (by omega)]
      unfold unitsF at h2 ⊢
      rw [if_pos hS0] at h2 ⊢
      exact h2
    · have hst := up_step (m := S) (i := i) (by omega)
      have hun : unitsF S (i + 1) = unitsF S i + (if i % S = 0 then 1 else 0) := by
        unfold unitsF
        rw [if_neg hS0, if_neg hS0]
        exact hst
      have ht : Int.tmod (i : Int) S = ((i % S : Nat) : Int) := by rw [Int.tmod_eq_emod_of_nonneg (Int.natCast_nonneg i)]; rfl
      have hSp : (S : Int) > 0 := Int.natCast_pos.mpr (Nat.pos_of_ne_zero hS0)
      rw [if_pos hSp, if_neg (Int.ne_of_gt hSp), ht]
      rw [hun] at h2
      by_cases hm : i % S = 0
      · rw [if_pos (by rw [hm]; rfl), hu1]
        rw [if_pos hm] at h2
        exact h2
      · rw [if_neg (show ¬ ((i % S : Nat) : Int) = 0 from fun h => hm (Int.ofNat.inj h))]
        rw [if_neg hm] at h2
        exact h2

theorem gate_no {p : Prop} [Decidable p] {x : Option Bool} (h : (if p then some false else x) = some true) : ¬ p ∧ x = some true := by
  by_cases hp : p
  · rw [if_pos hp] at h; cases h
  · rw [if_neg hp] at h; exact ⟨hp, h⟩
theorem gate_yes {p : Prop} [Decidable p] {x : Option Bool} (h : (if p then x else some false) = some true) : p ∧ x = some true := by
  by_cases hp : p
  · rw [if_pos hp] at h; exact ⟨hp, h⟩
  · rw [if_neg hp] at h; cases h
theorem gate_some {α : Type} {p : Prop} [Decidable p] {x y : Option α} (h1 : ∃ t, x = some t) (h2 : ∃ t, y = some t) : ∃ t, (if p then x else y) = some t := by
  by_cases hp : p
  · rw [if_pos hp]; exact h1
  · rw [if_neg hp]; exact h2
theorem ref16_tail {r f s n : Int} (h : (if r < 1 then some false else (if r > 16777215 then some false else (if f ≥ 16 then (if f ≤ 1024 then (if (Int.tmod f 16) = 0 then (if s ≥ 0 then (if s ≤ 255 then (if n ≥ 0 then (some (decide (n ≤ 1048576))) else (some false)) else (some false)) else (some false)) else (some false)) else (some false)) else (some false)))) = some true) :
    1 ≤ r ∧ r ≤ 16777215 ∧ 16 ≤ f ∧ f ≤ 1024 ∧ Int.tmod f 16 = 0 ∧ 0 ≤ s ∧ s ≤ 255 ∧ 0 ≤ n ∧ n ≤ 1048576 := by
  obtain ⟨h1, h⟩ := gate_no h
  obtain ⟨h2, h⟩ := gate_no h
  obtain ⟨h3, h⟩ := gate_yes h
  obtain ⟨h4, h⟩ := gate_yes h
  obtain ⟨h5, h⟩ := gate_yes h
  obtain ⟨h6, h⟩ := gate_yes h
  obtain ⟨h7, h⟩ := gate_yes h
  obtain ⟨h8, h⟩ := gate_yes h
  have h9 : n ≤ 1048576 := by simpa using h
  exact ⟨by omega, by omega, h3, h4, h5, h6, h7, h8, h9⟩
theorem ref16_good {c b r f s n : Int} {g : Bool} (h : sackbutref16_Good.f c b g r f s n = some true) : 1 ≤ c ∧ c ≤ 8 ∧ (b = 8 ∨ b = 16 ∨ b = 24) ∧ 1 ≤ r ∧ r ≤ 16777215 ∧ 16 ≤ f ∧ f ≤ 1024 ∧ Int.tmod f 16 = 0 ∧ 0 ≤ s ∧ s ≤ 255 ∧ 0 ≤ n ∧ n ≤ 1048576 := by
  unfold sackbutref16_Good.f at h
  obtain ⟨h1, h⟩ := gate_no h
  obtain ⟨h2, h⟩ := gate_no h
  by_cases hb : b = 8
  · rw [if_pos hb] at h
    exact ⟨by omega, by omega, .inl hb, ref16_tail h⟩
  · rw [if_neg hb] at h
    by_cases hb2 : b = 16
    · rw [if_pos hb2] at h
      exact ⟨by omega, by omega, .inr (.inl hb2), ref16_tail h⟩
    · rw [if_neg hb2] at h
      obtain ⟨hb3, h⟩ := gate_yes h
      exact ⟨by omega, by omega, .inr (.inr hb3), ref16_tail h⟩
theorem ref16_some (c b r f s n : Int) (g : Bool) : ∃ t, sackbutref16_Good.f c b g r f s n = some t := by
  unfold sackbutref16_Good.f
  repeat' (first | exact ⟨_, rfl⟩ | refine gate_some ?_ ?_)

theorem HeadFrames : ∀ (a_11 : Int) (a_18 : Int) (a_25 : Bool) (a_31 : Int) (a_38 : Int) (a_45 : Int) (a_52 : Int) (a1 : Int), (Lit.int .i64 a_11).wf = true → (Lit.int .i64 a_18).wf = true → (Lit.int .i64 a_31).wf = true → (Lit.int .i64 a_38).wf = true → (Lit.int .i64 a_45).wf = true → (Lit.int .i64 a_52).wf = true → (Lit.int .i64 a1).wf = true → ∃ k, sackbutlaw16_HeadFrames.f k a_11 a_18 a_25 a_31 a_38 a_45 a_52 a1 = some true := by
  intro c b g r f s n x _ _ _ _ _ _ _
  refine ⟨2000000, ?_⟩
  unfold sackbutlaw16_HeadFrames.f
  rw [head_awake, bs, if_pos rfl]
  have quick : sackbutlaw16_HeadFrames.j0 2000000 x true c b g r f s n = some true := by
    rw [show 2000000 = 1999999 + 1 from rfl]
    simp only [sackbutlaw16_HeadFrames.j0]
    rw [if_pos trivial, head_awake, bs]
  obtain ⟨t, ht⟩ := ref16_some c b r f s n g
  rw [ht, bs]
  cases t with
  | false => rw [if_neg (by simp)]; exact quick
  | true =>
    rw [if_pos rfl]
    by_cases hbig : n > 100000
    · rw [decide_eq_true hbig]; exact quick
    rw [decide_eq_false hbig, show 2000000 = 1999999 + 1 from rfl]
    have hg := ref16_good ht
    obtain ⟨N, rfl⟩ := Int.eq_ofNat_of_zero_le (show 0 ≤ n by omega)
    obtain ⟨F, rfl⟩ := Int.eq_ofNat_of_zero_le (show 0 ≤ f by omega)
    obtain ⟨S, rfl⟩ := Int.eq_ofNat_of_zero_le (show 0 ≤ s by omega)
    have hF : 0 < F := by omega
    have hle := up_le (n := N) hF
    simp only [sackbutlaw16_HeadFrames.j0]
    rw [if_neg (by simp)]
    have hL : sackbutref16_Lengths.f 1999999 c b g r F S N = some (tab (upN N F) (lenF N F)) := by
      have := lengths_l0 hF (by omega) (by omega : N ≤ 100000) c b g r S N (upN N F) 1999999 0 (by omega) (by omega)
      unfold sackbutref16_Lengths.f
      rw [tab_zero, Nat.zero_mul, show max ((N : Int) - ((0 : Nat) : Int)) 0 = N by omega] at this
      exact this
    rw [hL, bs]
    unfold head_Frames.f
    rw [head_up_ok hF (by omega) (by omega), bs, bs, tab_length, if_pos rfl]
    have hend : sackbutlaw16_HeadFrames.j1 1999999 (tab (upN N F) (lenF N F)) false c b g r F S N = some true := by
      rw [show 1999999 = 1999998 + 1 from rfl]
      simp only [sackbutlaw16_HeadFrames.j1]
      rw [if_neg (by simp), tab_length]
      have := frames_l0 hF (by omega) (by omega : N ≤ 100000) (by omega : S ≤ 255) c b g r (upN N F) 1999998 0 (by omega) (by omega)
      have hu0 : unitsF S 0 = 0 := by
        unfold unitsF upN
        split
        · rfl
        · exact Nat.div_eq_of_lt (by omega)
      rw [hu0, Nat.zero_mul, show min ((0 : Nat) : Int) N = 0 by omega] at this
      exact this
    by_cases hx : x < 0
    · rw [if_pos hx, length_out hF (by omega) (by omega) _ _ _ _ _ (.inl hx), bs]
      exact hend
    · rw [if_neg hx]
      by_cases hx2 : x ≥ (upN N F : Int)
      · rw [if_pos hx2, length_out hF (by omega) (by omega) _ _ _ _ _ (.inr hx2), bs]
        exact hend
      · rw [if_neg hx2]
        exact hend

end Go.Proofs.Ytofjckfdofkikaa.Pure
