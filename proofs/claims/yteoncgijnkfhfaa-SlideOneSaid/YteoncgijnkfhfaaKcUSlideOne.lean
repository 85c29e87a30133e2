/- The pure statement of the law SlideOne. -/
import Derived.Test.YteoncgijnkfhfaaKcPx0
import Derived.Test.YteoncgijnkfhfaaKcPx14
import Derived.Test.YteoncgijnkfhfaaKcUSlide
namespace Go.Proofs.Yteoncgijnkfhfaa.Pure
open Go.RowKit Go.Proofs.Yteoncgijnkfhfaa.P Go.Proofs.YteoncgijnkfhfaaW.PrintWords Go.Proofs.YteoncgijnkfhfaaW.PrintLast Go.Proofs.YteoncgijnkfhfaaW.PrintMore
set_option linter.unusedVariables false
set_option linter.unusedSimpArgs false

theorem totZ_one {n : Int} {m p : Nat} : ∀ d, d ≤ m → totZ (List.replicate m n) p d = d * costZ n p := by
  intro d
  induction d with
  | zero => intro _; simp [totZ]
  | succ d ih =>
    intro hd
    rw [totZ, ih (by omega), rd_nat]
    have : (List.replicate m n).getD ((List.replicate m n).length - (d + 1)) 0 = n := by
      rw [List.length_replicate, List.getD_eq_getElem?_getD, List.getElem?_replicate, if_pos (by omega)]
      rfl
    rw [this, Int.natCast_add, Int.natCast_one, Int.add_mul, Int.one_mul, Int.add_comm]
theorem costL_one {n : Int} {m p : Nat} : costL (List.replicate m n) p = m * costZ n p := by
  unfold costL
  rw [List.length_replicate]
  exact totZ_one m (Nat.le_refl _)
theorem part_one {n : Int} {m sz i N : Nat} (h : N * sz ≤ m) (hi : i < N) : partZ (List.replicate m n) sz i = List.replicate sz n := by
  unfold partZ
  have := Nat.mul_le_mul_right sz (show i + 1 ≤ N by omega)
  rw [Nat.succ_mul] at this
  rw [List.drop_replicate, List.take_replicate]
  congr 1
  omega
theorem sumZ_one {n : Int} {m sz N : Nat} (h : N * sz ≤ m) : ∀ i, i ≤ N → sumZ (List.replicate m n) (kz (List.replicate m n) sz N) sz i = 2 + 5 * (i : Int) + ((i * sz : Nat) : Int) * costZ n (leastZ (List.replicate sz n)) := by
  intro i
  induction i with
  | zero => intro _; simp [sumZ]
  | succ i ih =>
    intro hi
    rw [sumZ, ih (by omega), kz_rd (show i < N by omega), Int.toNat_natCast, part_one h (show i < N by omega), costL_one, Nat.succ_mul, Int.natCast_add, Int.natCast_add, Int.add_mul]
    omega
theorem one_best {n : Int} {m : Nat} (hm : 1 ≤ m) (q : Nat) (hw : wholeZ m (q : Int) = true) : (PZ (List.replicate m n) 0).2.2 ≤ (PZ (List.replicate m n) q).2.2 := by
  obtain ⟨hq3, _, _, hd⟩ := whole_iff.mp hw
  have hl : (List.replicate m n).length = m := List.length_replicate
  have h0 := sumZ_one (n := n) (m := m) (sz := m) (N := 1) (by omega) 1 (Nat.le_refl _)
  have h1 := sumZ_one (n := n) (m := m) (sz := m / 2 ^ q) (N := 2 ^ q) (Nat.mul_div_le _ _) (2 ^ q) (Nat.le_refl _)
  rw [size_mul hd] at h1
  rw [Nat.one_mul] at h0
  have hmin := leastZ_min (List.replicate m n) (leastZ_le (List.replicate (m / 2 ^ q) n))
  rw [costL_one, costL_one] at hmin
  have e0 : (PZ (List.replicate m n) 0).2.2 = sumZ (List.replicate m n) (kz (List.replicate m n) m 1) m 1 := by
    unfold PZ
    simp only [hl, Nat.pow_zero, Nat.div_one]
  have e1 : (PZ (List.replicate m n) q).2.2 = sumZ (List.replicate m n) (kz (List.replicate m n) (m / 2 ^ q) (2 ^ q)) (m / 2 ^ q) (2 ^ q) := by
    unfold PZ
    simp only [hl]
  rw [e0, e1, h0, h1]
  have h8 := pow_le8 hq3
  omega
theorem goZ_one {l : List Int} (h : ∀ q : Nat, wholeZ l.length (q : Int) = true → (PZ l 0).2.2 ≤ (PZ l q).2.2) : ∀ f p, goZ l f p (PZ l 0) = PZ l 0 := by
  intro f
  induction f with
  | zero => intro p; rfl
  | succ f ih =>
    intro p
    rw [goZ]
    by_cases hw : wholeZ l.length (p : Int) = true
    · have := h p hw
      rw [if_pos hw, if_neg (by omega), ih]
    · rw [if_neg hw]
theorem one_end {n : Int} {m : Nat} (h1 : -8589934592 ≤ n) (h2 : n ≤ 8589934591) (hm : 1 ≤ m) (hm2 : m ≤ 64) {k : Nat} (hk : 2000 < k) :
    ((slide_Best.f k (List.replicate m n)).bind fun bt347 => (if bt347.1 = 0 then (if (bt347.2.1.length : Int) = 1 then ((slide_Bits.f k (List.replicate m n) bt347.1 bt347.2.1).bind fun t353 => (if bt347.2.2 = t353 then (some (decide (bt347.2.2 ≤ (wrap64 (7 + (wrap64 (((List.replicate m n).length : Int) * 59))))))) else (some false))) else (some false)) else (some false))) = some true := by
  have hl : (List.replicate m n).length = m := List.length_replicate
  have hr : ∀ x ∈ List.replicate m n, -8589934592 ≤ x ∧ x ≤ 8589934591 := by
    intro x hx
    rw [List.eq_of_mem_replicate hx]
    exact ⟨h1, h2⟩
  have hw : wholeZ (List.replicate m n).length ((0 : Nat) : Int) = true := by
    rw [hl]
    exact whole_iff.mpr ⟨by omega, by omega, by omega, by simp [Nat.mod_one]⟩
  have hb : bestZ (List.replicate m n) = PZ (List.replicate m n) 0 := goZ_one (fun q hq => one_best hm q (by rw [hl] at hq; exact hq)) 3 1
  have hkl := kz_length (List.replicate m n) ((List.replicate m n).length / 2 ^ 0) (2 ^ 0)
  have hsb : slide_Bits.f k (List.replicate m n) (PZ (List.replicate m n) 0).1 (PZ (List.replicate m n) 0).2.1 = some (PZ (List.replicate m n) 0).2.2 := slideBits_ok hr kz_range hw hkl (by omega)
  have hbd := (sumZ_bound (l := List.replicate m n) (ks := (PZ (List.replicate m n) 0).2.1) (sz := (List.replicate m n).length / 2 ^ 0) (n := 2 ^ 0) hr kz_range (by show 2 ^ 0 ≤ (kz _ _ _).length; rw [hkl]; exact Nat.le_refl _) (Nat.mul_div_le _ _) (2 ^ 0) (Nat.le_refl _)).2
  have hbd2 : (PZ (List.replicate m n) 0).2.2 ≤ 7 + 59 * (m : Int) := by
    refine Int.le_trans hbd ?_
    rw [hl]
    simp <;> omega
  rw [slide_Best_ok hr hw (by omega), bs, hb, if_pos (show (PZ (List.replicate m n) 0).1 = 0 from rfl), if_pos (by show ((kz _ _ _).length : Int) = 1; rw [hkl]; rfl), hsb, bs, if_pos rfl, hl, w64 (x := (m : Int) * 59) (by omega) (by omega), w64 (by omega) (by omega), decide_eq_true (by omega)]
theorem one_loop {n : Int} {m : Nat} (h1 : -8589934592 ≤ n) (h2 : n ≤ 8589934591) (hm : 1 ≤ m) (hm2 : m ≤ 64) : ∀ (d i k : Nat), i + d = m → 2100 + d < k → sackbutlaw03_SlideOne.l0 k n (List.replicate i n) m i = some true := by
  intro d
  induction d with
  | zero =>
    intro i k hi hk
    obtain ⟨k, rfl, _⟩ := pred_k hk
    obtain rfl : i = m := by omega
    rw [sackbutlaw03_SlideOne.l0, if_neg (by omega)]
    exact one_end h1 h2 hm hm2 (by omega)
  | succ d ih =>
    intro i k hi hk
    obtain ⟨k, rfl, _⟩ := pred_k hk
    have hlen : (List.replicate i n).length < 17592186044416 := by rw [List.length_replicate]; omega
    rw [sackbutlaw03_SlideOne.l0, if_pos (by omega), if_pos hlen, w64 (by omega) (by omega), show (i : Int) + 1 = ((i + 1 : Nat) : Int) by omega, show List.replicate i n ++ [n] = List.replicate (i + 1) n from (List.replicate_succ' ).symm]
    exact ih (i + 1) k (by omega) (by omega)
theorem SlideOne : ∀ (a0 : Int) (a1 : Int), (Lit.int .i64 a0).wf = true → (Lit.int .u8 a1).wf = true → ∃ k, sackbutlaw03_SlideOne.f k a0 a1 = some true := by
  intro n x hn hx
  have hxb := u8b hx
  refine ⟨4000, ?_⟩
  unfold sackbutlaw03_SlideOne.f
  rw [awake03, bs, if_pos rfl, show 4000 = 3999 + 1 from rfl]
  by_cases h1 : n < -8589934592
  · rw [if_pos h1, sackbutlaw03_SlideOne.j0, if_pos rfl, awake03, bs]
  rw [if_neg h1, sackbutlaw03_SlideOne.j0]
  by_cases h2 : n > 8589934591
  · rw [decide_eq_true h2, if_pos rfl, awake03, bs]
  rw [decide_eq_false h2, if_neg (by simp)]
  have hm : Int.tmod x 64 = x % 64 := Int.tmod_eq_emod_of_nonneg hxb.1
  obtain ⟨m, hm2⟩ : ∃ m : Nat, 1 + x % 64 = m := ⟨(1 + x % 64).toNat, by omega⟩
  rw [hm, w64 (x := x % 64) (by omega) (by omega), w64 (by omega) (by omega), hm2]
  exact one_loop (by omega) (by omega) (by omega) (by omega) m 0 3999 (by omega) (by omega)
end Go.Proofs.Yteoncgijnkfhfaa.Pure
