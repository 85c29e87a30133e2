/- What layer 3 takes as a list, and its reference: one plain machine. -/
import Derived.Test.YteoncgijnkfhfaaKaPx0
import Derived.Test.YteoncgijnkfhfaaKaPx5
import Derived.Test.YteoncgijnkfhfaaKaPx6
import Derived.Test.YteoncgijnkfhfaaKaHSGood
import Derived.Test.YteoncgijnkfhfaaKaURiceZ
import Derived.Test.YteoncgijnkfhfaaKaUReader
namespace Go.Proofs.Yteoncgijnkfhfaa.Pure
open Go.RowKit Go.Proofs.Yteoncgijnkfhfaa.P Go.Proofs.YteoncgijnkfhfaaW.PrintWords Go.Proofs.YteoncgijnkfhfaaW.PrintLast Go.Proofs.YteoncgijnkfhfaaW.PrintMore
set_option linter.unusedVariables false
set_option linter.unusedSimpArgs false

/-- A part's numbers. -/
def innerZ (kk : Int) : Nat → List Bool → Int → List Int → List Int × List Bool × Int
  | 0, s, e, l => (l, s, e)
  | m + 1, s, e, l => if e = 0 then (if (riceZ s 0 kk).2.2 = 0 then innerZ kk m (riceZ s 0 kk).2.1 0 (l ++ [(riceZ s 0 kk).1]) else (l, (riceZ s 0 kk).2.1, (riceZ s 0 kk).2.2)) else (l, s, e)
/-- The parts. -/
def outerZ (m : Nat) : Nat → List Bool → Int → List Int → List Int → List Int × List Int × List Bool × Int
  | 0, s, e, l, K => (l, K, s, e)
  | c + 1, s, e, l, K => if e = 0 then outerZ m c (innerZ (takeB s 0 5).1 m (takeB s 0 5).2.1 (takeB s 0 5).2.2 l).2.1 (innerZ (takeB s 0 5).1 m (takeB s 0 5).2.1 (takeB s 0 5).2.2 l).2.2 (innerZ (takeB s 0 5).1 m (takeB s 0 5).2.1 (takeB s 0 5).2.2 l).1 (K ++ [(takeB s 0 5).1]) else (l, K, s, e)
theorem innerZ_suf (kk : Int) : ∀ (m : Nat) (s : List Bool) (e : Int) (l : List Int), (innerZ kk m s e l).2.1 <:+ s := by
  intro m
  induction m with
  | zero => exact fun s e l => List.suffix_refl _
  | succ m ih =>
    intro s e l
    unfold innerZ
    split
    · split
      · exact (ih _ _ _).trans (riceZ_suf _ _ _)
      · exact riceZ_suf _ _ _
    · exact List.suffix_refl _
theorem innerZ_stop (kk : Int) (m : Nat) (s : List Bool) {e : Int} (l : List Int) (h : e ≠ 0) : innerZ kk m s e l = (l, s, e) := by
  cases m with
  | zero => rfl
  | succ m => unfold innerZ; rw [if_neg h]
theorem outerZ_stop (m c : Nat) (s : List Bool) {e : Int} (l K : List Int) (h : e ≠ 0) : outerZ m c s e l K = (l, K, s, e) := by
  cases c with
  | zero => rfl
  | succ c => unfold outerZ; rw [if_neg h]
theorem runB_stop (s : List Bool) {e : Int} (most : Int) (h : e ≠ 0) : runB s e most = (0, s, e) := by
  unfold runB
  rw [if_pos h]
theorem takeB_stop (s : List Bool) {e : Int} (n : Int) (h : e ≠ 0) : takeB s e n = (0, s, e) := by
  unfold takeB
  rw [if_pos h]
theorem riceZ_stop (s : List Bool) {e : Int} (k : Int) (h : e ≠ 0) : (riceZ s e k).2.1 = s ∧ (riceZ s e k).2.2 ≠ 0 ∧ (riceZ s e k).2.2 = e := by
  unfold riceZ
  rw [runB_stop s 24 h]
  simp only
  rw [takeB_stop s k h]
  split
  · exact ⟨rfl, by unfold giveB; rw [if_neg h]; exact h, by unfold giveB; rw [if_neg h]⟩
  · exact ⟨by simp, by simpa using h, by simp⟩
/-- What a list's taking answers: all of it, or what went wrong. -/
def endZ (p : Int) (r : List Int × List Int × List Bool × Int) : List Int × Int × List Int := if r.2.2.2 = 0 then (r.1, p, r.2.1) else ([], 0, [])

theorem pow2_ne (p : Nat) : (2 : Int) ^ p ≠ 0 := by have := Int.pow_pos (n := 2) (m := p) (by omega); omega
abbrev OutR := List Int × List Int × List Bool × Int
def sAns (b : List Int) (P : Int) (r : OutR) : List Int × Int × List Int × Int × Int := ((endZ P r).1, (endZ P r).2.1, (endZ P r).2.2, pos b r.2.2.1, r.2.2.2)
theorem sAns_bad (b : List Int) (P : Int) (l K : List Int) (s : List Bool) {e : Int} (h : e ≠ 0) : sAns b P (l, K, s, e) = ([], 0, [], pos b s, e) := by
  unfold sAns endZ
  simp only
  rw [if_neg h]
theorem slide_inner {b : List Int} (hb : Bytes8 b) (hl : b.length ≤ 1000) (n P kk : Int) (N c i m : Nat) (hm : m ≤ 1024) (hic : i < c) (hc : c ≤ 8) (K : List Int)
    (hout : ∀ (k : Nat) (s : List Bool) (l : List Int), s <:+ unpack b → N ≤ k → l.length ≤ i * 2000 + 2000 → slide_Take.l0 k n l c ((i + 1 : Nat) : Int) b (pos b s) 0 P K = some (sAns b P (outerZ m (c - (i + 1)) s 0 l K))) (d : Nat) :
    ∀ (k j : Nat) (s : List Bool) (e : Int) (l : List Int), s <:+ unpack b → j + d = m → d + 1 + N + 9000 ≤ k → l.length + d ≤ i * 2000 + 2000 → (e = 0 ∨ 0 < d) →
      slide_Take.l1 k n l kk c i m j b (pos b s) e P K = some (sAns b P (outerZ m (c - (i + 1)) (innerZ kk d s e l).2.1 (innerZ kk d s e l).2.2 (innerZ kk d s e l).1 K)) := by
  induction d with
  | zero =>
    intro k j s e l hs hj hk hll he
    obtain ⟨k, rfl, _⟩ := pred_k (show 0 < k by omega)
    obtain rfl : e = 0 := by omega
    simp only [slide_Take.l1]
    rw [if_neg (by omega), w64 (x := (i : Int) + 1) (by omega) (by omega)]
    exact hout k s l hs (by omega) (by omega)
  | succ d ih =>
    intro k j s e l hs hj hk hll he
    obtain ⟨k, rfl, _⟩ := pred_k (show 0 < k by omega)
    have hsl := suf_len hs
    simp only [slide_Take.l1]
    rw [if_pos (by omega), riceTake_ok hb (by omega) hs e kk (by omega), bs, if_pos (by omega), fail_ok, bs]
    simp only
    by_cases h0 : e = 0
    · subst h0
      unfold innerZ
      rw [if_pos rfl]
      by_cases h1 : (riceZ s 0 kk).2.2 = 0
      · rw [if_pos h1, if_pos h1, h1, w64 (x := (j : Int) + 1) (by omega) (by omega)]
        have := ih k (j + 1) (riceZ s 0 kk).2.1 0 (l ++ [(riceZ s 0 kk).1]) ((riceZ_suf _ _ _).trans hs) (by omega) (by omega) (by simp; omega) (.inl rfl)
        exact_mod_cast this
      · rw [if_neg h1, if_neg h1, outerZ_stop _ _ _ _ _ h1, sAns_bad _ _ _ _ _ h1]
    · obtain ⟨r1, r2, r3⟩ := riceZ_stop s kk h0
      rw [if_neg r2, innerZ_stop _ _ _ _ h0, outerZ_stop _ _ _ _ _ h0, sAns_bad _ _ _ _ _ h0, r1, r3]
theorem slide_outer {b : List Int} (hb : Bytes8 b) (hl : b.length ≤ 1000) (n : Int) (P : Nat) (hP : P ≤ 3) (c m : Nat) (hm : m ≤ 1024) (hm0 : 0 < m) (hc : c ≤ 8) (hsh : shr .i64 n P = (m : Int)) (d : Nat) :
    ∀ (k i : Nat) (s : List Bool) (e : Int) (l K : List Int), s <:+ unpack b → i + d = c → d * 12000 + 100 ≤ k → l.length ≤ i * 2000 → K.length ≤ 100 + i → (e = 0 ∨ 0 < d) →
      slide_Take.l0 k n l c i b (pos b s) e P K = some (sAns b P (outerZ m d s e l K)) := by
  induction d with
  | zero =>
    intro k i s e l K hs hi hk hll hK he
    obtain ⟨k, rfl, _⟩ := pred_k (show 0 < k by omega)
    obtain rfl : e = 0 := by omega
    simp only [slide_Take.l0]
    rw [if_neg (by omega)]
    rfl
  | succ d ih =>
    intro k i s e l K hs hi hk hll hK he
    obtain ⟨k, rfl, _⟩ := pred_k (show 0 < k by omega)
    have hnum := takeB_num s e 5 (by omega)
    simp only [slide_Take.l0]
    rw [if_pos (by omega), take_ok hb (by omega) hs e 5 (by omega), bs, if_pos (by omega), if_pos (by omega), hsh, w64 (x := (takeB s e 5).1) (by omega) (by omega)]
    have hin := slide_inner hb hl n P (takeB s e 5).1 (d * 12000 + 100) c i m hm (by omega) hc (K ++ [(takeB s e 5).1])
      (fun k s' l hs hk hll => by
        have := ih k (i + 1) s' 0 l (K ++ [(takeB s e 5).1]) hs (by omega) (by omega) (by omega) (by simp; omega) (.inl rfl)
        rw [show c - (i + 1) = d by omega]
        exact this) m k 0 (takeB s e 5).2.1 (takeB s e 5).2.2 l ((takeB_suf s e 5).trans hs) (by omega) (by omega) (by omega) (.inr hm0)
    rw [show c - (i + 1) = d by omega] at hin
    rw [show ((0 : Nat) : Int) = 0 from rfl] at hin
    rw [hin]
    by_cases h0 : e = 0
    · subst h0
      conv => rhs; unfold outerZ
      rw [if_pos rfl]
    · rw [takeB_stop s 5 h0]
      simp only
      rw [innerZ_stop _ _ _ _ h0, outerZ_stop _ _ _ _ _ h0, outerZ_stop _ _ _ _ _ h0, sAns_bad _ _ _ _ _ h0, sAns_bad _ _ _ _ _ h0]
/-- The same of the reference. -/
def rAns (a P : Int) (r : OutR) : ByteArray × Int × Int × List Int × Int × List Int := (txt r.2.2.1, a, r.2.2.2, (endZ P r).1, (endZ P r).2.1, (endZ P r).2.2)
theorem rAns_bad (a P : Int) (l K : List Int) (s : List Bool) {e : Int} (h : e ≠ 0) : rAns a P (l, K, s, e) = (txt s, a, e, [], 0, []) := by
  unfold rAns endZ
  simp only
  rw [if_neg h]
theorem ref_stop (n P a : Int) (p : Nat) (hp : P = p) (hp3 : p ≤ 3) (i : Int) (s : List Bool) {e : Int} (he : e ≠ 0) (l K : List Int) {k : Nat} (hk : 100 < k) : sackbutref03_Take.l0 k n P l i (txt s) a e P K = some (txt s, a, e, [], 0, []) := by
  obtain ⟨k, rfl, _⟩ := pred_k (show 0 < k by omega)
  obtain ⟨k, rfl, _⟩ := pred_k (show 0 < k by omega)
  subst hp
  simp only [sackbutref03_Take.l0]
  rw [power_ok (by omega) (by omega), bs]
  have hb : (e == 0) = false := by simp [he]
  rw [hb]
  split
  · simp only [sackbutref03_Take.j3]
    rw [if_neg (by simp), if_neg he]
  · simp only [sackbutref03_Take.j3]
    rw [if_neg (by simp), if_neg he]
theorem ref_inner (a n : Int) (p : Nat) (hp3 : p ≤ 3) (kk : Int) (N c i m : Nat) (hm : m ≤ 1024) (hic : i < c) (hc : c ≤ 8) (hdv : wrap64 (Int.tdiv n (2 ^ p)) = (m : Int)) (K : List Int)
    (hout : ∀ (k : Nat) (s : List Bool) (l : List Int), s.length ≤ 10000 → N ≤ k → l.length ≤ i * 2000 + 2000 → sackbutref03_Take.l0 k n p l ((i + 1 : Nat) : Int) (txt s) a 0 p K = some (rAns a p (outerZ m (c - (i + 1)) s 0 l K))) (d : Nat) :
    ∀ (k j : Nat) (s : List Bool) (e : Int) (l : List Int), s.length ≤ 10000 → j + d = m → d + 10 + N + 11000 ≤ k → l.length + d ≤ i * 2000 + 2000 →
      sackbutref03_Take.l1 k n p l i kk j (txt s) a e p K = some (rAns a p (outerZ m (c - (i + 1)) (innerZ kk d s e l).2.1 (innerZ kk d s e l).2.2 (innerZ kk d s e l).1 K)) := by
  induction d with
  | zero =>
    intro k j s e l hs hj hk hll
    obtain ⟨k, rfl, _⟩ := pred_k (show 0 < k by omega)
    simp only [sackbutref03_Take.l1]
    rw [power_ok (by omega) (by omega), bs, if_neg (pow2_ne p), hdv, if_neg (by omega), w64 (x := (i : Int) + 1) (by omega) (by omega)]
    show _ = some (rAns a p (outerZ m (c - (i + 1)) s e l K))
    by_cases h0 : e = 0
    · subst h0
      exact hout k s l hs (by omega) (by omega)
    · rw [outerZ_stop _ _ _ _ _ h0, rAns_bad _ _ _ _ _ h0]
      exact ref_stop n p a p rfl hp3 _ s h0 l K (by omega)
  | succ d ih =>
    intro k j s e l hs hj hk hll
    obtain ⟨k, rfl, _⟩ := pred_k (show 0 < k by omega)
    simp only [sackbutref03_Take.l1]
    rw [power_ok (by omega) (by omega), bs, if_neg (pow2_ne p), hdv, if_pos (by omega)]
    by_cases h0 : e = 0
    · subst h0
      rw [if_pos rfl, rriceTake_ok s (by omega) a 0 kk (by omega), bs, if_pos (by omega)]
      simp only
      unfold innerZ
      rw [if_pos rfl, w64 (x := (j : Int) + 1) (by omega) (by omega)]
      have hsl := (riceZ_suf s 0 kk).length_le
      by_cases h1 : (riceZ s 0 kk).2.2 = 0
      · rw [if_pos h1, h1]
        have := ih k (j + 1) (riceZ s 0 kk).2.1 0 (l ++ [(riceZ s 0 kk).1]) (by omega) (by omega) (by omega) (by simp; omega)
        exact_mod_cast this
      · rw [if_neg h1]
        have := ih k (j + 1) (riceZ s 0 kk).2.1 (riceZ s 0 kk).2.2 (l ++ [(riceZ s 0 kk).1]) (by omega) (by omega) (by omega) (by simp; omega)
        rw [innerZ_stop _ _ _ _ h1] at this
        simp only at this ⊢
        rw [outerZ_stop _ _ _ _ _ h1, rAns_bad _ _ _ _ _ h1] at this ⊢
        exact_mod_cast this
    · rw [if_neg h0, w64 (x := (i : Int) + 1) (by omega) (by omega), innerZ_stop _ _ _ _ h0]
      simp only
      rw [outerZ_stop _ _ _ _ _ h0, rAns_bad _ _ _ _ _ h0]
      exact ref_stop n p a p rfl hp3 _ s h0 l K (by omega)
theorem ref_outer (a n : Int) (p : Nat) (hp3 : p ≤ 3) (c m : Nat) (hm : m ≤ 1024) (hcp : c = 2 ^ p) (hdv : wrap64 (Int.tdiv n (2 ^ p)) = (m : Int)) (d : Nat) :
    ∀ (k i : Nat) (s : List Bool) (e : Int) (l K : List Int), s.length ≤ 10000 → i + d = c → d * 13000 + 200 ≤ k → l.length ≤ i * 2000 → K.length ≤ 100 + i →
      sackbutref03_Take.l0 k n p l i (txt s) a e p K = some (rAns a p (outerZ m d s e l K)) := by
  have hc8 : c ≤ 8 := by rw [hcp]; have := Nat.pow_le_pow_right (n := 2) (by omega) hp3; omega
  have hpc : ((2 : Int) ^ p) = (c : Int) := by rw [hcp]; simp
  induction d with
  | zero =>
    intro k i s e l K hs hi hk hll hK
    by_cases h0 : e = 0
    · subst h0
      obtain ⟨k, rfl, _⟩ := pred_k (show 0 < k by omega)
      obtain ⟨k, rfl, _⟩ := pred_k (show 0 < k by omega)
      simp only [sackbutref03_Take.l0]
      rw [power_ok (by omega) (by omega), bs, hpc, if_neg (by omega)]
      simp only [sackbutref03_Take.j3]
      rw [if_neg (by simp)]
      simp only [if_true]
      rfl
    · rw [outerZ_stop _ _ _ _ _ h0, rAns_bad _ _ _ _ _ h0]
      exact ref_stop n p a p rfl hp3 _ s h0 l K (by omega)
  | succ d ih =>
    intro k i s e l K hs hi hk hll hK
    by_cases h0 : e = 0
    · subst h0
      obtain ⟨k, rfl, _⟩ := pred_k (show 0 < k by omega)
      obtain ⟨k, rfl, _⟩ := pred_k (show 0 < k by omega)
      simp only [sackbutref03_Take.l0]
      rw [power_ok (by omega) (by omega), bs, hpc, if_pos (by omega)]
      simp only [sackbutref03_Take.j3, beq_self_eq_true, if_true]
      rw [rtake_ok s (by omega) a 0 5 (by omega), bs, if_pos (by omega)]
      have hsl := (takeB_suf s 0 5).length_le
      have hin := ref_inner a n p hp3 (takeB s 0 5).1 (d * 13000 + 200) c i m hm (by omega) hc8 hdv (K ++ [(takeB s 0 5).1])
        (fun k s' l hs hk hll => by
          have := ih k (i + 1) s' 0 l (K ++ [(takeB s 0 5).1]) hs (by omega) (by omega) (by omega) (by simp; omega)
          rw [show c - (i + 1) = d by omega]
          exact this) m k 0 (takeB s 0 5).2.1 (takeB s 0 5).2.2 l (by omega) (by omega) (by omega) (by omega)
      rw [show c - (i + 1) = d by omega, show ((0 : Nat) : Int) = 0 from rfl] at hin
      simp only
      rw [hin]
      conv => rhs; unfold outerZ
      rw [if_pos rfl]
    · rw [outerZ_stop _ _ _ _ _ h0, rAns_bad _ _ _ _ _ h0]
      exact ref_stop n p a p rfl hp3 _ s h0 l K (by omega)
/-- What both answer: the list, P, the parameters, the bits left, the error. -/
def takeS (s : List Bool) (n : Int) : OutR × Int :=
  if wholeZ n 0 = false then (([], [], s, 1), 0)
  else if wholeZ n (takeB s 0 2).1 = false then (([], [], (takeB s 0 2).2.1, giveB (takeB s 0 2).2.2 2), (takeB s 0 2).1)
  else (outerZ (n / 2 ^ (takeB s 0 2).1.toNat).toNat (2 ^ (takeB s 0 2).1.toNat) (takeB s 0 2).2.1 (takeB s 0 2).2.2 [] [], (takeB s 0 2).1)
theorem take2_range (s : List Bool) : ∃ p : Nat, (takeB s 0 2).1 = p ∧ p ≤ 3 := by
  have := takeB_num s 0 2 (by omega)
  unfold takeB at this ⊢
  rw [if_neg (by simp), if_neg (by omega)] at this ⊢
  split
  · exact ⟨0, rfl, by omega⟩
  · rename_i h
    rw [if_neg h] at this
    have h3 := this.2.2 rfl
    have : (2 : Int) ^ (2 : Int).toNat = 4 := rfl
    exact ⟨(numL (s.take (2 : Int).toNat)).toNat, by omega, by omega⟩
theorem whole_one {n : Int} (h : wholeZ n 0 = true) : 1 ≤ n ∧ n ≤ 1024 := by
  unfold wholeZ at h
  simp at h
  omega
theorem whole_div {n : Int} {p : Nat} (hp : p ≤ 3) (h : wholeZ n p = true) : 1 ≤ n ∧ n ≤ 1024 ∧ n % 2 ^ p = 0 ∧ 0 < n / 2 ^ p ∧ n / 2 ^ p ≤ 1024 := by
  unfold wholeZ at h
  simp only [Bool.and_eq_true, decide_eq_true_eq, Int.toNat_natCast] at h
  obtain ⟨h1, h2, _, _, h5⟩ := h
  have hp4 : p = 0 ∨ p = 1 ∨ p = 2 ∨ p = 3 := by omega
  rcases hp4 with rfl | rfl | rfl | rfl <;> simp at h5 ⊢ <;> omega
theorem shl_one {p : Nat} (hp : p ≤ 3) : shl .i64 1 (p : Int) = ((2 ^ p : Nat) : Int) := by
  have hp4 : p = 0 ∨ p = 1 ∨ p = 2 ∨ p = 3 := by omega
  rcases hp4 with rfl | rfl | rfl | rfl <;> decide +kernel
theorem takeS_1 {s : List Bool} {n : Int} (h : wholeZ n 0 = false) : takeS s n = (([], [], s, 1), 0) := by
  unfold takeS
  rw [if_pos h]
theorem takeS_2 {s : List Bool} {n : Int} (h : wholeZ n 0 = true) (h1 : wholeZ n (takeB s 0 2).1 = false) : takeS s n = (([], [], (takeB s 0 2).2.1, giveB (takeB s 0 2).2.2 2), (takeB s 0 2).1) := by
  unfold takeS
  rw [if_neg (by rw [h]; simp), if_pos h1]
theorem takeS_3 {s : List Bool} {n : Int} (h : wholeZ n 0 = true) (h1 : wholeZ n (takeB s 0 2).1 = true) : takeS s n = (outerZ (n / 2 ^ (takeB s 0 2).1.toNat).toNat (2 ^ (takeB s 0 2).1.toNat) (takeB s 0 2).2.1 (takeB s 0 2).2.2 [] [], (takeB s 0 2).1) := by
  unfold takeS
  rw [if_neg (by rw [h]; simp), if_neg (by rw [h1]; simp)]
set_option maxRecDepth 100000 in
theorem slide_take_ok {b : List Int} (hb : Bytes8 b) (hl : b.length ≤ 1000) {s : List Bool} (hs : s <:+ unpack b) (n : Int) {k : Nat} (hk : 150000 ≤ k) :
    slide_Take.f k b (pos b s) 0 n = some (sAns b (takeS s n).2 (takeS s n).1) := by
  have hsl := suf_len hs
  unfold slide_Take.f
  rw [whole_eq, bs]
  cases h0 : wholeZ n 0 with
  | false =>
    rw [if_neg (by simp), give_ok, bs, takeS_1 h0]
    rfl
  | true =>
    obtain ⟨p, hp, hp3⟩ := take2_range s
    rw [if_pos rfl, take_ok hb (by omega) hs 0 2 (by omega), bs]
    simp only
    rw [hp, w64 (x := (p : Int)) (by omega) (by omega), whole_eq, bs]
    cases h1 : wholeZ n (p : Int) with
    | false =>
      have he : giveB (takeB s 0 2).2.2 2 ≠ 0 := by unfold giveB; split <;> simp_all
      rw [if_neg (by simp), give_ok, bs, takeS_2 h0 (by rw [hp]; exact h1)]
      simp only
      rw [sAns_bad _ _ _ _ _ he]
    | true =>
      obtain ⟨q1, q2, q3, q4, q5⟩ := whole_div hp3 h1
      rw [if_pos rfl, if_pos (by omega), shl_one hp3, takeS_3 h0 (by rw [hp]; exact h1), hp]
      simp only
      rw [Int.toNat_natCast]
      have hm : ((n / 2 ^ p).toNat : Int) = n / 2 ^ p := Int.toNat_of_nonneg (by omega)
      have hc8 : 2 ^ p ≤ 8 := by have := Nat.pow_le_pow_right (n := 2) (by omega) hp3; omega
      have hc1 : 0 < 2 ^ p := Nat.pow_pos (by omega)
      have := slide_outer hb hl n p hp3 (2 ^ p) (n / 2 ^ p).toNat (by omega) (by omega) hc8 (by rw [shr_ok n p (by omega), hm]) (2 ^ p) k 0 (takeB s 0 2).2.1 (takeB s 0 2).2.2 [] [] ((takeB_suf s 0 2).trans hs) (by omega) (by have := Nat.mul_le_mul_right 12000 hc8; omega) (by simp) (by simp) (.inr hc1)
      exact this
set_option maxRecDepth 100000 in
theorem ref_take_ok {s : List Bool} (hs : s.length ≤ 10000) (a n : Int) {k : Nat} (hk : 150000 ≤ k) :
    sackbutref03_Take.f k (txt s) a 0 n = some (rAns a (takeS s n).2 (takeS s n).1) := by
  obtain ⟨k, rfl, _⟩ := pred_k (show 0 < k by omega)
  unfold sackbutref03_Take.f
  cases h0 : wholeZ n 0 with
  | false =>
    rw [takeS_1 h0]
    have hx : ∀ x, x = true → sackbutref03_Take.j0 (k + 1) n x (txt s) a 0 = some (rAns a 0 (([], [], s, 1) : OutR)) := by
      rintro x rfl
      simp only [sackbutref03_Take.j0, if_true]
      rw [rgive_ok, bs]
      rfl
    by_cases h1 : n < 1
    · rw [if_pos h1]
      exact hx _ rfl
    · rw [if_neg h1]
      refine hx _ (decide_eq_true ?_)
      unfold wholeZ at h0
      simp at h0
      have := h0 (by omega)
      omega
  | true =>
    obtain ⟨h1, h2⟩ := whole_one h0
    obtain ⟨p, hp, hp3⟩ := take2_range s
    have hsl := (takeB_suf s 0 2).length_le
    rw [if_neg (by omega), decide_eq_false (show ¬ n > 1024 by omega)]
    simp only [sackbutref03_Take.j0, Bool.false_eq_true, if_false]
    rw [rtake_ok s (by omega) a 0 2 (by omega), bs]
    simp only
    rw [hp, power_ok (by omega) (by omega), bs, if_neg (pow2_ne p), Int.tmod_eq_emod_of_nonneg (by omega)]
    have hw : wholeZ n (p : Int) = decide (n % 2 ^ p = 0) := by
      unfold wholeZ
      rw [decide_eq_true h1, decide_eq_true h2, decide_eq_true (show (0 : Int) ≤ p by omega), decide_eq_true (show (p : Int) ≤ 3 by omega), Int.toNat_natCast]
      rfl
    by_cases h3 : n % 2 ^ p = 0
    · have hwt : wholeZ n (p : Int) = true := by rw [hw, decide_eq_true h3]
      rw [if_pos h3, takeS_3 h0 (by rw [hp]; exact hwt), hp]
      simp only
      rw [Int.toNat_natCast]
      obtain ⟨q1, q2, q3, q4, q5⟩ := whole_div hp3 hwt
      have hm : ((n / 2 ^ p).toNat : Int) = n / 2 ^ p := Int.toNat_of_nonneg (by omega)
      have hc8 : 2 ^ p ≤ 8 := by have := Nat.pow_le_pow_right (n := 2) (by omega) hp3; omega
      obtain ⟨k, rfl, _⟩ := pred_k (show 0 < k by omega)
      simp only [sackbutref03_Take.j1]
      have := ref_outer a n p hp3 (2 ^ p) (n / 2 ^ p).toNat (by omega) rfl (by rw [Int.tdiv_eq_ediv_of_nonneg (by omega), hm, w64 (by omega) (by omega)]) (2 ^ p) k 0 (takeB s 0 2).2.1 (takeB s 0 2).2.2 [] [] (by omega) (by omega) (by have := Nat.mul_le_mul_right 13000 hc8; omega) (by simp) (by simp)
      exact this
    · have he : giveB (takeB s 0 2).2.2 2 ≠ 0 := by unfold giveB; split <;> simp_all
      have hwf : wholeZ n (p : Int) = false := by rw [hw, decide_eq_false h3]
      rw [if_neg h3, takeS_2 h0 (by rw [hp]; exact hwf), rgive_ok, bs]
      simp only
      rw [rAns_bad _ _ _ _ _ he]
      obtain ⟨k, rfl, _⟩ := pred_k (show 0 < k by omega)
      simp only [sackbutref03_Take.j1]
      exact ref_stop n p a p rfl hp3 0 _ he [] [] (by omega)
theorem takeS_suf (s : List Bool) (n : Int) : (takeS s n).1.2.2.1 <:+ s := by
  have ho : ∀ m c s e l K, (outerZ m c s e l K).2.2.1 <:+ s := by
    intro m c
    induction c with
    | zero => exact fun s e l K => List.suffix_refl _
    | succ c ih =>
      intro s e l K
      unfold outerZ
      split
      · exact (ih _ _ _ _).trans ((innerZ_suf _ _ _ _ _).trans (takeB_suf _ _ _))
      · exact List.suffix_refl _
  unfold takeS
  split
  · exact List.suffix_refl _
  · split
    · exact takeB_suf _ _ _
    · exact (ho _ _ _ _ _ _).trans (takeB_suf _ _ _)
theorem inner_len (kk : Int) : ∀ (m : Nat) (s : List Bool) (e : Int) (l : List Int), (innerZ kk m s e l).1.length ≤ l.length + m := by
  intro m
  induction m with
  | zero => exact fun s e l => by simp [innerZ]
  | succ m ih =>
    intro s e l
    unfold innerZ
    split
    · split
      · have := ih (riceZ s 0 kk).2.1 0 (l ++ [(riceZ s 0 kk).1])
        simp at this
        omega
      · simp only; omega
    · simp only; omega
theorem outer_len (m : Nat) : ∀ (c : Nat) (s : List Bool) (e : Int) (l K : List Int), (outerZ m c s e l K).1.length ≤ l.length + c * m ∧ (outerZ m c s e l K).2.1.length ≤ K.length + c := by
  intro c
  induction c with
  | zero => exact fun s e l K => by simp [outerZ]
  | succ c ih =>
    intro s e l K
    unfold outerZ
    rw [Nat.succ_mul]
    split
    · have h1 := ih (innerZ (takeB s 0 5).1 m (takeB s 0 5).2.1 (takeB s 0 5).2.2 l).2.1 (innerZ (takeB s 0 5).1 m (takeB s 0 5).2.1 (takeB s 0 5).2.2 l).2.2 (innerZ (takeB s 0 5).1 m (takeB s 0 5).2.1 (takeB s 0 5).2.2 l).1 (K ++ [(takeB s 0 5).1])
      have h2 := inner_len (takeB s 0 5).1 m (takeB s 0 5).2.1 (takeB s 0 5).2.2 l
      simp only [List.length_append, List.length_cons, List.length_nil] at h1
      omega
    · simp only; omega
theorem takeS_len (s : List Bool) (n : Int) : (endZ (takeS s n).2 (takeS s n).1).1.length ≤ 2000 ∧ (endZ (takeS s n).2 (takeS s n).1).2.2.length ≤ 2000 := by
  have hend : ∀ (P : Int) (r : OutR), r.1.length ≤ 2000 → r.2.1.length ≤ 2000 → (endZ P r).1.length ≤ 2000 ∧ (endZ P r).2.2.length ≤ 2000 := by
    intro P r h1 h2
    unfold endZ
    split
    · exact ⟨h1, h2⟩
    · simp
  cases h0 : wholeZ n 0 with
  | false => rw [takeS_1 h0]; exact hend _ _ (by simp) (by simp)
  | true =>
    obtain ⟨p, hp, hp3⟩ := take2_range s
    cases h1 : wholeZ n (p : Int) with
    | false => rw [takeS_2 h0 (by rw [hp]; exact h1)]; exact hend _ _ (by simp) (by simp)
    | true =>
      rw [takeS_3 h0 (by rw [hp]; exact h1), hp, Int.toNat_natCast]
      obtain ⟨q1, q2, q3, q4, q5⟩ := whole_div hp3 h1
      have ho := outer_len (n / 2 ^ p).toNat (2 ^ p) (takeB s 0 2).2.1 (takeB s 0 2).2.2 [] []
      have hmul : 2 ^ p * (n / 2 ^ p).toNat ≤ 1024 := by
        have h2 : ((2 ^ p * (n / 2 ^ p).toNat : Nat) : Int) = 2 ^ p * (n / 2 ^ p) := by
          rw [Int.natCast_mul, Int.toNat_of_nonneg (by omega)]
          simp
        have h3 : (2 : Int) ^ p * (n / 2 ^ p) ≤ n := Int.mul_ediv_self_le (by have := pow2_ne p; exact this)
        omega
      have hc8 : 2 ^ p ≤ 8 := by have := Nat.pow_le_pow_right (n := 2) (by omega) hp3; omega
      simp only [List.length_nil] at ho
      exact hend _ _ (by simp only; omega) (by simp only; omega)
end Go.Proofs.Yteoncgijnkfhfaa.Pure
