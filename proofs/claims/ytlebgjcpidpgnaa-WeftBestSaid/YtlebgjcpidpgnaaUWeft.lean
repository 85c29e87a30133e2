/- What layer 11's functions answer, and the document's: plain Lean. -/
import Derived.Test.YtlebgjcpidpgnaaPx0
import Derived.Test.YtlebgjcpidpgnaaPx7
import Derived.Test.YtlebgjcpidpgnaaPx8
import Derived.Test.YtlebgjcpidpgnaaPx10
import Derived.Test.YtlebgjcpidpgnaaPx9
import Derived.Test.YtlebgjcpidpgnaaHWRest
import Derived.Test.YtlebgjcpidpgnaaHWBack
import Derived.Test.YtlebgjcpidpgnaaHWRFore
import Derived.Test.YtlebgjcpidpgnaaHWRGood
import Derived.Test.YtlebgjcpidpgnaaUSame
namespace Go.Proofs.Ytlebgjcpidpgnaa.Pure
open Go.RowKit Go.Proofs.Ytlebgjcpidpgnaa.P Go.Proofs.YtlebgjcpidpgnaaW.PrintWords Go.Proofs.YtlebgjcpidpgnaaW.PrintLast Go.Proofs.YtlebgjcpidpgnaaW.PrintMore
set_option linter.unusedVariables false
set_option linter.unusedSimpArgs false

theorem wrap_idem (x y : Int) : wrap64 (wrap64 x + y) = wrap64 (x + y) := by unfold wrap64; omega
theorem foreT_eq (g0 g1 g2 : Int) (l : List Int) (i : Int) : foreS g0 g1 g2 l i 3 = foreT g0 g1 g2 l i := by
  have e : foreS g0 g1 g2 l i 3 = wrap64 (wrap64 (wrap64 (0 + wrap64 (g0 * atZ l (i - 1))) + wrap64 (g1 * atZ l i)) + wrap64 (g2 * atZ l (i + 1))) := rfl
  have e2 : wrap64 (0 + wrap64 (g0 * atZ l (i - 1))) = wrap64 (g0 * atZ l (i - 1)) := by unfold wrap64; omega
  rw [e, e2]
  rfl
theorem foreT_range (g0 g1 g2 : Int) (l : List Int) (i : Int) : -9223372036854775808 ≤ foreT g0 g1 g2 l i ∧ foreT g0 g1 g2 l i ≤ 9223372036854775807 := by
  unfold foreT
  generalize wrap64 (wrap64 (g0 * atZ l (i - 1)) + wrap64 (g1 * atZ l i)) + wrap64 (g2 * atZ l (i + 1)) = z
  unfold wrap64
  omega
/-- What is foreseen of a place. -/
def foreI (g0 g1 g2 : Int) (l : List Int) (i : Nat) : Int := foreT g0 g1 g2 l i / 16
theorem fore_ok {g0 g1 g2 : Int} {l : List Int} {i : Nat} (hi : i ≤ 1000000000) : weft_foreseen.f g0 g1 g2 l i = some (foreI g0 g1 g2 l i) := by
  unfold weft_foreseen.f foreI
  rw [if_pos (by omega), foreT_eq]
theorem rfore_ok {g0 g1 g2 : Int} {l : List Int} {i : Nat} (hi : i ≤ 1000000000) : sackbutref11_Foreseen.f g0 g1 g2 l i = some (foreI g0 g1 g2 l i) := by
  have h := foreT_range g0 g1 g2 l i
  unfold sackbutref11_Foreseen.f foreI
  rw [if_pos (by omega)]
  generalize foreT g0 g1 g2 l i = y at h ⊢
  congr 1
  by_cases hy : 0 ≤ y
  · rw [Int.tmod_eq_emod_of_nonneg hy, Int.tdiv_eq_ediv_of_nonneg hy, if_neg (by omega), w64 (by omega) (by omega)]
  · obtain ⟨z, rfl⟩ : ∃ z, y = -z := ⟨-y, by omega⟩
    rw [Int.neg_tmod, Int.neg_tdiv, Int.tmod_eq_emod_of_nonneg (by omega), Int.tdiv_eq_ediv_of_nonneg (by omega)]
    rw [w64 (x := -(z / 16)) (by omega) (by omega)]
    split
    · rw [w64 (by omega) (by omega)]
      omega
    · omega
/-- What isn't foreseen. -/
def wresF (g0 g1 g2 : Int) (own m : List Int) (i : Nat) : Int := wrap64 (rd own i - foreI g0 g1 g2 m i)
def wresZ (g0 g1 g2 : Int) (own m : List Int) : List Int := tab own.length (wresF g0 g1 g2 own m)
theorem wresZ_length (g0 g1 g2 : Int) (own m : List Int) : (wresZ g0 g1 g2 own m).length = own.length := tab_length _ _
theorem wrest_l0 {own m : List Int} (g0 g1 g2 : Int) (ho : own.length ≤ 1000000) (d : Nat) : ∀ (k i : Nat), i + d = own.length → d < k → weft_rest.l0 k m (tab i (wresF g0 g1 g2 own m)) own own.length i g0 g1 g2 = some (wresZ g0 g1 g2 own m) := by
  induction d with
  | zero =>
    intro k i hi hk
    obtain ⟨k, rfl, _⟩ := pred_k hk
    simp only [weft_rest.l0]
    rw [if_neg (by omega), show i = own.length by omega]
    rfl
  | succ d ih =>
    intro k i hi hk
    obtain ⟨k, rfl, _⟩ := pred_k hk
    simp only [weft_rest.l0]
    have := ih k (i + 1) (by omega) (by omega)
    rw [if_pos (by omega), if_pos (by omega), if_pos (by omega), fore_ok (by omega), bs, tab_length, if_pos (by omega), w64 (x := (i : Int) + 1) (by omega) (by omega)]
    rw [tab_succ] at this
    exact_mod_cast this
theorem wrest_ok {own m : List Int} (g0 g1 g2 : Int) (ho : own.length ≤ 1000000) {k : Nat} (hk : own.length < k) : weft_rest.f k g0 g1 g2 own m = some (wresZ g0 g1 g2 own m) :=
  wrest_l0 g0 g1 g2 ho own.length k 0 (by omega) hk
def goodW (s : Bool) (m g0 g1 g2 : Int) : Bool :=
  if s = false then decide (m = 0) && decide (g0 = 0 ∧ g1 = 0 ∧ g2 = 0) else !(wOut g0 || wOut g1 || wOut g2) && (decide (0 ≤ m) && (decide (m < 8) && decide (m < 8))) && !decide (g0 = 0 ∧ g1 = 0 ∧ g2 = 0)
theorem good_w (s : Bool) (m g0 g1 g2 : Int) : weft_Good.f s m g0 g1 g2 8 = some (goodW s m g0 g1 g2) := rfl
theorem rgood_w (k : Nat) (s : Bool) (m g0 g1 g2 : Int) : sackbutref11_Good.f k s m g0 g1 g2 8 = some (goodW s m g0 g1 g2) := rfl
theorem goodW_gains {s : Bool} {m g0 g1 g2 : Int} (h : goodW s m g0 g1 g2 = true) : (-16 ≤ g0 ∧ g0 ≤ 15) ∧ (-16 ≤ g1 ∧ g1 ≤ 15) ∧ (-16 ≤ g2 ∧ g2 ≤ 15) := by
  have hw : ∀ {g : Int}, wOut g = false → -16 ≤ g ∧ g ≤ 15 := by
    intro g h
    unfold wOut at h
    rw [Bool.or_eq_false_iff, decide_eq_false_iff_not, decide_eq_false_iff_not] at h
    omega
  unfold goodW at h
  cases s with
  | false =>
    rw [if_pos rfl, Bool.and_eq_true, decide_eq_true_eq, decide_eq_true_eq] at h
    omega
  | true =>
    rw [if_neg (by simp)] at h
    simp only [Bool.and_eq_true, Bool.not_eq_true', Bool.or_eq_false_iff] at h
    exact ⟨hw h.1.1.1.1, hw h.1.1.1.2, hw h.1.1.2⟩
theorem wrong_w (s : Bool) (m g0 g1 g2 : Int) (a b : List Int) : weft_wrong.f s m g0 g1 g2 a b = some (if goodW s m g0 g1 g2 = true then (if a.length = b.length then 0 else 8) else 2) := by
  unfold weft_wrong.f
  rw [good_w, bs]
  split
  · by_cases h : a.length = b.length
    · rw [if_pos (by omega), if_pos h]
    · rw [if_neg (by omega), if_neg h]
  · rfl
theorem wdrop_any {p : Int → Bool} {s : List Int} {i : Nat} (h : i < s.length) : (s.drop i).any p = (p (rd s i) || (s.drop (i + 1)).any p) := by
  rw [List.drop_eq_getElem_cons h, List.any_cons, rd_nat]
  simp [List.getD, h]
theorem in_l0 (s : List Int) (hs : s.length ≤ 1000000) (d : Nat) : ∀ (k i : Nat), i + d = s.length → d < k → sackbutref11_in.l0 k s s.length i = some (!(s.drop i).any farP) := by
  induction d with
  | zero =>
    intro k i hi hk
    obtain ⟨k, rfl, _⟩ := pred_k hk
    simp only [sackbutref11_in.l0]
    rw [if_neg (by omega), List.drop_eq_nil_of_le (by omega)]
    rfl
  | succ d ih =>
    intro k i hi hk
    obtain ⟨k, rfl, _⟩ := pred_k hk
    simp only [sackbutref11_in.l0]
    have := ih k (i + 1) (by omega) (by omega)
    rw [if_pos (by omega), if_pos (by omega), if_pos (by omega), w64 (x := (i : Int) + 1) (by omega) (by omega), wdrop_any (by omega), show farP (rd s i) = (decide (rd s i < -8388608) || decide (rd s i ≥ 8388608)) from rfl]
    by_cases h1 : rd s i < -8388608
    · rw [if_pos h1, decide_eq_true h1]
      rfl
    · by_cases h2 : rd s i > 8388607
      · rw [if_neg h1, if_pos h2, decide_eq_true (show rd s i ≥ 8388608 by omega)]
        simp
      · rw [if_neg h1, if_neg h2, decide_eq_false h1, decide_eq_false (show ¬ rd s i ≥ 8388608 by omega), Bool.false_or, Bool.false_or]
        exact this
theorem in_ok {s : List Int} (hs : s.length ≤ 1000000) {k : Nat} (hk : s.length < k) : sackbutref11_in.f k s = some (!s.any farP) := in_l0 s hs s.length k 0 (by omega) hk
theorem no_far {s : List Int} (h : s.any farP = false) {i : Nat} (hi : i < s.length) : -8388608 ≤ rd s i ∧ rd s i ≤ 8388607 := by
  have h2 : farP (rd s i) = false := by
    cases hb : farP (rd s i) with
    | false => rfl
    | true =>
      have : s.any farP = true := List.any_eq_true.mpr ⟨_, rd_mem (by omega) (by omega), hb⟩
      rw [this] at h
      cases h
  unfold farP at h2
  rw [Bool.or_eq_false_iff, decide_eq_false_iff_not, decide_eq_false_iff_not] at h2
  omega
/-- The rest, or what is wrong. -/
def wrestR (s : Bool) (m g0 g1 g2 : Int) (own master : List Int) : List Int × Int :=
  if goodW s m g0 g1 g2 = true then (if own.length = master.length then (if own.any farP = true then ([], 9) else if master.any farP = true then ([], 9) else (wresZ g0 g1 g2 own master, 0)) else ([], 8)) else ([], 2)
theorem Rest_ok (s : Bool) (m g0 g1 g2 : Int) {own master : List Int} (ho : own.length ≤ 1000000) (hm : master.length ≤ 1000000) {k : Nat} (hk : own.length < k) : weft_Rest.f k s m g0 g1 g2 own master = some (wrestR s m g0 g1 g2 own master) := by
  unfold weft_Rest.f wrestR
  rw [wrong_w, bs]
  by_cases hg : goodW s m g0 g1 g2 = true
  · rw [if_pos hg, if_pos hg]
    by_cases hl : own.length = master.length
    · rw [if_pos hl, if_pos hl, if_pos rfl, if_pos (by omega), if_pos (by omega)]
      split
      · rfl
      · split
        · rfl
        · rw [wrest_ok g0 g1 g2 ho hk, bs]
    · rw [if_neg hl, if_neg hl, if_neg (by decide)]
  · rw [if_neg hg, if_neg hg, if_neg (by decide)]
theorem awake11 {k : Nat} (hk : 10 ≤ k) : sackbutlaw11_awake.f k = some true := by
  unfold sackbutlaw11_awake.f
  rw [Rest_ok _ _ _ _ _ (by simp) (by simp) (by simp; omega), bs, show wrestR true 0 0 15 0 [16, 32] [16, 32] = ([1, 2], 0) by decide +kernel, if_pos rfl]
  show ((sackbutref01_Same.f k [1, 2] [1, 2]).bind _) = _
  rw [same_ok _ _ (by simp) (by simp; omega), bs]
  rfl
/-- The channel of a rest, from place i on. -/
def backZ (g0 g1 g2 : Int) (m : List Int) (most : Int) : Nat → List Int → List Int → List Int × Int
  | _, out, [] => (out, 0)
  | i, out, n :: es => if n > most - foreI g0 g1 g2 m i then ([], 9) else if n < -most - 1 - foreI g0 g1 g2 m i then ([], 9) else backZ g0 g1 g2 m most (i + 1) (out ++ [n + foreI g0 g1 g2 m i]) es
theorem backAll_ok (g0 g1 g2 : Int) (m : List Int) (most : Int) : ∀ (es : List Int) (i : Nat) (out : List Int), i + es.length ≤ 1000000 → backAll g0 g1 g2 m most i out es = some (backZ g0 g1 g2 m most i out es) := by
  intro es
  induction es with
  | nil => intro i out _; rfl
  | cons n es ih =>
    intro i out h
    rw [List.length_cons] at h
    rw [backAll, backZ, fore_ok (by omega), bs]
    split
    · rfl
    · split
      · rfl
      · exact ih _ _ (by omega)
def wbackR (s : Bool) (m g0 g1 g2 : Int) (rest master : List Int) (most : Int) : List Int × Int :=
  if goodW s m g0 g1 g2 = true then (if rest.length = master.length then (if most < 0 then ([], 1) else if most ≥ 8388608 then ([], 1) else if master.any farP = true then ([], 9) else backZ g0 g1 g2 master most 0 [] rest) else ([], 8)) else ([], 2)
theorem Back_ok (s : Bool) (m g0 g1 g2 : Int) {rest master : List Int} (most : Int) (ho : rest.length ≤ 1000000) (hm : master.length ≤ 1000000) (k : Nat) : weft_Back.f k s m g0 g1 g2 rest master most = some (wbackR s m g0 g1 g2 rest master most) := by
  unfold weft_Back.f wbackR
  rw [wrong_w, bs]
  by_cases hg : goodW s m g0 g1 g2 = true
  · rw [if_pos hg, if_pos hg]
    by_cases hl : rest.length = master.length
    · rw [if_pos hl, if_pos hl, if_pos rfl]
      split
      · rfl
      · split
        · rfl
        · rw [if_pos (by omega), if_pos (by omega)]
          split
          · rfl
          · exact backAll_ok _ _ _ _ _ _ _ _ (by omega)
    · rw [if_neg hl, if_neg hl, if_neg (by decide)]
  · rw [if_neg hg, if_neg hg, if_neg (by decide)]
theorem wmul_bound {x y m n : Int} (hm : 0 ≤ m) (hn : 0 ≤ n) (h1 : -m ≤ x) (h2 : x ≤ m) (h3 : -n ≤ y) (h4 : y ≤ n) : -(m * n) ≤ x * y ∧ x * y ≤ m * n := by
  have a1 : 0 ≤ (m - x) * (n - y) := Int.mul_nonneg (by omega) (by omega)
  have a2 : 0 ≤ (m + x) * (n + y) := Int.mul_nonneg (by omega) (by omega)
  have a3 : 0 ≤ (m - x) * (n + y) := Int.mul_nonneg (by omega) (by omega)
  have a4 : 0 ≤ (m + x) * (n - y) := Int.mul_nonneg (by omega) (by omega)
  simp only [Int.sub_mul, Int.mul_sub, Int.add_mul, Int.mul_add] at a1 a2 a3 a4
  omega
theorem atZ_bound {l : List Int} (h : l.any farP = false) (i : Int) : -8388608 ≤ atZ l i ∧ atZ l i ≤ 8388608 := by
  unfold atZ
  split
  · omega
  · split
    · omega
    · next h1 h2 =>
      obtain ⟨n, rfl⟩ := Int.eq_ofNat_of_zero_le (show 0 ≤ i by omega)
      have := no_far h (show n < l.length by omega)
      omega
theorem fore_small {g0 g1 g2 : Int} {l : List Int} (h0 : -16 ≤ g0 ∧ g0 ≤ 15) (h1 : -16 ≤ g1 ∧ g1 ≤ 15) (h2 : -16 ≤ g2 ∧ g2 ≤ 15) (h : l.any farP = false) (i : Nat) : -30000000 ≤ foreI g0 g1 g2 l i ∧ foreI g0 g1 g2 l i ≤ 30000000 := by
  have b0 := atZ_bound h ((i : Int) - 1)
  have b1 := atZ_bound h (i : Int)
  have b2 := atZ_bound h ((i : Int) + 1)
  have m0 := wmul_bound (m := 16) (n := 8388608) (by omega) (by omega) h0.1 (show g0 ≤ 16 by omega) b0.1 b0.2
  have m1 := wmul_bound (m := 16) (n := 8388608) (by omega) (by omega) h1.1 (show g1 ≤ 16 by omega) b1.1 b1.2
  have m2 := wmul_bound (m := 16) (n := 8388608) (by omega) (by omega) h2.1 (show g2 ≤ 16 by omega) b2.1 b2.2
  unfold foreI foreT
  generalize g0 * atZ l ((i : Int) - 1) = p0 at m0 ⊢
  generalize g1 * atZ l (i : Int) = p1 at m1 ⊢
  generalize g2 * atZ l ((i : Int) + 1) = p2 at m2 ⊢
  rw [w64 (x := p0) (by omega) (by omega), w64 (x := p1) (by omega) (by omega), w64 (x := p2) (by omega) (by omega), w64 (x := p0 + p1) (by omega) (by omega), w64 (by omega) (by omega)]
  omega
end Go.Proofs.Ytlebgjcpidpgnaa.Pure
