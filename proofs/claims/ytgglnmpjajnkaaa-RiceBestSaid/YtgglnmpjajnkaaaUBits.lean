/- Bits as texts of 0 and 1, and what layer 1's reference makes of them: plain Lean. -/
import Derived.Test.YtgglnmpjajnkaaaPx0
import Derived.Test.YtgglnmpjajnkaaaPx2
import Derived.Test.YtgglnmpjajnkaaaPx3
import Derived.Test.YtgglnmpjajnkaaaHPut
import Derived.Test.YtgglnmpjajnkaaaHMask
import Derived.Test.YtgglnmpjajnkaaaUTools
namespace Go.Proofs.Ytgglnmpjajnkaaa.Pure
open Go.RowKit Go.Proofs.Ytgglnmpjajnkaaa.P Go.Proofs.YtgglnmpjajnkaaaW.PrintWords Go.Proofs.YtgglnmpjajnkaaaW.PrintLast Go.Proofs.YtgglnmpjajnkaaaW.PrintMore
set_option linter.unusedVariables false
set_option linter.unusedSimpArgs false

theorem power_l0 (n : Nat) (hn : n ≤ 62) (d : Nat) : ∀ (k i : Nat), i + d = n → d < k → sackbutref01_Power.l0 k n (2 ^ i) i = some (2 ^ n) := by
  induction d with
  | zero =>
    intro k i hi hk
    obtain ⟨k, rfl, _⟩ := pred_k hk
    simp only [sackbutref01_Power.l0]
    rw [if_neg (by omega), show i = n by omega]
  | succ d ih =>
    intro k i hi hk
    obtain ⟨k, rfl, hk'⟩ := pred_k hk
    simp only [sackbutref01_Power.l0]
    have hb := pow_bound (show i ≤ 62 by omega)
    have hb1 := pow_bound (show i + 1 ≤ 62 by omega)
    have e : (2 : Int) ^ i * 2 = 2 ^ (i + 1) := (Int.pow_succ 2 i).symm
    rw [if_pos (by omega), w64 (x := (2 : Int) ^ i * 2) (by omega) (by omega), w64 (x := (i : Int) + 1) (by omega) (by omega), e]
    have := ih k (i + 1) (by omega) (by omega)
    exact_mod_cast this
theorem power_ok {n : Nat} (hn : n ≤ 62) {k : Nat} (hk : n < k) : sackbutref01_Power.f k n = some (2 ^ n) := by
  have := power_l0 n hn n k 0 (by omega) hk
  simpa [sackbutref01_Power.f] using this
theorem shr_ok (x : Int) (k : Nat) (hk : k ≤ 63) : shr .i64 x k = x / 2 ^ k := by
  unfold shr
  rw [Int.toNat_natCast, Nat.min_eq_left (show k ≤ IntKind.bits .i64 by show k ≤ 64; omega)]
theorem shru_ok (x : Int) (k : Nat) (hk : k ≤ 63) : shr .u64 x k = x / 2 ^ k := by
  unfold shr
  rw [Int.toNat_natCast, Nat.min_eq_left (show k ≤ IntKind.bits .u64 by show k ≤ 64; omega)]

/-- The document's text of bits. -/
def ch (b : Bool) : UInt8 := if b then 49 else 48
def txt (l : List Bool) : ByteArray := ⟨(l.map ch).toArray⟩
theorem txt_size (l : List Bool) : (txt l).size = l.length := by simp [txt, ByteArray.size]
theorem ba_ext {a b : ByteArray} (h : a.data.toList = b.data.toList) : a = b := by
  cases a; cases b
  simp only [ByteArray.mk.injEq]
  exact Array.toList_inj.mp h
theorem txt_data (l : List Bool) : (txt l).data.toList = l.map ch := rfl
theorem txt_app (a b : List Bool) : txt a ++ txt b = txt (a ++ b) := by
  refine ba_ext ?_
  rw [ByteArray.data_append, Array.toList_append, txt_data, txt_data, txt_data, List.map_append]
theorem txt_extract (l : List Bool) (i j : Nat) : (txt l).extract i j = txt ((l.take j).drop i) := by
  refine ba_ext ?_
  rw [ByteArray.data_extract, Array.toList_extract, txt_data, txt_data, List.extract_eq_take_drop, List.map_drop, List.map_take, List.take_drop]
  by_cases h : i ≤ j
  · rw [show i + (j - i) = j by omega]
  · rw [show i + (j - i) = i by omega, List.drop_eq_nil_of_le (by simp; omega), List.drop_eq_nil_of_le (by simp; omega)]
theorem txt_take (l : List Bool) (j : Nat) : (txt l).extract 0 j = txt (l.take j) := by rw [txt_extract, List.drop_zero]
theorem txt_drop (l : List Bool) (i : Nat) : (txt l).extract i l.length = txt (l.drop i) := by rw [txt_extract, List.take_length]
theorem txt_nil : (⟨#[]⟩ : ByteArray) = txt [] := rfl
theorem txt_toList (l : List Bool) : (txt l).toList = l.map ch := by rw [ByteArray.toList_eq]; rfl
theorem txt_empty (l : List Bool) : ((txt l).toList = []) = (l = []) := by rw [txt_toList]; simp
theorem txt_bt {l : List Bool} {i : Nat} (h : i < l.length) : bt (txt l) i = if l.getD i false = true then 49 else 48 := by
  unfold bt
  rw [dif_pos (by rw [txt_size]; omega)]
  have e : (txt l)[(i : Int).toNat]'(by rw [txt_size]; omega) = ch (l.getD i false) := by
    show (l.map ch).toArray[(i : Int).toNat]'(by simp; omega) = _
    simp only [Int.toNat_natCast, List.getElem_toArray, List.getElem_map, List.getD, List.getElem?_eq_getElem h, Option.getD_some]
  rw [e]
  cases l.getD i false <;> rfl
theorem ch_inj {a b : Bool} (h : ch a = ch b) : a = b := by cases a <;> cases b <;> first | rfl | exact absurd h (by decide)
theorem txt_inj {a b : List Bool} (h : txt a = txt b) : a = b := by
  have := congrArg (fun x : ByteArray => x.data.toList) h
  simp only [txt_data] at this
  exact (List.map_inj_right fun a b h => ch_inj h).mp this

/-- The number of bits, the highest first. -/
def numA (v : Int) : List Bool → Int
  | [] => v
  | b :: l => numA (2 * v + (if b = true then 1 else 0)) l
def numL (l : List Bool) : Int := numA 0 l
theorem numA_eq (v : Int) (l : List Bool) : numA v l = v * 2 ^ l.length + numL l := by
  unfold numL
  induction l generalizing v with
  | nil => simp [numA]
  | cons b l ih =>
    simp only [numA]
    rw [ih, ih (2 * 0 + _), List.length_cons, Int.pow_succ]
    generalize (2 : Int) ^ l.length = p
    generalize (if b = true then (1 : Int) else 0) = c
    have e1 : (2 * v + c) * p = v * (p * 2) + c * p := by rw [Int.add_mul, Int.mul_comm p 2, ← Int.mul_assoc, Int.mul_comm v 2]
    have e2 : (2 * 0 + c) * p = c * p := by simp
    omega
theorem numL_range (l : List Bool) : 0 ≤ numL l ∧ numL l < 2 ^ l.length := by
  induction l with
  | nil => decide
  | cons b l ih =>
    have e : numL (b :: l) = (2 * 0 + (if b = true then 1 else 0)) * 2 ^ l.length + numL l := numA_eq _ l
    rw [e, List.length_cons, Int.pow_succ]
    cases b <;> simp <;> omega
theorem numL_cons (b : Bool) (l : List Bool) : numL (b :: l) = (if b = true then 2 ^ l.length else 0) + numL l := by
  have e : numL (b :: l) = (2 * 0 + (if b = true then 1 else 0)) * 2 ^ l.length + numL l := numA_eq _ l
  rw [e]
  cases b <;> simp
theorem numA_app (v : Int) (a b : List Bool) : numA v (a ++ b) = numA (numA v a) b := by
  induction a generalizing v with
  | nil => rfl
  | cons x a ih => simp only [List.cons_append, numA, ih]
theorem numL_app (a b : List Bool) : numL (a ++ b) = numL a * 2 ^ b.length + numL b := by
  show numA 0 (a ++ b) = _
  rw [numA_app, numA_eq]
  rfl
theorem bitsOf_low (v : Int) (n : Nat) (c : Int) : ∀ m, m ≤ n → bitsOf (v + c * 2 ^ n) m = bitsOf v m := by
  intro m
  induction m with
  | zero => intro _; rfl
  | succ m ih =>
    intro hm
    rw [bitsOf, bitsOf, ih (by omega)]
    congr 1
    have e : c * (2 : Int) ^ n = (c * 2 ^ (n - m - 1) * 2) * 2 ^ m := by
      rw [Int.mul_assoc, Int.mul_assoc, Int.mul_comm 2, ← Int.pow_succ, ← Int.pow_add]
      congr 2
      omega
    rw [e, Int.add_mul_ediv_right _ _ (by have : (0 : Int) < 2 ^ m := Int.pow_pos (by omega); omega)]
    congr 1
    simp
theorem bitsOf_mod (v : Int) (n : Nat) : bitsOf (v % 2 ^ n) n = bitsOf v n := by
  have h := Int.emod_add_mul_ediv v (2 ^ n)
  have := bitsOf_low (v % 2 ^ n) n (v / 2 ^ n) n (Nat.le_refl _)
  rw [Int.mul_comm, h] at this
  exact this.symm

theorem numL_bitsOf {v : Int} (n : Nat) (h0 : 0 ≤ v) (h : v < 2 ^ n) : numL (bitsOf v n) = v := by
  induction n generalizing v with
  | zero => simp [bitsOf, numL, numA]; omega
  | succ n ih =>
    have hp : (0 : Int) < 2 ^ n := Int.pow_pos (by omega)
    rw [Int.pow_succ] at h
    rw [bitsOf, numL_cons, bitsOf_length]
    by_cases hv : v < 2 ^ n
    · rw [ih h0 hv, Int.ediv_eq_zero_of_lt h0 hv]
      simp
    · have e1 := bitsOf_low (v - 2 ^ n) n 1 n (Nat.le_refl _)
      rw [show v - 2 ^ n + 1 * 2 ^ n = v by omega] at e1
      have e2 : v / 2 ^ n = 1 := by
        have := Int.add_mul_ediv_right (v - 2 ^ n) 1 (show (2 : Int) ^ n ≠ 0 by omega)
        have e3 : (v - 2 ^ n) / 2 ^ n = 0 := Int.ediv_eq_zero_of_lt (by omega) (by omega)
        rw [show v - 2 ^ n + 1 * 2 ^ n = v by omega, e3] at this
        omega
      rw [e1, ih (by omega) (by omega), e2]
      simp
      omega
theorem bitsOf_numL (l : List Bool) : bitsOf (numL l) l.length = l := by
  have hg : ∀ (l : List Bool) (c : Int), bitsOf (numL l + c * 2 ^ l.length) l.length = l := by
    intro l
    induction l with
    | nil => intro c; rfl
    | cons b l ih =>
      intro c
      have hr := numL_range l
      have hp : (0 : Int) < 2 ^ l.length := Int.pow_pos (by omega)
      rw [List.length_cons, bitsOf, numL_cons]
      have e : (if b = true then (2 : Int) ^ l.length else 0) + numL l + c * 2 ^ (l.length + 1) = numL l + (2 * c + (if b = true then 1 else 0)) * 2 ^ l.length := by
        rw [Int.pow_succ, Int.add_mul, Int.mul_comm (2 ^ l.length) 2, ← Int.mul_assoc, Int.mul_comm c 2]
        cases b <;> simp <;> omega
      rw [e, ih]
      congr 1
      rw [Int.add_mul_ediv_right _ _ (by omega), Int.ediv_eq_zero_of_lt hr.1 hr.2]
      cases b <;> simp <;> omega
  have := hg l 0
  simpa using this
/- Put -/
theorem strOf_bit (x : Int) (h : 0 ≤ x) : strOfNums [wrap64 (48 + Int.tmod x 2) % 256] = txt [decide (x % 2 = 1)] := by
  rw [Int.tmod_eq_emod_of_nonneg h]
  have : x % 2 = 0 ∨ x % 2 = 1 := by omega
  rcases this with e | e <;> rw [e, w64 (by omega) (by omega)] <;> rfl
theorem put_l0 (x : Int) (hx0 : 0 ≤ x) (hx : x ≤ 9223372036854775807) (n : Nat) (hn : n ≤ 100000) (d : Nat) : ∀ (k i : Nat), i + d = n → d < k → sackbutref01_Put.l0 k (x / 2 ^ i) n (txt (bitsOf x i)) i = some (txt (bitsOf x n)) := by
  induction d with
  | zero =>
    intro k i hi hk
    obtain ⟨k, rfl, _⟩ := pred_k hk
    simp only [sackbutref01_Put.l0]
    rw [if_neg (by omega), show i = n by omega]
  | succ d ih =>
    intro k i hi hk
    obtain ⟨k, rfl, hk'⟩ := pred_k hk
    simp only [sackbutref01_Put.l0]
    have hp : (0 : Int) < 2 ^ i := Int.pow_pos (by omega)
    have hq0 : 0 ≤ x / 2 ^ i := Int.ediv_nonneg hx0 (by omega)
    have hq1 : x / 2 ^ i ≤ x := Int.ediv_le_self _ hx0
    rw [if_pos (by omega), bs, strOf_bit _ hq0, txt_size, txt_size, bitsOf_length, if_pos (by simp; omega), txt_app, Int.tdiv_eq_ediv_of_nonneg hq0, w64 (x := x / 2 ^ i / 2) (by omega) (by omega), w64 (x := (i : Int) + 1) (by omega) (by omega), Int.ediv_ediv_of_nonneg (by omega), ← Int.pow_succ]
    have := ih k (i + 1) (by omega) (by omega)
    exact_mod_cast this
theorem put_ok {x : Int} (hx0 : 0 ≤ x) (hx : x ≤ 9223372036854775807) {n : Nat} (hn : n ≤ 100000) {k : Nat} (hk : n < k) : sackbutref01_Put.f k x n = some (txt (bitsOf x n)) := by
  have := put_l0 x hx0 hx n hn n k 0 (by omega) hk
  simpa [sackbutref01_Put.f, bitsOf, txt_nil] using this
/- Zeros -/
theorem zeros_l0 (n : Nat) (hn : n ≤ 100000) (d : Nat) : ∀ (k i : Nat), i + d = n → d < k → sackbutref01_Zeros.l0 k n (txt (List.replicate i false ++ [true])) i = some (txt (List.replicate n false ++ [true])) := by
  induction d with
  | zero =>
    intro k i hi hk
    obtain ⟨k, rfl, _⟩ := pred_k hk
    simp only [sackbutref01_Zeros.l0]
    rw [if_neg (by omega), show i = n by omega]
  | succ d ih =>
    intro k i hi hk
    obtain ⟨k, rfl, hk'⟩ := pred_k hk
    simp only [sackbutref01_Zeros.l0]
    rw [if_pos (by omega), txt_size, if_pos (by simp; omega), show (⟨#[48]⟩ : ByteArray) = txt [false] from rfl, txt_app, w64 (x := (i : Int) + 1) (by omega) (by omega)]
    have := ih k (i + 1) (by omega) (by omega)
    rw [List.replicate_succ] at this
    exact_mod_cast this
theorem zeros_ok {n : Nat} (hn : n ≤ 100000) {k : Nat} (hk : n < k) : sackbutref01_Zeros.f k n = some (txt (List.replicate n false ++ [true])) := by
  have := zeros_l0 n hn n k 0 (by omega) hk
  exact this
/- Number -/
theorem number_l0 (l : List Bool) (hl : l.length ≤ 62) (d : Nat) : ∀ (k i : Nat), i + d = l.length → d < k → sackbutref01_Number.l0 k (txt l) (numL (l.take i)) i = some (numL l) := by
  induction d with
  | zero =>
    intro k i hi hk
    obtain ⟨k, rfl, _⟩ := pred_k hk
    simp only [sackbutref01_Number.l0]
    rw [if_neg (by rw [txt_size]; omega), List.take_of_length_le (by omega)]
  | succ d ih =>
    intro k i hi hk
    obtain ⟨k, rfl, hk'⟩ := pred_k hk
    simp only [sackbutref01_Number.l0]
    have hr := numL_range (l.take i)
    have hp := pow_bound (show (l.take i).length ≤ 61 + 1 by rw [List.length_take]; omega)
    have hp' : (2 : Int) ^ (l.take i).length ≤ 2 ^ 61 := by
      rw [pow_cast, pow_cast]
      exact_mod_cast Nat.pow_le_pow_right (by omega) (by rw [List.length_take]; omega)
    have ht : l.take (i + 1) = l.take i ++ [l.getD i false] := by
      rw [List.take_add_one, List.getD, List.getElem?_eq_getElem (by omega)]
      rfl
    have hn : numL (l.take (i + 1)) = numL (l.take i) * 2 + (if l.getD i false = true then 1 else 0) := by
      rw [ht, numL_app, numL_cons]
      simp [numL, numA]
    have := ih k (i + 1) (by omega) (by omega)
    rw [hn] at this
    rw [if_pos (by rw [txt_size]; omega), if_pos (by omega), txt_bt (by omega), w64 (x := numL (l.take i) * 2) (by omega) (by omega), w64 (x := (i : Int) + 1) (by omega) (by omega)]
    cases hb : l.getD i false with
    | true =>
      rw [hb] at this
      rw [if_pos rfl, if_pos rfl, w64 (by omega) (by omega)]
      exact_mod_cast this
    | false =>
      rw [hb] at this
      rw [if_neg (by simp)]
      simp only [Bool.false_eq_true, if_false, Int.add_zero] at this
      exact_mod_cast this
theorem number_ok {l : List Bool} (hl : l.length ≤ 62) {k : Nat} (hk : l.length < k) : sackbutref01_Number.f k (txt l) = some (numL l) := by
  have := number_l0 l hl l.length k 0 (by omega) hk
  simpa [sackbutref01_Number.f, numL, numA] using this
end Go.Proofs.Ytgglnmpjajnkaaa.Pure
