/- Bits, texts of bits, numbers of bits, bytes as bits: no printed function in sight. -/
import Derived.Test.YteoncgijnkfhfaaKfPx0
import Derived.Test.YteoncgijnkfhfaaKfHPut
import Derived.Test.YteoncgijnkfhfaaKfHMask
import Derived.Test.YteoncgijnkfhfaaKfUTools
import Derived.Laws.BitsAllLaws
import Derived.Test.YteoncgijnkfhfaaKfPx3
import Derived.Test.YteoncgijnkfhfaaKfPx9
import Derived.Test.YteoncgijnkfhfaaKfPx2
import Derived.Test.YteoncgijnkfhfaaKfPx1
section
namespace Go.Proofs.Yteoncgijnkfhfaa.Pure
open Go.RowKit Go.Proofs.Yteoncgijnkfhfaa.P Go.Proofs.YteoncgijnkfhfaaW.PrintWords Go.Proofs.YteoncgijnkfhfaaW.PrintLast Go.Proofs.YteoncgijnkfhfaaW.PrintMore
set_option linter.unusedVariables false
set_option linter.unusedSimpArgs false

/-- The document's text of bits. -/
def ch (b : Bool) : UInt8 := if b then 49 else 48
def txt (l : List Bool) : ByteArray := ⟨(l.map ch).toArray⟩
theorem txt_size (l : List Bool) : (txt l).size = l.length := by simp [txt, ByteArray.size]
theorem ba_ext {a b : ByteArray} (h : a.data.toList = b.data.toList) : a = b := by
  cases a; cases b
  simp only [ByteArray.mk.injEq]
  exact Array.toList_inj.mp h
theorem txt_data (l : List Bool) : (txt l).data.toList = l.map ch := rfl
theorem txt_app (a b : List Bool) : txt a ++ txt b = txt (a ++ b) := by
  refine ba_ext ?_
  rw [ByteArray.data_append, Array.toList_append, txt_data, txt_data, txt_data, List.map_append]
theorem txt_extract (l : List Bool) (i j : Nat) : (txt l).extract i j = txt ((l.take j).drop i) := by
  refine ba_ext ?_
  rw [ByteArray.data_extract, Array.toList_extract, txt_data, txt_data, List.extract_eq_take_drop, List.map_drop, List.map_take, List.take_drop]
  by_cases h : i ≤ j
  · rw [show i + (j - i) = j by omega]
  · rw [show i + (j - i) = i by omega, List.drop_eq_nil_of_le (by simp; omega), List.drop_eq_nil_of_le (by simp; omega)]
theorem txt_nil : (⟨#[]⟩ : ByteArray) = txt [] := rfl
theorem txt_bt {l : List Bool} {i : Nat} (h : i < l.length) : bt (txt l) i = if l.getD i false = true then 49 else 48 := by
  unfold bt
  rw [dif_pos (by rw [txt_size]; omega)]
  have e : (txt l)[(i : Int).toNat]'(by rw [txt_size]; omega) = ch (l.getD i false) := by
    show (l.map ch).toArray[(i : Int).toNat]'(by simp; omega) = _
    simp only [Int.toNat_natCast, List.getElem_toArray, List.getElem_map, List.getD, List.getElem?_eq_getElem h, Option.getD_some]
  rw [e]
  cases l.getD i false <;> rfl
/-- The number of bits, the highest first. -/
def numA (v : Int) : List Bool → Int
  | [] => v
  | b :: l => numA (2 * v + (if b = true then 1 else 0)) l
def numL (l : List Bool) : Int := numA 0 l
theorem numA_eq (v : Int) (l : List Bool) : numA v l = v * 2 ^ l.length + numL l := by
  unfold numL
  induction l generalizing v with
  | nil => simp [numA]
  | cons b l ih =>
    simp only [numA]
    rw [ih, ih (2 * 0 + _), List.length_cons, Int.pow_succ]
    generalize (2 : Int) ^ l.length = p
    generalize (if b = true then (1 : Int) else 0) = c
    have e1 : (2 * v + c) * p = v * (p * 2) + c * p := by rw [Int.add_mul, Int.mul_comm p 2, ← Int.mul_assoc, Int.mul_comm v 2]
    have e2 : (2 * 0 + c) * p = c * p := by simp
    omega
theorem numL_range (l : List Bool) : 0 ≤ numL l ∧ numL l < 2 ^ l.length := by
  induction l with
  | nil => decide
  | cons b l ih =>
    have e : numL (b :: l) = (2 * 0 + (if b = true then 1 else 0)) * 2 ^ l.length + numL l := numA_eq _ l
    rw [e, List.length_cons, Int.pow_succ]
    cases b <;> simp <;> omega
theorem numL_cons (b : Bool) (l : List Bool) : numL (b :: l) = (if b = true then 2 ^ l.length else 0) + numL l := by
  have e : numL (b :: l) = (2 * 0 + (if b = true then 1 else 0)) * 2 ^ l.length + numL l := numA_eq _ l
  rw [e]
  cases b <;> simp
theorem numA_app (v : Int) (a b : List Bool) : numA v (a ++ b) = numA (numA v a) b := by
  induction a generalizing v with
  | nil => rfl
  | cons x a ih => simp only [List.cons_append, numA, ih]
theorem numL_app (a b : List Bool) : numL (a ++ b) = numL a * 2 ^ b.length + numL b := by
  show numA 0 (a ++ b) = _
  rw [numA_app, numA_eq]
  rfl
theorem bitsOf_low (v : Int) (n : Nat) (c : Int) : ∀ m, m ≤ n → bitsOf (v + c * 2 ^ n) m = bitsOf v m := by
  intro m
  induction m with
  | zero => intro _; rfl
  | succ m ih =>
    intro hm
    rw [bitsOf, bitsOf, ih (by omega)]
    congr 1
    have e : c * (2 : Int) ^ n = (c * 2 ^ (n - m - 1) * 2) * 2 ^ m := by
      rw [Int.mul_assoc, Int.mul_assoc, Int.mul_comm 2, ← Int.pow_succ, ← Int.pow_add]
      congr 2
      omega
    rw [e, Int.add_mul_ediv_right _ _ (by have : (0 : Int) < 2 ^ m := Int.pow_pos (by omega); omega)]
    congr 1
    simp
theorem numL_bitsOf {v : Int} (n : Nat) (h0 : 0 ≤ v) (h : v < 2 ^ n) : numL (bitsOf v n) = v := by
  induction n generalizing v with
  | zero => simp [bitsOf, numL, numA]; omega
  | succ n ih =>
    have hp : (0 : Int) < 2 ^ n := Int.pow_pos (by omega)
    rw [Int.pow_succ] at h
    rw [bitsOf, numL_cons, bitsOf_length]
    by_cases hv : v < 2 ^ n
    · rw [ih h0 hv, Int.ediv_eq_zero_of_lt h0 hv]
      simp
    · have e1 := bitsOf_low (v - 2 ^ n) n 1 n (Nat.le_refl _)
      rw [show v - 2 ^ n + 1 * 2 ^ n = v by omega] at e1
      have e2 : v / 2 ^ n = 1 := by
        have := Int.add_mul_ediv_right (v - 2 ^ n) 1 (show (2 : Int) ^ n ≠ 0 by omega)
        have e3 : (v - 2 ^ n) / 2 ^ n = 0 := Int.ediv_eq_zero_of_lt (by omega) (by omega)
        rw [show v - 2 ^ n + 1 * 2 ^ n = v by omega, e3] at this
        omega
      rw [e1, ih (by omega) (by omega), e2]
      simp
      omega
theorem bitsOf_numL (l : List Bool) : bitsOf (numL l) l.length = l := by
  have hg : ∀ (l : List Bool) (c : Int), bitsOf (numL l + c * 2 ^ l.length) l.length = l := by
    intro l
    induction l with
    | nil => intro c; rfl
    | cons b l ih =>
      intro c
      have hr := numL_range l
      have hp : (0 : Int) < 2 ^ l.length := Int.pow_pos (by omega)
      rw [List.length_cons, bitsOf, numL_cons]
      have e : (if b = true then (2 : Int) ^ l.length else 0) + numL l + c * 2 ^ (l.length + 1) = numL l + (2 * c + (if b = true then 1 else 0)) * 2 ^ l.length := by
        rw [Int.pow_succ, Int.add_mul, Int.mul_comm (2 ^ l.length) 2, ← Int.mul_assoc, Int.mul_comm c 2]
        cases b <;> simp <;> omega
      rw [e, ih]
      congr 1
      rw [Int.add_mul_ediv_right _ _ (by omega), Int.ediv_eq_zero_of_lt hr.1 hr.2]
      cases b <;> simp <;> omega
  have := hg l 0
  simpa using this
/- Put -/
def unpack (b : List Int) : List Bool := b.flatMap (fun x => bitsOf x 8)
theorem unpack_length (b : List Int) : (unpack b).length = 8 * b.length := by
  induction b with
  | nil => rfl
  | cons x b ih =>
    unfold unpack at ih ⊢
    rw [List.flatMap_cons, List.length_append, ih, bitsOf_length, List.length_cons]
    omega
theorem unpack_app (a b : List Int) : unpack (a ++ b) = unpack a ++ unpack b := by simp [unpack]
theorem unpack_one (x : Int) : unpack [x] = bitsOf x 8 := by simp [unpack]
def Bytes8 (b : List Int) : Prop := ∀ x ∈ b, 0 ≤ x ∧ x ≤ 255
theorem Bytes8.rd {b : List Int} (h : Bytes8 b) {i : Nat} (hi : i < b.length) : 0 ≤ rd b i ∧ rd b i ≤ 255 := h _ (rd_mem (by omega) (by omega))

theorem drop_take_succ (a : List Bool) {j n : Nat} (h : j < a.length) : (a.drop j).take (n + 1) = a.getD j false :: (a.drop (j + 1)).take n := by
  rw [List.drop_eq_getElem_cons h, List.take_succ_cons, List.getD, List.getElem?_eq_getElem h]
  rfl
theorem byte_num (a : List Bool) {i : Nat} (h : 8 * i + 8 ≤ a.length) : numL ((a.drop (8 * i)).take 8) = byteAt a i := by
  rw [drop_take_succ a (by omega), drop_take_succ a (by omega), drop_take_succ a (by omega), drop_take_succ a (by omega), drop_take_succ a (by omega), drop_take_succ a (by omega), drop_take_succ a (by omega), drop_take_succ a (by omega), List.take_zero]
  unfold byteAt bi numL
  simp only [numA]
  generalize (if a.getD (8 * i) false = true then (1 : Int) else 0) = c0
  generalize (if a.getD (8 * i + 1) false = true then (1 : Int) else 0) = c1
  generalize (if a.getD (8 * i + 1 + 1) false = true then (1 : Int) else 0) = c2
  generalize (if a.getD (8 * i + 1 + 1 + 1) false = true then (1 : Int) else 0) = c3
  generalize (if a.getD (8 * i + 1 + 1 + 1 + 1) false = true then (1 : Int) else 0) = c4
  generalize (if a.getD (8 * i + 1 + 1 + 1 + 1 + 1) false = true then (1 : Int) else 0) = c5
  generalize (if a.getD (8 * i + 1 + 1 + 1 + 1 + 1 + 1) false = true then (1 : Int) else 0) = c6
  generalize (if a.getD (8 * i + 1 + 1 + 1 + 1 + 1 + 1 + 1) false = true then (1 : Int) else 0) = c7
  omega
theorem byte_bits (a : List Bool) {i : Nat} (h : 8 * i + 8 ≤ a.length) : bitsOf (byteAt a i) 8 = (a.drop (8 * i)).take 8 := by
  have e := bitsOf_numL ((a.drop (8 * i)).take 8)
  rw [byte_num a h, List.length_take, List.length_drop, Nat.min_eq_left (by omega)] at e
  exact e
theorem unpack_range (a : List Bool) : ∀ m, 8 * m ≤ a.length → unpack ((List.range m).map (byteAt a)) = a.take (8 * m) := by
  intro m
  induction m with
  | zero => intro _; rfl
  | succ m ih =>
    intro h
    rw [List.range_succ, List.map_append, unpack_app, ih (by omega), List.map_singleton, unpack_one, byte_bits a (by omega), show 8 * (m + 1) = 8 * m + 8 by omega, List.take_add]
theorem unpack_pack (l : List Bool) : unpack (pack l) = alignB l := by
  rw [← pack_align l]
  unfold pack
  have h := alignB_length l
  rw [unpack_range _ _ (by omega), List.take_of_length_le (by omega)]
end Go.Proofs.Yteoncgijnkfhfaa.Pure
end
section
/- Bits as texts of 0 and 1, and what layer 1's reference makes of them: plain Lean. -/
namespace Go.Proofs.Yteoncgijnkfhfaa.Pure
open Go.RowKit Go.Proofs.Yteoncgijnkfhfaa.P Go.Proofs.YteoncgijnkfhfaaW.PrintWords Go.Proofs.YteoncgijnkfhfaaW.PrintLast Go.Proofs.YteoncgijnkfhfaaW.PrintMore
set_option linter.unusedVariables false
set_option linter.unusedSimpArgs false

theorem power_l0 (n : Nat) (hn : n ≤ 62) (d : Nat) : ∀ (k i : Nat), i + d = n → d < k → sackbutref01_Power.l0 k n (2 ^ i) i = some (2 ^ n) := by
  induction d with
  | zero =>
    intro k i hi hk
    obtain ⟨k, rfl, _⟩ := pred_k hk
    simp only [sackbutref01_Power.l0]
    rw [if_neg (by omega), show i = n by omega]
  | succ d ih =>
    intro k i hi hk
    obtain ⟨k, rfl, hk'⟩ := pred_k hk
    simp only [sackbutref01_Power.l0]
    have hb := pow_bound (show i ≤ 62 by omega)
    have hb1 := pow_bound (show i + 1 ≤ 62 by omega)
    have e : (2 : Int) ^ i * 2 = 2 ^ (i + 1) := (Int.pow_succ 2 i).symm
    rw [if_pos (by omega), w64 (x := (2 : Int) ^ i * 2) (by omega) (by omega), w64 (x := (i : Int) + 1) (by omega) (by omega), e]
    have := ih k (i + 1) (by omega) (by omega)
    exact_mod_cast this
theorem power_ok {n : Nat} (hn : n ≤ 62) {k : Nat} (hk : n < k) : sackbutref01_Power.f k n = some (2 ^ n) := by
  have := power_l0 n hn n k 0 (by omega) hk
  simpa [sackbutref01_Power.f] using this
theorem shr_ok (x : Int) (k : Nat) (hk : k ≤ 63) : shr .i64 x k = x / 2 ^ k := by
  unfold shr
  rw [Int.toNat_natCast, Nat.min_eq_left (show k ≤ IntKind.bits .i64 by show k ≤ 64; omega)]
theorem shru_ok (x : Int) (k : Nat) (hk : k ≤ 63) : shr .u64 x k = x / 2 ^ k := by
  unfold shr
  rw [Int.toNat_natCast, Nat.min_eq_left (show k ≤ IntKind.bits .u64 by show k ≤ 64; omega)]

theorem strOf_bit (x : Int) (h : 0 ≤ x) : strOfNums [wrap64 (48 + Int.tmod x 2) % 256] = txt [decide (x % 2 = 1)] := by
  rw [Int.tmod_eq_emod_of_nonneg h]
  have : x % 2 = 0 ∨ x % 2 = 1 := by omega
  rcases this with e | e <;> rw [e, w64 (by omega) (by omega)] <;> rfl
theorem put_l0 (x : Int) (hx0 : 0 ≤ x) (hx : x ≤ 9223372036854775807) (n : Nat) (hn : n ≤ 100000) (d : Nat) : ∀ (k i : Nat), i + d = n → d < k → sackbutref01_Put.l0 k (x / 2 ^ i) n (txt (bitsOf x i)) i = some (txt (bitsOf x n)) := by
  induction d with
  | zero =>
    intro k i hi hk
    obtain ⟨k, rfl, _⟩ := pred_k hk
    simp only [sackbutref01_Put.l0]
    rw [if_neg (by omega), show i = n by omega]
  | succ d ih =>
    intro k i hi hk
    obtain ⟨k, rfl, hk'⟩ := pred_k hk
    simp only [sackbutref01_Put.l0]
    have hp : (0 : Int) < 2 ^ i := Int.pow_pos (by omega)
    have hq0 : 0 ≤ x / 2 ^ i := Int.ediv_nonneg hx0 (by omega)
    have hq1 : x / 2 ^ i ≤ x := Int.ediv_le_self _ hx0
    rw [if_pos (by omega), bs, strOf_bit _ hq0, txt_size, txt_size, bitsOf_length, if_pos (by simp; omega), txt_app, Int.tdiv_eq_ediv_of_nonneg hq0, w64 (x := x / 2 ^ i / 2) (by omega) (by omega), w64 (x := (i : Int) + 1) (by omega) (by omega), Int.ediv_ediv_of_nonneg (by omega), ← Int.pow_succ]
    have := ih k (i + 1) (by omega) (by omega)
    exact_mod_cast this
theorem put_ok {x : Int} (hx0 : 0 ≤ x) (hx : x ≤ 9223372036854775807) {n : Nat} (hn : n ≤ 100000) {k : Nat} (hk : n < k) : sackbutref01_Put.f k x n = some (txt (bitsOf x n)) := by
  have := put_l0 x hx0 hx n hn n k 0 (by omega) hk
  simpa [sackbutref01_Put.f, bitsOf, txt_nil] using this
/- Zeros -/
theorem zeros_l0 (n : Nat) (hn : n ≤ 100000) (d : Nat) : ∀ (k i : Nat), i + d = n → d < k → sackbutref01_Zeros.l0 k n (txt (List.replicate i false ++ [true])) i = some (txt (List.replicate n false ++ [true])) := by
  induction d with
  | zero =>
    intro k i hi hk
    obtain ⟨k, rfl, _⟩ := pred_k hk
    simp only [sackbutref01_Zeros.l0]
    rw [if_neg (by omega), show i = n by omega]
  | succ d ih =>
    intro k i hi hk
    obtain ⟨k, rfl, hk'⟩ := pred_k hk
    simp only [sackbutref01_Zeros.l0]
    rw [if_pos (by omega), txt_size, if_pos (by simp; omega), show (⟨#[48]⟩ : ByteArray) = txt [false] from rfl, txt_app, w64 (x := (i : Int) + 1) (by omega) (by omega)]
    have := ih k (i + 1) (by omega) (by omega)
    rw [List.replicate_succ] at this
    exact_mod_cast this
theorem zeros_ok {n : Nat} (hn : n ≤ 100000) {k : Nat} (hk : n < k) : sackbutref01_Zeros.f k n = some (txt (List.replicate n false ++ [true])) := by
  have := zeros_l0 n hn n k 0 (by omega) hk
  exact this
/- Number -/
theorem number_l0 (l : List Bool) (hl : l.length ≤ 62) (d : Nat) : ∀ (k i : Nat), i + d = l.length → d < k → sackbutref01_Number.l0 k (txt l) (numL (l.take i)) i = some (numL l) := by
  induction d with
  | zero =>
    intro k i hi hk
    obtain ⟨k, rfl, _⟩ := pred_k hk
    simp only [sackbutref01_Number.l0]
    rw [if_neg (by rw [txt_size]; omega), List.take_of_length_le (by omega)]
  | succ d ih =>
    intro k i hi hk
    obtain ⟨k, rfl, hk'⟩ := pred_k hk
    simp only [sackbutref01_Number.l0]
    have hr := numL_range (l.take i)
    have hp := pow_bound (show (l.take i).length ≤ 61 + 1 by rw [List.length_take]; omega)
    have hp' : (2 : Int) ^ (l.take i).length ≤ 2 ^ 61 := by
      rw [pow_cast, pow_cast]
      exact_mod_cast Nat.pow_le_pow_right (by omega) (by rw [List.length_take]; omega)
    have ht : l.take (i + 1) = l.take i ++ [l.getD i false] := by
      rw [List.take_add_one, List.getD, List.getElem?_eq_getElem (by omega)]
      rfl
    have hn : numL (l.take (i + 1)) = numL (l.take i) * 2 + (if l.getD i false = true then 1 else 0) := by
      rw [ht, numL_app, numL_cons]
      simp [numL, numA]
    have := ih k (i + 1) (by omega) (by omega)
    rw [hn] at this
    rw [if_pos (by rw [txt_size]; omega), if_pos (by omega), txt_bt (by omega), w64 (x := numL (l.take i) * 2) (by omega) (by omega), w64 (x := (i : Int) + 1) (by omega) (by omega)]
    cases hb : l.getD i false with
    | true =>
      rw [hb] at this
      rw [if_pos rfl, if_pos rfl, w64 (by omega) (by omega)]
      exact_mod_cast this
    | false =>
      rw [hb] at this
      rw [if_neg (by simp)]
      simp only [Bool.false_eq_true, if_false, Int.add_zero] at this
      exact_mod_cast this
theorem number_ok {l : List Bool} (hl : l.length ≤ 62) {k : Nat} (hk : l.length < k) : sackbutref01_Number.f k (txt l) = some (numL l) := by
  have := number_l0 l hl l.length k 0 (by omega) hk
  simpa [sackbutref01_Number.f, numL, numA] using this
end Go.Proofs.Yteoncgijnkfhfaa.Pure
end
section
/- Bytes as bits and back; the readers of layer 1 and of its reference as one plain machine. -/
namespace Go.Proofs.Yteoncgijnkfhfaa.Pure
open Go.RowKit Go.Proofs.Yteoncgijnkfhfaa.P Go.Proofs.YteoncgijnkfhfaaW.PrintWords Go.Proofs.YteoncgijnkfhfaaW.PrintLast Go.Proofs.YteoncgijnkfhfaaW.PrintMore
set_option linter.unusedVariables false
set_option linter.unusedSimpArgs false

theorem align_l0 (d : Nat) : ∀ (k : Nat) (l : List Bool), l.length ≤ 100000000 → (8 - l.length % 8) % 8 = d → d < k → sackbutref01_Align.l0 k (txt l) = some (txt (alignB l)) := by
  induction d with
  | zero =>
    intro k l hl hd hk
    obtain ⟨k, rfl, _⟩ := pred_k hk
    simp only [sackbutref01_Align.l0]
    rw [if_pos (by rw [txt_size]; omega)]
    simp [alignB, hd]
  | succ d ih =>
    intro k l hl hd hk
    obtain ⟨k, rfl, hk'⟩ := pred_k hk
    simp only [sackbutref01_Align.l0]
    rw [if_neg (by rw [txt_size]; omega), txt_size, if_pos (by omega), show (⟨#[48]⟩ : ByteArray) = txt [false] from rfl, txt_app, ih k (l ++ [false]) (by simp; omega) (by simp; omega) (by omega)]
    congr 2
    have e : (8 - (l ++ [false]).length % 8) % 8 = d := by simp; omega
    unfold alignB
    rw [e, hd, List.append_assoc, List.replicate_succ]
    rfl
theorem align_ok {l : List Bool} (hl : l.length ≤ 90000000) {k : Nat} (hk : 8 < k) : sackbutref01_Align.f k (txt l) = some (txt (alignB l)) := align_l0 _ k l (by omega) rfl (by omega)

theorem bytes_l0 (a : List Bool) (m : Nat) (ha : a.length = 8 * m) (hm : m ≤ 10000000) (d : Nat) : ∀ (k i : Nat), i + d = m → d + 9 < k → sackbutref01_Bytes.l0 k (txt a) ((List.range i).map (byteAt a)) ((8 * i : Nat) : Int) = some ((List.range m).map (byteAt a)) := by
  induction d with
  | zero =>
    intro k i hi hk
    obtain ⟨k, rfl, _⟩ := pred_k (show 0 < k by omega)
    simp only [sackbutref01_Bytes.l0]
    rw [if_neg (by rw [txt_size]; omega), show i = m by omega]
  | succ d ih =>
    intro k i hi hk
    obtain ⟨k, rfl, hk'⟩ := pred_k (show 0 < k by omega)
    simp only [sackbutref01_Bytes.l0]
    have e8 : ((8 * i : Nat) : Int) + 8 = ((8 * i + 8 : Nat) : Int) := by omega
    have hr := byteAt_range a i
    have hlen : ((a.drop (8 * i)).take 8).length = 8 := by rw [List.length_take, List.length_drop]; omega
    rw [if_pos (by rw [txt_size]; omega), if_pos (by omega), w64 (x := ((8 * i : Nat) : Int) + 8) (by omega) (by omega), if_pos (by omega), if_pos (by rw [txt_size]; omega), e8, Int.toNat_natCast, Int.toNat_natCast, txt_extract, List.drop_take, show 8 * i + 8 - 8 * i = 8 by omega, number_ok (by omega) (by omega), bs, byte_num a (by omega), List.length_map, List.length_range, if_pos (by omega), Int.emod_eq_of_lt hr.1 (by omega)]
    have := ih k (i + 1) (by omega) (by omega)
    rw [List.range_succ, List.map_append, List.map_singleton] at this
    exact this
theorem bytes_ok {l : List Bool} (hl : l.length ≤ 80000000) {k : Nat} (hk : l.length + 20 < k) : sackbutref01_Bytes.f k (txt l) = some (pack l) := by
  have h := alignB_length l
  unfold sackbutref01_Bytes.f
  rw [align_ok (by omega) (by omega), bs]
  have := bytes_l0 (alignB l) ((l.length + 7) / 8) (by omega) (by omega) ((l.length + 7) / 8) k 0 (by omega) (by omega)
  rw [← pack_align l]
  unfold pack
  rw [h, show ((l.length + 7) / 8 * 8 + 7) / 8 = (l.length + 7) / 8 by omega]
  exact this

/- THE READER -/
/-- Where a reader stands upon bytes, whose bits s are left. -/
def pos (b : List Int) (s : List Bool) : Int := 8 * (b.length : Int) - s.length
theorem suf_len {b : List Int} {s : List Bool} (h : s <:+ unpack b) : s.length ≤ 8 * b.length := by
  have := h.length_le
  rw [unpack_length] at this
  exact this
theorem pos_nil (b : List Int) : pos b (unpack b) = 0 := by unfold pos; rw [unpack_length]; omega
theorem bitsOf_getD (v : Int) : ∀ (n j : Nat), j < n → (bitsOf v n).getD j false = decide (v / 2 ^ (n - 1 - j) % 2 = 1) := by
  intro n
  induction n with
  | zero => intro j h; omega
  | succ n ih =>
    intro j h
    cases j with
    | zero => rfl
    | succ j =>
      have := ih j (by omega)
      rw [show n + 1 - 1 - (j + 1) = n - 1 - j by omega, ← this]
      rfl
theorem unpack_getD (b : List Int) : ∀ p, p < 8 * b.length → (unpack b).getD p false = decide (rd b (p / 8 : Nat) / 2 ^ (7 - p % 8) % 2 = 1) := by
  induction b with
  | nil => intro p h; simp at h
  | cons x b ih =>
    intro p h
    have e : unpack (x :: b) = bitsOf x 8 ++ unpack b := by simp [unpack]
    rw [e]
    by_cases hp : p < 8
    · rw [List.getD, List.getElem?_append_left (by rw [bitsOf_length]; omega), ← List.getD, bitsOf_getD x 8 p hp, show p / 8 = 0 by omega, show p % 8 = p by omega, rd_cons_zero]
    · rw [List.length_cons] at h
      rw [List.getD, List.getElem?_append_right (by rw [bitsOf_length]; omega), bitsOf_length, ← List.getD, ih (p - 8) (by omega), show p / 8 = (p - 8) / 8 + 1 by omega, rd_cons_succ, show (p - 8) % 8 = p % 8 by omega]
theorem suf_head {b : List Int} {c : Bool} {s : List Bool} (h : c :: s <:+ unpack b) : (unpack b).getD (8 * b.length - (s.length + 1)) false = c := by
  obtain ⟨t, ht⟩ := h
  have hl := congrArg List.length ht
  rw [unpack_length, List.length_append, List.length_cons] at hl
  rw [← ht, List.getD, List.getElem?_append_right (by omega), show 8 * b.length - (s.length + 1) - t.length = 0 by omega]
  rfl
theorem suf_tail {b : List Int} {c : Bool} {s : List Bool} (h : c :: s <:+ unpack b) : s <:+ unpack b := (List.suffix_cons c s).trans h
theorem and_one {x : Int} (h0 : 0 ≤ x) (h1 : x < 18446744073709551616) : Go.bits .and .u64 x 1 = x % 2 := by
  have := u64_mask (k := 1) h0 h1 (by omega)
  exact this
theorem bit_ok {b : List Int} (hb : Bytes8 b) (hl : b.length ≤ 10000000) {c : Bool} {s : List Bool} (hs : c :: s <:+ unpack b) (e : Int) : pipe_Reader_bit.f b (pos b (c :: s)) e = some (if c = true then 1 else 0, pos b s, e) := by
  have hn := suf_len hs
  rw [List.length_cons] at hn
  have hp : pos b (c :: s) = ((8 * b.length - (s.length + 1) : Nat) : Int) := by unfold pos; rw [List.length_cons]; omega
  have hp2 : pos b s = ((8 * b.length - (s.length + 1) : Nat) : Int) + 1 := by unfold pos; omega
  have hh := suf_head hs
  rw [unpack_getD b _ (by omega)] at hh
  rw [hp, hp2]
  generalize hq : 8 * b.length - (s.length + 1) = p at hh
  unfold pipe_Reader_bit.f
  have hr := hb.rd (show p / 8 < b.length by omega)
  have e1 : Int.tdiv (p : Int) 8 = ((p / 8 : Nat) : Int) := by rw [Int.tdiv_eq_ediv_of_nonneg (by omega)]; omega
  have e2 : Int.tmod (p : Int) 8 = ((p % 8 : Nat) : Int) := by rw [Int.tmod_eq_emod_of_nonneg (by omega)]; omega
  have e3 : (7 : Int) - ((p % 8 : Nat) : Int) = ((7 - p % 8 : Nat) : Int) := by omega
  have e4 : IntKind.u64.wrap (rd b ((p / 8 : Nat) : Int)) = rd b ((p / 8 : Nat) : Int) := by rw [u64_wrap]; exact Int.emod_eq_of_lt hr.1 (by omega)
  have hp0 : (0 : Int) < 2 ^ (7 - p % 8) := Int.pow_pos (by omega)
  have h0 : 0 ≤ rd b ((p / 8 : Nat) : Int) / 2 ^ (7 - p % 8) := Int.ediv_nonneg hr.1 (by omega)
  have h1 : rd b ((p / 8 : Nat) : Int) / 2 ^ (7 - p % 8) ≤ rd b ((p / 8 : Nat) : Int) := Int.ediv_le_self _ hr.1
  rw [e1, e2, w64 (x := ((p / 8 : Nat) : Int)) (by omega) (by omega), e3, w64 (x := ((7 - p % 8 : Nat) : Int)) (by omega) (by omega), if_pos (by omega), if_pos (by omega), if_pos (by omega), e4, shru_ok _ _ (by omega), and_one h0 (by omega), w64 (x := (p : Int) + 1) (by omega) (by omega)]
  have h2 : rd b ((p / 8 : Nat) : Int) / 2 ^ (7 - p % 8) % 2 = 0 ∨ rd b ((p / 8 : Nat) : Int) / 2 ^ (7 - p % 8) % 2 = 1 := by omega
  rw [← hh]
  rcases h2 with h2 | h2 <;> rw [h2] <;> rfl
theorem left_ok {b : List Int} (hl : b.length ≤ 10000000) {s : List Bool} (hs : s <:+ unpack b) (e : Int) : pipe_Reader_Left.f b (pos b s) e = some ((s.length : Int), pos b s, e) := by
  have hn := suf_len hs
  unfold pipe_Reader_Left.f
  have : wrap64 (wrap64 ((b.length : Int) * 8) - pos b s) = s.length := by
    unfold pos
    rw [w64 (x := (b.length : Int) * 8) (by omega) (by omega), w64 (by omega) (by omega)]
    omega
  rw [this]
theorem u64_or1 {v c : Int} (h0 : 0 ≤ v) (h1 : v ≤ 4611686018427387904) (hc0 : 0 ≤ c) (hc1 : c ≤ 1) : Go.bits .or .u64 (IntKind.u64.wrap (v * 2)) c = 2 * v + c := by
  rw [u64_wrap, Int.emod_eq_of_lt (by omega) (by omega)]
  obtain ⟨a, rfl⟩ := Int.eq_ofNat_of_zero_le h0
  obtain ⟨x, rfl⟩ := Int.eq_ofNat_of_zero_le hc0
  have h2 : (a : Int) * (2 : Int) = ((a <<< 1 : Nat) : Int) := by rw [Nat.shiftLeft_eq]; omega
  have hx : x < 2 ^ 1 := by simp; omega
  rw [h2, u64_or_nat _ _ (by rw [Nat.shiftLeft_eq]; omega) (by omega), ← Nat.shiftLeft_add_eq_or_of_lt hx, Nat.shiftLeft_eq]
  simp
  omega
end Go.Proofs.Yteoncgijnkfhfaa.Pure
end
