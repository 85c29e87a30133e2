/- Bits, texts of bits, numbers of bits, bytes as bits: no printed function in sight. -/
import Derived.Test.YtlebgjcpidpgnaaPx0
import Derived.Test.YtlebgjcpidpgnaaHPut
import Derived.Test.YtlebgjcpidpgnaaHMask
import Derived.Test.YtlebgjcpidpgnaaUTools
import Derived.Laws.BitsAllLaws
namespace Go.Proofs.Ytlebgjcpidpgnaa.Pure
open Go.RowKit Go.Proofs.Ytlebgjcpidpgnaa.P Go.Proofs.YtlebgjcpidpgnaaW.PrintWords Go.Proofs.YtlebgjcpidpgnaaW.PrintLast Go.Proofs.YtlebgjcpidpgnaaW.PrintMore
set_option linter.unusedVariables false
set_option linter.unusedSimpArgs false

/-- The document's text of bits. -/
def ch (b : Bool) : UInt8 := if b then 49 else 48
def txt (l : List Bool) : ByteArray := ⟨(l.map ch).toArray⟩
theorem txt_size (l : List Bool) : (txt l).size = l.length := by simp [txt, ByteArray.size]
theorem ba_ext {a b : ByteArray} (h : a.data.toList = b.data.toList) : a = b := by
  cases a; cases b
  simp only [ByteArray.mk.injEq]
  exact Array.toList_inj.mp h
theorem txt_data (l : List Bool) : (txt l).data.toList = l.map ch := rfl
theorem txt_app (a b : List Bool) : txt a ++ txt b = txt (a ++ b) := by
  refine ba_ext ?_
  rw [ByteArray.data_append, Array.toList_append, txt_data, txt_data, txt_data, List.map_append]
theorem txt_extract (l : List Bool) (i j : Nat) : (txt l).extract i j = txt ((l.take j).drop i) := by
  refine ba_ext ?_
  rw [ByteArray.data_extract, Array.toList_extract, txt_data, txt_data, List.extract_eq_take_drop, List.map_drop, List.map_take, List.take_drop]
  by_cases h : i ≤ j
  · rw [show i + (j - i) = j by omega]
  · rw [show i + (j - i) = i by omega, List.drop_eq_nil_of_le (by simp; omega), List.drop_eq_nil_of_le (by simp; omega)]
theorem txt_take (l : List Bool) (j : Nat) : (txt l).extract 0 j = txt (l.take j) := by rw [txt_extract, List.drop_zero]
theorem txt_drop (l : List Bool) (i : Nat) : (txt l).extract i l.length = txt (l.drop i) := by rw [txt_extract, List.take_length]
theorem txt_nil : (⟨#[]⟩ : ByteArray) = txt [] := rfl
theorem txt_toList (l : List Bool) : (txt l).toList = l.map ch := by rw [ByteArray.toList_eq]; rfl
theorem txt_empty (l : List Bool) : ((txt l).toList = []) = (l = []) := by rw [txt_toList]; simp
theorem txt_bt {l : List Bool} {i : Nat} (h : i < l.length) : bt (txt l) i = if l.getD i false = true then 49 else 48 := by
  unfold bt
  rw [dif_pos (by rw [txt_size]; omega)]
  have e : (txt l)[(i : Int).toNat]'(by rw [txt_size]; omega) = ch (l.getD i false) := by
    show (l.map ch).toArray[(i : Int).toNat]'(by simp; omega) = _
    simp only [Int.toNat_natCast, List.getElem_toArray, List.getElem_map, List.getD, List.getElem?_eq_getElem h, Option.getD_some]
  rw [e]
  cases l.getD i false <;> rfl
theorem ch_inj {a b : Bool} (h : ch a = ch b) : a = b := by cases a <;> cases b <;> first | rfl | exact absurd h (by decide)
theorem txt_inj {a b : List Bool} (h : txt a = txt b) : a = b := by
  have := congrArg (fun x : ByteArray => x.data.toList) h
  simp only [txt_data] at this
  exact (List.map_inj_right fun a b h => ch_inj h).mp this

/-- The number of bits, the highest first. -/
def numA (v : Int) : List Bool → Int
  | [] => v
  | b :: l => numA (2 * v + (if b = true then 1 else 0)) l
def numL (l : List Bool) : Int := numA 0 l
theorem numA_eq (v : Int) (l : List Bool) : numA v l = v * 2 ^ l.length + numL l := by
  unfold numL
  induction l generalizing v with
  | nil => simp [numA]
  | cons b l ih =>
    simp only [numA]
    rw [ih, ih (2 * 0 + _), List.length_cons, Int.pow_succ]
    generalize (2 : Int) ^ l.length = p
    generalize (if b = true then (1 : Int) else 0) = c
    have e1 : (2 * v + c) * p = v * (p * 2) + c * p := by rw [Int.add_mul, Int.mul_comm p 2, ← Int.mul_assoc, Int.mul_comm v 2]
    have e2 : (2 * 0 + c) * p = c * p := by simp
    omega
theorem numL_range (l : List Bool) : 0 ≤ numL l ∧ numL l < 2 ^ l.length := by
  induction l with
  | nil => decide
  | cons b l ih =>
    have e : numL (b :: l) = (2 * 0 + (if b = true then 1 else 0)) * 2 ^ l.length + numL l := numA_eq _ l
    rw [e, List.length_cons, Int.pow_succ]
    cases b <;> simp <;> omega
theorem numL_cons (b : Bool) (l : List Bool) : numL (b :: l) = (if b = true then 2 ^ l.length else 0) + numL l := by
  have e : numL (b :: l) = (2 * 0 + (if b = true then 1 else 0)) * 2 ^ l.length + numL l := numA_eq _ l
  rw [e]
  cases b <;> simp
theorem numA_app (v : Int) (a b : List Bool) : numA v (a ++ b) = numA (numA v a) b := by
  induction a generalizing v with
  | nil => rfl
  | cons x a ih => simp only [List.cons_append, numA, ih]
theorem numL_app (a b : List Bool) : numL (a ++ b) = numL a * 2 ^ b.length + numL b := by
  show numA 0 (a ++ b) = _
  rw [numA_app, numA_eq]
  rfl
theorem bitsOf_low (v : Int) (n : Nat) (c : Int) : ∀ m, m ≤ n → bitsOf (v + c * 2 ^ n) m = bitsOf v m := by
  intro m
  induction m with
  | zero => intro _; rfl
  | succ m ih =>
    intro hm
    rw [bitsOf, bitsOf, ih (by omega)]
    congr 1
    have e : c * (2 : Int) ^ n = (c * 2 ^ (n - m - 1) * 2) * 2 ^ m := by
      rw [Int.mul_assoc, Int.mul_assoc, Int.mul_comm 2, ← Int.pow_succ, ← Int.pow_add]
      congr 2
      omega
    rw [e, Int.add_mul_ediv_right _ _ (by have : (0 : Int) < 2 ^ m := Int.pow_pos (by omega); omega)]
    congr 1
    simp
theorem bitsOf_mod (v : Int) (n : Nat) : bitsOf (v % 2 ^ n) n = bitsOf v n := by
  have h := Int.emod_add_mul_ediv v (2 ^ n)
  have := bitsOf_low (v % 2 ^ n) n (v / 2 ^ n) n (Nat.le_refl _)
  rw [Int.mul_comm, h] at this
  exact this.symm

theorem numL_bitsOf {v : Int} (n : Nat) (h0 : 0 ≤ v) (h : v < 2 ^ n) : numL (bitsOf v n) = v := by
  induction n generalizing v with
  | zero => simp [bitsOf, numL, numA]; omega
  | succ n ih =>
    have hp : (0 : Int) < 2 ^ n := Int.pow_pos (by omega)
    rw [Int.pow_succ] at h
    rw [bitsOf, numL_cons, bitsOf_length]
    by_cases hv : v < 2 ^ n
    · rw [ih h0 hv, Int.ediv_eq_zero_of_lt h0 hv]
      simp
    · have e1 := bitsOf_low (v - 2 ^ n) n 1 n (Nat.le_refl _)
      rw [show v - 2 ^ n + 1 * 2 ^ n = v by omega] at e1
      have e2 : v / 2 ^ n = 1 := by
        have := Int.add_mul_ediv_right (v - 2 ^ n) 1 (show (2 : Int) ^ n ≠ 0 by omega)
        have e3 : (v - 2 ^ n) / 2 ^ n = 0 := Int.ediv_eq_zero_of_lt (by omega) (by omega)
        rw [show v - 2 ^ n + 1 * 2 ^ n = v by omega, e3] at this
        omega
      rw [e1, ih (by omega) (by omega), e2]
      simp
      omega
theorem bitsOf_numL (l : List Bool) : bitsOf (numL l) l.length = l := by
  have hg : ∀ (l : List Bool) (c : Int), bitsOf (numL l + c * 2 ^ l.length) l.length = l := by
    intro l
    induction l with
    | nil => intro c; rfl
    | cons b l ih =>
      intro c
      have hr := numL_range l
      have hp : (0 : Int) < 2 ^ l.length := Int.pow_pos (by omega)
      rw [List.length_cons, bitsOf, numL_cons]
      have e : (if b = true then (2 : Int) ^ l.length else 0) + numL l + c * 2 ^ (l.length + 1) = numL l + (2 * c + (if b = true then 1 else 0)) * 2 ^ l.length := by
        rw [Int.pow_succ, Int.add_mul, Int.mul_comm (2 ^ l.length) 2, ← Int.mul_assoc, Int.mul_comm c 2]
        cases b <;> simp <;> omega
      rw [e, ih]
      congr 1
      rw [Int.add_mul_ediv_right _ _ (by omega), Int.ediv_eq_zero_of_lt hr.1 hr.2]
      cases b <;> simp <;> omega
  have := hg l 0
  simpa using this
/- Put -/
def unpack (b : List Int) : List Bool := b.flatMap (fun x => bitsOf x 8)
theorem unpack_length (b : List Int) : (unpack b).length = 8 * b.length := by
  induction b with
  | nil => rfl
  | cons x b ih =>
    unfold unpack at ih ⊢
    rw [List.flatMap_cons, List.length_append, ih, bitsOf_length, List.length_cons]
    omega
theorem unpack_app (a b : List Int) : unpack (a ++ b) = unpack a ++ unpack b := by simp [unpack]
theorem unpack_one (x : Int) : unpack [x] = bitsOf x 8 := by simp [unpack]
theorem take_rd (b : List Int) {i : Nat} (h : i < b.length) : b.take (i + 1) = b.take i ++ [rd b i] := by
  rw [List.take_add_one, rd_nat, List.getD, List.getElem?_eq_getElem h]
  rfl
def Bytes8 (b : List Int) : Prop := ∀ x ∈ b, 0 ≤ x ∧ x ≤ 255
theorem bytes8 {b : List Int} (h : ∀ x ∈ b, (Lit.int .u8 x).wf = true) : Bytes8 b := fun x hx => u8b (h x hx)
theorem Bytes8.rd {b : List Int} (h : Bytes8 b) {i : Nat} (hi : i < b.length) : 0 ≤ rd b i ∧ rd b i ≤ 255 := h _ (rd_mem (by omega) (by omega))

theorem drop_take_succ (a : List Bool) {j n : Nat} (h : j < a.length) : (a.drop j).take (n + 1) = a.getD j false :: (a.drop (j + 1)).take n := by
  rw [List.drop_eq_getElem_cons h, List.take_succ_cons, List.getD, List.getElem?_eq_getElem h]
  rfl
theorem byte_num (a : List Bool) {i : Nat} (h : 8 * i + 8 ≤ a.length) : numL ((a.drop (8 * i)).take 8) = byteAt a i := by
  rw [drop_take_succ a (by omega), drop_take_succ a (by omega), drop_take_succ a (by omega), drop_take_succ a (by omega), drop_take_succ a (by omega), drop_take_succ a (by omega), drop_take_succ a (by omega), drop_take_succ a (by omega), List.take_zero]
  unfold byteAt bi numL
  simp only [numA]
  generalize (if a.getD (8 * i) false = true then (1 : Int) else 0) = c0
  generalize (if a.getD (8 * i + 1) false = true then (1 : Int) else 0) = c1
  generalize (if a.getD (8 * i + 1 + 1) false = true then (1 : Int) else 0) = c2
  generalize (if a.getD (8 * i + 1 + 1 + 1) false = true then (1 : Int) else 0) = c3
  generalize (if a.getD (8 * i + 1 + 1 + 1 + 1) false = true then (1 : Int) else 0) = c4
  generalize (if a.getD (8 * i + 1 + 1 + 1 + 1 + 1) false = true then (1 : Int) else 0) = c5
  generalize (if a.getD (8 * i + 1 + 1 + 1 + 1 + 1 + 1) false = true then (1 : Int) else 0) = c6
  generalize (if a.getD (8 * i + 1 + 1 + 1 + 1 + 1 + 1 + 1) false = true then (1 : Int) else 0) = c7
  omega
theorem byte_bits (a : List Bool) {i : Nat} (h : 8 * i + 8 ≤ a.length) : bitsOf (byteAt a i) 8 = (a.drop (8 * i)).take 8 := by
  have e := bitsOf_numL ((a.drop (8 * i)).take 8)
  rw [byte_num a h, List.length_take, List.length_drop, Nat.min_eq_left (by omega)] at e
  exact e
theorem unpack_range (a : List Bool) : ∀ m, 8 * m ≤ a.length → unpack ((List.range m).map (byteAt a)) = a.take (8 * m) := by
  intro m
  induction m with
  | zero => intro _; rfl
  | succ m ih =>
    intro h
    rw [List.range_succ, List.map_append, unpack_app, ih (by omega), List.map_singleton, unpack_one, byte_bits a (by omega), show 8 * (m + 1) = 8 * m + 8 by omega, List.take_add]
theorem unpack_pack (l : List Bool) : unpack (pack l) = alignB l := by
  rw [← pack_align l]
  unfold pack
  have h := alignB_length l
  rw [unpack_range _ _ (by omega), List.take_of_length_le (by omega)]
theorem alignB_take (l : List Bool) : (alignB l).take l.length = l := by simp [alignB]

end Go.Proofs.Ytlebgjcpidpgnaa.Pure
