/- Bits, texts of bits, numbers of bits, bytes as bits: no printed function in sight. -/
import Derived.Test.YteoncgijnkfhfaaKaPx0
import Derived.Test.YteoncgijnkfhfaaKaHPut
import Derived.Test.YteoncgijnkfhfaaKaHMask
import Derived.Test.YteoncgijnkfhfaaKaUTools
import Derived.Laws.BitsAllLaws
namespace Go.Proofs.Yteoncgijnkfhfaa.Pure
open Go.RowKit Go.Proofs.Yteoncgijnkfhfaa.P Go.Proofs.YteoncgijnkfhfaaW.PrintWords Go.Proofs.YteoncgijnkfhfaaW.PrintLast Go.Proofs.YteoncgijnkfhfaaW.PrintMore
set_option linter.unusedVariables false
set_option linter.unusedSimpArgs false

/-- The document's text of bits. -/
def ch (b : Bool) : UInt8 := if b then 49 else 48
def txt (l : List Bool) : ByteArray := ⟨(l.map ch).toArray⟩
theorem txt_size (l : List Bool) : (txt l).size = l.length := by simp [txt, ByteArray.size]
theorem ba_ext {a b : ByteArray} (h : a.data.toList = b.data.toList) : a = b := by
  cases a; cases b
  simp only [ByteArray.mk.injEq]
  exact Array.toList_inj.mp h
theorem txt_data (l : List Bool) : (txt l).data.toList = l.map ch := rfl
theorem txt_app (a b : List Bool) : txt a ++ txt b = txt (a ++ b) := by
  refine ba_ext ?_
  rw [ByteArray.data_append, Array.toList_append, txt_data, txt_data, txt_data, List.map_append]
theorem txt_extract (l : List Bool) (i j : Nat) : (txt l).extract i j = txt ((l.take j).drop i) := by
  refine ba_ext ?_
  rw [ByteArray.data_extract, Array.toList_extract, txt_data, txt_data, List.extract_eq_take_drop, List.map_drop, List.map_take, List.take_drop]
  by_cases h : i ≤ j
  · rw [show i + (j - i) = j by omega]
  · rw [show i + (j - i) = i by omega, List.drop_eq_nil_of_le (by simp; omega), List.drop_eq_nil_of_le (by simp; omega)]
theorem txt_take (l : List Bool) (j : Nat) : (txt l).extract 0 j = txt (l.take j) := by rw [txt_extract, List.drop_zero]
theorem txt_drop (l : List Bool) (i : Nat) : (txt l).extract i l.length = txt (l.drop i) := by rw [txt_extract, List.take_length]
theorem txt_nil : (⟨#[]⟩ : ByteArray) = txt [] := rfl
theorem txt_toList (l : List Bool) : (txt l).toList = l.map ch := by rw [ByteArray.toList_eq]; rfl
theorem txt_empty (l : List Bool) : ((txt l).toList = []) = (l = []) := by rw [txt_toList]; simp
theorem txt_bt {l : List Bool} {i : Nat} (h : i < l.length) : bt (txt l) i = if l.getD i false = true then 49 else 48 := by
  unfold bt
  rw [dif_pos (by rw [txt_size]; omega)]
  have e : (txt l)[(i : Int).toNat]'(by rw [txt_size]; omega) = ch (l.getD i false) := by
    show (l.map ch).toArray[(i : Int).toNat]'(by simp; omega) = _
    simp only [Int.toNat_natCast, List.getElem_toArray, List.getElem_map, List.getD, List.getElem?_eq_getElem h, Option.getD_some]
  rw [e]
  cases l.getD i false <;> rfl
/-- The number of bits, the highest first. -/
def numA (v : Int) : List Bool → Int
  | [] => v
  | b :: l => numA (2 * v + (if b = true then 1 else 0)) l
def numL (l : List Bool) : Int := numA 0 l
theorem numA_eq (v : Int) (l : List Bool) : numA v l = v * 2 ^ l.length + numL l := by
  unfold numL
  induction l generalizing v with
  | nil => simp [numA]
  | cons b l ih =>
    simp only [numA]
    rw [ih, ih (2 * 0 + _), List.length_cons, Int.pow_succ]
    generalize (2 : Int) ^ l.length = p
    generalize (if b = true then (1 : Int) else 0) = c
    have e1 : (2 * v + c) * p = v * (p * 2) + c * p := by rw [Int.add_mul, Int.mul_comm p 2, ← Int.mul_assoc, Int.mul_comm v 2]
    have e2 : (2 * 0 + c) * p = c * p := by simp
    omega
theorem numL_range (l : List Bool) : 0 ≤ numL l ∧ numL l < 2 ^ l.length := by
  induction l with
  | nil => decide
  | cons b l ih =>
    have e : numL (b :: l) = (2 * 0 + (if b = true then 1 else 0)) * 2 ^ l.length + numL l := numA_eq _ l
    rw [e, List.length_cons, Int.pow_succ]
    cases b <;> simp <;> omega
theorem numL_cons (b : Bool) (l : List Bool) : numL (b :: l) = (if b = true then 2 ^ l.length else 0) + numL l := by
  have e : numL (b :: l) = (2 * 0 + (if b = true then 1 else 0)) * 2 ^ l.length + numL l := numA_eq _ l
  rw [e]
  cases b <;> simp
theorem numA_app (v : Int) (a b : List Bool) : numA v (a ++ b) = numA (numA v a) b := by
  induction a generalizing v with
  | nil => rfl
  | cons x a ih => simp only [List.cons_append, numA, ih]
theorem numL_app (a b : List Bool) : numL (a ++ b) = numL a * 2 ^ b.length + numL b := by
  show numA 0 (a ++ b) = _
  rw [numA_app, numA_eq]
  rfl
/- Put -/
def unpack (b : List Int) : List Bool := b.flatMap (fun x => bitsOf x 8)
theorem unpack_length (b : List Int) : (unpack b).length = 8 * b.length := by
  induction b with
  | nil => rfl
  | cons x b ih =>
    unfold unpack at ih ⊢
    rw [List.flatMap_cons, List.length_append, ih, bitsOf_length, List.length_cons]
    omega
theorem unpack_app (a b : List Int) : unpack (a ++ b) = unpack a ++ unpack b := by simp [unpack]
theorem unpack_one (x : Int) : unpack [x] = bitsOf x 8 := by simp [unpack]
theorem take_rd (b : List Int) {i : Nat} (h : i < b.length) : b.take (i + 1) = b.take i ++ [rd b i] := by
  rw [List.take_add_one, rd_nat, List.getD, List.getElem?_eq_getElem h]
  rfl
def Bytes8 (b : List Int) : Prop := ∀ x ∈ b, 0 ≤ x ∧ x ≤ 255
theorem bytes8 {b : List Int} (h : ∀ x ∈ b, (Lit.int .u8 x).wf = true) : Bytes8 b := fun x hx => u8b (h x hx)
theorem Bytes8.rd {b : List Int} (h : Bytes8 b) {i : Nat} (hi : i < b.length) : 0 ≤ rd b i ∧ rd b i ≤ 255 := h _ (rd_mem (by omega) (by omega))

end Go.Proofs.Yteoncgijnkfhfaa.Pure
