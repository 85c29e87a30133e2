/- Bits packed into bytes, the highest first: plain lemmas for the writer's contracts. -/
import Derived.Test.YteoncgijnkfhfaaKfPx0
namespace Go.Proofs.Yteoncgijnkfhfaa.P
open Go.RowKit Go.Proofs.YteoncgijnkfhfaaW.PrintWords Go.Proofs.YteoncgijnkfhfaaW.PrintLast Go.Proofs.YteoncgijnkfhfaaW.PrintMore
set_option linter.unusedVariables false
set_option linter.unusedSimpArgs false

def bi (l : List Bool) (i : Nat) : Int := if l.getD i false = true then 1 else 0
/-- Byte i of bits: those from 8 * i on, what isn't there is 0. -/
def byteAt (l : List Bool) (i : Nat) : Int :=
  bi l (8 * i) * 128 + bi l (8 * i + 1) * 64 + bi l (8 * i + 2) * 32 + bi l (8 * i + 3) * 16 + bi l (8 * i + 4) * 8 + bi l (8 * i + 5) * 4 + bi l (8 * i + 6) * 2 + bi l (8 * i + 7)
/-- Bits as bytes. -/
def pack (l : List Bool) : List Int := (List.range ((l.length + 7) / 8)).map (byteAt l)

theorem bi_range (l : List Bool) (i : Nat) : 0 ≤ bi l i ∧ bi l i ≤ 1 := by unfold bi; split <;> omega
theorem byteAt_range (l : List Bool) (i : Nat) : 0 ≤ byteAt l i ∧ byteAt l i ≤ 255 := by
  have h0 := bi_range l (8 * i); have h1 := bi_range l (8 * i + 1); have h2 := bi_range l (8 * i + 2); have h3 := bi_range l (8 * i + 3)
  have h4 := bi_range l (8 * i + 4); have h5 := bi_range l (8 * i + 5); have h6 := bi_range l (8 * i + 6); have h7 := bi_range l (8 * i + 7)
  unfold byteAt
  omega
theorem bi_out {l : List Bool} {i : Nat} (h : l.length ≤ i) : bi l i = 0 := by simp [bi, List.getD, List.getElem?_eq_none h]
theorem bi_app_left {l m : List Bool} {i : Nat} (h : i < l.length) : bi (l ++ m) i = bi l i := by
  have e : (l ++ m).getD i false = l.getD i false := by simp [List.getD, List.getElem?_append_left h]
  unfold bi
  rw [e]
theorem bi_app_last (l : List Bool) (b : Bool) : bi (l ++ [b]) l.length = if b = true then 1 else 0 := by simp [bi, List.getD]
theorem pack_length (l : List Bool) : (pack l).length = (l.length + 7) / 8 := by simp [pack]
theorem pack_get {l : List Bool} {i : Nat} (h : i < (l.length + 7) / 8) : (pack l)[i]? = some (byteAt l i) := by simp [pack, h]
theorem byte_early {l : List Bool} {b : Bool} {i : Nat} (h : i < l.length / 8) : byteAt (l ++ [b]) i = byteAt l i := by
  have : 8 * i + 7 < l.length := by omega
  unfold byteAt
  rw [bi_app_left (by omega), bi_app_left (by omega), bi_app_left (by omega), bi_app_left (by omega), bi_app_left (by omega), bi_app_left (by omega), bi_app_left (by omega), bi_app_left (by omega)]
theorem bi_app_at (l : List Bool) (b : Bool) (i : Nat) : bi (l ++ [b]) i = if i < l.length then bi l i else if i = l.length then (if b = true then 1 else 0) else 0 := by
  by_cases h : i < l.length
  · rw [if_pos h, bi_app_left h]
  · rw [if_neg h]
    by_cases h2 : i = l.length
    · rw [if_pos h2, h2, bi_app_last]
    · rw [if_neg h2, bi_out (by simp; omega)]
theorem bi_at (l : List Bool) (i : Nat) : bi l i = if i < l.length then bi l i else 0 := by
  by_cases h : i < l.length
  · rw [if_pos h]
  · rw [if_neg h, bi_out (by omega)]
theorem byte_last (l : List Bool) (b : Bool) : byteAt (l ++ [b]) (l.length / 8) = byteAt l (l.length / 8) + (if b = true then 2 ^ (7 - l.length % 8) else 0) := by
  obtain ⟨q, r, hq, hr⟩ : ∃ q r, l.length = 8 * q + r ∧ r < 8 := ⟨l.length / 8, l.length % 8, by omega, by omega⟩
  have e1 : l.length / 8 = q := by omega
  have e2 : l.length % 8 = r := by omega
  unfold byteAt
  rw [e1, e2, bi_app_at, bi_app_at, bi_app_at, bi_app_at, bi_app_at, bi_app_at, bi_app_at, bi_app_at, bi_at l (8 * q), bi_at l (8 * q + 1), bi_at l (8 * q + 2), bi_at l (8 * q + 3), bi_at l (8 * q + 4), bi_at l (8 * q + 5), bi_at l (8 * q + 6), bi_at l (8 * q + 7), hq]
  have hc : r = 0 ∨ r = 1 ∨ r = 2 ∨ r = 3 ∨ r = 4 ∨ r = 5 ∨ r = 6 ∨ r = 7 := by omega
  rcases hc with rfl | rfl | rfl | rfl | rfl | rfl | rfl | rfl <;> cases b <;> simp <;> omega
theorem byte_low (l : List Bool) : byteAt l (l.length / 8) % 2 ^ (8 - l.length % 8) = 0 := by
  obtain ⟨q, r, hq, hr⟩ : ∃ q r, l.length = 8 * q + r ∧ r < 8 := ⟨l.length / 8, l.length % 8, by omega, by omega⟩
  have e1 : l.length / 8 = q := by omega
  have e2 : l.length % 8 = r := by omega
  unfold byteAt
  rw [e1, e2, bi_at l (8 * q), bi_at l (8 * q + 1), bi_at l (8 * q + 2), bi_at l (8 * q + 3), bi_at l (8 * q + 4), bi_at l (8 * q + 5), bi_at l (8 * q + 6), bi_at l (8 * q + 7), hq]
  have hc : r = 0 ∨ r = 1 ∨ r = 2 ∨ r = 3 ∨ r = 4 ∨ r = 5 ∨ r = 6 ∨ r = 7 := by omega
  rcases hc with rfl | rfl | rfl | rfl | rfl | rfl | rfl | rfl <;> simp <;> omega
/-- One bit more: at the begin of a byte. -/
theorem pack_new (l : List Bool) (b : Bool) (h : l.length % 8 = 0) : pack (l ++ [b]) = pack l ++ [if b = true then 128 else 0] := by
  have hn : (l ++ [b]).length = l.length + 1 := by simp
  unfold pack
  rw [hn, show (l.length + 1 + 7) / 8 = (l.length + 7) / 8 + 1 by omega, List.range_succ, List.map_append, List.map_singleton]
  congr 1
  · apply List.map_congr_left
    intro i hi
    rw [List.mem_range] at hi
    exact byte_early (by omega)
  · rw [show (l.length + 7) / 8 = l.length / 8 by omega, byte_last, h]
    have : byteAt l (l.length / 8) = 0 := by
      unfold byteAt
      rw [bi_out (by omega), bi_out (by omega), bi_out (by omega), bi_out (by omega), bi_out (by omega), bi_out (by omega), bi_out (by omega), bi_out (by omega)]
      rfl
    rw [this]
    cases b <;> rfl
/-- One bit more: within a byte. -/
theorem pack_in (l : List Bool) (b : Bool) (h : l.length % 8 ≠ 0) : pack (l ++ [b]) = (pack l).set (l.length / 8) (byteAt l (l.length / 8) + (if b = true then 2 ^ (7 - l.length % 8) else 0)) := by
  have hn : (l ++ [b]).length = l.length + 1 := by simp
  refine List.ext_getElem (by rw [List.length_set, pack_length, pack_length, hn]; omega) fun i h1 h2 => ?_
  rw [pack_length, hn] at h1
  rw [List.length_set, pack_length] at h2
  have e1 : (pack (l ++ [b]))[i]? = some (byteAt (l ++ [b]) i) := pack_get (by rw [hn]; omega)
  rw [List.getElem?_eq_getElem (by rw [pack_length, hn]; omega)] at e1
  rw [Option.some.inj e1, List.getElem_set]
  by_cases hi : l.length / 8 = i
  · rw [if_pos hi, ← hi, byte_last]
  · rw [if_neg hi]
    have e2 : (pack l)[i]? = some (byteAt l i) := pack_get (by omega)
    rw [List.getElem?_eq_getElem (by rw [pack_length]; omega)] at e2
    rw [Option.some.inj e2]
    exact byte_early (by omega)
theorem pack_in0 (l : List Bool) (h : l.length % 8 ≠ 0) : pack (l ++ [false]) = pack l := by
  rw [pack_in l false h]
  have e2 : (pack l)[l.length / 8]? = some (byteAt l (l.length / 8)) := pack_get (by omega)
  refine List.ext_getElem (by simp) fun i h1 h2 => ?_
  rw [List.getElem_set]
  by_cases hi : l.length / 8 = i
  · subst hi
    rw [List.getElem?_eq_getElem h2] at e2
    rw [if_pos rfl, Option.some.inj e2]
    simp
  · rw [if_neg hi]
theorem or_table : ∀ x : Fin 256, ∀ k : Fin 8, ((x.val : Int) % 2 ^ (8 - k.val) = 0) → Go.bits .or .u8 (x.val : Int) (128 / 2 ^ k.val) = (x.val : Int) + 2 ^ (7 - k.val) := by decide +kernel
theorem or_byte {x : Int} {k : Nat} (h0 : 0 ≤ x) (h1 : x ≤ 255) (hk : k < 8) (h : x % 2 ^ (8 - k) = 0) : Go.bits .or .u8 x (128 / 2 ^ k) = x + 2 ^ (7 - k) := by
  obtain ⟨n, rfl⟩ := Int.eq_ofNat_of_zero_le h0
  exact or_table ⟨n, by omega⟩ ⟨k, hk⟩ h
end Go.Proofs.Yteoncgijnkfhfaa.P
