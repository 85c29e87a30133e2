/- Bits, texts of bits, numbers of bits, bytes as bits: no printed function in sight. -/
import Derived.Test.YteoncgijnkfhfaaKePx0
import Derived.Test.YteoncgijnkfhfaaKeHPut
import Derived.Test.YteoncgijnkfhfaaKeHMask
import Derived.Test.YteoncgijnkfhfaaKeUTools
import Derived.Laws.BitsAllLaws
import Derived.Test.YteoncgijnkfhfaaKePx3
import Derived.Test.YteoncgijnkfhfaaKePx4
import Derived.Test.YteoncgijnkfhfaaKePx7
import Derived.Test.YteoncgijnkfhfaaKePx2
import Derived.Test.YteoncgijnkfhfaaKePx1
section
namespace Go.Proofs.Yteoncgijnkfhfaa.Pure
open Go.RowKit Go.Proofs.Yteoncgijnkfhfaa.P Go.Proofs.YteoncgijnkfhfaaW.PrintWords Go.Proofs.YteoncgijnkfhfaaW.PrintLast Go.Proofs.YteoncgijnkfhfaaW.PrintMore
set_option linter.unusedVariables false
set_option linter.unusedSimpArgs false

/-- The number of bits, the highest first. -/
def numA (v : Int) : List Bool → Int
  | [] => v
  | b :: l => numA (2 * v + (if b = true then 1 else 0)) l
def numL (l : List Bool) : Int := numA 0 l
theorem numA_eq (v : Int) (l : List Bool) : numA v l = v * 2 ^ l.length + numL l := by
  unfold numL
  induction l generalizing v with
  | nil => simp [numA]
  | cons b l ih =>
    simp only [numA]
    rw [ih, ih (2 * 0 + _), List.length_cons, Int.pow_succ]
    generalize (2 : Int) ^ l.length = p
    generalize (if b = true then (1 : Int) else 0) = c
    have e1 : (2 * v + c) * p = v * (p * 2) + c * p := by rw [Int.add_mul, Int.mul_comm p 2, ← Int.mul_assoc, Int.mul_comm v 2]
    have e2 : (2 * 0 + c) * p = c * p := by simp
    omega
theorem numL_range (l : List Bool) : 0 ≤ numL l ∧ numL l < 2 ^ l.length := by
  induction l with
  | nil => decide
  | cons b l ih =>
    have e : numL (b :: l) = (2 * 0 + (if b = true then 1 else 0)) * 2 ^ l.length + numL l := numA_eq _ l
    rw [e, List.length_cons, Int.pow_succ]
    cases b <;> simp <;> omega
theorem numL_cons (b : Bool) (l : List Bool) : numL (b :: l) = (if b = true then 2 ^ l.length else 0) + numL l := by
  have e : numL (b :: l) = (2 * 0 + (if b = true then 1 else 0)) * 2 ^ l.length + numL l := numA_eq _ l
  rw [e]
  cases b <;> simp
theorem numA_app (v : Int) (a b : List Bool) : numA v (a ++ b) = numA (numA v a) b := by
  induction a generalizing v with
  | nil => rfl
  | cons x a ih => simp only [List.cons_append, numA, ih]
theorem numL_app (a b : List Bool) : numL (a ++ b) = numL a * 2 ^ b.length + numL b := by
  show numA 0 (a ++ b) = _
  rw [numA_app, numA_eq]
  rfl
theorem bitsOf_low (v : Int) (n : Nat) (c : Int) : ∀ m, m ≤ n → bitsOf (v + c * 2 ^ n) m = bitsOf v m := by
  intro m
  induction m with
  | zero => intro _; rfl
  | succ m ih =>
    intro hm
    rw [bitsOf, bitsOf, ih (by omega)]
    congr 1
    have e : c * (2 : Int) ^ n = (c * 2 ^ (n - m - 1) * 2) * 2 ^ m := by
      rw [Int.mul_assoc, Int.mul_assoc, Int.mul_comm 2, ← Int.pow_succ, ← Int.pow_add]
      congr 2
      omega
    rw [e, Int.add_mul_ediv_right _ _ (by have : (0 : Int) < 2 ^ m := Int.pow_pos (by omega); omega)]
    congr 1
    simp
theorem numL_bitsOf {v : Int} (n : Nat) (h0 : 0 ≤ v) (h : v < 2 ^ n) : numL (bitsOf v n) = v := by
  induction n generalizing v with
  | zero => simp [bitsOf, numL, numA]; omega
  | succ n ih =>
    have hp : (0 : Int) < 2 ^ n := Int.pow_pos (by omega)
    rw [Int.pow_succ] at h
    rw [bitsOf, numL_cons, bitsOf_length]
    by_cases hv : v < 2 ^ n
    · rw [ih h0 hv, Int.ediv_eq_zero_of_lt h0 hv]
      simp
    · have e1 := bitsOf_low (v - 2 ^ n) n 1 n (Nat.le_refl _)
      rw [show v - 2 ^ n + 1 * 2 ^ n = v by omega] at e1
      have e2 : v / 2 ^ n = 1 := by
        have := Int.add_mul_ediv_right (v - 2 ^ n) 1 (show (2 : Int) ^ n ≠ 0 by omega)
        have e3 : (v - 2 ^ n) / 2 ^ n = 0 := Int.ediv_eq_zero_of_lt (by omega) (by omega)
        rw [show v - 2 ^ n + 1 * 2 ^ n = v by omega, e3] at this
        omega
      rw [e1, ih (by omega) (by omega), e2]
      simp
      omega
theorem bitsOf_numL (l : List Bool) : bitsOf (numL l) l.length = l := by
  have hg : ∀ (l : List Bool) (c : Int), bitsOf (numL l + c * 2 ^ l.length) l.length = l := by
    intro l
    induction l with
    | nil => intro c; rfl
    | cons b l ih =>
      intro c
      have hr := numL_range l
      have hp : (0 : Int) < 2 ^ l.length := Int.pow_pos (by omega)
      rw [List.length_cons, bitsOf, numL_cons]
      have e : (if b = true then (2 : Int) ^ l.length else 0) + numL l + c * 2 ^ (l.length + 1) = numL l + (2 * c + (if b = true then 1 else 0)) * 2 ^ l.length := by
        rw [Int.pow_succ, Int.add_mul, Int.mul_comm (2 ^ l.length) 2, ← Int.mul_assoc, Int.mul_comm c 2]
        cases b <;> simp <;> omega
      rw [e, ih]
      congr 1
      rw [Int.add_mul_ediv_right _ _ (by omega), Int.ediv_eq_zero_of_lt hr.1 hr.2]
      cases b <;> simp <;> omega
  have := hg l 0
  simpa using this
/- Put -/
def unpack (b : List Int) : List Bool := b.flatMap (fun x => bitsOf x 8)
theorem unpack_length (b : List Int) : (unpack b).length = 8 * b.length := by
  induction b with
  | nil => rfl
  | cons x b ih =>
    unfold unpack at ih ⊢
    rw [List.flatMap_cons, List.length_append, ih, bitsOf_length, List.length_cons]
    omega
theorem unpack_app (a b : List Int) : unpack (a ++ b) = unpack a ++ unpack b := by simp [unpack]
theorem unpack_one (x : Int) : unpack [x] = bitsOf x 8 := by simp [unpack]
def Bytes8 (b : List Int) : Prop := ∀ x ∈ b, 0 ≤ x ∧ x ≤ 255
theorem bytes8 {b : List Int} (h : ∀ x ∈ b, (Lit.int .u8 x).wf = true) : Bytes8 b := fun x hx => u8b (h x hx)
theorem Bytes8.rd {b : List Int} (h : Bytes8 b) {i : Nat} (hi : i < b.length) : 0 ≤ rd b i ∧ rd b i ≤ 255 := h _ (rd_mem (by omega) (by omega))

theorem drop_take_succ (a : List Bool) {j n : Nat} (h : j < a.length) : (a.drop j).take (n + 1) = a.getD j false :: (a.drop (j + 1)).take n := by
  rw [List.drop_eq_getElem_cons h, List.take_succ_cons, List.getD, List.getElem?_eq_getElem h]
  rfl
theorem byte_num (a : List Bool) {i : Nat} (h : 8 * i + 8 ≤ a.length) : numL ((a.drop (8 * i)).take 8) = byteAt a i := by
  rw [drop_take_succ a (by omega), drop_take_succ a (by omega), drop_take_succ a (by omega), drop_take_succ a (by omega), drop_take_succ a (by omega), drop_take_succ a (by omega), drop_take_succ a (by omega), drop_take_succ a (by omega), List.take_zero]
  unfold byteAt bi numL
  simp only [numA]
  generalize (if a.getD (8 * i) false = true then (1 : Int) else 0) = c0
  generalize (if a.getD (8 * i + 1) false = true then (1 : Int) else 0) = c1
  generalize (if a.getD (8 * i + 1 + 1) false = true then (1 : Int) else 0) = c2
  generalize (if a.getD (8 * i + 1 + 1 + 1) false = true then (1 : Int) else 0) = c3
  generalize (if a.getD (8 * i + 1 + 1 + 1 + 1) false = true then (1 : Int) else 0) = c4
  generalize (if a.getD (8 * i + 1 + 1 + 1 + 1 + 1) false = true then (1 : Int) else 0) = c5
  generalize (if a.getD (8 * i + 1 + 1 + 1 + 1 + 1 + 1) false = true then (1 : Int) else 0) = c6
  generalize (if a.getD (8 * i + 1 + 1 + 1 + 1 + 1 + 1 + 1) false = true then (1 : Int) else 0) = c7
  omega
theorem byte_bits (a : List Bool) {i : Nat} (h : 8 * i + 8 ≤ a.length) : bitsOf (byteAt a i) 8 = (a.drop (8 * i)).take 8 := by
  have e := bitsOf_numL ((a.drop (8 * i)).take 8)
  rw [byte_num a h, List.length_take, List.length_drop, Nat.min_eq_left (by omega)] at e
  exact e
theorem unpack_range (a : List Bool) : ∀ m, 8 * m ≤ a.length → unpack ((List.range m).map (byteAt a)) = a.take (8 * m) := by
  intro m
  induction m with
  | zero => intro _; rfl
  | succ m ih =>
    intro h
    rw [List.range_succ, List.map_append, unpack_app, ih (by omega), List.map_singleton, unpack_one, byte_bits a (by omega), show 8 * (m + 1) = 8 * m + 8 by omega, List.take_add]
theorem unpack_pack (l : List Bool) : unpack (pack l) = alignB l := by
  rw [← pack_align l]
  unfold pack
  have h := alignB_length l
  rw [unpack_range _ _ (by omega), List.take_of_length_le (by omega)]
end Go.Proofs.Yteoncgijnkfhfaa.Pure
end
section
/- Bits as texts of 0 and 1, and what layer 1's reference makes of them: plain Lean. -/
namespace Go.Proofs.Yteoncgijnkfhfaa.Pure
open Go.RowKit Go.Proofs.Yteoncgijnkfhfaa.P Go.Proofs.YteoncgijnkfhfaaW.PrintWords Go.Proofs.YteoncgijnkfhfaaW.PrintLast Go.Proofs.YteoncgijnkfhfaaW.PrintMore
set_option linter.unusedVariables false
set_option linter.unusedSimpArgs false

theorem shr_ok (x : Int) (k : Nat) (hk : k ≤ 63) : shr .i64 x k = x / 2 ^ k := by
  unfold shr
  rw [Int.toNat_natCast, Nat.min_eq_left (show k ≤ IntKind.bits .i64 by show k ≤ 64; omega)]
theorem shru_ok (x : Int) (k : Nat) (hk : k ≤ 63) : shr .u64 x k = x / 2 ^ k := by
  unfold shr
  rw [Int.toNat_natCast, Nat.min_eq_left (show k ≤ IntKind.bits .u64 by show k ≤ 64; omega)]

end Go.Proofs.Yteoncgijnkfhfaa.Pure
end
section
/- Bytes as bits and back; the readers of layer 1 and of its reference as one plain machine. -/
namespace Go.Proofs.Yteoncgijnkfhfaa.Pure
open Go.RowKit Go.Proofs.Yteoncgijnkfhfaa.P Go.Proofs.YteoncgijnkfhfaaW.PrintWords Go.Proofs.YteoncgijnkfhfaaW.PrintLast Go.Proofs.YteoncgijnkfhfaaW.PrintMore
set_option linter.unusedVariables false
set_option linter.unusedSimpArgs false

/- THE READER -/
/-- Where a reader stands upon bytes, whose bits s are left. -/
def pos (b : List Int) (s : List Bool) : Int := 8 * (b.length : Int) - s.length
theorem suf_len {b : List Int} {s : List Bool} (h : s <:+ unpack b) : s.length ≤ 8 * b.length := by
  have := h.length_le
  rw [unpack_length] at this
  exact this
theorem pos_nil (b : List Int) : pos b (unpack b) = 0 := by unfold pos; rw [unpack_length]; omega
theorem bitsOf_getD (v : Int) : ∀ (n j : Nat), j < n → (bitsOf v n).getD j false = decide (v / 2 ^ (n - 1 - j) % 2 = 1) := by
  intro n
  induction n with
  | zero => intro j h; omega
  | succ n ih =>
    intro j h
    cases j with
    | zero => rfl
    | succ j =>
      have := ih j (by omega)
      rw [show n + 1 - 1 - (j + 1) = n - 1 - j by omega, ← this]
      rfl
theorem unpack_getD (b : List Int) : ∀ p, p < 8 * b.length → (unpack b).getD p false = decide (rd b (p / 8 : Nat) / 2 ^ (7 - p % 8) % 2 = 1) := by
  induction b with
  | nil => intro p h; simp at h
  | cons x b ih =>
    intro p h
    have e : unpack (x :: b) = bitsOf x 8 ++ unpack b := by simp [unpack]
    rw [e]
    by_cases hp : p < 8
    · rw [List.getD, List.getElem?_append_left (by rw [bitsOf_length]; omega), ← List.getD, bitsOf_getD x 8 p hp, show p / 8 = 0 by omega, show p % 8 = p by omega, rd_cons_zero]
    · rw [List.length_cons] at h
      rw [List.getD, List.getElem?_append_right (by rw [bitsOf_length]; omega), bitsOf_length, ← List.getD, ih (p - 8) (by omega), show p / 8 = (p - 8) / 8 + 1 by omega, rd_cons_succ, show (p - 8) % 8 = p % 8 by omega]
theorem suf_head {b : List Int} {c : Bool} {s : List Bool} (h : c :: s <:+ unpack b) : (unpack b).getD (8 * b.length - (s.length + 1)) false = c := by
  obtain ⟨t, ht⟩ := h
  have hl := congrArg List.length ht
  rw [unpack_length, List.length_append, List.length_cons] at hl
  rw [← ht, List.getD, List.getElem?_append_right (by omega), show 8 * b.length - (s.length + 1) - t.length = 0 by omega]
  rfl
theorem suf_tail {b : List Int} {c : Bool} {s : List Bool} (h : c :: s <:+ unpack b) : s <:+ unpack b := (List.suffix_cons c s).trans h
theorem and_one {x : Int} (h0 : 0 ≤ x) (h1 : x < 18446744073709551616) : Go.bits .and .u64 x 1 = x % 2 := by
  have := u64_mask (k := 1) h0 h1 (by omega)
  exact this
theorem bit_ok {b : List Int} (hb : Bytes8 b) (hl : b.length ≤ 10000000) {c : Bool} {s : List Bool} (hs : c :: s <:+ unpack b) (e : Int) : pipe_Reader_bit.f b (pos b (c :: s)) e = some (if c = true then 1 else 0, pos b s, e) := by
  have hn := suf_len hs
  rw [List.length_cons] at hn
  have hp : pos b (c :: s) = ((8 * b.length - (s.length + 1) : Nat) : Int) := by unfold pos; rw [List.length_cons]; omega
  have hp2 : pos b s = ((8 * b.length - (s.length + 1) : Nat) : Int) + 1 := by unfold pos; omega
  have hh := suf_head hs
  rw [unpack_getD b _ (by omega)] at hh
  rw [hp, hp2]
  generalize hq : 8 * b.length - (s.length + 1) = p at hh
  unfold pipe_Reader_bit.f
  have hr := hb.rd (show p / 8 < b.length by omega)
  have e1 : Int.tdiv (p : Int) 8 = ((p / 8 : Nat) : Int) := by rw [Int.tdiv_eq_ediv_of_nonneg (by omega)]; omega
  have e2 : Int.tmod (p : Int) 8 = ((p % 8 : Nat) : Int) := by rw [Int.tmod_eq_emod_of_nonneg (by omega)]; omega
  have e3 : (7 : Int) - ((p % 8 : Nat) : Int) = ((7 - p % 8 : Nat) : Int) := by omega
  have e4 : IntKind.u64.wrap (rd b ((p / 8 : Nat) : Int)) = rd b ((p / 8 : Nat) : Int) := by rw [u64_wrap]; exact Int.emod_eq_of_lt hr.1 (by omega)
  have hp0 : (0 : Int) < 2 ^ (7 - p % 8) := Int.pow_pos (by omega)
  have h0 : 0 ≤ rd b ((p / 8 : Nat) : Int) / 2 ^ (7 - p % 8) := Int.ediv_nonneg hr.1 (by omega)
  have h1 : rd b ((p / 8 : Nat) : Int) / 2 ^ (7 - p % 8) ≤ rd b ((p / 8 : Nat) : Int) := Int.ediv_le_self _ hr.1
  rw [e1, e2, w64 (x := ((p / 8 : Nat) : Int)) (by omega) (by omega), e3, w64 (x := ((7 - p % 8 : Nat) : Int)) (by omega) (by omega), if_pos (by omega), if_pos (by omega), if_pos (by omega), e4, shru_ok _ _ (by omega), and_one h0 (by omega), w64 (x := (p : Int) + 1) (by omega) (by omega)]
  have h2 : rd b ((p / 8 : Nat) : Int) / 2 ^ (7 - p % 8) % 2 = 0 ∨ rd b ((p / 8 : Nat) : Int) / 2 ^ (7 - p % 8) % 2 = 1 := by omega
  rw [← hh]
  rcases h2 with h2 | h2 <;> rw [h2] <;> rfl
theorem left_ok {b : List Int} (hl : b.length ≤ 10000000) {s : List Bool} (hs : s <:+ unpack b) (e : Int) : pipe_Reader_Left.f b (pos b s) e = some ((s.length : Int), pos b s, e) := by
  have hn := suf_len hs
  unfold pipe_Reader_Left.f
  have : wrap64 (wrap64 ((b.length : Int) * 8) - pos b s) = s.length := by
    unfold pos
    rw [w64 (x := (b.length : Int) * 8) (by omega) (by omega), w64 (by omega) (by omega)]
    omega
  rw [this]
theorem u64_or1 {v c : Int} (h0 : 0 ≤ v) (h1 : v ≤ 4611686018427387904) (hc0 : 0 ≤ c) (hc1 : c ≤ 1) : Go.bits .or .u64 (IntKind.u64.wrap (v * 2)) c = 2 * v + c := by
  rw [u64_wrap, Int.emod_eq_of_lt (by omega) (by omega)]
  obtain ⟨a, rfl⟩ := Int.eq_ofNat_of_zero_le h0
  obtain ⟨x, rfl⟩ := Int.eq_ofNat_of_zero_le hc0
  have h2 : (a : Int) * (2 : Int) = ((a <<< 1 : Nat) : Int) := by rw [Nat.shiftLeft_eq]; omega
  have hx : x < 2 ^ 1 := by simp; omega
  rw [h2, u64_or_nat _ _ (by rw [Nat.shiftLeft_eq]; omega) (by omega), ← Nat.shiftLeft_add_eq_or_of_lt hx, Nat.shiftLeft_eq]
  simp
  omega
end Go.Proofs.Yteoncgijnkfhfaa.Pure
end
