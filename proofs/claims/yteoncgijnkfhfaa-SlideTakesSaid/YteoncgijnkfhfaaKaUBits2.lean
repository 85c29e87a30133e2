/- Bytes as bits and back; the readers of layer 1 and of its reference as one plain machine. -/
import Derived.Test.YteoncgijnkfhfaaKaPx0
import Derived.Test.YteoncgijnkfhfaaKaPx3
import Derived.Test.YteoncgijnkfhfaaKaPx2
import Derived.Test.YteoncgijnkfhfaaKaPx1
import Derived.Test.YteoncgijnkfhfaaKaUBits
import Derived.Laws.BitsAllLaws
namespace Go.Proofs.Yteoncgijnkfhfaa.Pure
open Go.RowKit Go.Proofs.Yteoncgijnkfhfaa.P Go.Proofs.YteoncgijnkfhfaaW.PrintWords Go.Proofs.YteoncgijnkfhfaaW.PrintLast Go.Proofs.YteoncgijnkfhfaaW.PrintMore
set_option linter.unusedVariables false
set_option linter.unusedSimpArgs false

theorem put8 {x : Int} (h0 : 0 ≤ x) (h1 : x ≤ 255) {k : Nat} (hk : 8 < k) : sackbutref01_Put.f k x 8 = some (txt (bitsOf x 8)) := put_ok (n := 8) h0 (by omega) (by omega) hk
theorem bits_l0 (b : List Int) (hb : Bytes8 b) (hl : b.length ≤ 10000000) (d : Nat) : ∀ (k i : Nat), i + d = b.length → d + 9 < k → sackbutref01_Bits.l0 k b (txt (unpack (b.take i))) b.length i = some (txt (unpack b)) := by
  induction d with
  | zero =>
    intro k i hi hk
    obtain ⟨k, rfl, _⟩ := pred_k (show 0 < k by omega)
    simp only [sackbutref01_Bits.l0]
    rw [if_neg (by omega), List.take_of_length_le (by omega)]
  | succ d ih =>
    intro k i hi hk
    obtain ⟨k, rfl, hk'⟩ := pred_k (show 0 < k by omega)
    simp only [sackbutref01_Bits.l0]
    have hr := hb.rd (show i < b.length by omega)
    rw [if_pos (by omega), if_pos (by omega), if_pos (by omega), w64 (x := rd b i) (by omega) (by omega), put8 hr.1 hr.2 (by omega), bs, txt_size, txt_size, unpack_length, bitsOf_length, List.length_take, if_pos (by omega), txt_app, w64 (x := (i : Int) + 1) (by omega) (by omega), ← unpack_one, ← unpack_app, ← take_rd b (by omega)]
    have := ih k (i + 1) (by omega) (by omega)
    exact_mod_cast this
theorem bits_ok {b : List Int} (hb : Bytes8 b) (hl : b.length ≤ 10000000) {k : Nat} (hk : b.length + 9 < k) : sackbutref01_Bits.f k b = some (txt (unpack b)) := by
  have := bits_l0 b hb hl b.length k 0 (by omega) hk
  exact this

/- THE READER -/
/-- Where a reader stands upon bytes, whose bits s are left. -/
def pos (b : List Int) (s : List Bool) : Int := 8 * (b.length : Int) - s.length
theorem suf_len {b : List Int} {s : List Bool} (h : s <:+ unpack b) : s.length ≤ 8 * b.length := by
  have := h.length_le
  rw [unpack_length] at this
  exact this
theorem pos_nil (b : List Int) : pos b (unpack b) = 0 := by unfold pos; rw [unpack_length]; omega
theorem bitsOf_getD (v : Int) : ∀ (n j : Nat), j < n → (bitsOf v n).getD j false = decide (v / 2 ^ (n - 1 - j) % 2 = 1) := by
  intro n
  induction n with
  | zero => intro j h; omega
  | succ n ih =>
    intro j h
    cases j with
    | zero => rfl
    | succ j =>
      have := ih j (by omega)
      rw [show n + 1 - 1 - (j + 1) = n - 1 - j by omega, ← this]
      rfl
theorem unpack_getD (b : List Int) : ∀ p, p < 8 * b.length → (unpack b).getD p false = decide (rd b (p / 8 : Nat) / 2 ^ (7 - p % 8) % 2 = 1) := by
  induction b with
  | nil => intro p h; simp at h
  | cons x b ih =>
    intro p h
    have e : unpack (x :: b) = bitsOf x 8 ++ unpack b := by simp [unpack]
    rw [e]
    by_cases hp : p < 8
    · rw [List.getD, List.getElem?_append_left (by rw [bitsOf_length]; omega), ← List.getD, bitsOf_getD x 8 p hp, show p / 8 = 0 by omega, show p % 8 = p by omega, rd_cons_zero]
    · rw [List.length_cons] at h
      rw [List.getD, List.getElem?_append_right (by rw [bitsOf_length]; omega), bitsOf_length, ← List.getD, ih (p - 8) (by omega), show p / 8 = (p - 8) / 8 + 1 by omega, rd_cons_succ, show (p - 8) % 8 = p % 8 by omega]
theorem suf_head {b : List Int} {c : Bool} {s : List Bool} (h : c :: s <:+ unpack b) : (unpack b).getD (8 * b.length - (s.length + 1)) false = c := by
  obtain ⟨t, ht⟩ := h
  have hl := congrArg List.length ht
  rw [unpack_length, List.length_append, List.length_cons] at hl
  rw [← ht, List.getD, List.getElem?_append_right (by omega), show 8 * b.length - (s.length + 1) - t.length = 0 by omega]
  rfl
theorem suf_tail {b : List Int} {c : Bool} {s : List Bool} (h : c :: s <:+ unpack b) : s <:+ unpack b := (List.suffix_cons c s).trans h
theorem and_one {x : Int} (h0 : 0 ≤ x) (h1 : x < 18446744073709551616) : Go.bits .and .u64 x 1 = x % 2 := by
  have := u64_mask (k := 1) h0 h1 (by omega)
  exact this
theorem bit_ok {b : List Int} (hb : Bytes8 b) (hl : b.length ≤ 10000000) {c : Bool} {s : List Bool} (hs : c :: s <:+ unpack b) (e : Int) : pipe_Reader_bit.f b (pos b (c :: s)) e = some (if c = true then 1 else 0, pos b s, e) := by
  have hn := suf_len hs
  rw [List.length_cons] at hn
  have hp : pos b (c :: s) = ((8 * b.length - (s.length + 1) : Nat) : Int) := by unfold pos; rw [List.length_cons]; omega
  have hp2 : pos b s = ((8 * b.length - (s.length + 1) : Nat) : Int) + 1 := by unfold pos; omega
  have hh := suf_head hs
  rw [unpack_getD b _ (by omega)] at hh
  rw [hp, hp2]
  generalize hq : 8 * b.length - (s.length + 1) = p at hh
  unfold pipe_Reader_bit.f
  have hr := hb.rd (show p / 8 < b.length by omega)
  have e1 : Int.tdiv (p : Int) 8 = ((p / 8 : Nat) : Int) := by rw [Int.tdiv_eq_ediv_of_nonneg (by omega)]; omega
  have e2 : Int.tmod (p : Int) 8 = ((p % 8 : Nat) : Int) := by rw [Int.tmod_eq_emod_of_nonneg (by omega)]; omega
  have e3 : (7 : Int) - ((p % 8 : Nat) : Int) = ((7 - p % 8 : Nat) : Int) := by omega
  have e4 : IntKind.u64.wrap (rd b ((p / 8 : Nat) : Int)) = rd b ((p / 8 : Nat) : Int) := by rw [u64_wrap]; exact Int.emod_eq_of_lt hr.1 (by omega)
  have hp0 : (0 : Int) < 2 ^ (7 - p % 8) := Int.pow_pos (by omega)
  have h0 : 0 ≤ rd b ((p / 8 : Nat) : Int) / 2 ^ (7 - p % 8) := Int.ediv_nonneg hr.1 (by omega)
  have h1 : rd b ((p / 8 : Nat) : Int) / 2 ^ (7 - p % 8) ≤ rd b ((p / 8 : Nat) : Int) := Int.ediv_le_self _ hr.1
  rw [e1, e2, w64 (x := ((p / 8 : Nat) : Int)) (by omega) (by omega), e3, w64 (x := ((7 - p % 8 : Nat) : Int)) (by omega) (by omega), if_pos (by omega), if_pos (by omega), if_pos (by omega), e4, shru_ok _ _ (by omega), and_one h0 (by omega), w64 (x := (p : Int) + 1) (by omega) (by omega)]
  have h2 : rd b ((p / 8 : Nat) : Int) / 2 ^ (7 - p % 8) % 2 = 0 ∨ rd b ((p / 8 : Nat) : Int) / 2 ^ (7 - p % 8) % 2 = 1 := by omega
  rw [← hh]
  rcases h2 with h2 | h2 <;> rw [h2] <;> rfl
theorem left_ok {b : List Int} (hl : b.length ≤ 10000000) {s : List Bool} (hs : s <:+ unpack b) (e : Int) : pipe_Reader_Left.f b (pos b s) e = some ((s.length : Int), pos b s, e) := by
  have hn := suf_len hs
  unfold pipe_Reader_Left.f
  have : wrap64 (wrap64 ((b.length : Int) * 8) - pos b s) = s.length := by
    unfold pos
    rw [w64 (x := (b.length : Int) * 8) (by omega) (by omega), w64 (by omega) (by omega)]
    omega
  rw [this]
theorem u64_or1 {v c : Int} (h0 : 0 ≤ v) (h1 : v ≤ 4611686018427387904) (hc0 : 0 ≤ c) (hc1 : c ≤ 1) : Go.bits .or .u64 (IntKind.u64.wrap (v * 2)) c = 2 * v + c := by
  rw [u64_wrap, Int.emod_eq_of_lt (by omega) (by omega)]
  obtain ⟨a, rfl⟩ := Int.eq_ofNat_of_zero_le h0
  obtain ⟨x, rfl⟩ := Int.eq_ofNat_of_zero_le hc0
  have h2 : (a : Int) * (2 : Int) = ((a <<< 1 : Nat) : Int) := by rw [Nat.shiftLeft_eq]; omega
  have hx : x < 2 ^ 1 := by simp; omega
  rw [h2, u64_or_nat _ _ (by rw [Nat.shiftLeft_eq]; omega) (by omega), ← Nat.shiftLeft_add_eq_or_of_lt hx, Nat.shiftLeft_eq]
  simp
  omega
end Go.Proofs.Yteoncgijnkfhfaa.Pure
