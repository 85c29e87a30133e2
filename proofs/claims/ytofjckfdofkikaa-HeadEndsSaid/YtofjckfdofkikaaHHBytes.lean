/- head.Bytes. -/
import Derived.Test.YtofjckfdofkikaaPx0
import Derived.Test.YtofjckfdofkikaaHHead
import Derived.Test.YtofjckfdofkikaaHNew
import Derived.Test.YtofjckfdofkikaaPx3
import Derived.Sort.LoopGhostIn
import Derived.Lib.SlBytesConst
import Derived.ArgAppend
namespace Go.Proofs.Ytofjckfdofkikaa.P
open Go Go.RowKit Go.Proofs.YtofjckfdofkikaaW.PrintWords Go.Proofs.YtofjckfdofkikaaW.PrintLast Go.Proofs.YtofjckfdofkikaaW.PrintMore
set_option linter.unusedVariables false
set_option linter.unusedSimpArgs false

/-- The bits behind so many parts. -/
def headBits (c0 c1 : Int) (big : Bool) (c3 c4 c5 c6 sum : Int) : Nat → List Bool
  | 0 => []
  | 1 => bitsOf (c0 - 1) 3
  | 2 => bitsOf (c0 - 1) 3 ++ bitsOf (c1 / 8) 2
  | 3 => bitsOf (c0 - 1) 3 ++ bitsOf (c1 / 8) 2 ++ bitsOf (flagZ big) 1
  | 4 => bitsOf (c0 - 1) 3 ++ bitsOf (c1 / 8) 2 ++ bitsOf (flagZ big) 1 ++ bitsOf c3 24
  | 5 => bitsOf (c0 - 1) 3 ++ bitsOf (c1 / 8) 2 ++ bitsOf (flagZ big) 1 ++ bitsOf c3 24 ++ bitsOf (c4 / 16 - 1) 6
  | 6 => bitsOf (c0 - 1) 3 ++ bitsOf (c1 / 8) 2 ++ bitsOf (flagZ big) 1 ++ bitsOf c3 24 ++ bitsOf (c4 / 16 - 1) 6 ++ bitsOf c5 8
  | 7 => bitsOf (c0 - 1) 3 ++ bitsOf (c1 / 8) 2 ++ bitsOf (flagZ big) 1 ++ bitsOf c3 24 ++ bitsOf (c4 / 16 - 1) 6 ++ bitsOf c5 8 ++ bitsOf c6 21
  | 8 => bitsOf (c0 - 1) 3 ++ bitsOf (c1 / 8) 2 ++ bitsOf (flagZ big) 1 ++ bitsOf c3 24 ++ bitsOf (c4 / 16 - 1) 6 ++ bitsOf c5 8 ++ bitsOf c6 21 ++ bitsOf sum 32
  | _ => bitsOf (c0 - 1) 3 ++ bitsOf (c1 / 8) 2 ++ bitsOf (flagZ big) 1 ++ bitsOf c3 24 ++ bitsOf (c4 / 16 - 1) 6 ++ bitsOf c5 8 ++ bitsOf c6 21 ++ bitsOf sum 32 ++ bitsOf 0 23
/-- May these be a head's parts? -/
def headOk (c0 c1 c3 c4 c5 c6 sum : Int) : Bool := decide (1 ≤ c0) && decide (c0 ≤ 8) && decide (0 ≤ c1) && decide (c1 ≤ 24) && decide (0 ≤ c3) && decide (c3 ≤ 16777215) && decide (16 ≤ c4) && decide (c4 ≤ 1024) && decide (0 ≤ c5) && decide (c5 ≤ 255) && decide (0 ≤ c6) && decide (c6 ≤ 2097151) && decide (0 ≤ sum) && decide (sum ≤ 4294967295)
def head_Bytes.f (c0 c1 : Int) (big : Bool) (c3 c4 c5 c6 sum : Int) : Option (List Int × Int) :=
  (head_Good.f c0 c1 big c3 c4 c5 c6).bind fun g => if g = true then (if headOk c0 c1 c3 c4 c5 c6 sum = true then some ([83, 75, 66, 84, 1] ++ pack (headBits c0 c1 big c3 c4 c5 c6 sum 9), 0) else none) else some ([], 7)
theorem put_bits {x : Int} {n : Nat} (h0 : 0 ≤ x) (hn : n ≤ 48) (h : x < 2 ^ n) : putOk x n = true := by
  unfold putOk
  rw [Int.toNat_natCast, decide_eq_true (by omega), decide_eq_true (by omega), decide_eq_true h]
  rfl
theorem addH (g m : Nat) : (⟨g, 0, none⟩ : Addr).add m = ⟨g, m, none⟩ := by
  unfold Addr.add
  by_cases h : m = 0
  · subst h; simp
  · simp [h]
theorem owns_cellH {B : Nat} {w : World} {r c : Nat} {bs : List Int} (h : w.ownsRow B 5 1 (.slice (some ⟨r, 0, none⟩) bs.length c) bs.length (nums .u8 bs)) {i : Nat} {x : Int} (hi : bs[i]? = some x) : w.cell? ⟨r, i, none⟩ = some (.int .u8 x) := by
  rcases h.2 with ⟨h0, _⟩ | ⟨g, cap, cur, h1, _, h3, h4, _, h6, h7⟩
  · cases h0
  · injection h1 with h1
    injection h1 with h1
    injection h1 with h1
    subst h1
    refine (blk_cell h3 i).trans ?_
    have hlt : i < bs.length := (List.getElem?_eq_some_iff.mp hi).1
    have h8 : (cur.toList.take (bs.length * 1))[i]? = some (.int .u8 x) := by rw [h7]; simp [nums, hi]
    rw [List.getElem?_take_of_lt (by omega)] at h8
    simpa using h8
theorem flag_b (b : Bool) : 0 ≤ flagZ b ∧ flagZ b ≤ 1 := by cases b <;> decide

set_option maxHeartbeats 8000000 in
set_option maxRecDepth 100000 in
theorem head_Bytes.calls (c0 c1 : Int) (big : Bool) (c3 c4 c5 c6 sum : Int) (r1 : List Int) (r2 : Int) (w : World) (h : head_Bytes.f c0 c1 big c3 c4 c5 c6 sum = some (r1, r2)) :
    Calls Try.prog 30 #[headV c0 c1 big c3 c4 c5 c6 sum] w fun e w' => ∃ v0_ : Value, e = .returned (.tuple #[v0_, .int .i64 r2]) ∧ Kd.R (Kd.int .u8) 5 w' w.heap.size (fun _ => True) v0_ r1 ∧ Below w.heap.size w w' := by
  obtain ⟨gd, hgd, h⟩ := Option.bind_eq_some_iff.mp h
  have HGD := Aside0.mk hgd
  clear hgd
  have hu := Try.underlying49
  have hu2 := Try.underlying23
  have hu3 := Try.underlying76
  go_enter Try.func30, Try.ntmps30
  go_wp2_with fail
  have hbA := blk_new w (.cells #[.int .i64 c0, .int .i64 c1, .bool big, .int .i64 c3, .int .i64 c4, .int .i64 c5, .int .i64 c6, .int .u32 sum] 49)
  have hBl := below_alloc (Below.refl w.heap.size w) (.cells #[.int .i64 c0, .int .i64 c1, .bool big, .int .i64 c3, .int .i64 c4, .int .i64 c5, .int .i64 c6, .int .u32 sum] 49)
  generalize w.alloc (.cells #[.int .i64 c0, .int .i64 c1, .bool big, .int .i64 c3, .int .i64 c4, .int .i64 c5, .int .i64 c6, .int .u32 sum] 49) = w1 at hbA hBl ⊢
  (with_reducible refine (head_Good.calls c0 c1 big c3 c4 c5 c6 gd w1 HGD.out).mono ?_)
  rintro e w2 ⟨rfl, hb2⟩
  have HBA2 := Aside0.mk (blk_below hbA hb2)
  have HB2 := Aside0.mk (below_then hBl hBl.size hb2)
  clear hbA hBl hb2
  cases gd with
  | false =>
    rw [if_neg (by simp)] at h
    cases h
    go_wp2
    go_ret2
    exact ⟨_, rfl, Kd.R_nil _ _ _ _ _, HB2.out⟩
  | true =>
    rw [if_pos rfl] at h
    obtain hok : headOk c0 c1 c3 c4 c5 c6 sum = true := by
      refine Decidable.byContradiction fun hn => ?_
      rw [if_neg hn] at h
      exact absurd h (by simp)
    rw [if_pos hok] at h
    simp only [headOk, Bool.and_eq_true, decide_eq_true_eq] at hok
    have HOK := Aside0.mk hok
    have HR1 := Aside0.mk (show r1 = [83, 75, 66, 84, 1] ++ pack (headBits c0 c1 big c3 c4 c5 c6 sum 9) by injection h with h; injection h with h _; exact h.symm)
    obtain rfl : r2 = 0 := by injection h with h; injection h with _ h; exact h.symm
    clear h hok
    have hcs := fun i => blk_cell (blk_alloc HBA2.out (.cells #[.slice none 0 0, .int .i64 0] 74)) i
    have hk0 := (hcs 0).trans rfl
    have hk1 := (hcs 1).trans rfl
    have hk2 := (hcs 2).trans rfl
    have hk3 := (hcs 3).trans rfl
    have hk4 := (hcs 4).trans rfl
    have hk5 := (hcs 5).trans rfl
    have hk6 := (hcs 6).trans rfl
    have hk7 := (hcs 7).trans rfl
    clear hcs
    go_wp2_with fail
    have hw0 := isWr_new w w2 HB2.out
    have hbw := below_alloc HB2.out (.cells #[.slice none 0 0, .int .i64 0] 74)
    obtain ⟨gw, hgw⟩ : ∃ gw, w2.heap.size = gw := ⟨_, rfl⟩
    rw [hgw] at hw0 ⊢
    generalize w2.alloc (.cells #[.slice none 0 0, .int .i64 0] 74) = w3 at hw0 hbw hk0 hk1 hk2 hk3 hk4 hk5 hk6 hk7 ⊢
    have HW0 := Aside0.mk hw0
    have HBW := Aside0.mk hbw
    clear hw0 hbw hgw HBA2 HB2
    (with_reducible refine (head_fields c0 c1 big c3 c4 c5 c6 sum w3 (by have := HOK.out; omega) (by have := HOK.out; omega) (by have := HOK.out; omega) (by have := HOK.out; omega) (by have := HOK.out; omega) (by have := HOK.out; omega) (by have := HOK.out; omega) (by have := HOK.out; omega)).mono ?_)
    rintro e w4 ⟨rfl, hb4⟩
    have HW4 := Aside0.mk (isWr_below HW0.out hb4)
    have HB4 := Aside0.mk (below_then HBW.out HBW.out.size hb4)
    clear hb4 hk0 hk1 hk2 hk3 hk4 hk5 hk6 hk7 HW0 HBW
    have ix0 : ∀ w, (Instr.index 77 (.agg (fieldsC (c0 - 1) (c1 / 8) (flagZ big) c3 (c4 / 16 - 1) c5 c6 sum)) (.int .i64 0)).run Try.prog w = .ok (.agg #[.int .i64 (c0 - 1), .int .i64 3]) w := fun _ => by kernel_rfl
    have ix1 : ∀ w, (Instr.index 77 (.agg (fieldsC (c0 - 1) (c1 / 8) (flagZ big) c3 (c4 / 16 - 1) c5 c6 sum)) (.int .i64 1)).run Try.prog w = .ok (.agg #[.int .i64 (c1 / 8), .int .i64 2]) w := fun _ => by kernel_rfl
    have ix2 : ∀ w, (Instr.index 77 (.agg (fieldsC (c0 - 1) (c1 / 8) (flagZ big) c3 (c4 / 16 - 1) c5 c6 sum)) (.int .i64 2)).run Try.prog w = .ok (.agg #[.int .i64 (flagZ big), .int .i64 1]) w := fun _ => by kernel_rfl
    have ix3 : ∀ w, (Instr.index 77 (.agg (fieldsC (c0 - 1) (c1 / 8) (flagZ big) c3 (c4 / 16 - 1) c5 c6 sum)) (.int .i64 3)).run Try.prog w = .ok (.agg #[.int .i64 c3, .int .i64 24]) w := fun _ => by kernel_rfl
    have ix4 : ∀ w, (Instr.index 77 (.agg (fieldsC (c0 - 1) (c1 / 8) (flagZ big) c3 (c4 / 16 - 1) c5 c6 sum)) (.int .i64 4)).run Try.prog w = .ok (.agg #[.int .i64 (c4 / 16 - 1), .int .i64 6]) w := fun _ => by kernel_rfl
    have ix5 : ∀ w, (Instr.index 77 (.agg (fieldsC (c0 - 1) (c1 / 8) (flagZ big) c3 (c4 / 16 - 1) c5 c6 sum)) (.int .i64 5)).run Try.prog w = .ok (.agg #[.int .i64 c5, .int .i64 8]) w := fun _ => by kernel_rfl
    have ix6 : ∀ w, (Instr.index 77 (.agg (fieldsC (c0 - 1) (c1 / 8) (flagZ big) c3 (c4 / 16 - 1) c5 c6 sum)) (.int .i64 6)).run Try.prog w = .ok (.agg #[.int .i64 c6, .int .i64 21]) w := fun _ => by kernel_rfl
    have ix7 : ∀ w, (Instr.index 77 (.agg (fieldsC (c0 - 1) (c1 / 8) (flagZ big) c3 (c4 / 16 - 1) c5 c6 sum)) (.int .i64 7)).run Try.prog w = .ok (.agg #[.int .i64 sum, .int .i64 32]) w := fun _ => by kernel_rfl
    have ix8 : ∀ w, (Instr.index 77 (.agg (fieldsC (c0 - 1) (c1 / 8) (flagZ big) c3 (c4 / 16 - 1) c5 c6 sum)) (.int .i64 8)).run Try.prog w = .ok (.agg #[.int .i64 0, .int .i64 23]) w := fun _ => by kernel_rfl
    go_wp2_with fail
    go_loopg [6, 13] 9 (fun kk v6 v13 wr => ∃ (i : Nat) (v : Value), v13 = .int .i64 i ∧ kk + i = 9 ∧ Aside0 (IsWr w wr gw v (headBits c0 c1 big c3 c4 c5 c6 sum i)) ∧ Aside0 (Below w.heap.size w wr))
    case atStart => exact ⟨0, _, rfl, rfl, HW4, HB4⟩
    case round =>
      clear HW4 HB4
      obtain ⟨i, v, rfl, hk, HW, HB⟩ := hrel
      by_cases hlt : i < 9
      · have hme : gk - 1 < gk := by omega
        have h9 : i = 0 ∨ i = 1 ∨ i = 2 ∨ i = 3 ∨ i = 4 ∨ i = 5 ∨ i = 6 ∨ i = 7 ∨ i = 8 := by omega
        obtain ⟨x, n, hix, hx0, hx1, hput, hbits⟩ : ∃ (x : Int) (n : Nat), (∀ W, (Instr.index 77 (.agg (fieldsC (c0 - 1) (c1 / 8) (flagZ big) c3 (c4 / 16 - 1) c5 c6 sum)) (.int .i64 (i : Int))).run Try.prog W = .ok (.agg #[.int .i64 x, .int .i64 (n : Int)]) W) ∧ 0 ≤ x ∧ x ≤ 4294967296 ∧ putOk x (n : Int) = true ∧ headBits c0 c1 big c3 c4 c5 c6 sum (i + 1) = headBits c0 c1 big c3 c4 c5 c6 sum i ++ bitsOf x n := by
          have hf := flag_b big
          have ho := HOK.out
          rcases h9 with rfl | rfl | rfl | rfl | rfl | rfl | rfl | rfl | rfl
          · exact ⟨_, 3, ix0, by omega, by omega, put_bits (n := 3) (by omega) (by omega) (by rw [show (2 : Int) ^ 3 = 8 from rfl]; omega), rfl⟩
          · exact ⟨_, 2, ix1, by omega, by omega, put_bits (n := 2) (by omega) (by omega) (by rw [show (2 : Int) ^ 2 = 4 from rfl]; omega), rfl⟩
          · exact ⟨_, 1, ix2, by omega, by omega, put_bits (n := 1) (by omega) (by omega) (by rw [show (2 : Int) ^ 1 = 2 from rfl]; omega), rfl⟩
          · exact ⟨_, 24, ix3, by omega, by omega, put_bits (n := 24) (by omega) (by omega) (by rw [show (2 : Int) ^ 24 = 16777216 from rfl]; omega), rfl⟩
          · exact ⟨_, 6, ix4, by omega, by omega, put_bits (n := 6) (by omega) (by omega) (by rw [show (2 : Int) ^ 6 = 64 from rfl]; omega), rfl⟩
          · exact ⟨_, 8, ix5, by omega, by omega, put_bits (n := 8) (by omega) (by omega) (by rw [show (2 : Int) ^ 8 = 256 from rfl]; omega), rfl⟩
          · exact ⟨_, 21, ix6, by omega, by omega, put_bits (n := 21) (by omega) (by omega) (by rw [show (2 : Int) ^ 21 = 2097152 from rfl]; omega), rfl⟩
          · exact ⟨_, 32, ix7, by omega, by omega, put_bits (n := 32) (by omega) (by omega) (by rw [show (2 : Int) ^ 32 = 4294967296 from rfl]; omega), rfl⟩
          · exact ⟨_, 23, ix8, by omega, by omega, put_bits (n := 23) (by omega) (by omega) (by rw [show (2 : Int) ^ 23 = 8388608 from rfl]; omega), rfl⟩
        clear h9 ix0 ix1 ix2 ix3 ix4 ix5 ix6 ix7 ix8
        have hxw : IntKind.u64.wrap x = x := by rw [IntKind.wrap_u64]; omega
        have HPUT := Aside0.mk hput
        have HBITS := Aside0.mk hbits
        have HLN : Aside0 ((headBits c0 c1 big c3 c4 c5 c6 sum i).length ≤ 900000000) := ⟨by
          unfold headBits
          split <;> simp [bitsOf_length]⟩
        have HX0 := Aside0.mk hx0
        have HX1 := Aside0.mk hx1
        clear hput hbits
        obtain ⟨ls, hls⟩ : ∃ ls, headBits c0 c1 big c3 c4 c5 c6 sum i = ls := ⟨_, rfl⟩
        rw [hls] at HW HLN HBITS
        clear hls
        go_wp2_with fail
        have HBx := Aside0.mk (below_alloc HB.out (.cells #[.int .i64 x, .int .i64 (n : Int)] 76))
        have HWx := Aside0.mk (isWr_below HW.out (below_alloc (Below.refl wr.heap.size wr) (.cells #[.int .i64 x, .int .i64 (n : Int)] 76)))
        (with_reducible refine (wr_Put w _ gw v ls x (n : Int) HX0.out (by have := HX1.out; omega) HBx.out HWx.out HLN.out).mono ?_)
        rintro e w5 ⟨rfl, v5, hw5, hs5⟩
        rw [HPUT.out, if_pos rfl, Int.toNat_natCast, ← HBITS.out] at hw5
        have HW5 := Aside0.mk hw5
        have HB5 := Aside0.mk hs5.below
        clear hw5 hs5
        go_wp2
        go_roundg (gk - 1)
        case rel => exact ⟨i + 1, v5, by first | rfl | (congr 1), by omega, HW5, HB5⟩
        case measure => exact hme
      · have hi9 : i = 9 := by omega
        subst hi9
        have kc := fun (w : World) (C : Array Value) (n c : Nat) => Lib.run_convert_bytes_const (P := Try.prog) w 50 5 C n c Try.underlying50 Try.underlying5
        clear ix0 ix1 ix2 ix3 ix4 ix5 ix6 ix7 ix8
        go_wp2_with fail
        have hn5 := blk_new wr (.cells #[.int .u8 83, .int .u8 75, .int .u8 66, .int .u8 84, .int .u8 1] 5 (5, 6))
        have hB5 := below_alloc HB.out (.cells #[.int .u8 83, .int .u8 75, .int .u8 66, .int .u8 84, .int .u8 1] 5 (5, 6))
        have hW5 := isWr_below HW.out (below_alloc (Below.refl wr.heap.size wr) (.cells #[.int .u8 83, .int .u8 75, .int .u8 66, .int .u8 84, .int .u8 1] 5 (5, 6)))
        obtain ⟨g5, hg5⟩ : ∃ g5, wr.heap.size = g5 := ⟨_, rfl⟩
        have HG5 := Aside0.mk (show w.heap.size ≤ g5 by rw [← hg5]; exact HB.out.size)
        rw [hg5] at hn5 ⊢
        generalize wr.alloc (.cells #[.int .u8 83, .int .u8 75, .int .u8 66, .int .u8 84, .int .u8 1] 5 (5, 6)) = w5 at hn5 hB5 hW5 ⊢
        have HN5 := Aside0.mk hn5
        have HB5 := Aside0.mk hB5
        have HW5 := Aside0.mk hW5
        have HLN : Aside0 ((headBits c0 c1 big c3 c4 c5 c6 sum 9).length ≤ 1000) := ⟨by
          unfold headBits
          simp [bitsOf_length]⟩
        clear hn5 hB5 hW5 hg5
        (with_reducible refine (wr_Bytes w w5 gw v _ HW5.out (by have := HLN.out; omega)).mono ?_)
        rintro e w6 ⟨v6, rfl, ho6, hb6⟩
        have HPL : Aside0 ((pack (headBits c0 c1 big c3 c4 c5 c6 sum 9)).length ≤ 1000) := ⟨by rw [pack_length]; have := HLN.out; omega⟩
        obtain ⟨ps, hps⟩ : ∃ ps, pack (headBits c0 c1 big c3 c4 c5 c6 sum 9) = ps := ⟨_, rfl⟩
        have HPS := Aside0.mk hps
        rw [hps] at ho6 HPL
        have hp15 : 0 < ps.length := by rw [← hps, pack_length]; unfold headBits; simp [bitsOf_length]
        obtain ⟨g6, c6', rfl⟩ : ∃ g6 c6', v6 = .slice (some ⟨g6, 0, none⟩) ps.length c6' := by
          rcases ho6.2 with ⟨_, h0⟩ | ⟨r, cap, cur, h1, _⟩
          · omega
          · exact ⟨r, cap, h1⟩
        have HN6 := Aside0.mk (blk_below HN5.out hb6)
        have HB6 := Aside0.mk (below_then HB5.out HB5.out.size hb6)
        have HO6 := Aside0.mk ho6
        have HP15 := Aside0.mk hp15
        obtain ⟨i0, hi, hzz⟩ := Option.map_eq_some_iff.1 wr_info
        simp only [Prod.mk.injEq] at hzz
        obtain ⟨hz0, hz1, hz2⟩ := hzz
        clear ho6 hb6 hps hp15 kc
        go_wp2_with (at_builtin; refine wpList_append_grows w6 rfl _ _ 50 rfl 5 i0 (.int .u8 0) 1 1 Try.underlying50 hi hz0 hz1 hz2 rfl (by decide) (some ⟨g5, 0, none⟩) 5 5 [.int .u8 83, .int .u8 75, .int .u8 66, .int .u8 84, .int .u8 1] rfl (fun h => by cases h) rfl ?c1 ⟨g6, 0, none⟩ ps.length c6' (nums .u8 ps) rfl ?c2 ?c3 ?c4 ?c5 ?c6 ?c7 ?_)
        case c1 =>
          intro b hb j u hj
          cases hb
          rw [addH]
          have h := HN6.out
          unfold World.cell?
          simp only [h]
          simpa using hj
        case c2 => simp [nums]
        case c3 =>
          intro j u hj
          rw [addH]
          simp only [nums, List.getElem?_map, Option.map_eq_some_iff] at hj
          obtain ⟨x, hx, rfl⟩ := hj
          exact owns_cellH HO6.out hx
        case c4 =>
          intro u hu
          obtain ⟨x, _, rfl⟩ := List.mem_map.mp hu
          rfl
        case c5 => have := HP15.out; omega
        case c6 => have := HPL.out; unfold maxLen; omega
        case c7 => have := HPL.out; omega
        intro v1 w7 hown hgr
        have HO := Aside0.mk hown
        have HGR := Aside0.mk hgr
        clear hown hgr
        go_wp2
        go_ret2
        have hgg := HGR.out
        refine ⟨_, rfl, ?_, HB6.out.trans ⟨hgg.os, hgg.tape, hgg.output, hgg.size, fun k hk => hgg.block k (Nat.lt_of_lt_of_le hk HB6.out.size) (by simp)⟩⟩
        rw [HR1.out, HPS.out]
        refine Kd.R_of_own ?_ (fun _ _ => trivial)
        have ho := own_weaken HO.out HB6.out.size
        have e : ([83, 75, 66, 84, 1] ++ ps : List Int).length = 5 + ps.length := by simp; omega
        rw [e]
        exact ho
end Go.Proofs.Ytofjckfdofkikaa.P
