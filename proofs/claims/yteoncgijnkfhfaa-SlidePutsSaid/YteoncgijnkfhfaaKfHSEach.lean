/- The contracts of layer 3's parts of a list: Parts.part, each and what it yields. -/
import Derived.Test.YteoncgijnkfhfaaKfPx0
import Derived.Test.YteoncgijnkfhfaaKfHRangeS
import Derived.Test.YteoncgijnkfhfaaKfHSGood
import Derived.Sort.LoopGhostIn
namespace Go.Proofs.Yteoncgijnkfhfaa.P
open Go Go.RowKit Go.Proofs.YteoncgijnkfhfaaW.PrintWords Go.Proofs.YteoncgijnkfhfaaW.PrintLast Go.Proofs.YteoncgijnkfhfaaW.PrintMore
set_option linter.unusedVariables false
set_option linter.unusedSimpArgs false

theorem w64E {x : Int} (h0 : -9223372036854775808 ≤ x) (h1 : x ≤ 9223372036854775807) : wrap64 x = x := by unfold wrap64; omega
theorem mul_small {i sz n : Nat} (h : i * sz ≤ n) (hn : n ≤ 1000000) : wrap64 ((i : Int) * (sz : Int)) = ((i * sz : Nat) : Int) := by
  rw [show (i : Int) * (sz : Int) = ((i * sz : Nat) : Int) from (Int.natCast_mul i sz).symm]
  exact w64E (by omega) (by omega)
set_option maxHeartbeats 4000000 in
set_option maxRecDepth 100000 in
theorem part_calls0 (Ak : Option Addr) (nk ck : Nat) (A : Addr) (n c i sz : Nat) (w : World) (hsz : sz = n / 1) (hn : n ≤ 1000000) (hi : (i + 1) * sz ≤ n) (hs0 : 0 < sz) (hc : n ≤ c) (hil : i ≤ 1000) :
    Calls Try.prog 43 #[.agg #[.int .i64 0, .slice Ak nk ck], .slice (some A) n c, .int .i64 (i : Int)] w fun e w' => e = .returned (.slice (some (A.add (i * sz))) sz (c - i * sz)) ∧ w' = w.alloc (.cells #[.int .i64 0, .slice Ak nk ck] 24) := by
  have hblk := blk_new w (.cells #[.int .i64 0, .slice Ak nk ck] 24)
  have hx0 : (w.alloc (.cells #[.int .i64 0, .slice Ak nk ck] 24)).cell? ⟨w.heap.size, 0, none⟩ = some (.int .i64 0) := (blk_cell hblk 0).trans rfl
  clear hblk
  obtain ⟨lo, hlo⟩ : ∃ q, i * sz = q := ⟨_, rfl⟩
  obtain ⟨up, hup⟩ : ∃ q, (i + 1) * sz = q := ⟨_, rfl⟩
  have hus : up = lo + sz := by rw [← hup, ← hlo, Nat.succ_mul]
  have hb : lo ≤ up ∧ up ≤ c ∧ c ≠ lo ∧ lo ≤ c := by omega
  have h4 := eq_true (show (0 : Int) ≤ (lo : Int) by omega)
  have h5 := eq_true (show (0 : Int) ≤ (up : Int) by omega)
  have hd : (n : Int) = (sz : Int) := by omega
  have hw : wrap64 ((i : Int) + 1) = (i : Int) + 1 := w64E (by omega) (by omega)
  have m1 : wrap64 ((i : Int) * (sz : Int)) = (lo : Int) := by rw [mul_small (n := n) (by omega) hn, hlo]
  have m2 : wrap64 (((i : Int) + 1) * (sz : Int)) = (up : Int) := by
    have := mul_small (i := i + 1) (sz := sz) (n := n) (by omega) hn
    rw [hup, Int.natCast_add, Int.natCast_one] at this
    exact this
  rw [hlo]
  have HLU := Aside0.mk hus
  have HBB := Aside0.mk hb
  have h6 := eq_true hb.1
  have h7 := eq_true hb.2.1
  have h8 := eq_false hb.2.2.1
  have h9 := eq_true hb.2.2.2
  have HP := Aside0.mk (And.intro hn hs0)
  clear hlo hup hus hsz hi hc hb hn hs0 hil
  go_enter Try.func43, Try.ntmps43
  go_wp2
  go_ret
  have e : up - lo = sz := by have := HLU.out; omega
  rw [e]
  exact ⟨rfl, rfl⟩
set_option maxHeartbeats 4000000 in
set_option maxRecDepth 100000 in
theorem part_calls1 (Ak : Option Addr) (nk ck : Nat) (A : Addr) (n c i sz : Nat) (w : World) (hsz : sz = n / 2) (hn : n ≤ 1000000) (hi : (i + 1) * sz ≤ n) (hs0 : 0 < sz) (hc : n ≤ c) (hil : i ≤ 1000) :
    Calls Try.prog 43 #[.agg #[.int .i64 1, .slice Ak nk ck], .slice (some A) n c, .int .i64 (i : Int)] w fun e w' => e = .returned (.slice (some (A.add (i * sz))) sz (c - i * sz)) ∧ w' = w.alloc (.cells #[.int .i64 1, .slice Ak nk ck] 24) := by
  have hblk := blk_new w (.cells #[.int .i64 1, .slice Ak nk ck] 24)
  have hx0 : (w.alloc (.cells #[.int .i64 1, .slice Ak nk ck] 24)).cell? ⟨w.heap.size, 0, none⟩ = some (.int .i64 1) := (blk_cell hblk 0).trans rfl
  clear hblk
  obtain ⟨lo, hlo⟩ : ∃ q, i * sz = q := ⟨_, rfl⟩
  obtain ⟨up, hup⟩ : ∃ q, (i + 1) * sz = q := ⟨_, rfl⟩
  have hus : up = lo + sz := by rw [← hup, ← hlo, Nat.succ_mul]
  have hb : lo ≤ up ∧ up ≤ c ∧ c ≠ lo ∧ lo ≤ c := by omega
  have h4 := eq_true (show (0 : Int) ≤ (lo : Int) by omega)
  have h5 := eq_true (show (0 : Int) ≤ (up : Int) by omega)
  have hd : (n : Int) / 2 = (sz : Int) := by omega
  have hw : wrap64 ((i : Int) + 1) = (i : Int) + 1 := w64E (by omega) (by omega)
  have m1 : wrap64 ((i : Int) * (sz : Int)) = (lo : Int) := by rw [mul_small (n := n) (by omega) hn, hlo]
  have m2 : wrap64 (((i : Int) + 1) * (sz : Int)) = (up : Int) := by
    have := mul_small (i := i + 1) (sz := sz) (n := n) (by omega) hn
    rw [hup, Int.natCast_add, Int.natCast_one] at this
    exact this
  rw [hlo]
  have HLU := Aside0.mk hus
  have HBB := Aside0.mk hb
  have h6 := eq_true hb.1
  have h7 := eq_true hb.2.1
  have h8 := eq_false hb.2.2.1
  have h9 := eq_true hb.2.2.2
  have HP := Aside0.mk (And.intro hn hs0)
  clear hlo hup hus hsz hi hc hb hn hs0 hil
  go_enter Try.func43, Try.ntmps43
  go_wp2
  go_ret
  have e : up - lo = sz := by have := HLU.out; omega
  rw [e]
  exact ⟨rfl, rfl⟩
set_option maxHeartbeats 4000000 in
set_option maxRecDepth 100000 in
theorem part_calls2 (Ak : Option Addr) (nk ck : Nat) (A : Addr) (n c i sz : Nat) (w : World) (hsz : sz = n / 4) (hn : n ≤ 1000000) (hi : (i + 1) * sz ≤ n) (hs0 : 0 < sz) (hc : n ≤ c) (hil : i ≤ 1000) :
    Calls Try.prog 43 #[.agg #[.int .i64 2, .slice Ak nk ck], .slice (some A) n c, .int .i64 (i : Int)] w fun e w' => e = .returned (.slice (some (A.add (i * sz))) sz (c - i * sz)) ∧ w' = w.alloc (.cells #[.int .i64 2, .slice Ak nk ck] 24) := by
  have hblk := blk_new w (.cells #[.int .i64 2, .slice Ak nk ck] 24)
  have hx0 : (w.alloc (.cells #[.int .i64 2, .slice Ak nk ck] 24)).cell? ⟨w.heap.size, 0, none⟩ = some (.int .i64 2) := (blk_cell hblk 0).trans rfl
  clear hblk
  obtain ⟨lo, hlo⟩ : ∃ q, i * sz = q := ⟨_, rfl⟩
  obtain ⟨up, hup⟩ : ∃ q, (i + 1) * sz = q := ⟨_, rfl⟩
  have hus : up = lo + sz := by rw [← hup, ← hlo, Nat.succ_mul]
  have hb : lo ≤ up ∧ up ≤ c ∧ c ≠ lo ∧ lo ≤ c := by omega
  have h4 := eq_true (show (0 : Int) ≤ (lo : Int) by omega)
  have h5 := eq_true (show (0 : Int) ≤ (up : Int) by omega)
  have hd : (n : Int) / 4 = (sz : Int) := by omega
  have hw : wrap64 ((i : Int) + 1) = (i : Int) + 1 := w64E (by omega) (by omega)
  have m1 : wrap64 ((i : Int) * (sz : Int)) = (lo : Int) := by rw [mul_small (n := n) (by omega) hn, hlo]
  have m2 : wrap64 (((i : Int) + 1) * (sz : Int)) = (up : Int) := by
    have := mul_small (i := i + 1) (sz := sz) (n := n) (by omega) hn
    rw [hup, Int.natCast_add, Int.natCast_one] at this
    exact this
  rw [hlo]
  have HLU := Aside0.mk hus
  have HBB := Aside0.mk hb
  have h6 := eq_true hb.1
  have h7 := eq_true hb.2.1
  have h8 := eq_false hb.2.2.1
  have h9 := eq_true hb.2.2.2
  have HP := Aside0.mk (And.intro hn hs0)
  clear hlo hup hus hsz hi hc hb hn hs0 hil
  go_enter Try.func43, Try.ntmps43
  go_wp2
  go_ret
  have e : up - lo = sz := by have := HLU.out; omega
  rw [e]
  exact ⟨rfl, rfl⟩
set_option maxHeartbeats 4000000 in
set_option maxRecDepth 100000 in
theorem part_calls3 (Ak : Option Addr) (nk ck : Nat) (A : Addr) (n c i sz : Nat) (w : World) (hsz : sz = n / 8) (hn : n ≤ 1000000) (hi : (i + 1) * sz ≤ n) (hs0 : 0 < sz) (hc : n ≤ c) (hil : i ≤ 1000) :
    Calls Try.prog 43 #[.agg #[.int .i64 3, .slice Ak nk ck], .slice (some A) n c, .int .i64 (i : Int)] w fun e w' => e = .returned (.slice (some (A.add (i * sz))) sz (c - i * sz)) ∧ w' = w.alloc (.cells #[.int .i64 3, .slice Ak nk ck] 24) := by
  have hblk := blk_new w (.cells #[.int .i64 3, .slice Ak nk ck] 24)
  have hx0 : (w.alloc (.cells #[.int .i64 3, .slice Ak nk ck] 24)).cell? ⟨w.heap.size, 0, none⟩ = some (.int .i64 3) := (blk_cell hblk 0).trans rfl
  clear hblk
  obtain ⟨lo, hlo⟩ : ∃ q, i * sz = q := ⟨_, rfl⟩
  obtain ⟨up, hup⟩ : ∃ q, (i + 1) * sz = q := ⟨_, rfl⟩
  have hus : up = lo + sz := by rw [← hup, ← hlo, Nat.succ_mul]
  have hb : lo ≤ up ∧ up ≤ c ∧ c ≠ lo ∧ lo ≤ c := by omega
  have h4 := eq_true (show (0 : Int) ≤ (lo : Int) by omega)
  have h5 := eq_true (show (0 : Int) ≤ (up : Int) by omega)
  have hd : (n : Int) / 8 = (sz : Int) := by omega
  have hw : wrap64 ((i : Int) + 1) = (i : Int) + 1 := w64E (by omega) (by omega)
  have m1 : wrap64 ((i : Int) * (sz : Int)) = (lo : Int) := by rw [mul_small (n := n) (by omega) hn, hlo]
  have m2 : wrap64 (((i : Int) + 1) * (sz : Int)) = (up : Int) := by
    have := mul_small (i := i + 1) (sz := sz) (n := n) (by omega) hn
    rw [hup, Int.natCast_add, Int.natCast_one] at this
    exact this
  rw [hlo]
  have HLU := Aside0.mk hus
  have HBB := Aside0.mk hb
  have h6 := eq_true hb.1
  have h7 := eq_true hb.2.1
  have h8 := eq_false hb.2.2.1
  have h9 := eq_true hb.2.2.2
  have HP := Aside0.mk (And.intro hn hs0)
  clear hlo hup hus hsz hi hc hb hn hs0 hil
  go_enter Try.func43, Try.ntmps43
  go_wp2
  go_ret
  have e : up - lo = sz := by have := HLU.out; omega
  rw [e]
  exact ⟨rfl, rfl⟩
theorem part_calls (p : Nat) (Ak : Option Addr) (nk ck : Nat) (A : Addr) (n c i sz : Nat) (w : World) (hp : p ≤ 3) (hsz : sz = n / 2 ^ p) (hn : n ≤ 1000000) (hi : (i + 1) * sz ≤ n) (hs0 : 0 < sz) (hc : n ≤ c) (hil : i ≤ 1000) :
    Calls Try.prog 43 #[.agg #[.int .i64 (p : Int), .slice Ak nk ck], .slice (some A) n c, .int .i64 (i : Int)] w fun e w' => e = .returned (.slice (some (A.add (i * sz))) sz (c - i * sz)) ∧ w' = w.alloc (.cells #[.int .i64 (p : Int), .slice Ak nk ck] 24) := by
  have h : p = 0 ∨ p = 1 ∨ p = 2 ∨ p = 3 := by omega
  rcases h with rfl | rfl | rfl | rfl
  · exact part_calls0 Ak nk ck A n c i sz w hsz hn hi hs0 hc hil
  · exact part_calls1 Ak nk ck A n c i sz w hsz hn hi hs0 hc hil
  · exact part_calls2 Ak nk ck A n c i sz w hsz hn hi hs0 hc hil
  · exact part_calls3 Ak nk ck A n c i sz w hsz hn hi hs0 hc hil
end Go.Proofs.Yteoncgijnkfhfaa.P
