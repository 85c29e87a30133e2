/- container/heap's down and Init over the terms that were tried. -/
import Derived.Test.YtofjckfdofkikaaPx0
import Derived.Test.YtofjckfdofkikaaHLQueue
import Derived.Sort.LoopGhostIn
import Derived.Deep.RegionWith
namespace Go.Proofs.Ytofjckfdofkikaa.P
open Go Go.RowKit Go.Proofs.YtofjckfdofkikaaW.PrintWords Go.Proofs.YtofjckfdofkikaaW.PrintLast Go.Proofs.YtofjckfdofkikaaW.PrintMore
set_option linter.unusedVariables false
set_option linter.unusedSimpArgs false

theorem m_recv (a : Addr) (w : World) (nm : String) : (receiverAt 88 (.val (.pointer (some a))) false (some nm)).run Try.prog w = (loadVar 86 a).run Try.prog w := by kernel_rfl
theorem m_Less (a : Addr) (w : World) (n : Nat) : (method (n + 1) 88 (.pointer (some a)) "Less").run Try.prog w = ((loadVar 86 a).run Try.prog w).andThen fun v w' => .ok (88, v) w' := by
  have h : (method (n + 1) 88 (.pointer (some a)) "Less").run Try.prog w = (do pure (88, ← receiverAt 88 (.val (.pointer (some a))) false (some "Less")) : Sem (FuncId × Value)).run Try.prog w := by kernel_rfl
  rw [h]
  simp only [Sem.run_bind, Sem.run_pure, m_recv]
theorem m_Swap (a : Addr) (w : World) (n : Nat) : (method (n + 1) 88 (.pointer (some a)) "Swap").run Try.prog w = ((loadVar 86 a).run Try.prog w).andThen fun v w' => .ok (89, v) w' := by
  have h : (method (n + 1) 88 (.pointer (some a)) "Swap").run Try.prog w = (do pure (89, ← receiverAt 88 (.val (.pointer (some a))) false (some "Swap")) : Sem (FuncId × Value)).run Try.prog w := by kernel_rfl
  rw [h]
  simp only [Sem.run_bind, Sem.run_pure, m_recv]
theorem m_Len (a : Addr) (w : World) (n : Nat) : (method (n + 1) 88 (.pointer (some a)) "Len").run Try.prog w = ((loadVar 86 a).run Try.prog w).andThen fun v w' => .ok (87, v) w' := by
  have h : (method (n + 1) 88 (.pointer (some a)) "Len").run Try.prog w = (do pure (87, ← receiverAt 88 (.val (.pointer (some a))) false (some "Len")) : Sem (FuncId × Value)).run Try.prog w := by kernel_rfl
  rw [h]
  simp only [Sem.run_bind, Sem.run_pure, m_recv]
def lessQ (a b : QE) : Bool := if a.f1 = b.f1 then (if a.f0.f0 = b.f0.f0 then decide (a.f0.f1 < b.f0.f1) else decide (a.f0.f0 < b.f0.f0)) else decide (a.f1 < b.f1)
def getQ (xs : List QE) (i : Nat) : QE := xs.getD i z83
theorem swapL_length (xs : List QE) (i j : Nat) : (swapL xs i j).length = xs.length := by simp [swapL]
theorem less_eq {xs : List QE} {i j : Nat} (hi : i < xs.length) (hj : j < xs.length) : lag_trials_Less.f xs (i : Int) (j : Int) = some (lessQ (getQ xs i) (getQ xs j)) := by
  unfold lag_trials_Less.f
  rw [if_pos (by omega), if_pos (by omega), if_pos (by omega), if_pos (by omega)]
  have e : ∀ n : Nat, rd_T83 xs (n : Int) = getQ xs n := fun n => by unfold rd_T83 getQ; rw [Int.toNat_natCast]
  rw [e, e]
  unfold lessQ
  split
  · split <;> rfl
  · rfl
theorem isQ_below {W W' : World} {base g : Nat} {v : Value} {xs : List QE} (h : IsQ W base g v xs) (hb : Below W.heap.size W W') : IsQ W' base g v xs := ⟨blk_below h.1 hb, h.2.1, Kd.R_below h.2.2 hb⟩

/-- The better kid's place. -/
def kidL (xs : List QE) (i : Nat) : Nat := if 2 * i + 2 < xs.length ∧ lessQ (getQ xs (2 * i + 2)) (getQ xs (2 * i + 1)) = true then 2 * i + 2 else 2 * i + 1
/-- Sifted down from place i. -/
def downL : Nat → List QE → Nat → List QE
  | 0, xs, _ => xs
  | f + 1, xs, i => if 2 * i + 1 < xs.length then (if lessQ (getQ xs (kidL xs i)) (getQ xs i) = true then downL f (swapL xs i (kidL xs i)) (kidL xs i) else xs) else xs
theorem kid_gt (xs : List QE) (i : Nat) : i < kidL xs i := by unfold kidL; split <;> omega
theorem kid_lt {xs : List QE} {i : Nat} (h : 2 * i + 1 < xs.length) : kidL xs i < xs.length := by
  unfold kidL
  split
  · rename_i hh
    exact hh.1
  · exact h
theorem downL_fuel : ∀ (f f' : Nat) (xs : List QE) (i : Nat), xs.length ≤ i + f → xs.length ≤ i + f' → downL f xs i = downL f' xs i := by
  intro f
  induction f with
  | zero =>
    intro f' xs i h h'
    cases f' with
    | zero => rfl
    | succ f' => rw [downL, downL, if_neg (by omega)]
  | succ f ih =>
    intro f' xs i h h'
    cases f' with
    | zero => rw [downL, downL, if_neg (by omega)]
    | succ f' =>
      rw [downL, downL]
      have := kid_gt xs i
      split
      · split
        · exact ih _ _ _ (by rw [swapL_length]; omega) (by rw [swapL_length]; omega)
        · rfl
      · rfl
theorem downL_length : ∀ (f : Nat) (xs : List QE) (i : Nat), (downL f xs i).length = xs.length := by
  intro f
  induction f with
  | zero => intro xs i; rfl
  | succ f ih =>
    intro xs i
    rw [downL]
    split
    · split
      · rw [ih, swapL_length]
      · rfl
    · rfl
theorem downL_step {n : Nat} {xs : List QE} {i : Nat} (hn : xs.length = n) (hi : i < n) : downL n xs i = if 2 * i + 1 < n then (if lessQ (getQ xs (kidL xs i)) (getQ xs i) = true then downL n (swapL xs i (kidL xs i)) (kidL xs i) else xs) else xs := by
  obtain ⟨m, rfl⟩ : ∃ m, n = m + 1 := ⟨n - 1, by omega⟩
  have := kid_gt xs i
  rw [downL, hn]
  split
  · split
    · exact downL_fuel _ _ _ _ (by rw [swapL_length]; omega) (by rw [swapL_length]; omega)
    · rfl
  · rfl

set_option maxHeartbeats 8000000 in
set_option maxRecDepth 100000 in
theorem heap_down (w0 w : World) (base g : Nat) (v : Value) (xs : List QE) (n i : Nat) (hn : xs.length = n) (hi : i < n) (hm : n ≤ 1000) (hb : base ≤ w.heap.size) (hB : Below base w0 w) (hQ : IsQ w base g v xs) :
    Calls Try.prog 63 #[.iface 88 (.pointer (some ⟨g, 0, none⟩)), .int .i64 i, .int .i64 n] w fun e w' => (∃ b : Bool, e = .returned (.bool b)) ∧ IsQ w' base g v (downL n xs i) ∧ Below base w0 w' := by
  have HQ := Aside0.mk hQ
  have HB := Aside0.mk hB
  have HN := Aside0.mk hn
  clear hQ hB hn
  go_enter Try.func63, Try.ntmps63
  go_wp2
  go_loopg [7, 8, 9, 10] (n - i) (fun kk v7 v8 v9 v10 wr => ∃ (j : Nat) (ys : List QE), v7 = .int .i64 j ∧ kk + j = n ∧ j < n ∧ Aside0 (ys.length = n) ∧ Aside0 (downL n ys j = downL n xs i) ∧ Aside0 (IsQ wr base g v ys) ∧ Aside0 (Below base w0 wr) ∧ Aside0 (base ≤ wr.heap.size))
  case atStart => exact ⟨i, xs, rfl, by omega, hi, HN, ⟨rfl⟩, HQ, HB, ⟨hb⟩⟩
  case round =>
    clear HQ HB HN
    obtain ⟨j, ys, rfl, hk, hjn, HYL, HE, HQ, HB, HS⟩ := hrel
    have hx := HE.out
    rw [downL_step HYL.out hjn] at hx
    have HX := Aside0.mk hx
    clear hx
    by_cases h1 : 2 * j + 1 < n
    · have hd1 : decide (2 * (j : Int) + 1 ≥ (n : Int)) = false := decide_eq_false (by omega)
      have hd2 : decide ((n : Int) ≤ 2 * (j : Int) + 1) = false := decide_eq_false (by omega)
      have hd3 : decide (2 * (j : Int) + 1 < 0) = false := decide_eq_false (by omega)
      obtain ⟨A, c, rfl⟩ := Kd.R_slice HQ.out.2.2
      have HBG := Aside0.mk HQ.out.2.1
      by_cases h2 : 2 * j + 2 < n
      · have hd4 : decide (2 * (j : Int) + 1 + 1 < (n : Int)) = true := decide_eq_true (by omega)
        obtain ⟨hg, hbg, hR⟩ := HQ.out
        obtain ⟨A', c', he, hle, hC⟩ := Kd.R_reads hR
        cases he
        have hc0 := (blk_cell hg 0).trans rfl
        have hmL := fun n => m_Less ⟨g, 0, none⟩ wr n
        have HLS := Aside0.mk (less_eq (show 2 * j + 2 < ys.length by have := HYL.out; omega) (show 2 * j + 1 < ys.length by have := HYL.out; omega))
        have HK2 := Aside0.mk (show ((2 * j + 2 : Nat) : Int) = 2 * (j : Int) + 1 + 1 by omega)
        have HK3 := Aside0.mk (show ((2 * j + 1 : Nat) : Int) = 2 * (j : Int) + 1 by omega)
        have HC := Aside0.mk hC
        have HLE := Aside0.mk hle
        clear hg hR hC hbg hle
        go_wp2_with fail
        rw [← HK2.out, ← HK3.out]
        (with_reducible refine (lag_trials_Less.calls A c ys ((2 * j + 2 : Nat) : Int) ((2 * j + 1 : Nat) : Int) (lessQ (getQ ys (2 * j + 2)) (getQ ys (2 * j + 1))) wr HC.out HLE.out HLS.out).mono ?_)
        rintro e w2 ⟨rfl, hb2⟩
        replace hb2 : Below wr.heap.size wr w2 := by first | exact hb2 | exact hb2.below
        have HQ2 := Aside0.mk (isQ_below HQ.out hb2)
        have HB2 := Aside0.mk (HB.out.trans (hb2.mono HS.out))
        have HS2 := Aside0.mk (Nat.le_trans HS.out hb2.size)
        clear hb2 hc0 hmL
        cases hl2 : lessQ (getQ ys (2 * j + 2)) (getQ ys (2 * j + 1)) with
        | true =>
          have HKD := Aside0.mk (show kidL ys j = 2 * j + 2 by unfold kidL; rw [if_pos ⟨by have := HYL.out; omega, hl2⟩])
          clear hl2 HLS HC HLE
          obtain ⟨hg, hbg, hR⟩ := HQ2.out
          obtain ⟨A', c', he, hle, hC⟩ := Kd.R_reads hR
          cases he
          have hc0 := (blk_cell hg 0).trans rfl
          have hmL := fun n => m_Less ⟨g, 0, none⟩ w2 n
          have HLS := Aside0.mk (less_eq (show 2 * j + 2 < ys.length by have := HYL.out; omega) (show j < ys.length by have := HYL.out; omega))
          have HC := Aside0.mk hC
          have HLE := Aside0.mk hle
          have HK1 := Aside0.mk (show ((2 * j + 2 : Nat) : Int) = 2 * (j : Int) + 2 by omega)
          clear hg hR hC hle
          go_wp2_with fail
          rw [← HK1.out]
          (with_reducible refine (lag_trials_Less.calls A c ys ((2 * j + 2 : Nat) : Int) (j : Int) (lessQ (getQ ys (2 * j + 2)) (getQ ys j)) w2 HC.out HLE.out HLS.out).mono ?_)
          rintro e w5 ⟨rfl, hb5⟩
          replace hb5 : Below w2.heap.size w2 w5 := by first | exact hb5 | exact hb5.below
          have HQ5 := Aside0.mk (isQ_below HQ2.out hb5)
          have HB5 := Aside0.mk (HB2.out.trans (hb5.mono HS2.out))
          have HS5 := Aside0.mk (Nat.le_trans HS2.out hb5.size)
          clear hb5 hc0 hmL
          obtain ⟨hg5, _, hR5⟩ := HQ5.out
          have hc5 := (blk_cell hg5 0).trans rfl
          have HR5 := Aside0.mk hR5
          have HG5 := Aside0.mk hg5
          clear hg5 hR5
          have hx := HX.out
          rw [if_pos h1, HKD.out] at hx
          cases hl : lessQ (getQ ys (2 * j + 2)) (getQ ys j) with
          | false =>
            rw [hl, if_neg (by simp)] at hx
            have HX' := Aside0.mk hx
            clear hx hl
            go_wp2
            go_ret
            exact ⟨⟨_, rfl⟩, by rw [← HX'.out]; exact HQ5.out, HB5.out⟩
          | true =>
            rw [hl, if_pos rfl] at hx
            have HX' := Aside0.mk hx
            clear hx hl
            have hmS := fun n => m_Swap ⟨g, 0, none⟩ w5 n
            go_wp2_with fail
            rw [← HK1.out]
            (with_reducible refine (q_Swap w0 w5 base _ ys j (2 * j + 2) (by omega) (by have := HYL.out; omega) (by have := HYL.out; omega) (by have := HYL.out; omega) HS5.out HB5.out HR5.out).mono ?_)
            rintro e w6 ⟨rfl, hr6, hb6, hk6⟩
            have HQ6 := Aside0.mk (show IsQ w6 base g (.slice A ys.length c) (swapL ys j (2 * j + 2)) from ⟨(hk6.2 g (blk_lt HG5.out) (Nat.ne_of_lt (blk_lt HG5.out)) (Kd.R_ne HR5.out HG5.out (by decide))).trans HG5.out, HBG.out, hr6⟩)
            have HB6 := Aside0.mk hb6
            have HS6 := Aside0.mk (Nat.le_trans HS5.out hk6.1)
            have HLN := Aside0.mk (show (swapL ys j (2 * j + 2)).length = n by rw [swapL_length, HYL.out])
            clear hr6 hb6 hk6 hc5 hmS
            go_wp2
            go_roundg (n - (2 * j + 2))
            case rel => exact ⟨2 * j + 2, swapL ys j (2 * j + 2), by first | rfl | rw [HK1.out], by omega, by omega, HLN, HX', HQ6, HB6, HS6⟩
            case measure => omega
        | false =>
          have HKD := Aside0.mk (show kidL ys j = 2 * j + 1 by unfold kidL; rw [if_neg (fun hh => by rw [hl2] at hh; exact absurd hh.2 (by simp))])
          clear hl2 HLS HC HLE
          obtain ⟨hg, hbg, hR⟩ := HQ2.out
          obtain ⟨A', c', he, hle, hC⟩ := Kd.R_reads hR
          cases he
          have hc0 := (blk_cell hg 0).trans rfl
          have hmL := fun n => m_Less ⟨g, 0, none⟩ w2 n
          have HLS := Aside0.mk (less_eq (show 2 * j + 1 < ys.length by have := HYL.out; omega) (show j < ys.length by have := HYL.out; omega))
          have HC := Aside0.mk hC
          have HLE := Aside0.mk hle
          have HK1 := Aside0.mk (show ((2 * j + 1 : Nat) : Int) = 2 * (j : Int) + 1 by omega)
          clear hg hR hC hle
          go_wp2_with fail
          rw [← HK1.out]
          (with_reducible refine (lag_trials_Less.calls A c ys ((2 * j + 1 : Nat) : Int) (j : Int) (lessQ (getQ ys (2 * j + 1)) (getQ ys j)) w2 HC.out HLE.out HLS.out).mono ?_)
          rintro e w5 ⟨rfl, hb5⟩
          replace hb5 : Below w2.heap.size w2 w5 := by first | exact hb5 | exact hb5.below
          have HQ5 := Aside0.mk (isQ_below HQ2.out hb5)
          have HB5 := Aside0.mk (HB2.out.trans (hb5.mono HS2.out))
          have HS5 := Aside0.mk (Nat.le_trans HS2.out hb5.size)
          clear hb5 hc0 hmL
          obtain ⟨hg5, _, hR5⟩ := HQ5.out
          have hc5 := (blk_cell hg5 0).trans rfl
          have HR5 := Aside0.mk hR5
          have HG5 := Aside0.mk hg5
          clear hg5 hR5
          have hx := HX.out
          rw [if_pos h1, HKD.out] at hx
          cases hl : lessQ (getQ ys (2 * j + 1)) (getQ ys j) with
          | false =>
            rw [hl, if_neg (by simp)] at hx
            have HX' := Aside0.mk hx
            clear hx hl
            go_wp2
            go_ret
            exact ⟨⟨_, rfl⟩, by rw [← HX'.out]; exact HQ5.out, HB5.out⟩
          | true =>
            rw [hl, if_pos rfl] at hx
            have HX' := Aside0.mk hx
            clear hx hl
            have hmS := fun n => m_Swap ⟨g, 0, none⟩ w5 n
            go_wp2_with fail
            rw [← HK1.out]
            (with_reducible refine (q_Swap w0 w5 base _ ys j (2 * j + 1) (by omega) (by have := HYL.out; omega) (by have := HYL.out; omega) (by have := HYL.out; omega) HS5.out HB5.out HR5.out).mono ?_)
            rintro e w6 ⟨rfl, hr6, hb6, hk6⟩
            have HQ6 := Aside0.mk (show IsQ w6 base g (.slice A ys.length c) (swapL ys j (2 * j + 1)) from ⟨(hk6.2 g (blk_lt HG5.out) (Nat.ne_of_lt (blk_lt HG5.out)) (Kd.R_ne HR5.out HG5.out (by decide))).trans HG5.out, HBG.out, hr6⟩)
            have HB6 := Aside0.mk hb6
            have HS6 := Aside0.mk (Nat.le_trans HS5.out hk6.1)
            have HLN := Aside0.mk (show (swapL ys j (2 * j + 1)).length = n by rw [swapL_length, HYL.out])
            clear hr6 hb6 hk6 hc5 hmS
            go_wp2
            go_roundg (n - (2 * j + 1))
            case rel => exact ⟨2 * j + 1, swapL ys j (2 * j + 1), by first | rfl | rw [HK1.out], by omega, by omega, HLN, HX', HQ6, HB6, HS6⟩
            case measure => omega
      · have hd4 : decide (2 * (j : Int) + 1 + 1 < (n : Int)) = false := decide_eq_false (by omega)
        have HKD := Aside0.mk (show kidL ys j = 2 * j + 1 by unfold kidL; rw [if_neg (fun hh => by have := HYL.out; omega)])
        obtain ⟨hg, hbg, hR⟩ := HQ.out
        obtain ⟨A', c', he, hle, hC⟩ := Kd.R_reads hR
        cases he
        have hc0 := (blk_cell hg 0).trans rfl
        have hmL := fun n => m_Less ⟨g, 0, none⟩ wr n
        have HLS := Aside0.mk (less_eq (show 2 * j + 1 < ys.length by have := HYL.out; omega) (show j < ys.length by have := HYL.out; omega))
        have HC := Aside0.mk hC
        have HLE := Aside0.mk hle
        have HK1 := Aside0.mk (show ((2 * j + 1 : Nat) : Int) = 2 * (j : Int) + 1 by omega)
        clear hg hR hC hle
        go_wp2_with fail
        rw [← HK1.out]
        (with_reducible refine (lag_trials_Less.calls A c ys ((2 * j + 1 : Nat) : Int) (j : Int) (lessQ (getQ ys (2 * j + 1)) (getQ ys j)) wr HC.out HLE.out HLS.out).mono ?_)
        rintro e w5 ⟨rfl, hb5⟩
        replace hb5 : Below wr.heap.size wr w5 := by first | exact hb5 | exact hb5.below
        have HQ5 := Aside0.mk (isQ_below HQ.out hb5)
        have HB5 := Aside0.mk (HB.out.trans (hb5.mono HS.out))
        have HS5 := Aside0.mk (Nat.le_trans HS.out hb5.size)
        clear hb5 hc0 hmL
        obtain ⟨hg5, _, hR5⟩ := HQ5.out
        have hc5 := (blk_cell hg5 0).trans rfl
        have HR5 := Aside0.mk hR5
        have HG5 := Aside0.mk hg5
        clear hg5 hR5
        have hx := HX.out
        rw [if_pos h1, HKD.out] at hx
        cases hl : lessQ (getQ ys (2 * j + 1)) (getQ ys j) with
        | false =>
          rw [hl, if_neg (by simp)] at hx
          have HX' := Aside0.mk hx
          clear hx hl
          go_wp2
          go_ret
          exact ⟨⟨_, rfl⟩, by rw [← HX'.out]; exact HQ5.out, HB5.out⟩
        | true =>
          rw [hl, if_pos rfl] at hx
          have HX' := Aside0.mk hx
          clear hx hl
          have hmS := fun n => m_Swap ⟨g, 0, none⟩ w5 n
          go_wp2_with fail
          rw [← HK1.out]
          (with_reducible refine (q_Swap w0 w5 base _ ys j (2 * j + 1) (by omega) (by have := HYL.out; omega) (by have := HYL.out; omega) (by have := HYL.out; omega) HS5.out HB5.out HR5.out).mono ?_)
          rintro e w6 ⟨rfl, hr6, hb6, hk6⟩
          have HQ6 := Aside0.mk (show IsQ w6 base g (.slice A ys.length c) (swapL ys j (2 * j + 1)) from ⟨(hk6.2 g (blk_lt HG5.out) (Nat.ne_of_lt (blk_lt HG5.out)) (Kd.R_ne HR5.out HG5.out (by decide))).trans HG5.out, HBG.out, hr6⟩)
          have HB6 := Aside0.mk hb6
          have HS6 := Aside0.mk (Nat.le_trans HS5.out hk6.1)
          have HLN := Aside0.mk (show (swapL ys j (2 * j + 1)).length = n by rw [swapL_length, HYL.out])
          clear hr6 hb6 hk6 hc5 hmS
          go_wp2
          go_roundg (n - (2 * j + 1))
          case rel => exact ⟨2 * j + 1, swapL ys j (2 * j + 1), by first | rfl | rw [HK1.out], by omega, by omega, HLN, HX', HQ6, HB6, HS6⟩
          case measure => omega
    · have hd1 : decide (2 * (j : Int) + 1 ≥ (n : Int)) = true := decide_eq_true (by omega)
      have hd2 : decide ((n : Int) ≤ 2 * (j : Int) + 1) = true := decide_eq_true (by omega)
      have hx := HX.out
      rw [if_neg h1] at hx
      have HX' := Aside0.mk hx
      clear hx
      go_wp2
      go_ret
      exact ⟨⟨_, rfl⟩, by rw [← HX'.out]; exact HQ.out, HB.out⟩
end Go.Proofs.Ytofjckfdofkikaa.P
