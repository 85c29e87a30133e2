/- container/heap's Init over the terms that were tried. -/
import Derived.Test.YtofjckfdofkikaaPx0
import Derived.Test.YtofjckfdofkikaaHLDown
import Derived.Test.YtofjckfdofkikaaPx2
namespace Go.Proofs.Ytofjckfdofkikaa.P
open Go Go.RowKit Go.Proofs.YtofjckfdofkikaaW.PrintWords Go.Proofs.YtofjckfdofkikaaW.PrintLast Go.Proofs.YtofjckfdofkikaaW.PrintMore
set_option linter.unusedVariables false
set_option linter.unusedSimpArgs false

/-- Sifted down from each of the first m places, the last one first. -/
def initL (n : Nat) : Nat → List QE → List QE
  | 0, xs => xs
  | m + 1, xs => initL n m (downL n xs m)
theorem initL_length (n : Nat) : ∀ (m : Nat) (xs : List QE), (initL n m xs).length = xs.length := by
  intro m
  induction m with
  | zero => intro xs; rfl
  | succ m ih => intro xs; rw [initL, ih, downL_length]

set_option maxHeartbeats 8000000 in
set_option maxRecDepth 100000 in
theorem heap_Init (w0 w : World) (base g : Nat) (v : Value) (xs : List QE) (hm : xs.length ≤ 1000) (hb : base ≤ w.heap.size) (hB : Below base w0 w) (hQ : IsQ w base g v xs) :
    Calls Try.prog 48 #[.iface 88 (.pointer (some ⟨g, 0, none⟩))] w fun e w' => e = .returned (.tuple #[]) ∧ IsQ w' base g v (initL xs.length (xs.length / 2) xs) ∧ Below base w0 w' := by
  obtain ⟨n, hn⟩ : ∃ n, xs.length = n := ⟨_, rfl⟩
  have HQ := Aside0.mk hQ
  have HB := Aside0.mk hB
  have hnm : n ≤ 1000 := by omega
  obtain ⟨hg, hbg, hR⟩ := hQ
  obtain ⟨A, c, rfl, hle, hC⟩ := Kd.R_reads hR
  have hc0 := (blk_cell hg 0).trans rfl
  have hmL := fun n => m_Len ⟨g, 0, none⟩ w n
  have HC := Aside0.mk hC
  have HLE := Aside0.mk hle
  have HN := Aside0.mk hn
  clear hB hg hR hC hle hm hbg hn
  go_enter Try.func48, Try.ntmps48
  go_wp2_with fail
  (with_reducible refine (lag_trials_Len.calls A c xs (xs.length : Int) w HC.out HLE.out rfl).mono ?_)
  rintro e w2 ⟨rfl, hb2⟩
  replace hb2 : Below w.heap.size w w2 := by first | exact hb2 | exact hb2.below
  have HQ2 := Aside0.mk (isQ_below HQ.out hb2)
  have HB2 := Aside0.mk (HB.out.trans (hb2.mono hb))
  have HS2 := Aside0.mk (Nat.le_trans hb hb2.size)
  have HV := Aside0.mk (rfl : (Value.slice A xs.length c) = Value.slice A xs.length c)
  clear hb2 hc0 hmL
  obtain ⟨v, hv⟩ : ∃ v, Value.slice A xs.length c = v := ⟨_, rfl⟩
  have hn' := HN.out
  rw [hn'] at hv ⊢
  clear hn'
  have hdv : ((n : Int)).tdiv 2 = ((n / 2 : Nat) : Int) := by rw [Int.tdiv_eq_ediv_of_nonneg (by omega)]; omega
  go_wp2
  go_loopg [3] (n / 2) (fun kk v3 wr => ∃ (x : Int) (ys : List QE), v3 = .int .i64 x ∧ Aside0 (x = (kk : Int) - 1) ∧ Aside0 (kk ≤ n / 2) ∧ Aside0 (ys.length = n) ∧ Aside0 (initL n kk ys = initL n (n / 2) xs) ∧ Aside0 (IsQ wr base g v ys) ∧ Aside0 (Below base w0 wr) ∧ Aside0 (base ≤ wr.heap.size))
  case atStart => exact ⟨_, xs, rfl, ⟨by omega⟩, ⟨Nat.le_refl _⟩, HN, ⟨rfl⟩, ⟨by rw [← hv]; have := HQ2.out; rw [HN.out] at this; exact this⟩, HB2, HS2⟩
  case round =>
    obtain ⟨x, ys, rfl, HX, HK, HYL, HE, HQ', HB', HS'⟩ := hrel
    cases gk with
    | zero =>
      obtain rfl : x = -1 := HX.out
      have HE' := Aside0.mk HE.out
      go_wp2
      go_end0
      have hf := HE.out
      rw [initL] at hf
      have hq := HQ'.out
      rw [hf, ← hv] at hq
      exact ⟨rfl, by rw [HN.out]; exact hq, HB'.out⟩
    | succ p =>
      obtain rfl : x = (p : Int) := by have := HX.out; omega
      have HPN := Aside0.mk (show p < n by have := HK.out; omega)
      have hp0 : decide ((p : Int) ≥ 0) = true := decide_eq_true (by omega)
      have hp1 : decide (0 ≤ (p : Int)) = true := decide_eq_true (by omega)
      have hpn : p ≤ 1000 := by have := HPN.out; omega
      go_wp2_with fail
      (with_reducible refine (heap_down w0 wr base g v ys n p HYL.out HPN.out hnm HS'.out HB'.out HQ'.out).mono ?_)
      rintro e w3 ⟨⟨b, rfl⟩, hq3, hb3⟩
      have HQ3 := Aside0.mk hq3
      have HB3 := Aside0.mk hb3
      clear hq3 hb3
      go_wp2
      go_roundg p
      case rel => exact ⟨_, downL n ys p, rfl, ⟨by omega⟩, ⟨by have := HK.out; omega⟩, ⟨by rw [downL_length, HYL.out]⟩, ⟨HE.out⟩, HQ3, HB3, ⟨Nat.le_trans HQ3.out.2.1 (Nat.le_of_lt (blk_lt HQ3.out.1))⟩⟩
      case measure => omega
end Go.Proofs.Ytofjckfdofkikaa.P
