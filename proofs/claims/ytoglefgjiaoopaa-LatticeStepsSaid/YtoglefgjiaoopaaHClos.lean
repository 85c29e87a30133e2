/- The loop body of the law LatticeSteps, as a closure: what one call leaves. -/
import Derived.Test.YtoglefgjiaoopaaPx0
import Derived.Test.YtoglefgjiaoopaaPx9
import Derived.Test.YtoglefgjiaoopaaPx5
import Derived.Test.YtoglefgjiaoopaaULattice
import Derived.RegionTactic
import Derived.BigRegion
namespace Go.Proofs.Ytoglefgjiaoopaa.P
open Go.RowKit Go.Proofs.YtoglefgjiaoopaaW.PrintWords Go.Proofs.YtoglefgjiaoopaaW.PrintLast Go.Proofs.YtoglefgjiaoopaaW.PrintMore Go.Proofs.Ytoglefgjiaoopaa.Pure
set_option linter.unusedVariables false
set_option linter.unusedSimpArgs false

/-- The law's memory: ok, n, the list, most. -/
structure LS (w0 w : World) (A : Option Addr) (c : Nat) (l : List Int) (gok gn gl gm : Nat) (n m : Int) : Prop where
  below : Below w0.heap.size w0 w
  ok : w.heap[gok]? = some (.cells #[.bool true] 4 (0, 0))
  n : w.heap[gn]? = some (.cells #[.int .i64 n] 3 (0, 0))
  l : w.heap[gl]? = some (.cells #[.slice A l.length c] 22 (0, 0))
  m : w.heap[gm]? = some (.cells #[.int .i64 m] 3 (0, 0))
  gok0 : w0.heap.size ≤ gok
  gn0 : w0.heap.size ≤ gn
  gl0 : w0.heap.size ≤ gl
  gm0 : w0.heap.size ≤ gm
  nm : gn ≠ gm
theorem LS.keep {w0 w w1 : World} {A : Option Addr} {c : Nat} {l : List Int} {gok gn gl gm : Nat} {n m : Int} (h : LS w0 w A c l gok gn gl gm n m) (hb : Below w.heap.size w w1) : LS w0 w1 A c l gok gn gl gm n m :=
  ⟨h.below.trans (hb.mono h.below.size), blk_below h.ok hb, blk_below h.n hb, blk_below h.l hb, blk_below h.m hb, h.gok0, h.gn0, h.gl0, h.gm0, h.nm⟩
/-- All but ok, n and the yielded row lies as it lay. -/
def LSKept (w w1 : World) (gok gn : Nat) (v : Value) : Prop := w.heap.size ≤ w1.heap.size ∧ ∀ k, k < w.heap.size → k ≠ gok → k ≠ gn → some k ≠ v.ownBlock → w1.heap[k]? = w.heap[k]?

theorem LS.far {w0 w : World} {A : Option Addr} {c : Nat} {l : List Int} {gok gn gl gm : Nat} {n m : Int} (h : LS w0 w A c l gok gn gl gm n m) {p : Addr} (h0 : w0.heap.size ≤ p.block) (h1 : gok ≠ p.block) (h2 : gn ≠ p.block) (h3 : gl ≠ p.block) (h4 : gm ≠ p.block) (u : Value) :
    LS w0 (w.setCell p u) A c l gok gn gl gm n m :=
  ⟨h.below.setCell h0 _, blk_far h.ok h1 _, blk_far h.n h2 _, blk_far h.l h3 _, blk_far h.m h4 _, h.gok0, h.gn0, h.gl0, h.gm0, h.nm⟩
theorem LSKept.far {w w1 : World} {gok gn : Nat} {v : Value} (h : LSKept w w1 gok gn v) {p : Addr} (hp : p.block = gok ∨ p.block = gn ∨ some p.block = v.ownBlock) (u : Value) : LSKept w (w1.setCell p u) gok gn v :=
  ⟨by simpa [World.setCell] using h.1, fun k hk h1 h2 h3 => (Below.heap_setCell w1 p u k (by
    rintro rfl
    rcases hp with hp | hp | hp
    · exact h1 hp
    · exact h2 hp
    · exact h3 hp)).trans (h.2 k hk h1 h2 h3)⟩
theorem LSKept.below {w w1 w2 : World} {gok gn : Nat} {v : Value} (h : LSKept w w1 gok gn v) (hb : Below w1.heap.size w1 w2) : LSKept w w2 gok gn v :=
  ⟨Nat.le_trans h.1 hb.size, fun k hk h1 h2 h3 => (hb.block k (Nat.lt_of_lt_of_le hk h.1)).trans (h.2 k hk h1 h2 h3)⟩
theorem cz_take (l : List Int) (j : Nat) : ∀ i, i ≤ j → cz (l.take j) i = cz l i := by
  intro i
  induction i with
  | zero => intro _; rfl
  | succ i ih =>
    intro h
    rw [cz, cz, ih (by omega), take_rd' l j i (by omega)]
theorem ownI_split {w : World} {b : Nat} {A : Option Addr} {c : Nat} {bs : List Int} (h : w.ownsRow b 3 1 (.slice A bs.length c) bs.length (nums .i64 bs)) (hpos : 0 < bs.length) : ∃ r, A = some ⟨r, 0, none⟩ ∧ b ≤ r := by
  obtain ⟨_, ⟨_, h0⟩ | ⟨r, c, cur, h1, h2, h3, h4, h5, h6, h7⟩⟩ := h
  · omega
  · cases h1
    exact ⟨r, rfl, h2⟩

set_option maxHeartbeats 8000000 in
set_option maxRecDepth 100000 in
theorem clos_calls (w0 w : World) (A : Option Addr) (c : Nat) (l : List Int) (gok gn gl gm : Nat) (m : Int) (b : Nat) (v : Value) (j : Nat) (hj : j ≤ l.length) (hl : l.length ≤ 16) (hC : Kd.C (Kd.int .i64) w0 A l.length l) (hc : l.length ≤ c)
    (hS : LS w0 w A c l gok gn gl gm j m) (hv : w.ownsRow b 3 1 v (cz l j).length (nums .i64 (cz l j))) (hb1 : gok < b) (hb2 : gn < b) (hb3 : gl < b) (hb4 : gm < b) :
    Calls Try.prog 18 #[.int .i64 j, v, .pointer (some ⟨gok, 0, none⟩), .pointer (some ⟨gn, 0, none⟩), .pointer (some ⟨gl, 0, none⟩), .pointer (some ⟨gm, 0, none⟩)] w
      fun e w' => e = .returned (.bool (decide ((j : Int) + 1 < m))) ∧ LS w0 w' A c l gok gn gl gm ((j : Int) + 1) m ∧ LSKept w w' gok gn v := by
  have HS := Aside0.mk hS
  have HV := Aside0.mk hv
  obtain ⟨A1, c1, rfl, hle1, hC1⟩ := owns_readsI hv
  have HC1 := Aside0.mk hC1
  have hok0 := (blk_cell hS.ok 0).trans rfl
  have hn0 := (blk_cell hS.n 0).trans rfl
  have hl0 := (blk_cell hS.l 0).trans rfl
  have hm0 := (blk_cell hS.m 0).trans rfl
  have hokf := blk_frozen hS.ok 0
  have hnf := blk_frozen hS.n 0
  have hmin1 : (if (l.length : Int) < (j : Int) then (l.length : Int) else (j : Int)) = (j : Int) := if_neg (by omega)
  have hmin2 : (if l.length < j then (l.length : Int) else (j : Int)) = (j : Int) := if_neg (by omega)
  have hle : decide ((j : Int) ≤ (l.length : Int)) = true := decide_eq_true (by omega)
  have hle' : decide (j ≤ l.length) = true := decide_eq_true hj
  obtain ⟨i0, hi0, _, hsz0, _⟩ := info_parts int_info
  obtain ⟨hcut, hA, hCc⟩ := print_take_of (P := Try.prog) (Value.int .i64) 0 22 3 .i64 Try.underlying22 hi0 hsz0 A c l (j : Int) (by omega) (by omega) hc
  have HRT := Aside0.mk (Kd.C_of_reads (h1 := fun _ => rfl) (hA _ (Kd.reads_of_C (d := (0 : Int)) hC)))
  have hbw := Aside0.mk hS.below
  clear hA hi0 hsz0 hS hv hC1
  rw [Int.toNat_natCast] at hcut
  have HRT' : Aside0 (Kd.C (Kd.int .i64) w0 A (l.take j).length (l.take j)) := ⟨by have := HRT.out; rw [Int.toNat_natCast] at this; exact this⟩
  have hCc' : (l.take j).length ≤ c := by rw [Int.toNat_natCast] at hCc; exact hCc
  clear HRT hCc
  have hlt : (l.take j).length = j := by rw [List.length_take]; omega
  generalize ht : l.take j = t at hcut HRT' hCc' hlt
  go_enter Try.func18, Try.ntmps18
  go_wp2_with fail
  have hcoef : sackbutref06_Coefs.f (60 * t.length + 1) t = some (cz l j) := by
    rw [rcoefs_ok (by omega) (by omega), hlt, ← ht, cz_take l j j (Nat.le_refl _)]
  have hcl := sackbutref06_Coefs.calls (60 * t.length + 1) A c t (cz l j) w (Kd.C_below HRT'.out hbw.out) hCc' hcoef
  rw [hlt] at hcl
  (with_reducible refine hcl.mono ?_)
  rintro e w1 ⟨v0, rfl, hr0, hb⟩
  have ho0 := Kd.own_of_R hr0
  obtain ⟨A2, c2, rfl, hle2, hC2⟩ := owns_readsI ho0
  have HS1 := Aside0.mk (HS.out.keep hb)
  have HV1 := Aside0.mk (own_below HV.out hb)
  have HK1 := Aside0.mk (show LSKept w w1 gok gn (.slice A1 (cz l j).length c1) from ⟨hb.size, fun k hk _ _ _ => hb.block k hk⟩)
  have hC1' := Kd.C_below HC1.out hb
  clear hr0 ho0 HS HV hb hok0 hn0 hl0 hm0 hokf hnf hcoef HC1 hcl
  go_wp2_with fail
  (with_reducible refine (sackbutref01_Same.calls ((cz l j).length + 1) A1 c1 (cz l j) A2 c2 (cz l j) true w1 hC1' hle1 hC2 hle2 (by rw [same_ok _ _ (by rw [cz_length]; omega) (by omega)]; simp)).mono ?_)
  rintro e w2 ⟨rfl, hd⟩
  have HS2 := Aside0.mk (HS1.out.keep hd.below)
  have HV2 := Aside0.mk (own_below HV1.out hd.below)
  have HK2 := Aside0.mk (HK1.out.below hd.below)
  have hok0 := (blk_cell HS2.out.ok 0).trans rfl
  have hokf := blk_frozen HS2.out.ok 0
  clear HS1 HV1 HK1 hd hC1' hC2 hcut hmin1 hmin2
  have hgr : Aside0 (∀ {r : Nat}, b ≤ r → gok ≠ r ∧ gn ≠ r ∧ gl ≠ r ∧ gm ≠ r ∧ w0.heap.size ≤ r) := ⟨fun h => ⟨by omega, by omega, by omega, by omega, by have := HS2.out.gok0; omega⟩⟩
  have hokn : gok ≠ gn := fun e => by
    have h1 := HS2.out.ok
    have h2 := HS2.out.n
    rw [e, h2] at h1
    cases h1
  have hokl : gok ≠ gl := fun e => by
    have h1 := HS2.out.ok
    have h2 := HS2.out.l
    rw [e, h2] at h1
    cases h1
  have hokm : gok ≠ gm := fun e => by
    have h1 := HS2.out.ok
    have h2 := HS2.out.m
    rw [e, h2] at h1
    cases h1
  have hnl : gn ≠ gl := fun e => by
    have h1 := HS2.out.n
    have h2 := HS2.out.l
    rw [e, h2] at h1
    cases h1
  have hnm := HS2.out.nm
  have HS3 : Aside0 (LS w0 (w2.setCell ⟨gok, 0, none⟩ (.bool true)) A c l gok gn gl gm j m) :=
    ⟨HS2.out.below.setCell (p := ⟨gok, 0, none⟩) HS2.out.gok0 _, blk_put HS2.out.ok 0 _ rfl, blk_far HS2.out.n hokn.symm _, blk_far HS2.out.l hokl.symm _, blk_far HS2.out.m hokm.symm _, HS2.out.gok0, HS2.out.gn0, HS2.out.gl0, HS2.out.gm0, HS2.out.nm⟩
  have HV3 := Aside0.mk (own_setCell HV2.out (p := ⟨gok, 0, none⟩) (own_ne HV2.out HS2.out.ok (by decide)) (.bool true))
  have HK3 := Aside0.mk (HK2.out.far (p := ⟨gok, 0, none⟩) (.inl rfl) (.bool true))
  go_wp2
  generalize w2.setCell ⟨gok, 0, none⟩ (.bool true) = w3 at HS3 HV3 HK3 ⊢
  have HN1 := Aside0.mk hokn
  have HN2 := Aside0.mk hokl
  have HN3 := Aside0.mk hokm
  have HN4 := Aside0.mk hnl
  have HN5 := Aside0.mk hnm
  clear HS2 HV2 HK2 hok0 hokf hokn hokl hokm hnl hnm
  go_loopg [35] (cz l j).length (fun kq v35 wr => ∃ (i : Nat) (ys : List Int), v35 = .int .i64 i ∧ kq + i = (cz l j).length ∧ ys.length = (cz l j).length ∧ Aside0 (wr.ownsRow b 3 1 (.slice A1 (cz l j).length c1) ys.length (nums .i64 ys)) ∧ Aside0 (LS w0 wr A c l gok gn gl gm j m) ∧ Aside0 (LSKept w wr gok gn (.slice A1 (cz l j).length c1)))
  case atStart => exact ⟨0, cz l j, rfl, by omega, rfl, HV3, HS3, HK3⟩
  case round =>
    clear HS3 HV3 HK3
    obtain ⟨i, ys, rfl, hi, hyl, HV, HS, HK⟩ := hrel
    have hcl := cz_length l j
    by_cases hlt' : i < (cz l j).length
    · have HW1 := Aside0.mk (show wrap64 ((i : Int) + 1) = (i : Int) + 1 from w64 (by omega) (by omega))
      have hme : gk - 1 < gk := by omega
      have hme2 : gk - 1 + (i + 1) = (cz l j).length := by omega
      have HME := Aside0.mk hme2
      clear hme2 hcl
      have hdec : decide ((i : Int) < ((cz l j).length : Int)) = true := decide_eq_true (by omega)
      have hp0 : (0 ≤ (i : Int)) = True := eq_true (by omega)
      have hp1 : ((i : Int) < ((cz l j).length : Int)) = True := eq_true (by omega)
      have hp2 : (i < (cz l j).length) = True := eq_true hlt'
      have hv := HV.out
      rw [← hyl] at hv
      obtain ⟨r, rfl, hbr⟩ := ownI_split hv (by omega)
      have hat := own_at hv (i : Int) (by omega) (by omega)
      rw [Int.toNat_natCast] at hat
      obtain ⟨hx, hfx⟩ := hat
      have hst := (own_store hv (i : Int) 7).1
      rw [Int.toNat_natCast] at hst
      have hg := hgr.out hbr
      have HV' := Aside0.mk hst
      have HS' := Aside0.mk (HS.out.far (p := ⟨r, i, none⟩) hg.2.2.2.2 hg.1 hg.2.1 hg.2.2.1 hg.2.2.2.1 (.int .i64 7))
      have HK' := Aside0.mk (HK.out.far (p := ⟨r, i, none⟩) (.inr (.inr rfl)) (.int .i64 7))
      clear hv hst HS HK HV hg
      go_wp2
      go_roundg (gk - 1)
      case measure => exact hme
      case rel => exact ⟨i + 1, ys.set i 7, by rw [HW1.out]; rfl, HME.out, by rw [List.length_set]; exact hyl, ⟨by have := HV'.out; rw [List.length_set, ← hyl]; exact this⟩, HS', HK'⟩
    · have HW1 := Aside0.mk (show wrap64 ((j : Int) + 1) = (j : Int) + 1 from w64 (by omega) (by omega))
      clear hcl
      have hdec : decide ((i : Int) < ((cz l j).length : Int)) = false := decide_eq_false (by omega)
      have hdec' : decide (i < (cz l j).length) = false := decide_eq_false hlt'
      have hn0 := (blk_cell HS.out.n 0).trans rfl
      have hnf := blk_frozen HS.out.n 0
      have hok0 := (blk_cell HS.out.ok 0).trans rfl
      have hm0 := (blk_cell HS.out.m 0).trans rfl
      have HS' : Aside0 (LS w0 (wr.setCell ⟨gn, 0, none⟩ (.int .i64 ((j : Int) + 1))) A c l gok gn gl gm ((j : Int) + 1) m) :=
        ⟨HS.out.below.setCell (p := ⟨gn, 0, none⟩) HS.out.gn0 _, blk_far HS.out.ok HN1.out _, blk_put HS.out.n 0 _ rfl, blk_far HS.out.l HN4.out.symm _, blk_far HS.out.m HN5.out.symm _, HS.out.gok0, HS.out.gn0, HS.out.gl0, HS.out.gm0, HS.out.nm⟩
      have HK' := Aside0.mk (HK.out.far (p := ⟨gn, 0, none⟩) (.inr (.inl rfl)) (.int .i64 ((j : Int) + 1)))
      have hok1 := (blk_cell HS'.out.ok 0).trans rfl
      have hn1 := (blk_cell HS'.out.n 0).trans rfl
      have hm1 := (blk_cell HS'.out.m 0).trans rfl
      clear HS HK HV
      go_wp2
      go_ret
      exact ⟨rfl, HS'.out, HK'.out⟩
end Go.Proofs.Ytoglefgjiaoopaa.P
