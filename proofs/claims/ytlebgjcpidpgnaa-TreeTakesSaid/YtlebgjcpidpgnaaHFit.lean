/- The contracts of layer 9's fitter: tree.fitter.two, tree.fitter.leaf. -/
import Derived.Test.YtlebgjcpidpgnaaPx0
import Derived.Test.YtlebgjcpidpgnaaHTree
import Derived.Test.YtlebgjcpidpgnaaHWalk
import Derived.Test.YtlebgjcpidpgnaaHBld
import Derived.RegionTactic
import Derived.BigRegion
import Derived.Shelf.Abstract
import Derived.WalkSmall
namespace Go.Proofs.Ytlebgjcpidpgnaa.P
open Go.RowKit Go.Proofs.YtlebgjcpidpgnaaW.PrintWords Go.Proofs.YtlebgjcpidpgnaaW.PrintLast Go.Proofs.YtlebgjcpidpgnaaW.PrintMore
set_option linter.unusedVariables false
set_option linter.unusedSimpArgs false

abbrev FtS := List Int × List UInt8 × Bool
def IsFt (w0 W : World) (g : Nat) (s : FtS) : Prop :=
  ∃ cs A c, IsBd w0 W g 104 cs (s.2.1.map fun c => (c.toNat : Int)) ∧ cs.size = 4 ∧ cs[0]? = some (.slice A s.1.length c) ∧ s.1.length ≤ c ∧ Kd.C (Kd.int .i64) w0 A s.1.length s.1 ∧ cs[3]? = some (.bool s.2.2)
def yesF (z : Int) (l : List Int) : Bool := match l with
  | [] => false
  | x :: _ => decide (x < z)
def twoF (p : ByteArray) (z : Int) (s : FtS) : Bool × FtS := (yesF z s.1, s.1, s.2.1 ++ [if yesF z s.1 = true then 49 else 48], s.2.2)
def badF (z : Int) (l : List Int) (b : Bool) : Bool := b || (match l with
  | [] => true
  | x :: _ => x != z)
def leafF (p : ByteArray) (z : Int) (s : FtS) : Bool × FtS := (!badF z s.1 s.2.2, (if badF z s.1 s.2.2 = true then s.1 else s.1.drop 1), s.2.1, badF z s.1 s.2.2)
def FtI (w0 : World) (g : Nat) (k : Nat) (w : World) (s : FtS) : Prop := Below w0.heap.size w0 w ∧ IsFt w0 w g s ∧ s.2.1.length + k ≤ 1000
theorem KeepO.walker {g : Nat} {w w' : World} {cs : Array Value} {T : Nat} (h : KeepO g w w') (hb : w.heap[g]? = some (.cells cs T (0, 0))) (hT : 90 ≠ T) : KeepW w w' :=
  fun b ds hd => h b 90 ds (by decide) (blk_ne hd hb hT) hd

theorem head_cell {w : World} {A : Option Addr} {n : Nat} {x : Int} {l : List Int} (h : Kd.C (Kd.int .i64) w A n (x :: l)) : ∃ ad, A = some ad ∧ w.cell? (ad.add 0) = some (.int .i64 x) ∧ w.cell? ad = some (.int .i64 x) := by
  have hn : n = l.length + 1 := h.1.symm
  obtain ⟨ad, u, rfl, hu, hk, hcell⟩ := Kd.C_get h 0 0 (by omega) (by omega)
  have hk : u = [.int .i64 x] := hk
  have := hcell 0 _ (by rw [hk]; rfl)
  have e : ad.add 0 = ad := by simp [Addr.add]
  have this : w.cell? (ad.add 0) = some (.int .i64 x) := this
  refine ⟨ad, rfl, this, ?_⟩
  rw [e] at this
  exact this
theorem ft_fin {w0 w w' : World} {g k : Nat} {cs cs' : Array Value} {A : Option Addr} {c : Nat} {rest : List Int} {text : List UInt8} {b : UInt8} {bad : Bool} (hb : w.heap[g]? = some (.cells cs 104 (0, 0))) (h0 : cs[0]? = some (.slice A rest.length c)) (hc : rest.length ≤ c) (hr : Kd.C (Kd.int .i64) w0 A rest.length rest) (h3 : cs[3]? = some (.bool bad)) (h4 : cs.size = 4) (hl : text.length + (k + 1) ≤ 1000)
    (hB' : Below w0.heap.size w0 w') (hK : KeepO g w w') (hI' : IsBd w0 w' g 104 cs' ((text.map fun c => (c.toNat : Int)) ++ [(b.toNat : Int)])) (hs' : cs'.size = cs.size) (he : ∀ i, i ≠ 1 → i ≠ 2 → cs'[i]? = cs[i]?) :
    FtI w0 g k w' (rest, text ++ [b], bad) ∧ KeepW w w' := by
  refine ⟨⟨hB', ⟨cs', A, c, ?_, hs'.trans h4, (he 0 (by omega) (by omega)).trans h0, hc, hr, (he 3 (by omega) (by omega)).trans h3⟩, ?_⟩, hK.walker hb (by decide)⟩
  · rw [List.map_append]
    exact hI'
  · simp only [List.length_append, List.length_singleton]
    omega

set_option maxHeartbeats 4000000 in
set_option maxRecDepth 100000 in
theorem ft_two (w0 : World) (g : Nat) : Asks (FtI w0 g) 1 60 (.pointer (some ⟨g, 0, none⟩)) twoF := by
  intro k w s p z ⟨hB, ⟨cs, A, c, hI, h4, h0, hc, hr, h3⟩, hl⟩
  obtain ⟨rest, text, bad⟩ := s
  simp only at hI h0 hc hr h3 hl
  have hb := hI.2.1
  have hc0 : w.cell? ⟨g, 0, none⟩ = some (.slice A rest.length c) := cs_get1 hb h0
  have HI := Aside0.mk hI
  have HB := Aside0.mk hB
  have HB2 := Aside0.mk hb
  have HC := Aside0.mk (Kd.C_below hr hB)
  have HR := Aside0.mk hr
  have HL := Aside0.mk hl
  have HSZ := Aside0.mk h4
  have H0 := Aside0.mk h0
  have H3 := Aside0.mk h3
  clear hI hB hb hr hl h4 h0 h3
  cases rest with
  | nil =>
    have e : twoF p z ([], text, bad) = (false, [], text ++ [48], bad) := rfl
    rw [e]
    clear e
    go_enter Try.func60, Try.ntmps60
    go_wp2_with fail
    (with_reducible refine (bd_byte w0 w g 104 cs _ 48 HB.out HI.out (by have := HL.out; simp; omega)).mono ?_)
    rintro e w1 ⟨rfl, hB1, hk1, cs', hi1, hs1, he1⟩
    go_wp2
    go_ret
    exact ⟨rfl, ft_fin HB2.out H0.out hc HR.out H3.out HSZ.out HL.out hB1 hk1 hi1 hs1 he1⟩
  | cons x rest =>
    obtain ⟨ad, rfl, hx0, hx1⟩ := head_cell HC.out
    have hn := HR.out.2.1
    cases hy : decide (x < z) with
    | false =>
      have e : twoF p z (x :: rest, text, bad) = (false, x :: rest, text ++ [48], bad) := by simp [twoF, yesF, hy]
      rw [e]
      clear e
      go_enter Try.func60, Try.ntmps60
      go_wp2_with fail
      (with_reducible refine (bd_byte w0 w g 104 cs _ 48 HB.out HI.out (by have := HL.out; simp; omega)).mono ?_)
      rintro e w1 ⟨rfl, hB1, hk1, cs', hi1, hs1, he1⟩
      go_wp2
      go_ret
      exact ⟨rfl, ft_fin HB2.out H0.out hc HR.out H3.out HSZ.out HL.out hB1 hk1 hi1 hs1 he1⟩
    | true =>
      have e : twoF p z (x :: rest, text, bad) = (true, x :: rest, text ++ [49], bad) := by simp [twoF, yesF, hy]
      rw [e]
      clear e
      go_enter Try.func60, Try.ntmps60
      go_wp2_with fail
      (with_reducible refine (bd_byte w0 w g 104 cs _ 49 HB.out HI.out (by have := HL.out; simp; omega)).mono ?_)
      rintro e w1 ⟨rfl, hB1, hk1, cs', hi1, hs1, he1⟩
      go_wp2
      go_ret
      exact ⟨rfl, ft_fin HB2.out H0.out hc HR.out H3.out HSZ.out HL.out hB1 hk1 hi1 hs1 he1⟩
theorem ft_leaf_fin {w0 w : World} {g k : Nat} {cs : Array Value} {A : Option Addr} {c : Nat} {rest : List Int} {text : List UInt8} (u : Bool) (hB : Below w0.heap.size w0 w) (hI : IsBd w0 w g 104 cs (text.map fun c => (c.toNat : Int))) (h0 : cs[0]? = some (.slice A rest.length c)) (hc : rest.length ≤ c) (hr : Kd.C (Kd.int .i64) w0 A rest.length rest) (h4 : cs.size = 4) (hl : text.length + (k + 1) ≤ 1000) :
    ∃ cs', FtI w0 g k (w.setCell ⟨g, 3, none⟩ (.bool u)) (rest, text, u) ∧ KeepW w (w.setCell ⟨g, 3, none⟩ (.bool u)) ∧ IsBd w0 (w.setCell ⟨g, 3, none⟩ (.bool u)) g 104 cs' (text.map fun c => (c.toNat : Int)) ∧ cs'[0]? = some (.slice A rest.length c) ∧ cs'[3]? = some (.bool u) ∧ cs'.size = 4 := by
  obtain ⟨hg, hb, hT, hs, hli, a, v, h1, ha, h2, hn, ho⟩ := hI
  have e0 : (cs.setIfInBounds 3 (.bool u))[0]? = some (.slice A rest.length c) := by rw [Array.getElem?_setIfInBounds]; simp [h0]
  have e1 : (cs.setIfInBounds 3 (.bool u))[1]? = some (.pointer a) := by rw [Array.getElem?_setIfInBounds]; simp [h1]
  have e2 : (cs.setIfInBounds 3 (.bool u))[2]? = some v := by rw [Array.getElem?_setIfInBounds]; simp [h2]
  have e3 : (cs.setIfInBounds 3 (.bool u))[3]? = some (.bool u) := by rw [Array.getElem?_setIfInBounds]; simp [h4]
  have e4 : (cs.setIfInBounds 3 (.bool u)).size = 4 := by simpa using h4
  have hI' : IsBd w0 (w.setCell ⟨g, 3, none⟩ (.bool u)) g 104 (cs.setIfInBounds 3 (.bool u)) (text.map fun c => (c.toNat : Int)) :=
    ⟨hg, blk_set hb 3 _, hT, by simpa using hs, by simpa using hli, a, v, e1, ha, e2, hn, own_setCell ho (own_ne ho hb (Ne.symm hT)) _⟩
  exact ⟨_, ⟨hB.setCell (p := ⟨g, 3, none⟩) hg _, ⟨_, A, c, hI', e4, e0, hc, hr, e3⟩, by simp only; omega⟩, (KeepO.set w 3 _).walker hb (by decide), hI', e0, e3, e4⟩

theorem ft_drop_fin {w0 w : World} {g k : Nat} {cs : Array Value} {rest rest' : List Int} {text : List UInt8} {bad : Bool} (A' : Option Addr) (c' : Nat) (hi : FtI w0 g k w (rest', text, bad)) (hI : IsBd w0 w g 104 cs (text.map fun c => (c.toNat : Int))) (h3 : cs[3]? = some (.bool bad)) (h4 : cs.size = 4)
    (hc : rest.length ≤ c') (hr : Kd.C (Kd.int .i64) w0 A' rest.length rest) : FtI w0 g k (w.setCell ⟨g, 0, none⟩ (.slice A' rest.length c')) (rest, text, bad) ∧ KeepW w (w.setCell ⟨g, 0, none⟩ (.slice A' rest.length c')) := by
  obtain ⟨hg, hb, hT, hs, hli, a, v, h1, ha, h2, hn, ho⟩ := hI
  have e0 : (cs.setIfInBounds 0 (.slice A' rest.length c'))[0]? = some (.slice A' rest.length c') := by rw [Array.getElem?_setIfInBounds]; simp [h4]
  have e1 : (cs.setIfInBounds 0 (.slice A' rest.length c'))[1]? = some (.pointer a) := by rw [Array.getElem?_setIfInBounds]; simp [h1]
  have e2 : (cs.setIfInBounds 0 (.slice A' rest.length c'))[2]? = some v := by rw [Array.getElem?_setIfInBounds]; simp [h2]
  have e3 : (cs.setIfInBounds 0 (.slice A' rest.length c'))[3]? = some (.bool bad) := by rw [Array.getElem?_setIfInBounds]; simp [h3]
  have e4 : (cs.setIfInBounds 0 (.slice A' rest.length c')).size = 4 := by simpa using h4
  exact ⟨⟨hi.1.setCell (p := ⟨g, 0, none⟩) hg _, ⟨_, A', c', ⟨hg, blk_set hb 0 _, hT, by simpa using hs, by simpa using hli, a, v, e1, ha, e2, hn, own_setCell ho (own_ne ho hb (Ne.symm hT)) _⟩, e4, e0, hc, hr, e3⟩, hi.2.2⟩, (KeepO.set w 0 _).walker hb (by decide)⟩
set_option maxHeartbeats 4000000 in
set_option maxRecDepth 100000 in
theorem ft_leaf (w0 : World) (g : Nat) : Asks (FtI w0 g) 1 61 (.pointer (some ⟨g, 0, none⟩)) leafF := by
  intro k w s p z ⟨hB, ⟨cs, A, c, hI, h4, h0, hc, hr, h3⟩, hl⟩
  obtain ⟨rest, text, bad⟩ := s
  simp only at hI h0 hc hr h3 hl
  have hb := hI.2.1
  have hc0 : w.cell? ⟨g, 0, none⟩ = some (.slice A rest.length c) := cs_get1 hb h0
  have hc3 : w.cell? ⟨g, 3, none⟩ = some (.bool bad) := cs_get1 hb h3
  have hf3 : w.frozen? ⟨g, 3, none⟩ = false := blk_frozen hb 3
  have HF0 : w.frozen? ⟨g, 0, none⟩ = false := blk_frozen hb 0
  have HF := Aside0.mk (fun u : Bool => ft_leaf_fin (k := k) u hB hI h0 hc hr h4 hl)
  have HC := Aside0.mk (Kd.C_below hr hB)
  have HR := Aside0.mk hr
  clear hI hB hb hr hl h4 h0 h3
  cases bad with
  | true =>
    have e : leafF p z (rest, text, true) = (false, rest, text, true) := by simp [leafF, badF]
    rw [e]
    clear e
    go_enter Try.func61, Try.ntmps61
    go_wp2
    go_ret
    obtain ⟨ds, hi, hk, _⟩ := HF.out true
    exact ⟨rfl, hi, hk⟩
  | false =>
    cases rest with
    | nil =>
      have e : leafF p z ([], text, false) = (false, [], text, true) := by simp [leafF, badF]
      rw [e]
      clear e
      go_enter Try.func61, Try.ntmps61
      go_wp2
      go_ret
      obtain ⟨ds, hi, hk, _⟩ := HF.out true
      exact ⟨rfl, hi, hk⟩
    | cons x rest =>
      obtain ⟨ad, rfl, hx0, hx1⟩ := head_cell HC.out
      have hn := HR.out.2.1
      cases hy : (x != z) with
      | true =>
        have e : leafF p z (x :: rest, text, false) = (false, x :: rest, text, true) := by simp [leafF, badF, hy]
        rw [e]
        clear e
        go_enter Try.func61, Try.ntmps61
        go_wp2
        go_ret
        obtain ⟨ds, hi, hk, _⟩ := HF.out true
        exact ⟨rfl, hi, hk⟩
      | false =>
        have e : leafF p z (x :: rest, text, false) = (true, rest, text, false) := by simp [leafF, badF, hy]
        rw [e]
        clear e
        have hlz : ((rest.length : Int) + 1 == 0) = false := by simp; omega
        obtain ⟨ds, hi, hk, hI, d0, d3, d4⟩ := HF.out false
        have HX := Aside0.mk (fun (A' : Option Addr) (c' : Nat) (h1 : rest.length ≤ c') (h2 : Kd.C (Kd.int .i64) w0 A' rest.length rest) => ft_drop_fin A' c' hi hI d3 d4 h1 h2)
        have HK := Aside0.mk hk
        have hf0 : w.frozen? ⟨g, 0, none⟩ = false := HF0
        have hD := Kd.C_drop HR.out (m := 1) (by simp) hc
        have HD := Aside0.mk hD
        clear hi hk hI d0 d3 d4 HF HC HR hD
        by_cases hc1 : c = 1
        · subst hc1
          go_enter Try.func61, Try.ntmps61
          go_wp2
          go_ret
          obtain ⟨q1, q2⟩ := HX.out (some ad) 0 (by simp at hc; simp [hc]) (by simpa using HD.out)
          exact ⟨rfl, q1, HK.out.trans q2⟩
        · go_enter Try.func61, Try.ntmps61
          go_wp2
          go_ret
          have hD := HD.out
          rw [if_neg hc1] at hD
          obtain ⟨q1, q2⟩ := HX.out _ (c - 1) (by simp at hc; omega) hD
          exact ⟨rfl, q1, HK.out.trans q2⟩
end Go.Proofs.Ytlebgjcpidpgnaa.P
