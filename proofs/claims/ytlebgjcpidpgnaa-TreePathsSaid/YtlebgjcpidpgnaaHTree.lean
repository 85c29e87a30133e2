/- The contracts of what goes along a tree's text: tree.bits.two, tree.sizes.leaf. -/
import Derived.Test.YtlebgjcpidpgnaaPx0
import Derived.RegionTactic
import Derived.BigRegion
namespace Go.Proofs.Ytlebgjcpidpgnaa.P
open Go.RowKit Go.Proofs.YtlebgjcpidpgnaaW.PrintWords Go.Proofs.YtlebgjcpidpgnaaW.PrintLast Go.Proofs.YtlebgjcpidpgnaaW.PrintMore
set_option linter.unusedVariables false
set_option linter.unusedSimpArgs false

theorem tint_info : (Try.prog.info? 3).map (fun i => (i.zero, i.size, i.bytes)) = some (some (.int .i64 0), 1, 8) := by kernel_rfl
/-- Leaves that were told, at block g of W: new since w0. -/
def IsSz (w0 W : World) (g : Nat) (l : List Int) : Prop :=
  w0.heap.size ≤ g ∧ ∃ v, W.heap[g]? = some (.cells #[v] 88 (0, 0)) ∧ W.ownsRow w0.heap.size 3 1 v l.length (nums .i64 l)
/-- A text's bits that are left, at block g of W. -/
def IsBt (w0 W : World) (g : Nat) (rest : ByteArray) (bad : Bool) : Prop :=
  w0.heap.size ≤ g ∧ W.heap[g]? = some (.cells #[.string rest, .bool bad] 85 (0, 0))
theorem IsSz.below {w0 w w' : World} {g : Nat} {l : List Int} (h : IsSz w0 w g l) (hb : Below w.heap.size w w') : IsSz w0 w' g l := by
  obtain ⟨hg, v, h1, h2⟩ := h
  exact ⟨hg, v, blk_below h1 hb, own_move h2 (fun k hk => hb.block k (own_lt h2 k hk))⟩
theorem IsBt.below {w0 w w' : World} {g : Nat} {r : ByteArray} {b : Bool} (h : IsBt w0 w g r b) (hb : Below w.heap.size w w') : IsBt w0 w' g r b := ⟨h.1, blk_below h.2 hb⟩

/-- The walkers that stand in memory stay. -/
def KeepW (w w' : World) : Prop := ∀ (b : Nat) (cs : Array Value), w.heap[b]? = some (.cells cs 90 (0, 0)) → w'.heap[b]? = some (.cells cs 90 (0, 0))
theorem KeepW.trans {w w1 w2 : World} (h : KeepW w w1) (k : KeepW w1 w2) : KeepW w w2 := fun b cs hb => k b cs (h b cs hb)
theorem KeepW.below {w w' : World} (h : Below w.heap.size w w') : KeepW w w' := fun b cs hb => blk_below hb h

set_option maxHeartbeats 4000000 in
set_option maxRecDepth 100000 in
/-- 'leaf': one leaf more. -/
theorem sz_leaf (w0 w : World) (g gb : Nat) (l : List Int) (rest : ByteArray) (bad : Bool) (p : ByteArray) (z : Int) (hB : Below w0.heap.size w0 w) (h : IsSz w0 w g l) (ht : IsBt w0 w gb rest bad) (hm : l.length ≤ 1000000) :
    Calls Try.prog 48 #[.pointer (some ⟨g, 0, none⟩), .string p, .int .i64 z] w (fun e w' => e = .returned (.bool true) ∧ Below w0.heap.size w0 w' ∧ IsSz w0 w' g (l ++ [z]) ∧ IsBt w0 w' gb rest bad ∧ KeepW w w') := by
  obtain ⟨hg, v, hb, ho⟩ := h
  obtain ⟨hgb, htb⟩ := ht
  have hc0 : w.cell? ⟨g, 0, none⟩ = some v := (blk_cell hb 0).trans rfl
  have hf0 : w.frozen? ⟨g, 0, none⟩ = false := blk_frozen hb 0
  have hbsz := hB.size
  obtain ⟨A, c, rfl⟩ := own_slice ho
  have hne : gb ≠ g := blk_ne htb hb (by decide)
  have HO := Aside0.mk ho
  have HT := Aside0.mk htb
  have HN := Aside0.mk hne
  clear ho htb hne
  go_enter Try.func48, Try.ntmps48
  go_wp2_with (at_builtin; refine print_append_num (w0 := w0) w0.heap.size rfl _ _ 23 3 .i64 8 rfl Try.underlying23 tint_info (by decide) (.slice A l.length c) l z rfl rfl HO.out hB hbsz ?c1 ?_)
  case c1 => omega
  intro v' w1 hown1 hB1 hgrow hv1
  have hneA := own_ne HO.out hb (by decide)
  have hb1 := blk_grown hb hgrow hneA
  have hne1 := own_ne hown1 hb1 (by decide)
  have HT1 := Aside0.mk (blk_grown HT.out hgrow (own_ne HO.out HT.out (by decide)))
  obtain ⟨A', c', rfl⟩ := own_slice hown1
  have HK1 := Aside0.mk (show KeepW w w1 from fun b cs hb => blk_grown hb hgrow (own_ne HO.out hb (by decide)))
  clear hgrow hneA
  have hc0' : w1.cell? ⟨g, 0, none⟩ = some (.slice A l.length c) := (blk_cell hb1 0).trans rfl
  have hf0' : w1.frozen? ⟨g, 0, none⟩ = false := blk_frozen hb1 0
  have HO1 := Aside0.mk hown1
  have HB1 := Aside0.mk hB1
  have HN1 := Aside0.mk hne1
  have HV := Aside0.mk hv1
  have HB0 := Aside0.mk hb1
  clear hown1 hB1 hne1 hv1 hb1
  go_wp2
  go_ret
  refine ⟨rfl, HB1.out.setCell (p := ⟨g, 0, none⟩) hg _, ⟨hg, _, blk_put HB0.out 0 _ rfl, ?_⟩, ⟨hgb, blk_far HT1.out (p := ⟨g, 0, none⟩) HN.out _⟩, HK1.out.trans fun b cs hb => blk_far hb (p := ⟨g, 0, none⟩) (blk_ne hb HB0.out (by decide)) _⟩
  rw [List.length_append]
  exact own_setCell HO1.out HN1.out _
/-- Both at once. -/
def TrOk (w0 W : World) (g gs : Nat) (rest : ByteArray) (bad : Bool) (l : List Int) : Prop := Below w0.heap.size w0 W ∧ IsSz w0 W gs l ∧ IsBt w0 W g rest bad
theorem tr_set {w0 w : World} {g gs : Nat} {rest r' : ByteArray} {bad b' : Bool} {l : List Int} (h : TrOk w0 w g gs rest bad l) (i : Nat) (u : Value) (e : (#[Value.string rest, .bool bad] : Array Value).setIfInBounds i u = #[.string r', .bool b']) :
    TrOk w0 (w.setCell ⟨g, i, none⟩ u) g gs r' b' l ∧ KeepW w (w.setCell ⟨g, i, none⟩ u) := by
  obtain ⟨hB, ⟨hs, v, h1, h2⟩, hg, h3⟩ := h
  refine ⟨⟨hB.setCell (p := ⟨g, i, none⟩) hg _, ⟨hs, v, blk_far h1 (p := ⟨g, i, none⟩) (blk_ne h1 h3 (by decide)) _, own_setCell h2 (own_ne h2 h3 (by decide)) _⟩, hg, blk_put h3 i u e⟩, fun b cs hb => blk_far hb (p := ⟨g, i, none⟩) (blk_ne hb h3 (by decide)) _⟩
/-- What the next place of a text is. -/
def twoB (r : ByteArray) (bad : Bool) : Bool × ByteArray × Bool :=
  if r.size = 0 ∨ (bt r 0 ≠ 48 ∧ bt r 0 ≠ 49) then (false, { data := #[] }, true) else (decide (bt r 0 = 49), r.extract 1 r.size, bad)

set_option maxHeartbeats 4000000 in
set_option maxRecDepth 100000 in
/-- 'two': the next bit of a text. -/
theorem bt_two (w0 w : World) (g gs : Nat) (l : List Int) (rest : ByteArray) (bad : Bool) (p : ByteArray) (z : Int) (hB : Below w0.heap.size w0 w) (h : IsSz w0 w gs l) (ht : IsBt w0 w g rest bad) :
    Calls Try.prog 47 #[.pointer (some ⟨g, 0, none⟩), .string p, .int .i64 z] w (fun e w' => e = .returned (.bool (twoB rest bad).1) ∧ Below w0.heap.size w0 w' ∧ IsSz w0 w' gs l ∧ IsBt w0 w' g (twoB rest bad).2.1 (twoB rest bad).2.2 ∧ KeepW w w') := by
  have HX := Aside0.mk (show TrOk w0 w g gs rest bad l from ⟨hB, h, ht⟩)
  obtain ⟨hg, hb⟩ := ht
  have hc0 : w.cell? ⟨g, 0, none⟩ = some (.string rest) := (blk_cell hb 0).trans rfl
  have hc1 : w.cell? ⟨g, 1, none⟩ = some (.bool bad) := (blk_cell hb 1).trans rfl
  have hf0 : w.frozen? ⟨g, 0, none⟩ = false := blk_frozen hb 0
  have hf1 : w.frozen? ⟨g, 1, none⟩ = false := blk_frozen hb 1
  have HT := Aside0.mk hb
  clear hb h hB
  by_cases h0 : rest.size = 0
  · obtain rfl : rest = { data := #[] } := by
      cases rest with | mk d => 
        have : d = #[] := by simpa [ByteArray.size] using h0
        rw [this]
    have e : twoB { data := #[] } bad = (false, { data := #[] }, true) := rfl
    rw [e]
    clear e h0
    go_enter Try.func47, Try.ntmps47
    go_wp2_with fail
    go_ret
    have h1 := tr_set HX.out 1 (.bool true) rfl
    have h2 := tr_set h1.1 0 (.string { data := #[] }) rfl
    exact ⟨rfl, h2.1.1, h2.1.2.1, h2.1.2.2, h1.2.trans h2.2⟩
  · have hpos : 0 < rest.size := Nat.pos_of_ne_zero h0
    have hem : rest.toList.isEmpty = false := by
      rw [Bool.eq_false_iff]
      intro hh
      have h1 := List.isEmpty_iff.mp hh
      rw [ByteArray.toList_eq] at h1
      have h2 := congrArg List.length h1
      rw [Array.length_toList] at h2
      exact h0 h2
    have hx : ∀ h : 0 < rest.size, ((rest[0]'h).toNat : Int) = bt rest 0 := fun h => bt_at rest 0 h
    by_cases h48 : bt rest 0 = 48
    · have e : twoB rest bad = (false, rest.extract 1 rest.size, bad) := by simp [twoB, h0, h48]
      rw [e]
      clear e
      rw [h48] at hx
      go_enter Try.func47, Try.ntmps47
      go_wp2_with fail
      go_ret
      have h1 := tr_set HX.out 0 (.string (rest.extract 1 rest.size)) rfl
      exact ⟨rfl, h1.1.1, h1.1.2.1, h1.1.2.2, h1.2⟩
    · by_cases h49 : bt rest 0 = 49
      · have e : twoB rest bad = (true, rest.extract 1 rest.size, bad) := by simp [twoB, h0, h49]
        rw [e]
        clear e
        rw [h49] at hx
        go_enter Try.func47, Try.ntmps47
        go_wp2_with fail
        go_ret
        have h1 := tr_set HX.out 0 (.string (rest.extract 1 rest.size)) rfl
        exact ⟨rfl, h1.1.1, h1.1.2.1, h1.1.2.2, h1.2⟩
      · have e : twoB rest bad = (false, { data := #[] }, true) := by simp [twoB, h48, h49]
        rw [e]
        clear e
        generalize bt rest 0 = x at hx h48 h49
        have e1 : (x != 48) = true := bne_iff_ne.mpr h48
        have e2 : (x != 49) = true := bne_iff_ne.mpr h49
        clear h48 h49
        go_enter Try.func47, Try.ntmps47
        go_wp2_with fail
        go_ret
        have h1 := tr_set HX.out 1 (.bool true) rfl
        have h2 := tr_set h1.1 0 (.string { data := #[] }) rfl
        exact ⟨rfl, h2.1.1, h2.1.2.1, h2.1.2.2, h1.2.trans h2.2⟩
end Go.Proofs.Ytlebgjcpidpgnaa.P
