/- The contracts of layer 9's tree.Paths, over the closure of the law TreePaths. -/
import Derived.Test.YtlebgjcpidpgnaaPx0
import Derived.Test.YtlebgjcpidpgnaaHTree
import Derived.Test.YtlebgjcpidpgnaaHWalk
import Derived.Test.YtlebgjcpidpgnaaHWalkC
import Derived.Test.YtlebgjcpidpgnaaHLeaves
import Derived.Test.YtlebgjcpidpgnaaHTPaths
import Derived.RegionTactic
import Derived.BigRegion
import Derived.Shelf.Abstract
import Derived.WalkSmall
namespace Go.Proofs.Ytlebgjcpidpgnaa.P
open Go.RowKit Go.Proofs.YtlebgjcpidpgnaaW.PrintWords Go.Proofs.YtlebgjcpidpgnaaW.PrintLast Go.Proofs.YtlebgjcpidpgnaaW.PrintMore
set_option linter.unusedVariables false
set_option linter.unusedSimpArgs false

/-- What stands when the ways are gone through: w0. -/
structure PtF (w0 : World) (gk gn gw gl gz gm : Nat) (Aw : Option Addr) (cw : Nat) (ws : List ByteArray) (Al : Option Addr) (cl : Nat) (ls : List Int) (z m : Int) : Prop where
  now : PtW w0 gk gn gw gl gz gm true 0 Aw cw ws Al cl ls z m
  kn : gk ≠ gn
  wk : gw ≠ gk
  wn : gw ≠ gn
  lk : gl ≠ gk
  ln : gl ≠ gn
  zk : gz ≠ gk
  zn : gz ≠ gn
  mk_ : gm ≠ gk
  mn : gm ≠ gn
  fw : ∀ ad, Aw = some ad → 0 < ws.length → ad.block < w0.heap.size ∧ ad.block ≠ gk ∧ ad.block ≠ gn
  fl : ∀ ad, Al = some ad → 0 < ls.length → ad.block < w0.heap.size ∧ ad.block ≠ gk ∧ ad.block ≠ gn
/-- All that stood at w0 but gk and gn is as it was. -/
structure KeepK (w0 : World) (gk gn : Nat) (w : World) : Prop where
  os : w.os = w0.os
  tape : w.tape = w0.tape
  output : w.output = w0.output
  size : w0.heap.size ≤ w.heap.size
  block : ∀ i, i < w0.heap.size → i ≠ gk → i ≠ gn → w.heap[i]? = w0.heap[i]?
theorem addB (a : Addr) (i : Nat) : (a.add i).block = a.block := by unfold Addr.add; split <;> rfl
theorem PtF.at {w0 w : World} {gk gn gw gl gz gm : Nat} {Aw : Option Addr} {cw : Nat} {ws : List ByteArray} {Al : Option Addr} {cl : Nat} {ls : List Int} {z m : Int} (h : PtF w0 gk gn gw gl gz gm Aw cw ws Al cl ls z m) {ok : Bool} {n : Nat} (hk : KeepK w0 gk gn w) (h1 : w.heap[gk]? = some (.cells #[.bool ok] 4 (0, 0))) (h2 : w.heap[gn]? = some (.cells #[.int .i64 n] 3 (0, 0))) :
    PtW w gk gn gw gl gz gm ok n Aw cw ws Al cl ls z m := by
  refine ⟨h1, h2, (hk.block _ (blk_lt h.now.bw) h.wk h.wn).trans h.now.bw, (hk.block _ (blk_lt h.now.bl) h.lk h.ln).trans h.now.bl, (hk.block _ (blk_lt h.now.bz) h.zk h.zn).trans h.now.bz, (hk.block _ (blk_lt h.now.bm) h.mk_ h.mn).trans h.now.bm, ?_, ?_, h.now.same, h.now.few⟩
  · intro i hi
    obtain ⟨ad, e, hc⟩ := h.now.rw i hi
    obtain ⟨a1, a2, a3⟩ := h.fw ad e (by omega)
    exact ⟨ad, e, (World.cell?_of_block (a := ad.add i) (by rw [addB]; exact hk.block _ a1 a2 a3)).trans hc⟩
  · intro i hi
    obtain ⟨ad, e, hc⟩ := h.now.rl i hi
    obtain ⟨a1, a2, a3⟩ := h.fl ad e (by omega)
    exact ⟨ad, e, (World.cell?_of_block (a := ad.add i) (by rw [addB]; exact hk.block _ a1 a2 a3)).trans hc⟩
abbrev PtS := ByteArray × Bool × Nat × Bool
def twoY (p : ByteArray) (z : Int) (s : PtS) : Bool × PtS := ((twoB s.1 s.2.1).1, (twoB s.1 s.2.1).2.1, (twoB s.1 s.2.1).2.2, s.2.2)
def leafY (ws : List ByteArray) (ls : List Int) (size m : Int) (p : ByteArray) (z : Int) (s : PtS) : Bool × PtS :=
  (wellP ws ls size p z s.2.2.2 s.2.2.1 && decide ((s.2.2.1 : Int) + 1 < m), s.1, s.2.1, s.2.2.1 + 1, wellP ws ls size p z s.2.2.2 s.2.2.1)
def PtI (w0 : World) (gb gk gn : Nat) (k : Nat) (w : World) (s : PtS) : Prop :=
  KeepK w0 gk gn w ∧ w.heap[gk]? = some (.cells #[.bool s.2.2.2] 4 (0, 0)) ∧ w.heap[gn]? = some (.cells #[.int .i64 (s.2.2.1 : Int)] 3 (0, 0)) ∧ w.heap[gb]? = some (.cells #[.string s.1, .bool s.2.1] 85 (0, 0)) ∧ w0.heap.size ≤ gb ∧ s.2.2.1 + k ≤ 1000
theorem pt_below (w0 : World) (gb gk gn : Nat) (k : Nat) (w w' : World) (s : PtS) (hb : Below w.heap.size w w') (h : PtI w0 gb gk gn k w s) : PtI w0 gb gk gn k w' s := by
  obtain ⟨h1, h2, h3, h4, h5, h6⟩ := h
  exact ⟨⟨hb.os.trans h1.os, hb.tape.trans h1.tape, hb.output.trans h1.output, Nat.le_trans h1.size hb.size, fun i hi a b => (hb.block i (Nat.lt_of_lt_of_le hi h1.size)).trans (h1.block i hi a b)⟩, blk_below h2 hb, blk_below h3 hb, blk_below h4 hb, h5, h6⟩
theorem pt_down (w0 : World) (gb gk gn : Nat) (k j : Nat) (w : World) (s : PtS) (hj : j ≤ k) (h : PtI w0 gb gk gn k w s) : PtI w0 gb gk gn j w s := by
  obtain ⟨h1, h2, h3, h4, h5, h6⟩ := h
  exact ⟨h1, h2, h3, h4, h5, by omega⟩
theorem pt_two (w0 : World) (gb gk gn : Nat) (hk : gk < w0.heap.size) (hn : gn < w0.heap.size) : Asks (PtI w0 gb gk gn) 1 47 (.pointer (some ⟨gb, 0, none⟩)) twoY := by
  intro k w s p z ⟨h1, h2, h3, h4, h5, h6⟩
  refine (bt_two2 w gb s.1 s.2.1 p z h4).mono ?_
  rintro e w' ⟨rfl, hb, ho⟩
  refine ⟨rfl, ⟨⟨ho.os.trans h1.os, ho.tape.trans h1.tape, ho.output.trans h1.output, by rw [ho.size]; exact h1.size, fun i hi a b => (ho.block i (by omega)).trans (h1.block i hi a b)⟩, (ho.block _ (by omega)).trans h2, (ho.block _ (by omega)).trans h3, hb, h5, by simp only [twoY]; omega⟩, ?_⟩
  intro b ds hd
  rw [ho.block b (blk_ne hd h4 (by decide))]
  exact hd
theorem pt_leaf {w0 : World} {gk gn gw gl gz gm : Nat} {Aw : Option Addr} {cw : Nat} {ws : List ByteArray} {Al : Option Addr} {cl : Nat} {ls : List Int} {size m : Int} (h : PtF w0 gk gn gw gl gz gm Aw cw ws Al cl ls size m) (gb : Nat) :
    ∀ (k : Nat) (w : World) (s : PtS) (p : ByteArray) (z : Int), PtI w0 gb gk gn (k + 1) w s → p.size ≤ 40 → 0 ≤ z → z ≤ 1024 → Calls Try.prog 20 #[.string p, .int .i64 z, .pointer (some ⟨gk, 0, none⟩), .pointer (some ⟨gn, 0, none⟩), .pointer (some ⟨gw, 0, none⟩), .pointer (some ⟨gl, 0, none⟩), .pointer (some ⟨gz, 0, none⟩), .pointer (some ⟨gm, 0, none⟩)] w (fun e w' => e = .returned (.bool (leafY ws ls size m p z s).1) ∧ PtI w0 gb gk gn k w' (leafY ws ls size m p z s).2 ∧ KeepW w w') := by
  intro k w s p z ⟨h1, h2, h3, h4, h5, h6⟩ hp hz0 hz1
  have hW := h.at h1 h2 h3
  refine (yield_calls w gk gn gw gl gz gm s.2.2.2 s.2.2.1 Aw cw ws Al cl ls size m p z hW h.kn h.mk_ h.mn (by omega) hp hz0 hz1).mono ?_
  rintro e w' ⟨rfl, hb1, hb2, ho⟩
  have hgk := blk_lt h.now.bk
  have hgn := blk_lt h.now.bn
  refine ⟨rfl, ⟨⟨ho.os.trans h1.os, ho.tape.trans h1.tape, ho.output.trans h1.output, by rw [ho.size]; exact h1.size, fun i hi a b => (ho.block i (by omega)).trans (h1.block i hi a b)⟩, hb1, hb2, (ho.block _ (by omega)).trans h4, h5, by simp only [leafY]; omega⟩, ?_⟩
  intro b ds hd
  rw [ho.block b (by
    rintro (rfl | rfl)
    · exact blk_ne hd h2 (by decide) rfl
    · exact blk_ne hd h3 (by decide) rfl)]
  exact hd
def pathsW (ws : List ByteArray) (ls : List Int) (size m : Int) (t : ByteArray) (z : Int) : PtS := (walkP twoY (leafY ws ls size m) 4 { data := #[] } z (t, false, 0, true)).2
theorem paths_walk {w0 : World} {gk gn gw gl gz gm : Nat} {Aw : Option Addr} {cw : Nat} {ws : List ByteArray} {Al : Option Addr} {cl : Nat} {ls : List Int} {size m : Int} (h : PtF w0 gk gn gw gl gz gm Aw cw ws Al cl ls size m) (gb : Nat) (w : World) (t : ByteArray) (z : Int) (hi : PtI w0 gb gk gn (0 + wc 4) w (t, false, 0, true)) (h0 : 0 ≤ z) (h1 : z ≤ 1024) :
    Calls Try.prog 49 #[.agg #[.func (.func 47) #[.pointer (some ⟨gb, 0, none⟩)] #[], .func (.func 20) #[] #[.pointer (some ⟨gk, 0, none⟩), .pointer (some ⟨gn, 0, none⟩), .pointer (some ⟨gw, 0, none⟩), .pointer (some ⟨gl, 0, none⟩), .pointer (some ⟨gz, 0, none⟩), .pointer (some ⟨gm, 0, none⟩)]], .string { data := #[] }, .int .i64 z, .int .i64 4] w
      (fun e w' => e = .returned (.bool (walkP twoY (leafY ws ls size m) 4 { data := #[] } z (t, false, 0, true)).1) ∧ PtI w0 gb gk gn 0 w' (pathsW ws ls size m t z)) := by
  refine (walk_anyC (PtI w0 gb gk gn) (fun _ _ _ _ h i => pt_below _ _ _ _ _ _ _ _ h i) (fun _ _ _ _ h i => pt_down _ _ _ _ _ _ _ _ h i) twoY (leafY ws ls size m) _ _ _ _ _ _ _ _ _ (pt_two w0 gb gk gn (blk_lt h.now.bk) (blk_lt h.now.bn)) (pt_leaf h gb)
    (enters_of Try.func47 (by kernel_rfl) rfl) (enters_of Try.func20 (by kernel_rfl) rfl)
    4 0 (t, false, 0, true) w { data := #[] } z 4 hi h0 h1 ⟨rfl⟩ (by omega) (by decide)).mono ?_
  rintro e w' ⟨he, hi, _⟩
  exact ⟨he, hi⟩

/-- How many were told, and whether all was well. -/
def pathsRes (ws : List ByteArray) (ls : List Int) (size m : Int) (t : ByteArray) (z r2 : Int) : Nat × Bool := if r2 = 0 then (pathsW ws ls size m t z).2.2 else (0, true)
def PathsOut (w0 : World) (gk gn : Nat) (s : Nat × Bool) (w' : World) : Prop := KeepK w0 gk gn w' ∧ w'.heap[gk]? = some (.cells #[.bool s.2] 4 (0, 0)) ∧ w'.heap[gn]? = some (.cells #[.int .i64 (s.1 : Int)] 3 (0, 0))

set_option maxHeartbeats 4000000 in
set_option maxRecDepth 100000 in
theorem paths_in {w0 : World} {gk gn gw gl gz gm : Nat} {Aw : Option Addr} {cw : Nat} {ws : List ByteArray} {Al : Option Addr} {cl : Nat} {ls : List Int} {size m : Int} (h : PtF w0 gk gn gw gl gz gm Aw cw ws Al cl ls size m) (gt gs : Nat) (t : ByteArray) (z : Int) (r1 : List Int) (r2 : Int)
    (ht : w0.heap[gt]? = some (.cells #[.string t] 9 (0, 0))) (hs : w0.heap[gs]? = some (.cells #[.int .i64 z] 3 (0, 0))) (hgs : gs ≠ gn) (hgs2 : gs ≠ gk) (hl : tree_Leaves.f t z = some (r1, r2)) (hz : r2 = 0 → 0 ≤ z ∧ z ≤ 1024) :
    Calls Try.prog 51 #[.func (.func 20) #[] #[.pointer (some ⟨gk, 0, none⟩), .pointer (some ⟨gn, 0, none⟩), .pointer (some ⟨gw, 0, none⟩), .pointer (some ⟨gl, 0, none⟩), .pointer (some ⟨gz, 0, none⟩), .pointer (some ⟨gm, 0, none⟩)], .pointer (some ⟨gt, 0, none⟩), .pointer (some ⟨gs, 0, none⟩)] w0
      (fun e w' => e = .returned (.tuple #[]) ∧ PathsOut w0 gk gn (pathsRes ws ls size m t z r2) w') := by
  have hc1 : w0.cell? ⟨gt, 0, none⟩ = some (.string t) := (blk_cell ht 0).trans rfl
  have hc2 : w0.cell? ⟨gs, 0, none⟩ = some (.int .i64 z) := (blk_cell hs 0).trans rfl
  have HT := Aside0.mk ht
  have HS := Aside0.mk hs
  have HL := Aside0.mk hl
  have HF := Aside0.mk h
  have HZ := Aside0.mk hz
  clear h ht hs hl hz hgs hgs2
  go_enter Try.func51, Try.ntmps51
  go_wp2_with fail
  (with_reducible refine (tree_Leaves.calls t z r1 r2 _ HL.out).mono ?_)
  rintro e w1 ⟨v1, rfl, _, hb1⟩
  have hc1' : w1.cell? ⟨gt, 0, none⟩ = some (.string t) := (blk_cell (blk_below HT.out hb1) 0).trans rfl
  have hc2' : w1.cell? ⟨gs, 0, none⟩ = some (.int .i64 z) := (blk_cell (blk_below HS.out hb1) 0).trans rfl
  have HB1 := Aside0.mk hb1
  clear hb1
  by_cases he : r2 = 0
  · subst he
    obtain ⟨h0, h1⟩ := HZ.out rfl
    have hc2a : (w1.alloc (.cells #[.string t, .bool false] 85)).cell? ⟨gs, 0, none⟩ = some (.int .i64 z) := (blk_cell (blk_alloc (blk_below HS.out HB1.out) _) 0).trans rfl
    have HI := Aside0.mk (show PtI w0 w1.heap.size gk gn (0 + wc 4) (w1.alloc (.cells #[.string t, .bool false] 85)) (t, false, 0, true) from
      ⟨⟨HB1.out.os, HB1.out.tape, HB1.out.output, Nat.le_trans HB1.out.size (below_size (below_alloc (Below.refl w1.heap.size w1) _)), fun i hi _ _ => ((below_alloc (Below.refl w1.heap.size w1) _).block i (Nat.lt_of_lt_of_le hi HB1.out.size)).trans (HB1.out.block i hi)⟩, blk_alloc (blk_below HF.out.now.bk HB1.out) _, blk_alloc (blk_below HF.out.now.bn HB1.out) _, blk_new _ _, HB1.out.size, by simp [wc]⟩)
    go_wp2_with fail
    (with_reducible refine (paths_walk HF.out _ _ t z HI.out h0 h1).mono ?_)
    rintro e w2 ⟨rfl, hi⟩
    have HI2 := Aside0.mk hi
    clear hi HI
    go_wp2
    go_end0
    obtain ⟨a1, a2, a3, _⟩ := HI2.out
    exact ⟨rfl, by unfold PathsOut pathsRes; rw [if_pos rfl]; exact ⟨a1, a2, a3⟩⟩
  · have heb : (r2 == 0) = false := by simp [he]
    have HE := Aside0.mk he
    clear he
    go_wp2
    go_end0
    exact ⟨rfl, by unfold PathsOut pathsRes; rw [if_neg HE.out]; exact ⟨⟨HB1.out.os, HB1.out.tape, HB1.out.output, HB1.out.size, fun i hi _ _ => HB1.out.block i hi⟩, blk_below HF.out.now.bk HB1.out, blk_below HF.out.now.bn HB1.out⟩⟩
set_option maxHeartbeats 4000000 in
set_option maxRecDepth 100000 in
theorem paths_calls2 (t : ByteArray) (z : Int) (w : World) : Calls Try.prog 19 #[.string t, .int .i64 z] w (fun e w' => e = .returned (.func (.func 51) #[] #[.pointer (some ⟨w.heap.size, 0, none⟩), .pointer (some ⟨w.heap.size + 1, 0, none⟩)]) ∧ w' = (w.alloc (.cells #[.string t] 9)).alloc (.cells #[.int .i64 z] 3)) := by
  have hmf : ∀ (fn : Fn) (first cap : Array Value) (w : World), (Instr.makeFunc fn first cap).run Try.prog w = .ok (.func fn first cap) w := fun _ _ _ _ => rfl
  go_enter Try.func19, Try.ntmps19
  go_wp2
  go_ret
  exact ⟨rfl, rfl⟩
end Go.Proofs.Ytlebgjcpidpgnaa.P
