/- The closure of the law TreePaths; tree.Paths. -/
import Derived.Test.YtlebgjcpidpgnaaPx0
import Derived.Test.YtlebgjcpidpgnaaHTree
import Derived.Test.YtlebgjcpidpgnaaHWalk
import Derived.Test.YtlebgjcpidpgnaaHWalkC
import Derived.Test.YtlebgjcpidpgnaaHLeaves
import Derived.RegionTactic
import Derived.BigRegion
import Derived.Deep.RegionWith
import Derived.StillTailTactics
import Derived.Shelf.Abstract
import Derived.WalkSmall
namespace Go.Proofs.Ytlebgjcpidpgnaa.P
open Go.RowKit Go.Proofs.YtlebgjcpidpgnaaW.PrintWords Go.Proofs.YtlebgjcpidpgnaaW.PrintLast Go.Proofs.YtlebgjcpidpgnaaW.PrintMore
set_option linter.unusedVariables false
set_option linter.unusedSimpArgs false

/-- Only these blocks may have turned; none is new. -/
structure Only (S : Nat → Prop) (w w' : World) : Prop where
  os : w'.os = w.os
  tape : w'.tape = w.tape
  output : w'.output = w.output
  size : w'.heap.size = w.heap.size
  block : ∀ k, ¬ S k → w'.heap[k]? = w.heap[k]?
theorem Only.trans {S : Nat → Prop} {a b c : World} (h : Only S a b) (k : Only S b c) : Only S a c := ⟨k.os.trans h.os, k.tape.trans h.tape, k.output.trans h.output, k.size.trans h.size, fun i hi => (k.block i hi).trans (h.block i hi)⟩
theorem Only.set {S : Nat → Prop} (w : World) {g : Nat} (hg : S g) (i : Nat) (u : Value) : Only S w (w.setCell ⟨g, i, none⟩ u) :=
  ⟨rfl, rfl, rfl, by simp [World.setCell], fun k hk => Below.heap_setCell w ⟨g, i, none⟩ u k (by rintro rfl; exact hk hg)⟩
theorem Only.drew {S : Nat → Prop} {a w : World} (h : Only S a w) : Only S a w.drew := ⟨h.os, h.tape, h.output, h.size, h.block⟩
theorem Only.refl (S : Nat → Prop) (w : World) : Only S w w := ⟨rfl, rfl, rfl, rfl, fun _ _ => rfl⟩

set_option maxHeartbeats 4000000 in
set_option maxRecDepth 100000 in
theorem bt_two2 (w : World) (g : Nat) (rest : ByteArray) (bad : Bool) (p : ByteArray) (z : Int) (hb : w.heap[g]? = some (.cells #[.string rest, .bool bad] 85 (0, 0))) :
    Calls Try.prog 47 #[.pointer (some ⟨g, 0, none⟩), .string p, .int .i64 z] w (fun e w' => e = .returned (.bool (twoB rest bad).1) ∧ w'.heap[g]? = some (.cells #[.string (twoB rest bad).2.1, .bool (twoB rest bad).2.2] 85 (0, 0)) ∧ Only (fun k => k = g) w w') := by
  have HX := Aside0.mk hb
  have hc0 : w.cell? ⟨g, 0, none⟩ = some (.string rest) := (blk_cell hb 0).trans rfl
  have hc1 : w.cell? ⟨g, 1, none⟩ = some (.bool bad) := (blk_cell hb 1).trans rfl
  have hf0 : w.frozen? ⟨g, 0, none⟩ = false := blk_frozen hb 0
  have hf1 : w.frozen? ⟨g, 1, none⟩ = false := blk_frozen hb 1
  have HT := Aside0.mk hb
  clear hb
  by_cases h0 : rest.size = 0
  · obtain rfl : rest = { data := #[] } := by
      cases rest with | mk d => 
        have : d = #[] := by simpa [ByteArray.size] using h0
        rw [this]
    have e : twoB { data := #[] } bad = (false, { data := #[] }, true) := rfl
    rw [e]
    clear e h0
    go_enter Try.func47, Try.ntmps47
    go_wp2_with fail
    go_ret
    have h1 := blk_put HX.out 1 (.bool true) rfl
    have h2 := blk_put h1 0 (.string { data := #[] }) rfl
    exact ⟨rfl, h2, (Only.set (S := fun k => k = g) w rfl _ _).trans (Only.set (S := fun k => k = g) _ rfl _ _)⟩
  · have hpos : 0 < rest.size := Nat.pos_of_ne_zero h0
    have hem : rest.toList.isEmpty = false := by
      rw [Bool.eq_false_iff]
      intro hh
      have h1 := List.isEmpty_iff.mp hh
      rw [ByteArray.toList_eq] at h1
      have h2 := congrArg List.length h1
      rw [Array.length_toList] at h2
      exact h0 h2
    have hx : ∀ h : 0 < rest.size, ((rest[0]'h).toNat : Int) = bt rest 0 := fun h => bt_at rest 0 h
    by_cases h48 : bt rest 0 = 48
    · have e : twoB rest bad = (false, rest.extract 1 rest.size, bad) := by simp [twoB, h0, h48]
      rw [e]
      clear e
      rw [h48] at hx
      go_enter Try.func47, Try.ntmps47
      go_wp2_with fail
      go_ret
      have h1 := blk_put HX.out 0 (.string (rest.extract 1 rest.size)) rfl
      exact ⟨rfl, h1, Only.set (S := fun k => k = g) w rfl _ _⟩
    · by_cases h49 : bt rest 0 = 49
      · have e : twoB rest bad = (true, rest.extract 1 rest.size, bad) := by simp [twoB, h0, h49]
        rw [e]
        clear e
        rw [h49] at hx
        go_enter Try.func47, Try.ntmps47
        go_wp2_with fail
        go_ret
        have h1 := blk_put HX.out 0 (.string (rest.extract 1 rest.size)) rfl
        exact ⟨rfl, h1, Only.set (S := fun k => k = g) w rfl _ _⟩
      · have e : twoB rest bad = (false, { data := #[] }, true) := by simp [twoB, h48, h49]
        rw [e]
        clear e
        generalize bt rest 0 = x at hx h48 h49
        have e1 : (x != 48) = true := bne_iff_ne.mpr h48
        have e2 : (x != 49) = true := bne_iff_ne.mpr h49
        clear h48 h49
        go_enter Try.func47, Try.ntmps47
        go_wp2_with fail
        go_ret
        have h1 := blk_put HX.out 1 (.bool true) rfl
        have h2 := blk_put h1 0 (.string { data := #[] }) rfl
        exact ⟨rfl, h2, (Only.set (S := fun k => k = g) w rfl _ _).trans (Only.set (S := fun k => k = g) _ rfl _ _)⟩

/-- What the law's closure holds on to: whether all was well (gk), how many there were (gn), the ways (gw), the leaves (gl), the size (gz), how many are asked for (gm). -/
structure PtW (w : World) (gk gn gw gl gz gm : Nat) (ok : Bool) (n : Int) (Aw : Option Addr) (cw : Nat) (ws : List ByteArray) (Al : Option Addr) (cl : Nat) (ls : List Int) (z m : Int) : Prop where
  bk : w.heap[gk]? = some (.cells #[.bool ok] 4 (0, 0))
  bn : w.heap[gn]? = some (.cells #[.int .i64 n] 3 (0, 0))
  bw : w.heap[gw]? = some (.cells #[.slice Aw ws.length cw] 31 (0, 0))
  bl : w.heap[gl]? = some (.cells #[.slice Al ls.length cl] 23 (0, 0))
  bz : w.heap[gz]? = some (.cells #[.int .i64 z] 3 (0, 0))
  bm : w.heap[gm]? = some (.cells #[.int .i64 m] 3 (0, 0))
  rw : ∀ i : Nat, i < ws.length → ∃ ad, Aw = some ad ∧ w.cell? (ad.add i) = some (.string (ws.getD i { data := #[] }))
  rl : ∀ i : Nat, i < ls.length → ∃ ad, Al = some ad ∧ w.cell? (ad.add i) = some (.int .i64 (ls.getD i 0))
  same : ls.length = ws.length
  few : ws.length ≤ 1000
/-- Is the next one as it must be? -/
def wellP (ws : List ByteArray) (ls : List Int) (size : Int) (p : ByteArray) (z : Int) (ok : Bool) (n : Nat) : Bool :=
  ok && (decide (n < ws.length) && (decide (ws.getD n { data := #[] } = p) && (decide (ls.getD n 0 = z) && decide (wrap64 (z * 2 ^ p.size) = size))))

theorem pt_fin {w : World} {gk gn gw gl gz gm : Nat} {ok : Bool} {n : Nat} {Aw : Option Addr} {cw : Nat} {ws : List ByteArray} {Al : Option Addr} {cl : Nat} {ls : List Int} {size m : Int} (h : PtW w gk gn gw gl gz gm ok n Aw cw ws Al cl ls size m) (hne : gk ≠ gn) (hm1 : gm ≠ gk) (hm2 : gm ≠ gn) (b : Bool) (w2 : World) (e : (w.setCell ⟨gk, 0, none⟩ (.bool b)).drew = w2) :
    (w2.cell? ⟨gn, 0, none⟩ = some (.int .i64 n) ∧ w2.frozen? ⟨gn, 0, none⟩ = false ∧ (w2.setCell ⟨gn, 0, none⟩ (.int .i64 ((n : Int) + 1))).cell? ⟨gk, 0, none⟩ = some (.bool b) ∧ (w2.setCell ⟨gn, 0, none⟩ (.int .i64 ((n : Int) + 1))).cell? ⟨gn, 0, none⟩ = some (.int .i64 ((n : Int) + 1)) ∧ (w2.setCell ⟨gn, 0, none⟩ (.int .i64 ((n : Int) + 1))).cell? ⟨gm, 0, none⟩ = some (.int .i64 m)) ∧
    Aside0 ((w2.setCell ⟨gn, 0, none⟩ (.int .i64 ((n : Int) + 1))).heap[gk]? = some (.cells #[.bool b] 4 (0, 0)) ∧ (w2.setCell ⟨gn, 0, none⟩ (.int .i64 ((n : Int) + 1))).heap[gn]? = some (.cells #[.int .i64 ((n : Int) + 1)] 3 (0, 0)) ∧ Only (fun k => k = gk ∨ k = gn) w (w2.setCell ⟨gn, 0, none⟩ (.int .i64 ((n : Int) + 1)))) := by
  have k2 : w2.heap[gk]? = some (.cells #[.bool b] 4 (0, 0)) := by subst e; exact blk_drew (blk_put h.bk 0 (.bool b) rfl)
  have n2 : w2.heap[gn]? = some (.cells #[.int .i64 n] 3 (0, 0)) := by subst e; exact blk_drew (blk_far h.bn (p := ⟨gk, 0, none⟩) hne.symm _)
  have m2 : w2.heap[gm]? = some (.cells #[.int .i64 m] 3 (0, 0)) := by subst e; exact blk_drew (blk_far h.bm (p := ⟨gk, 0, none⟩) hm1 _)
  have o2 : Only (fun k => k = gk ∨ k = gn) w w2 := by subst e; exact (Only.set (S := fun k => k = gk ∨ k = gn) w (.inl rfl) _ _).drew
  have k3 := blk_far k2 (p := ⟨gn, 0, none⟩) hne (.int .i64 ((n : Int) + 1))
  have n3 := blk_put n2 0 (.int .i64 ((n : Int) + 1)) rfl
  have m3 := blk_far m2 (p := ⟨gn, 0, none⟩) hm2 (.int .i64 ((n : Int) + 1))
  exact ⟨⟨(blk_cell n2 0).trans rfl, blk_frozen n2 0, (blk_cell k3 0).trans rfl, (blk_cell n3 0).trans rfl, (blk_cell m3 0).trans rfl⟩, ⟨k3, n3, o2.trans (Only.set (S := fun k => k = gk ∨ k = gn) _ (.inr rfl) _ _)⟩⟩

set_option maxHeartbeats 4000000 in
set_option maxRecDepth 100000 in
theorem yield_calls (w : World) (gk gn gw gl gz gm : Nat) (ok : Bool) (n : Nat) (Aw : Option Addr) (cw : Nat) (ws : List ByteArray) (Al : Option Addr) (cl : Nat) (ls : List Int) (size m : Int) (p : ByteArray) (z : Int)
    (h : PtW w gk gn gw gl gz gm ok n Aw cw ws Al cl ls size m) (hne : gk ≠ gn) (hm1 : gm ≠ gk) (hm2 : gm ≠ gn) (hn : n ≤ 1000) (hp : p.size ≤ 40) (h0 : 0 ≤ z) (h1 : z ≤ 1024) :
    Calls Try.prog 20 #[.string p, .int .i64 z, .pointer (some ⟨gk, 0, none⟩), .pointer (some ⟨gn, 0, none⟩), .pointer (some ⟨gw, 0, none⟩), .pointer (some ⟨gl, 0, none⟩), .pointer (some ⟨gz, 0, none⟩), .pointer (some ⟨gm, 0, none⟩)] w
      (fun e w' => e = .returned (.bool (wellP ws ls size p z ok n && decide ((n : Int) + 1 < m))) ∧ w'.heap[gk]? = some (.cells #[.bool (wellP ws ls size p z ok n)] 4 (0, 0)) ∧ w'.heap[gn]? = some (.cells #[.int .i64 ((n : Int) + 1)] 3 (0, 0)) ∧ Only (fun k => k = gk ∨ k = gn) w w') := by
  have hck : w.drew.cell? ⟨gk, 0, none⟩ = some (.bool ok) := (blk_cell h.bk 0).trans rfl
  have hcn : w.drew.cell? ⟨gn, 0, none⟩ = some (.int .i64 n) := (blk_cell h.bn 0).trans rfl
  have hcw : w.drew.cell? ⟨gw, 0, none⟩ = some (.slice Aw ws.length cw) := (blk_cell h.bw 0).trans rfl
  have hcl : w.drew.cell? ⟨gl, 0, none⟩ = some (.slice Al ls.length cl) := (blk_cell h.bl 0).trans rfl
  have hcz : w.drew.cell? ⟨gz, 0, none⟩ = some (.int .i64 size) := (blk_cell h.bz 0).trans rfl
  have hfk : w.drew.frozen? ⟨gk, 0, none⟩ = false := blk_frozen h.bk 0
  have HF := Aside0.mk (fun b w2 e => pt_fin h hne hm1 hm2 b w2 e)
  have HLS := Aside0.mk h.same
  have HRW := Aside0.mk h.rw
  have HRL := Aside0.mk h.rl
  clear h hne hm1 hm2
  cases ok with
  | false =>
    have e : wellP ws ls size p z false n = false := rfl
    rw [e]
    clear e
    go_enter Try.func20, Try.ntmps20
    go_wp2_with fail
    go_region
    go_upto_region 2 with fail
    obtain ⟨w2, hw2⟩ : ∃ x, (w.setCell ⟨gk, 0, none⟩ (.bool false)).drew = x := ⟨_, rfl⟩
    rw [hw2]
    obtain ⟨⟨hx0, hx1, hx2, hx3, hx4⟩, HX⟩ := HF.out false w2 hw2
    clear hw2 HF
    go_wp2
    go_ret
    exact ⟨rfl, HX.out⟩
  | true =>
    by_cases hlt : n < ws.length
    · obtain ⟨ad, rfl, hwx⟩ := HRW.out n hlt
      obtain ⟨al, rfl, hlx⟩ := HRL.out n (by have := HLS.out; omega)
      have hwx : w.drew.cell? (ad.add n) = some (.string (ws.getD n { data := #[] })) := hwx
      have hlx : w.drew.cell? (al.add n) = some (.int .i64 (ls.getD n 0)) := hlx
      have hli : n < ls.length := by have := HLS.out; omega
      have hli2 : (n : Int) < (ls.length : Int) := by omega
      have hlt2 : (n : Int) < (ws.length : Int) := by omega
      have hd : decide (n < ws.length) = true := by simp; omega
      have hgl : Aside0 (ws.getD n { data := #[] } = ws.getD n { data := #[] }) := ⟨rfl⟩
      obtain ⟨x, hx⟩ : ∃ x, ws.getD n { data := #[] } = x := ⟨_, rfl⟩
      obtain ⟨y, hy⟩ : ∃ y, ls.getD n 0 = y := ⟨_, rfl⟩
      rw [hx] at hwx
      rw [hy] at hlx
      have HXY := Aside0.mk (And.intro hx hy)
      have HLT := Aside0.mk hlt
      clear hx hy hgl HRW HRL HLS hlt
      by_cases hxp : x = p
      · have hxb : (x.toList == p.toList) = true := by rw [hxp]; exact beq_self_eq_true _
        by_cases hyz : y = z
        · have hyb : (y == z) = true := by rw [hyz]; exact beq_self_eq_true _
          by_cases hs : wrap64 (z * 2 ^ p.size) = size
          · have hsh : (wrap64 (z * 2 ^ p.size) == size) = true := by rw [hs]; exact beq_self_eq_true _
            have e : wellP ws ls size p z true n = true := by
              unfold wellP
              rw [HXY.out.1, HXY.out.2, decide_eq_true hxp, decide_eq_true hyz, decide_eq_true hs, decide_eq_true HLT.out]
              rfl
            rw [e]
            clear e hs hxp hyz
            go_enter Try.func20, Try.ntmps20
            go_wp2_with fail
            go_region
            go_upto_region 2 with fail
            obtain ⟨w2, hw2⟩ : ∃ x, (w.setCell ⟨gk, 0, none⟩ (.bool true)).drew = x := ⟨_, rfl⟩
            rw [hw2]
            obtain ⟨⟨hx0, hx1, hx2, hx3, hx4⟩, HX⟩ := HF.out true w2 hw2
            clear hw2 HF
            go_wp2
            go_ret
            exact ⟨by first | rfl | (simp; done), HX.out⟩
          · have hsh : (wrap64 (z * 2 ^ p.size) == size) = false := by simp [hs]
            have e : wellP ws ls size p z true n = false := by
              unfold wellP
              rw [decide_eq_false hs]
              simp
            rw [e]
            clear e hs hxp hyz
            go_enter Try.func20, Try.ntmps20
            go_wp2_with fail
            go_region
            go_upto_region 2 with fail
            obtain ⟨w2, hw2⟩ : ∃ x, (w.setCell ⟨gk, 0, none⟩ (.bool false)).drew = x := ⟨_, rfl⟩
            rw [hw2]
            obtain ⟨⟨hx0, hx1, hx2, hx3, hx4⟩, HX⟩ := HF.out false w2 hw2
            clear hw2 HF
            go_wp2
            go_ret
            exact ⟨by first | rfl | (simp; done), HX.out⟩
        · have e : wellP ws ls size p z true n = false := by
            unfold wellP
            rw [HXY.out.2, decide_eq_false hyz]
            simp
          have hyb : (y == z) = false := by simp [hyz]
          rw [e]
          clear e hxp
          go_enter Try.func20, Try.ntmps20
          go_wp2_with fail
          go_region
          go_upto_region 2 with fail
          obtain ⟨w2, hw2⟩ : ∃ x, (w.setCell ⟨gk, 0, none⟩ (.bool false)).drew = x := ⟨_, rfl⟩
          rw [hw2]
          obtain ⟨⟨hx0, hx1, hx2, hx3, hx4⟩, HX⟩ := HF.out false w2 hw2
          clear hw2 HF
          go_wp2
          go_ret
          exact ⟨rfl, HX.out⟩
      · have e : wellP ws ls size p z true n = false := by
          unfold wellP
          rw [HXY.out.1, decide_eq_false hxp]
          simp
        have hxb : (x.toList == p.toList) = false := by
          rw [beq_eq_false_iff_ne, ByteArray.toList_eq, ByteArray.toList_eq]
          intro hh
          exact hxp (by cases x; cases p; simp at hh; rw [hh])
        rw [e]
        clear e hxp
        go_enter Try.func20, Try.ntmps20
        go_wp2_with fail
        go_region
        go_upto_region 2 with fail
        obtain ⟨w2, hw2⟩ : ∃ x, (w.setCell ⟨gk, 0, none⟩ (.bool false)).drew = x := ⟨_, rfl⟩
        rw [hw2]
        obtain ⟨⟨hx0, hx1, hx2, hx3, hx4⟩, HX⟩ := HF.out false w2 hw2
        clear hw2 HF
        go_wp2
        go_ret
        exact ⟨rfl, HX.out⟩
    · have e : wellP ws ls size p z true n = false := by simp [wellP, hlt]
      have hd : decide (n < ws.length) = false := by simp; omega
      rw [e]
      clear e hlt
      go_enter Try.func20, Try.ntmps20
      go_wp2_with fail
      go_region
      go_upto_region 2 with fail
      obtain ⟨w2, hw2⟩ : ∃ x, (w.setCell ⟨gk, 0, none⟩ (.bool false)).drew = x := ⟨_, rfl⟩
      rw [hw2]
      obtain ⟨⟨hx0, hx1, hx2, hx3, hx4⟩, HX⟩ := HF.out false w2 hw2
      clear hw2 HF
      go_wp2
      go_ret
      exact ⟨rfl, HX.out⟩
end Go.Proofs.Ytlebgjcpidpgnaa.P
