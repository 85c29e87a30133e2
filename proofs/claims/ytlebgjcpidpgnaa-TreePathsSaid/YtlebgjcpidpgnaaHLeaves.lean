/- The contract of layer 9's tree.Leaves. -/
import Derived.Test.YtlebgjcpidpgnaaPx0
import Derived.Test.YtlebgjcpidpgnaaHTree
import Derived.Test.YtlebgjcpidpgnaaHWalk
import Derived.RegionTactic
import Derived.BigRegion
import Derived.Deep.RegionWith
import Derived.Shelf.Abstract
import Derived.WalkSmall
namespace Go.Proofs.Ytlebgjcpidpgnaa.P
open Go.RowKit Go.Proofs.YtlebgjcpidpgnaaW.PrintWords Go.Proofs.YtlebgjcpidpgnaaW.PrintLast Go.Proofs.YtlebgjcpidpgnaaW.PrintMore
set_option linter.unusedVariables false
set_option linter.unusedSimpArgs false

abbrev TrS := ByteArray × Bool × List Int
def twoS (p : ByteArray) (z : Int) (s : TrS) : Bool × TrS := ((twoB s.1 s.2.1).1, (twoB s.1 s.2.1).2.1, (twoB s.1 s.2.1).2.2, s.2.2)
def leafS (p : ByteArray) (z : Int) (s : TrS) : Bool × TrS := (true, s.1, s.2.1, s.2.2 ++ [z])
def TrI (w0 : World) (gb gs : Nat) (k : Nat) (w : World) (s : TrS) : Prop := Below w0.heap.size w0 w ∧ IsSz w0 w gs s.2.2 ∧ IsBt w0 w gb s.1 s.2.1 ∧ s.2.2.length + k ≤ 1000
theorem two_asks (w0 : World) (gb gs : Nat) : Asks (TrI w0 gb gs) 1 47 (.pointer (some ⟨gb, 0, none⟩)) twoS := by
  intro k w s p z ⟨hB, hs, hb, hl⟩
  refine (bt_two w0 w gb gs s.2.2 s.1 s.2.1 p z hB hs hb).mono ?_
  rintro e w' ⟨rfl, h1, h2, h3, h4⟩
  exact ⟨rfl, ⟨h1, h2, h3, by simp only [twoS]; omega⟩, h4⟩
theorem leaf_asks (w0 : World) (gb gs : Nat) : Asks (TrI w0 gb gs) 1 48 (.pointer (some ⟨gs, 0, none⟩)) leafS := by
  intro k w s p z ⟨hB, hs, hb, hl⟩
  refine (sz_leaf w0 w gs gb s.2.2 s.1 s.2.1 p z hB hs hb (by omega)).mono ?_
  rintro e w' ⟨rfl, h1, h2, h3, h4⟩
  exact ⟨rfl, ⟨h1, h2, h3, by simp [leafS]; omega⟩, h4⟩
theorem tr_below (w0 : World) (gb gs : Nat) (k : Nat) (w w' : World) (s : TrS) (hb : Below w.heap.size w w') (h : TrI w0 gb gs k w s) : TrI w0 gb gs k w' s :=
  ⟨below_then h.1 h.1.size hb, h.2.1.below hb, h.2.2.1.below hb, h.2.2.2⟩
theorem tr_down (w0 : World) (gb gs : Nat) (k j : Nat) (w : World) (s : TrS) (hj : j ≤ k) (h : TrI w0 gb gs k w s) : TrI w0 gb gs j w s := ⟨h.1, h.2.1, h.2.2.1, by have := h.2.2.2; omega⟩
/-- A walk through a text's tree. -/
theorem text_walk (w0 w : World) (gb gs : Nat) (text : ByteArray) (z : Int) (hB : Below w0.heap.size w0 w) (hs : IsSz w0 w gs []) (hb : IsBt w0 w gb text false) (h0 : 0 ≤ z) (h1 : z ≤ 1024) :
    Calls Try.prog 49 #[.agg #[.func (.func 47) #[.pointer (some ⟨gb, 0, none⟩)] #[], .func (.func 48) #[.pointer (some ⟨gs, 0, none⟩)] #[]], .string { data := #[] }, .int .i64 z, .int .i64 4] w
      (fun e w' => e = .returned (.bool (walkP twoS leafS 4 { data := #[] } z (text, false, [])).1) ∧ TrI w0 gb gs 0 w' (walkP twoS leafS 4 { data := #[] } z (text, false, [])).2) := by
  refine (walk_any (TrI w0 gb gs) (fun _ _ _ _ h i => tr_below _ _ _ _ _ _ _ h i) (fun _ _ _ _ h i => tr_down _ _ _ _ _ _ _ h i) twoS leafS _ _ _ _ (two_asks w0 gb gs) (leaf_asks w0 gb gs)
    (enters_of Try.func47 (by kernel_rfl) rfl) (enters_of Try.func48 (by kernel_rfl) rfl)
    4 0 (text, false, []) w { data := #[] } z 4 ⟨hB, hs, hb, by simp [wc]⟩ h0 h1 ⟨rfl⟩ (by omega) (by decide)).mono ?_
  rintro e w' ⟨he, hi, _⟩
  exact ⟨he, hi⟩

def leavesW (text : ByteArray) (z : Int) : TrS := (walkP twoS leafS 4 { data := #[] } z (text, false, [])).2
def tree_Leaves.f (text : ByteArray) (z : Int) : Option (List Int × Int) :=
  if z < 1 ∨ 1024 < z then some ([], 1) else if (leavesW text z).2.1 = true ∨ (leavesW text z).1.size ≠ 0 then some ([], 10) else some ((leavesW text z).2.2, 0)

theorem sized_calls (z : Int) (w : World) : Calls Try.prog 46 #[.int .i64 z] w (fun e w' => e = .returned (.bool (decide (1 ≤ z) && decide (z ≤ 1024))) ∧ w' = w) := by
  go_enter Try.func46, Try.ntmps46
  go_wp2
  all_goals go_ret
  all_goals refine ⟨?_, rfl⟩
  all_goals simp [*]
  all_goals omega
set_option maxHeartbeats 4000000 in
set_option maxRecDepth 100000 in
theorem tree_Leaves.calls (a0 : ByteArray) (a1 : Int) (r1 : List Int) (r2 : Int) (w : World) (h : tree_Leaves.f a0 a1 = some (r1, r2)) :
    Calls Try.prog 15 #[.string a0, .int .i64 a1] w fun e w' => ∃ v0_ : Value, e = .returned (.tuple #[v0_, .int .i64 r2]) ∧ Kd.R (Kd.int .i64) 3 w' w.heap.size (fun _ => True) v0_ r1 ∧ Below w.heap.size w w' := by
  unfold tree_Leaves.f at h
  by_cases hz : a1 < 1 ∨ 1024 < a1
  · rw [if_pos hz] at h
    obtain ⟨rfl, rfl⟩ : [] = r1 ∧ 1 = r2 := by simpa using h
    have HZ := Aside0.mk (show (decide (1 ≤ a1) && decide (a1 ≤ 1024)) = false by rcases hz with h | h <;> simp <;> omega)
    clear h hz
    go_enter Try.func15, Try.ntmps15
    go_wp2_with fail
    (with_reducible refine (sized_calls a1 w).mono ?_)
    rintro e w1 ⟨rfl, rfl⟩
    rw [HZ.out]
    go_wp2
    go_ret2
    exact ⟨_, rfl, Kd.R_nil _ _ _ _ _, Below.refl _ _⟩
  · rw [if_neg hz] at h
    have hz0 : 0 ≤ a1 := by omega
    have hz1 : a1 ≤ 1024 := by omega
    have HZ := Aside0.mk (show (decide (1 ≤ a1) && decide (a1 ≤ 1024)) = true by simp; omega)
    have H := Aside0.mk h
    clear h hz
    go_enter Try.func15, Try.ntmps15
    go_wp2_with fail
    (with_reducible refine (sized_calls a1 w).mono ?_)
    rintro e w1 ⟨rfl, rfl⟩
    rw [HZ.out]
    go_wp2_with fail
    have hb0 : IsBt w1 ((w1.alloc (.cells #[.string a0, .bool false] 85)).alloc (.cells #[.slice none 0 0] 88)) w1.heap.size a0 false := ⟨Nat.le_refl _, blk_alloc (blk_new w1 _) _⟩
    have hs0 : IsSz w1 ((w1.alloc (.cells #[.string a0, .bool false] 85)).alloc (.cells #[.slice none 0 0] 88)) (w1.heap.size + 1) [] := by
      refine ⟨by omega, .slice none 0 0, ?_, own_nil _ _ _ _⟩
      have := blk_new (w1.alloc (.cells #[.string a0, .bool false] 85)) (.cells #[.slice none 0 0] 88)
      rwa [World.size_alloc] at this
    have hbl : Below w1.heap.size w1 ((w1.alloc (.cells #[.string a0, .bool false] 85)).alloc (.cells #[.slice none 0 0] 88)) := below_alloc (below_alloc (Below.refl _ _) _) _
    (with_reducible refine (text_walk w1 _ w1.heap.size (w1.heap.size + 1) a0 a1 hbl hs0 hb0 hz0 hz1).mono ?_)
    rintro e w2 ⟨rfl, hi⟩
    have hi : TrI w1 w1.heap.size (w1.heap.size + 1) 0 w2 (leavesW a0 a1) := hi
    clear hb0 hs0 hbl
    have H := H.out
    generalize leavesW a0 a1 = s at hi H
    obtain ⟨rest, bad, l⟩ := s
    obtain ⟨hB, ⟨hsg, v, hsb, hso⟩, ⟨_, hbb⟩, _⟩ := hi
    simp only at hsb hso hbb H
    obtain ⟨A, c, rfl⟩ := own_slice hso
    have hc0 : w2.cell? ⟨w1.heap.size, 0, none⟩ = some (.string rest) := (blk_cell hbb 0).trans rfl
    have hc1 : w2.cell? ⟨w1.heap.size, 1, none⟩ = some (.bool bad) := (blk_cell hbb 1).trans rfl
    have hd0 : w2.cell? ⟨w1.heap.size + 1, 0, none⟩ = some (.slice A l.length c) := (blk_cell hsb 0).trans rfl
    have HB := Aside0.mk hB
    have HO := Aside0.mk hso
    clear hB hso hsb hbb hsg
    generalize (walkP twoS leafS 4 { data := #[] } a1 (a0, false, [])).1 = bw
    cases bad with
    | true =>
      rw [if_pos (.inl rfl)] at H
      obtain ⟨rfl, rfl⟩ : [] = r1 ∧ 10 = r2 := by simpa using H
      clear H
      go_wp2
      go_ret2
      exact ⟨_, rfl, Kd.R_nil _ _ _ _ _, HB.out⟩
    | false =>
      by_cases hr : rest.size = 0
      · obtain rfl : rest = { data := #[] } := by
          cases rest with | mk d =>
            have : d = #[] := by simpa [ByteArray.size] using hr
            rw [this]
        rw [if_neg (by rintro (h | h); cases h; exact h rfl)] at H
        obtain ⟨rfl, rfl⟩ : l = r1 ∧ 0 = r2 := by simpa using H
        clear H hr
        go_wp2
        go_ret2
        exact ⟨_, rfl, Kd.R_of_own HO.out (fun _ _ => trivial), HB.out⟩
      · have hem : rest.toList.isEmpty = false := by
          rw [Bool.eq_false_iff]
          intro hh
          have h1 := List.isEmpty_iff.mp hh
          rw [ByteArray.toList_eq] at h1
          have h2 := congrArg List.length h1
          rw [Array.length_toList] at h2
          exact hr h2
        rw [if_pos (.inr hr)] at H
        obtain ⟨rfl, rfl⟩ : [] = r1 ∧ 10 = r2 := by simpa using H
        clear H hr
        go_wp2
        go_ret2
        exact ⟨_, rfl, Kd.R_nil _ _ _ _ _, HB.out⟩
end Go.Proofs.Ytlebgjcpidpgnaa.P
