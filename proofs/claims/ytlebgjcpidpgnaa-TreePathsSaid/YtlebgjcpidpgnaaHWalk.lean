/- The contract of layer 9's walk through a tree, over any two closures: tree.walker.walk. -/
import Derived.Test.YtlebgjcpidpgnaaPx0
import Derived.Test.YtlebgjcpidpgnaaHTree
import Derived.RegionTactic
import Derived.BigRegion
import Derived.Deep.RegionWith
namespace Go.Proofs.Ytlebgjcpidpgnaa.P
open Go.RowKit Go.Proofs.YtlebgjcpidpgnaaW.PrintWords Go.Proofs.YtlebgjcpidpgnaaW.PrintLast Go.Proofs.YtlebgjcpidpgnaaW.PrintMore
set_option linter.unusedVariables false
set_option linter.unusedSimpArgs false

/-- May a tree of a size be two? -/
def mayT (z n : Int) : Bool := decide (0 < n) && (decide (z % 32 = 0) && decide (0 < z))
set_option maxHeartbeats 4000000 in
set_option maxRecDepth 100000 in
theorem may_calls (z n : Int) (w : World) (h0 : 0 ≤ z) (h1 : z ≤ 1024) (hn0 : 0 ≤ n) (hn : n ≤ 4) :
    Calls Try.prog 78 #[.int .i64 z, .int .i64 n] w (fun e w' => e = .returned (.bool (mayT z n)) ∧ w' = w) := by
  go_enter Try.func78, Try.ntmps78
  go_wp2
  all_goals go_ret
  all_goals refine ⟨?_, rfl⟩
  all_goals simp [*, mayT]
  all_goals omega
/-- What a walk computes. -/
def walkP {σ : Type} (two leaf : ByteArray → Int → σ → Bool × σ) : Nat → ByteArray → Int → σ → Bool × σ
  | 0, p, z, s => leaf p z s
  | n + 1, p, z, s => if mayT z ((n : Int) + 1) = true then
      (if (two p z s).1 = true then
        (if (walkP two leaf n (p ++ { data := #[48] }) (z / 2) (two p z s).2).1 = true then walkP two leaf n (p ++ { data := #[49] }) (z / 2) (walkP two leaf n (p ++ { data := #[48] }) (z / 2) (two p z s).2).2
        else (false, (walkP two leaf n (p ++ { data := #[48] }) (z / 2) (two p z s).2).2))
      else leaf p z (two p z s).2)
    else leaf p z s
theorem size_one (p : ByteArray) (c : UInt8) : (p ++ ({ data := #[c] } : ByteArray)).size = p.size + 1 := by
  rw [ByteArray.size_append]
  rfl
/-- How much a walk may ask and tell. -/
def wc : Nat → Nat
  | 0 => 1
  | n + 1 => wc n + wc n + 1
theorem wc_pos : ∀ n, 1 ≤ wc n
  | 0 => Nat.le_refl _
  | n + 1 => by unfold wc; omega
/-- A closure's contract over a state. -/
def Asks {σ : Type} (I : Nat → World → σ → Prop) (a F : Nat) (v : Value) (f : ByteArray → Int → σ → Bool × σ) : Prop :=
  ∀ (k : Nat) (w : World) (s : σ) (p : ByteArray) (z : Int), I (k + a) w s → Calls Try.prog F #[v, .string p, .int .i64 z] w (fun e w' => e = .returned (.bool (f p z s).1) ∧ I k w' (f p z s).2 ∧ KeepW w w')

set_option maxHeartbeats 4000000 in
set_option maxRecDepth 100000 in
theorem walk_any {σ : Type} (I : Nat → World → σ → Prop) (hI : ∀ k w w' s, Below w.heap.size w w' → I k w s → I k w' s) (hD : ∀ (k j : Nat) w s, j ≤ k → I k w s → I j w s) (two leaf : ByteArray → Int → σ → Bool × σ) (F2 F3 : Nat) (v2 v3 : Value) (h2 : Asks I 1 F2 v2 two) (h3 : Asks I 1 F3 v3 leaf)
    (e2 : ∀ (args : Array Value) (w : World), (callFunc F2 args).run Try.prog w = .ok (.enter F2 args) w) (e3 : ∀ (args : Array Value) (w : World), (callFunc F3 args).run Try.prog w = .ok (.enter F3 args) w) :
    ∀ (n k : Nat) (s : σ) (w : World) (p : ByteArray) (z m : Int), I (k + wc n) w s → 0 ≤ z → z ≤ 1024 → Aside0 (m = (n : Int)) → m ≤ 4 → p.size + n ≤ 100 →
      Calls Try.prog 49 #[.agg #[.func (.func F2) #[v2] #[], .func (.func F3) #[v3] #[]], .string p, .int .i64 z, .int .i64 m] w (fun e w' => e = .returned (.bool (walkP two leaf n p z s).1) ∧ I k w' (walkP two leaf n p z s).2 ∧ KeepW w w') := by
  unfold Asks at h2 h3
  intro n
  induction n with
  | zero =>
    intro k s w p z m hi h0 h1 HM hn hp
    have hm0 : 0 ≤ m := by have := HM.out; omega
    go_enter Try.func49, Try.ntmps49
    have hw : walkP two leaf 0 p z s = leaf p z s := rfl
    rw [hw]
    have hm : mayT z m = false := by rw [HM.out]; simp [mayT]
    go_wp2_with fail
    (with_reducible refine (may_calls z m _ h0 h1 hm0 hn).mono ?_)
    rintro e w1 ⟨rfl, rfl⟩
    rw [hm]
    have hK0 : KeepW w (w.alloc (.cells #[.func (.func F2) #[v2] #[], .func (.func F3) #[v3] #[]] 90)) := KeepW.below (below_alloc (Below.refl _ _) _)
    have hI1 := hI _ _ (w.alloc (.cells #[.func (.func F2) #[v2] #[], .func (.func F3) #[v3] #[]] 90)) _ (below_alloc (Below.refl _ _) _) hi
    go_wp2_with fail
    (with_reducible refine (h3 k _ s p z (hD _ _ _ _ (show k + 1 ≤ k + wc 0 from Nat.le_refl _) hI1)).mono ?_)
    rintro e w1 ⟨rfl, hi1, hk1⟩
    go_wp2
    go_ret
    exact ⟨rfl, hi1, hK0.trans hk1⟩
  | succ n ih =>
    intro k s w p z m hi h0 h1 HM hn hp
    have hm0 : 0 ≤ m := by have := HM.out; omega
    have hp2 : wc (n + 1) = wc n + wc n + 1 := rfl
    have hp1 := wc_pos n
    have HT2 := Aside0.mk (show (k + wc n + wc n) + 1 ≤ k + wc (n + 1) by omega)
    have HPW := Aside0.mk (show k + 1 ≤ k + wc (n + 1) by omega)
    have HPL := Aside0.mk (show k + 1 ≤ k + wc n + wc n by omega)
    have HPY := Aside0.mk (show k ≤ k + wc n by omega)
    clear hp2 hp1
    cases hm : mayT z m with
    | false =>
      have hw : walkP two leaf (n + 1) p z s = leaf p z s := by
        rw [HM.out] at hm
        simp only [walkP]
        rw [if_neg (by rw [Int.natCast_add] at hm; rw [show ((n : Int) + 1) = (n : Int) + ((1 : Nat) : Int) from rfl, hm]; simp)]
      rw [hw]
      go_enter Try.func49, Try.ntmps49
      go_wp2_with fail
      (with_reducible refine (may_calls z m _ h0 h1 hm0 hn).mono ?_)
      rintro e w1 ⟨rfl, rfl⟩
      rw [hm]
      have hK0 : KeepW w (w.alloc (.cells #[.func (.func F2) #[v2] #[], .func (.func F3) #[v3] #[]] 90)) := KeepW.below (below_alloc (Below.refl _ _) _)
      have hI1 := hI _ _ (w.alloc (.cells #[.func (.func F2) #[v2] #[], .func (.func F3) #[v3] #[]] 90)) _ (below_alloc (Below.refl _ _) _) hi
      go_wp2_with fail
      (with_reducible refine (h3 k _ s p z (hD _ _ _ _ HPW.out hI1)).mono ?_)
      rintro e w1 ⟨rfl, hi1, hk1⟩
      go_wp2
      go_ret
      exact ⟨rfl, hi1, hK0.trans hk1⟩
    | true =>
      have HMT := Aside0.mk hm
      have HK0 := Aside0.mk (show KeepW w (w.alloc (.cells #[.func (.func F2) #[v2] #[], .func (.func F3) #[v3] #[]] 90)) from KeepW.below (below_alloc (Below.refl _ _) _))
      have HBX := Aside0.mk (blk_new w (.cells #[.func (.func F2) #[v2] #[], .func (.func F3) #[v3] #[]] 90))
      have HI0 := Aside0.mk (hI _ _ (w.alloc (.cells #[.func (.func F2) #[v2] #[], .func (.func F3) #[v3] #[]] 90)) _ (below_alloc (Below.refl _ _) _) hi)
      have hwalk : walkP two leaf (n + 1) p z s = if (two p z s).1 = true then
        (if (walkP two leaf n (p ++ { data := #[48] }) (z / 2) (two p z s).2).1 = true then walkP two leaf n (p ++ { data := #[49] }) (z / 2) (walkP two leaf n (p ++ { data := #[48] }) (z / 2) (two p z s).2).2
        else (false, (walkP two leaf n (p ++ { data := #[48] }) (z / 2) (two p z s).2).2))
      else leaf p z (two p z s).2 := by
        rw [HM.out] at hm
        have hm : mayT z ((n : Int) + 1) = true := hm
        simp only [walkP]
        rw [if_pos hm]
      rw [hwalk]
      clear hwalk hm
      rcases ht : two p z s with ⟨b, s1⟩
      have HT := Aside0.mk ht
      clear ht
      simp only
      cases b with
      | false =>
        rw [if_neg (by simp)]
        go_enter Try.func49, Try.ntmps49
        go_wp2_with fail
        (with_reducible refine (may_calls z m _ h0 h1 hm0 hn).mono ?_)
        rintro e w1 ⟨rfl, rfl⟩
        rw [HMT.out]
        go_wp2_with fail
        (with_reducible refine (h2 (k + wc n + wc n) _ s p z (hD _ _ _ _ HT2.out HI0.out)).mono ?_)
        rintro e w1 ⟨rfl, hi1, hk1⟩
        rw [HT.out] at hi1 ⊢
        have hbx1 := hk1 _ _ HBX.out
        have HK1 := Aside0.mk (HK0.out.trans hk1)
        have hc0 : w1.cell? ⟨w.heap.size, 0, none⟩ = some (.func (.func F2) #[v2] #[]) := (blk_cell hbx1 0).trans rfl
        have hc1 : w1.cell? ⟨w.heap.size, 1, none⟩ = some (.func (.func F3) #[v3] #[]) := (blk_cell hbx1 1).trans rfl
        have HI1 := Aside0.mk hi1
        have HBX1 := Aside0.mk hbx1
        clear hbx1 hi1 hk1
        go_wp2_with fail
        (with_reducible refine (h3 k _ s1 p z (hD _ _ _ _ HPL.out HI1.out)).mono ?_)
        rintro e w2 ⟨rfl, hi2, hk2⟩
        go_wp2
        go_ret
        exact ⟨rfl, hi2, HK1.out.trans hk2⟩
      | true =>
        rw [if_pos rfl]
        have hsz : ((p.size : Int) + 1) ≤ 1000 := by omega
        have HM1 := Aside0.mk (show m - 1 = (n : Int) by have := HM.out; omega)
        rcases hr : walkP two leaf n (p ++ { data := #[48] }) (z / 2) s1 with ⟨b1, s2⟩
        have HR := Aside0.mk hr
        clear hr
        simp only
        cases b1 with
        | false =>
          rw [if_neg (by simp)]
          go_enter Try.func49, Try.ntmps49
          go_wp2_with fail
          (with_reducible refine (may_calls z m _ h0 h1 hm0 hn).mono ?_)
          rintro e w1 ⟨rfl, rfl⟩
          rw [HMT.out]
          go_wp2_with fail
          (with_reducible refine (h2 (k + wc n + wc n) _ s p z (hD _ _ _ _ HT2.out HI0.out)).mono ?_)
          rintro e w1 ⟨rfl, hi1, hk1⟩
          rw [HT.out] at hi1 ⊢
          have hbx1 := hk1 _ _ HBX.out
          have HK1 := Aside0.mk (HK0.out.trans hk1)
          have hc0 : w1.cell? ⟨w.heap.size, 0, none⟩ = some (.func (.func F2) #[v2] #[]) := (blk_cell hbx1 0).trans rfl
          have hc1 : w1.cell? ⟨w.heap.size, 1, none⟩ = some (.func (.func F3) #[v3] #[]) := (blk_cell hbx1 1).trans rfl
          have HI1 := Aside0.mk hi1
          have HBX1 := Aside0.mk hbx1
          clear hbx1 hi1 hk1
          go_wp2_with fail
          (with_reducible refine (ih (k + wc n) s1 w1 (p ++ { data := #[48] }) (z / 2) (m - 1) HI1.out (by omega) (by omega) HM1 (by omega) (by rw [size_one]; omega)).mono ?_)
          rintro e w2 ⟨rfl, hi2, hk2⟩
          rw [HR.out] at hi2 ⊢
          go_wp2
          go_ret
          exact ⟨rfl, hD _ _ _ _ HPY.out hi2, HK1.out.trans hk2⟩
        | true =>
          rw [if_pos rfl]
          go_enter Try.func49, Try.ntmps49
          go_wp2_with fail
          (with_reducible refine (may_calls z m _ h0 h1 hm0 hn).mono ?_)
          rintro e w1 ⟨rfl, rfl⟩
          rw [HMT.out]
          go_wp2_with fail
          (with_reducible refine (h2 (k + wc n + wc n) _ s p z (hD _ _ _ _ HT2.out HI0.out)).mono ?_)
          rintro e w1 ⟨rfl, hi1, hk1⟩
          rw [HT.out] at hi1 ⊢
          have hbx1 := hk1 _ _ HBX.out
          have HK1 := Aside0.mk (HK0.out.trans hk1)
          have hc0 : w1.cell? ⟨w.heap.size, 0, none⟩ = some (.func (.func F2) #[v2] #[]) := (blk_cell hbx1 0).trans rfl
          have hc1 : w1.cell? ⟨w.heap.size, 1, none⟩ = some (.func (.func F3) #[v3] #[]) := (blk_cell hbx1 1).trans rfl
          have HI1 := Aside0.mk hi1
          have HBX1 := Aside0.mk hbx1
          clear hbx1 hi1 hk1
          go_wp2_with fail
          (with_reducible refine (ih (k + wc n) s1 w1 (p ++ { data := #[48] }) (z / 2) (m - 1) HI1.out (by omega) (by omega) HM1 (by omega) (by rw [size_one]; omega)).mono ?_)
          rintro e w2 ⟨rfl, hi2, hk2⟩
          rw [HR.out] at hi2 ⊢
          have hbx2 := hk2 _ _ HBX1.out
          have hd0 : w2.cell? ⟨w.heap.size, 0, none⟩ = some (.func (.func F2) #[v2] #[]) := (blk_cell hbx2 0).trans rfl
          have hd1 : w2.cell? ⟨w.heap.size, 1, none⟩ = some (.func (.func F3) #[v3] #[]) := (blk_cell hbx2 1).trans rfl
          have HI2 := Aside0.mk hi2
          have HK2 := Aside0.mk (HK1.out.trans hk2)
          clear hi2 hk2 hbx2 hc0 hc1
          go_wp2_with fail
          (with_reducible refine (ih k s2 w2 (p ++ { data := #[49] }) (z / 2) (m - 1) HI2.out (by omega) (by omega) HM1 (by omega) (by rw [size_one]; omega)).mono ?_)
          rintro e w3 ⟨rfl, hi3, hk3⟩
          go_wp2
          go_ret
          exact ⟨rfl, hi3, HK2.out.trans hk3⟩
end Go.Proofs.Ytlebgjcpidpgnaa.P
