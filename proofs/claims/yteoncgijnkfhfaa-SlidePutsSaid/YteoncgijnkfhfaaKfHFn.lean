/- Contracts of slices.IndexFunc and slices.ContainsFunc over whole numbers, for a predicate that is a function of the program's. -/
import Derived.Test.YteoncgijnkfhfaaKfPx0
import Derived.Shelf.Abstract
namespace Go.Proofs.Yteoncgijnkfhfaa.P
open Go.RowKit Go.Proofs.YteoncgijnkfhfaaW.PrintWords Go.Proofs.YteoncgijnkfhfaaW.PrintLast Go.Proofs.YteoncgijnkfhfaaW.PrintMore

theorem take_succ_rd (l : List Int) (k : Nat) (h : k < l.length) : l.take (k + 1) = l.take k ++ [rd l k] := by
  rw [List.take_succ_eq_append_getElem h]
  simp [rd, List.getD, h]

theorem drawn0_trans {w w1 w2 : World} (h : Drawn0 w w1) (k : Drawn0 w1 w2) : Drawn0 w w2 := by
  obtain ⟨n, rfl⟩ := k.out
  exact h.step n

set_option maxHeartbeats 4000000 in
set_option maxRecDepth 100000 in
theorem indexFunc_calls (g : Nat) (p : Int → Bool) (hE : ∀ (args : Array Value) (w : World), (callFunc g args).run Try.prog w = .ok (.enter g args) w) (hg : ∀ x W, Calls Try.prog g #[.int .i64 x] W fun e w' => e = .returned (.bool (p x)) ∧ Drawn0 W w')
    (A : Option Addr) (c : Nat) (l : List Int) (w : World) (hr : Kd.C (Kd.int .i64) w A l.length l) (hc : l.length ≤ c) (hm : l.length ≤ 140737488355328) :
    Calls Try.prog 60 #[.slice A l.length c, .func (.func g) #[] #[]] w fun e w' => (∃ n : Int, e = .returned (.int .i64 n) ∧ Aside0 (decide (0 ≤ n) = l.any p)) ∧ Drawn0 w w' := by
  have HR := Aside0.mk hr
  have HC := Aside0.mk hc
  have HD := Aside0.mk (Drawn0.refl w)
  clear hr hc
  go_enter Try.func60, Try.ntmps60
  go_wp2
  go_loopw [5, 8] (fun _ v8 wr => ∃ k : Nat, v8 = .int .i64 k ∧ k ≤ l.length ∧ Aside0 ((l.take k).any p = false) ∧ Aside0 (Drawn0 w wr)) (fun _ v8 _ => l.length - (intOf v8).toNat)
  case atStart => exact ⟨0, rfl, Nat.zero_le _, ⟨by simp⟩, HD⟩
  case round =>
    clear HD
    obtain ⟨k, rfl, hk, HA, HD⟩ := hrel
    by_cases hlt : k < l.length
    · obtain ⟨ad, e, hx⟩ := Kd.at_int HR.out (k : Int) (by omega) (by omega)
      cases e
      replace hx := (HD.out.below.cell (World.block_lt_of_cell? w _ hx)).trans hx
      rw [Int.toNat_natCast] at hx
      have HT := take_succ_rd l k hlt
      have HTs := Aside0.mk HT
      clear HT
      cases hp : p (rd l k) with
      | true =>
        have HP := Aside0.mk hp
        clear hp
        go_wp2_with ((with_reducible refine (hg _ _).mono ?_); rintro e w' ⟨rfl, hd⟩; rw [HP.out])
        go_ret
        refine ⟨⟨k, rfl, ⟨?_⟩⟩, ?_⟩
        · have : l.any p = true := List.any_eq_true.mpr ⟨rd l k, by simp [rd, List.getD, hlt], HP.out⟩
          rw [this]
          simp
        · exact drawn0_trans HD.out hd
      | false =>
        have HP := Aside0.mk hp
        clear hp
        go_wp2_with ((with_reducible refine (hg _ _).mono ?_); rintro e w' ⟨rfl, hd⟩; rw [HP.out])
        go_roundw
        case rel =>
          refine ⟨k + 1, by go_num, by omega, ⟨?_⟩, ⟨drawn0_trans HD.out hd⟩⟩
          rw [HTs.out, List.any_append, HA.out]
          simp [HP.out]
        case measure => simp [intOf]; omega
    · have hkl : k = l.length := by omega
      subst hkl
      go_wp2
      go_ret
      exact ⟨⟨-1, rfl, ⟨by have := HA.out; rw [List.take_length] at this; rw [this]; rfl⟩⟩, HD.out⟩

set_option maxHeartbeats 4000000 in
set_option maxRecDepth 100000 in
theorem containsFunc_calls (g : Nat) (p : Int → Bool) (hE : ∀ (args : Array Value) (w : World), (callFunc g args).run Try.prog w = .ok (.enter g args) w) (hg : ∀ x W, Calls Try.prog g #[.int .i64 x] W fun e w' => e = .returned (.bool (p x)) ∧ Drawn0 W w')
    (A : Option Addr) (c : Nat) (l : List Int) (w : World) (hr : Kd.C (Kd.int .i64) w A l.length l) (hc : l.length ≤ c) (hm : l.length ≤ 140737488355328) :
    Calls Try.prog 35 #[.slice A l.length c, .func (.func g) #[] #[]] w fun e w' => e = .returned (.bool (l.any p)) ∧ Drawn0 w w' := by
  go_enter Try.func35, Try.ntmps35
  go_wp2_with (go_at_call 60; (with_reducible refine (indexFunc_calls g p hE hg A c l _ hr hc hm).mono ?_); rintro e w' ⟨⟨n, rfl, hn⟩, hd⟩)
  go_ret
  exact ⟨by rw [← hn.out]; rfl, hd⟩
end Go.Proofs.Yteoncgijnkfhfaa.P
