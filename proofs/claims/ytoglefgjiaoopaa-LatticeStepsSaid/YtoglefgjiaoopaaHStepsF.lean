/- lattice.Steps handed the law's closure: how far it goes. -/
import Derived.Test.YtoglefgjiaoopaaPx0
import Derived.Test.YtoglefgjiaoopaaPx25
import Derived.Test.YtoglefgjiaoopaaPx11
import Derived.Test.YtoglefgjiaoopaaHSteps
import Derived.Test.YtoglefgjiaoopaaHClos
namespace Go.Proofs.Ytoglefgjiaoopaa.P
open Go.RowKit Go.Proofs.YtoglefgjiaoopaaW.PrintWords Go.Proofs.YtoglefgjiaoopaaW.PrintLast Go.Proofs.YtoglefgjiaoopaaW.PrintMore Go.Proofs.Ytoglefgjiaoopaa.Pure
set_option linter.unusedVariables false
set_option linter.unusedSimpArgs false

theorem own_LSKept {w w1 : World} {gok gn b : Nat} {v v' : Value} {xs : List Value} {n : Nat} (h : w.ownsRow b 3 1 v n xs) (hk : LSKept w w1 gok gn v') (h1 : gok < b) (h2 : gn < b) (hne : ∀ k, v.ownBlock = some k → some k ≠ v'.ownBlock) : w1.ownsRow b 3 1 v n xs := by
  refine own_move h fun k hb => hk.2 k (own_lt h k hb) ?_ ?_ (hne k hb)
  · have := own_base h k hb
    omega
  · have := own_base h k hb
    omega
theorem ks_get (l : List Int) {i : Nat} (h : i < l.length) : rd (tab l.length fun j => reflW j (rd l j)) i = reflW i (rd l i) := rd_tab h
def stepsN (n : Nat) (m : Int) : Int := if m ≤ 1 then 1 else min ((n : Int) + 1) m

set_option maxHeartbeats 8000000 in
set_option maxRecDepth 100000 in
theorem stepsF_calls (w0 w : World) (A : Option Addr) (c : Nat) (l : List Int) (gok gn gl gm Bl : Nat) (m : Int) (hl : l.length ≤ 16) (hC : Kd.C (Kd.int .i64) w0 A l.length l) (hc : l.length ≤ c)
    (hS : LS w0 w A c l gok gn gl gm 0 m) (hbox : w.heap[Bl]? = some (.cells #[.slice A l.length c] 22 (0, 0))) :
    Calls Try.prog 39 #[.func (.func 18) #[] #[.pointer (some ⟨gok, 0, none⟩), .pointer (some ⟨gn, 0, none⟩), .pointer (some ⟨gl, 0, none⟩), .pointer (some ⟨gm, 0, none⟩)], .pointer (some ⟨Bl, 0, none⟩)] w
      fun e w' => e = .returned (.tuple #[]) ∧ LS w0 w' A c l gok gn gl gm (stepsN l.length m) m := by
  have hB1 : gok < w.heap.size := (Array.getElem?_eq_some_iff.1 hS.ok).1
  have hB2 : gn < w.heap.size := (Array.getElem?_eq_some_iff.1 hS.n).1
  have hB3 : gl < w.heap.size := (Array.getElem?_eq_some_iff.1 hS.l).1
  have hB4 : gm < w.heap.size := (Array.getElem?_eq_some_iff.1 hS.m).1
  have hB5 : Bl < w.heap.size := (Array.getElem?_eq_some_iff.1 hbox).1
  have hBok : Bl ≠ gok := fun e => by
    have h1 := hS.ok
    rw [← e, hbox] at h1
    cases h1
  have hBn : Bl ≠ gn := fun e => by
    have h1 := hS.n
    rw [← e, hbox] at h1
    cases h1
  have hent : ∀ (args : Array Value) (w : World), (callFunc 18 args).run Try.prog w = .ok (.enter 18 args) w := enters_of Try.func18 (by kernel_rfl) rfl
  have hcl0 := clos_calls w0 w A c l gok gn gl gm m w.heap.size (.slice none 0 0) 0 (by omega) hl hC hc hS (own_nil _ _ _ _) hB1 hB2 hB3 hB4
  rw [show ((0 : Nat) : Int) = 0 from rfl, show (0 : Int) + 1 = 1 from rfl] at hcl0
  have HCL0 := Aside0.mk hcl0
  have HB := Aside0.mk (And.intro hB1 (And.intro hB2 (And.intro hB3 (And.intro hB4 (And.intro hB5 (And.intro hBok hBn))))))
  have HBOX := Aside0.mk hbox
  have HS := Aside0.mk hS
  have HCC := Aside0.mk hC
  clear hcl0 hB1 hB2 hB3 hB4 hB5 hBok hBn hbox hS hC
  go_enter Try.func39, Try.ntmps39
  go_wp2_with fail
  (with_reducible refine HCL0.out.mono ?_)
  rintro e w1 ⟨rfl, hs1, hk1⟩
  have HS1 := Aside0.mk hs1
  have hbox1 : w1.heap[Bl]? = some (.cells #[.slice A l.length c] 22 (0, 0)) := (hk1.2 Bl HB.out.2.2.2.2.1 HB.out.2.2.2.2.2.1 HB.out.2.2.2.2.2.2 (by simp [Value.ownBlock])).trans HBOX.out
  have hcell := (blk_cell hbox1 0).trans rfl
  have HSZ := Aside0.mk hk1.1
  clear hs1 hk1 hbox1 HCL0 HBOX HS
  by_cases hm : (1 : Int) < m
  · have hd2 : decide ((1 : Int) < m) = true := decide_eq_true hm
    have hC1 := Aside0.mk (Kd.C_below HCC.out HS1.out.below)
    go_wp2_with fail
    (with_reducible refine (lattice_Reflect.calls (l.length + 1) A c l (tab l.length fun j => reflW j (rd l j)) w1 hC1.out hc (reflect_ok (by omega) (by omega))).mono ?_)
    rintro e w2 ⟨v10, rfl, hr10, hb2⟩
    have hown := Kd.own_of_R hr10
    have ho10 : w2.ownsRow w.heap.size 3 1 v10 l.length (nums .i64 (tab l.length fun j => reflW j (rd l j))) := by
      have := own_weaken hown HSZ.out
      rw [tab_length] at this
      exact this
    have HS2 := Aside0.mk (HS1.out.keep hb2)
    have HSZ2 := Aside0.mk (Nat.le_trans HSZ.out hb2.size)
    obtain ⟨A10, c10, rfl, hle10⟩ : ∃ A10 c10, v10 = .slice A10 l.length c10 ∧ l.length ≤ c10 := by
      have := owns_readsI hown
      rw [tab_length] at this
      obtain ⟨A10, c10, h1, h2, _⟩ := this
      exact ⟨A10, c10, h1, h2⟩
    have HO10 := Aside0.mk ho10
    clear hr10 hown ho10 hb2 hcell HS1 HSZ hC1
    have HM := Aside0.mk hm
    go_wp2
    go_loopg [3, 12] l.length (fun kq v3 v12 wr => ∃ (i : Nat), v12 = .int .i64 i ∧ kq + i = l.length ∧ Aside0 ((i : Int) + 1 < m) ∧ Aside0 (wr.ownsRow w.heap.size 3 1 v3 (cz l i).length (nums .i64 (cz l i)))
      ∧ Aside0 (LS w0 wr A c l gok gn gl gm ((i : Int) + 1) m) ∧ Aside0 (wr.ownsRow w.heap.size 3 1 (.slice A10 l.length c10) l.length (nums .i64 (tab l.length fun j => reflW j (rd l j)))) ∧ Aside0 (w.heap.size ≤ wr.heap.size))
    case atStart => exact ⟨0, rfl, by omega, ⟨by have := HM.out; omega⟩, ⟨own_nil _ _ _ _⟩, HS2, HO10, HSZ2⟩
    case round =>
      clear HS2 HO10 HSZ2
      obtain ⟨i, rfl, hi, HI, HA, HS, HK, HZ⟩ := hrel
      by_cases hlt : i < l.length
      · have hme : gk - 1 < gk := by omega
        have HME := Aside0.mk (show gk - 1 + (i + 1) = l.length by omega)
        have hdec : decide ((i : Int) < (l.length : Int)) = true := decide_eq_true (by omega)
        have hdecn : decide (i < l.length) = true := decide_eq_true hlt
        have hp0 : (0 ≤ (i : Int)) = True := eq_true (by omega)
        have hp1 : ((i : Int) < (l.length : Int)) = True := eq_true (by omega)
        have hp2 : (i < l.length) = True := eq_true hlt
        have HW1 := Aside0.mk (show wrap64 ((i : Int) + 1) = (i : Int) + 1 from w64 (by omega) (by omega))
        have hupl : (cz l i).length ≤ 1000000000 := by rw [cz_length]; omega
        have HUP : Aside0 (lattice_up.f ((cz l i).length + 1) (cz l i) (reflW i (rd l i)) = some (cz l (i + 1))) := ⟨up_ok (a := cz l i) (reflW i (rd l i)) hupl (by omega)⟩
        have hcz1 : (cz l (i + 1)).length ≤ 1000000000 := by rw [cz_length]; omega
        have HI1 := Aside0.mk (show i + 1 ≤ l.length by omega)
        obtain ⟨A3, c3, rfl, hle3, hC3⟩ := owns_readsI HA.out
        have hk' := HK.out
        have htl : (tab l.length fun j => reflW j (rd l j)).length = l.length := tab_length _ _
        obtain ⟨A10', c10', he10, hle10', hC10⟩ := owns_readsI (w := wr) (l := tab l.length fun j => reflW j (rd l j)) (v := .slice A10 l.length c10) (by rw [htl]; exact hk')
        rw [htl] at he10
        obtain ⟨ad, had, hcell⟩ := Kd.at_int hC10 (i : Int) (by omega) (by rw [htl]; omega)
        cases he10
        subst had
        have hC3' := Aside0.mk hC3
        rw [ks_get l hlt, Int.toNat_natCast] at hcell
        clear hk' hC10 hC3 htl hupl
        go_wp2_with fail
        (with_reducible refine (lattice_up.calls ((cz l i).length + 1) A3 c3 (cz l i) (reflW i (rd l i)) (cz l (i + 1)) wr hC3'.out hle3 HUP.out).mono ?_)
        rintro e w2 ⟨vb, rfl, hrb, hb2⟩
        have hownb := Kd.own_of_R hrb
        have hob : w2.ownsRow w.heap.size 3 1 vb (cz l (i + 1)).length (nums .i64 (cz l (i + 1))) := own_weaken hownb HZ.out
        obtain ⟨A4, c4, rfl, hle4, hC4⟩ := owns_readsI hob
        have HOB := Aside0.mk hob
        have HS2 := Aside0.mk (HS.out.keep hb2)
        have HK2 := Aside0.mk (own_below HK.out hb2)
        have HZ2 := Aside0.mk (Nat.le_trans HZ.out hb2.size)
        clear hrb hownb hob hb2 hcell HA HS HK HZ HUP hC3'
        go_wp2_with fail
        (with_reducible refine (cloneI_calls A4 c4 (cz l (i + 1)) w2 hC4 hle4 hcz1).mono ?_)
        rintro e w3 ⟨vc, rfl, hoc, hb3⟩
        have HOB3 := Aside0.mk (own_below HOB.out hb3)
        have HK3 := Aside0.mk (own_below HK2.out hb3)
        have HZ3 := Aside0.mk (Nat.le_trans HZ2.out hb3.size)
        have HS3 := Aside0.mk (HS2.out.keep hb3)
        have hfr : ∀ {v : Value} {n : Nat} {xs : List Value}, w2.ownsRow w.heap.size 3 1 v n xs → ∀ k, v.ownBlock = some k → some k ≠ vc.ownBlock := by
          intro v n xs hv k hk he
          have h1 := own_lt hv k hk
          have h2 := own_base hoc k he.symm
          omega
        have HF1 := Aside0.mk (hfr HOB.out)
        have HF2 := Aside0.mk (hfr HK2.out)
        have hs3 := HS3.out
        rw [show (i : Int) + 1 = ((i + 1 : Nat) : Int) from rfl] at hs3
        have hcl := clos_calls w0 w3 A c l gok gn gl gm m w.heap.size vc (i + 1) HI1.out hl HCC.out hc hs3 (own_weaken hoc HZ2.out) HB.out.1 HB.out.2.1 HB.out.2.2.1 HB.out.2.2.2.1
        rw [show ((i + 1 : Nat) : Int) = (i : Int) + 1 from rfl] at hcl
        have HCL := Aside0.mk hcl
        clear hoc hb3 HOB HK2 HS2 HZ2 hC4 hs3 hcl hfr
        go_wp2_with fail
        (with_reducible refine HCL.out.mono ?_)
        rintro e w4 ⟨rfl, hs4, hk4⟩
        have HOB4 := Aside0.mk (own_LSKept HOB3.out hk4 HB.out.1 HB.out.2.1 HF1.out)
        have HK4 := Aside0.mk (own_LSKept HK3.out hk4 HB.out.1 HB.out.2.1 HF2.out)
        have HZ4 := Aside0.mk (Nat.le_trans HZ3.out hk4.1)
        have HS4 := Aside0.mk hs4
        clear hs4 hk4 HOB3 HK3 HZ3 HS3 HCL
        by_cases hm2 : (i : Int) + 1 + 1 < m
        · have HM2 := Aside0.mk hm2
          have hd3 : decide ((i : Int) + 1 + 1 < m) = true := decide_eq_true hm2
          rw [hd3]
          clear hm2
          go_wp2
          go_roundg (gk - 1)
          case measure => exact hme
          case rel => exact ⟨i + 1, by first | rfl | (rw [HW1.out]; rfl), HME.out, HM2, HOB4, HS4, HK4, HZ4⟩
        · have HN := Aside0.mk (show stepsN l.length m = (i : Int) + 1 + 1 by
            unfold stepsN
            have h1 := HI.out
            have h2 := HI1.out
            rw [if_neg (by omega)]
            omega)
          have hd3 : decide ((i : Int) + 1 + 1 < m) = false := decide_eq_false hm2
          rw [hd3]
          clear hm2
          go_wp2
          refine bodyPost_ret (results_none rfl _ _ _) rfl ?_
          have := HS4.out
          exact ⟨rfl, by rw [HN.out]; exact this⟩
      · have HN := Aside0.mk (show stepsN l.length m = (i : Int) + 1 by
          unfold stepsN
          have h1 := HI.out
          rw [if_neg (by omega)]
          omega)
        have hdec : decide ((i : Int) < (l.length : Int)) = false := decide_eq_false (by omega)
        have hdecn : decide (i < l.length) = false := decide_eq_false hlt
        go_wp2
        go_end0
        have := HS.out
        exact ⟨rfl, by rw [HN.out]; exact this⟩
  · have hd2 : decide ((1 : Int) < m) = false := decide_eq_false hm
    have hN : Aside0 (stepsN l.length m = 1) := ⟨by unfold stepsN; rw [if_pos (by omega)]⟩
    go_wp2
    refine bodyPost_ret (results_none rfl _ _ _) rfl ?_
    have := HS1.out
    exact ⟨rfl, by rw [hN.out]; exact this⟩
end Go.Proofs.Ytoglefgjiaoopaa.P
