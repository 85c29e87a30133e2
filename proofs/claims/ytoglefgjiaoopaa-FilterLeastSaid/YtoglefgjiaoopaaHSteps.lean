/- lattice.Steps: what it yields, step by step. -/
import Derived.Test.YtoglefgjiaoopaaPx0
import Derived.Test.YtoglefgjiaoopaaPx1
import Derived.Test.YtoglefgjiaoopaaHCloneI
import Derived.Test.YtoglefgjiaoopaaHRange
import Derived.Sort.LoopGhostIn
namespace Go.Proofs.Ytoglefgjiaoopaa.P
open Go Go.RowKit Go.Proofs.YtoglefgjiaoopaaW.PrintWords Go.Proofs.YtoglefgjiaoopaaW.PrintLast Go.Proofs.YtoglefgjiaoopaaW.PrintMore
set_option linter.unusedVariables false
set_option linter.unusedSimpArgs false
attribute [local go_sem] Oper.semAt_some

/-- The coefficients behind each reflection more. -/
def stepsL (k : Nat) : List Int → List Int → Option (List (List Int))
  | _, [] => some []
  | a, x :: ks => (lattice_up.f k a x).bind fun b => if b.length ≤ 1000000000 then (stepsL k b ks).bind fun r => some (b :: r) else none
theorem stepsL_mono (k : Nat) : ∀ (ks a : List Int), LeO (stepsL k a ks) (stepsL (k + 1) a ks) := by
  intro ks
  induction ks with
  | nil => intro a; exact LeO.refl _
  | cons x ks ih => intro a; exact LeO.bind (lattice_up.mono _ _ _) (fun b => LeO.ite (LeO.bind (ih b) (fun _ => LeO.refl _)) (LeO.refl _))
theorem wrap64_id {x : Int} (h1 : -9223372036854775808 ≤ x) (h2 : x ≤ 9223372036854775807) : wrap64 x = x := by unfold wrap64; omega
theorem own_below {w w' : World} {B e size n : Nat} {v : Value} {xs : List Value} (h : w.ownsRow B e size v n xs) (hb : Below w.heap.size w w') : w'.ownsRow B e size v n xs :=
  own_move h fun k hk => hb.block k (own_lt h k hk)
theorem own_but {w w1 : World} {X base : Nat} {e : TypeId} {size n : Nat} {v : Value} {xs : List Value} (h : w.ownsRow base e size v n xs) (hb : CellsBut X w w1) (hX : X < base) : w1.ownsRow base e size v n xs := by
  refine own_move h fun k hk => ?_
  obtain ⟨cells, hc⟩ := own_typed h k hk
  have := own_base h k hk
  exact (hb.2 k _ (by omega) hc rfl).trans hc.symm

set_option maxHeartbeats 8000000 in
set_option maxRecDepth 100000 in
theorem steps1_seq (k n : Nat) (hn : 1 ≤ n) (A : Option Addr) (c : Nat) (l ks : List Int) (r : List (List Int)) (w0 w : World) (Bl X b0 : Nat)
    (hbox : w.heap[Bl]? = some (.cells #[.slice A l.length c] 22 (0, 0))) (hBX : Bl ≠ X) (hC : Kd.C (Kd.int .i64) w0 A l.length l) (hc : l.length ≤ c)
    (hb : Below w0.heap.size w0 w) (hX : w0.heap.size ≤ X) (hXw : X < w.heap.size) (hb0 : b0 ≤ w.heap.size) (hks : lattice_Reflect.f k l = some ks) (hkl : ks.length ≤ 1000000000) (hr : stepsL k [] ks = some r) :
    SeqM Fence.wide n Try.prog 39 #[.pointer (some ⟨Bl, 0, none⟩)] X (fun x : Int × Value × List Int => #[.int .i64 x.1, x.2.1])
      (fun x W => W.ownsRow b0 3 1 x.2.1 x.2.2.length (nums .i64 x.2.2)) (fun xs => xs.map (fun x => x.2.2) = [] :: r) w := by
  intro lp J W hW hJ hY h0
  refine callsIn_of_wp Try.func39 rfl trivial ?_ rfl
  simp only [Try.ntmps39, List.size_toArray, List.length_cons, List.length_nil, Nat.reduceAdd, Nat.reduceSub, Array.replicate_succ, Array.replicate_zero, List.push_toArray, List.append_toArray, List.nil_append, List.cons_append]
  have hY0 := hY [] (0, .slice none 0 0, []) W h0 (own_nil _ _ _ _)
  obtain ⟨fn, tm, cas, bd, hy, hR⟩ := hY0
  dsimp only at hy
  have HY := Aside0.mk hY
  have HJ := Aside0.mk hJ
  clear hY hJ
  gi_wp2
  refine hR.mono ?_
  rintro e W1 ⟨rfl, hJ1, hk1⟩
  have hbl : Bl < w.heap.size := (Array.getElem?_eq_some_iff.1 hbox).1
  have hbox1 : W1.heap[Bl]? = some (.cells #[.slice A l.length c] 22 (0, 0)) := hk1.2 Bl _ hBX ((hW.block Bl hbl).trans hbox) rfl
  have hcell := (blk_cell hbox1 0).trans rfl
  have hB1 : Below w0.heap.size w0 W1 := (hb.trans (hW.mono hb.size)).trans (hk1.1.mono hX)
  have hC1 := Kd.C_below hC hB1
  have hsW : w.heap.size ≤ W1.heap.size := Nat.le_trans hW.size hk1.1.size
  clear hy hR
  gi_wp2_with fail
  refine ⟨trivial, (callsIn_wide.2 (lattice_Reflect.calls k A c l ks W1 hC1 hc hks)).mono ?_⟩
  rintro e W2 ⟨v10, rfl, hr10, hb2⟩
  have hJ2 := HJ.out _ _ _ hJ1 hb2
  have hown := Kd.own_of_R hr10
  have ho10 : W2.ownsRow w.heap.size 3 1 v10 ks.length (nums .i64 ks) := own_weaken hown hsW
  obtain ⟨A10, c10, rfl, hle10, _⟩ := owns_readsI ho10
  have HO10 := Aside0.mk ho10
  have HJ2 := Aside0.mk hJ2
  have HS2 := Aside0.mk (Nat.le_trans hsW hb2.size)
  clear hr10 hown ho10 hb2 hJ1 hJ2 hcell hC1 hbox1 h0 hW hk1 hB1 hsW
  gi_wp2
  gi_loopg [3, 12] ks.length (fun kq v3 v12 wr => ∃ (a : List Int) (i : Nat) (pre : List (Int × Value × List Int)) (rest : List (List Int)), v12 = .int .i64 i ∧ kq + i = ks.length ∧ Aside0 (stepsL k a (ks.drop i) = some rest) ∧ Aside0 (wr.ownsRow w.heap.size 3 1 v3 a.length (nums .i64 a))
      ∧ Aside0 (J pre wr) ∧ Aside0 (pre.map (fun x => x.2.2) ++ rest = [] :: r) ∧ Aside0 (wr.ownsRow w.heap.size 3 1 (.slice A10 ks.length c10) ks.length (nums .i64 ks)) ∧ Aside0 (w.heap.size ≤ wr.heap.size))
  case atStart => exact ⟨[], 0, [(0, .slice none 0 0, [])], r, rfl, by omega, ⟨hr⟩, ⟨own_nil _ _ _ _⟩, HJ2, ⟨rfl⟩, HO10, HS2⟩
  case round =>
    clear HO10 HJ2 HS2
    obtain ⟨a, i, pre, rest, rfl, hi, HR, HA, HJ', HP, HK, HS⟩ := hrel
    by_cases hlt : i < ks.length
    · have hd : ks.drop i = ks[i] :: ks.drop (i + 1) := List.drop_eq_getElem_cons hlt
      have hr' := HR.out
      rw [hd, stepsL] at hr'
      obtain ⟨b, hb', hr'⟩ := Option.bind_eq_some_iff.mp hr'
      by_cases hbl : b.length ≤ 1000000000
      · rw [if_pos hbl] at hr'
        obtain ⟨rest', hr2, he⟩ := Option.bind_eq_some_iff.mp hr'
        cases he
        have hks0 : rd ks i = ks[i] := by simp [rd, List.getD, hlt]
        have HB' := Aside0.mk hb'
        have HR' := Aside0.mk hr2
        clear hr2 hr' hd hb'
        have hme : gk - 1 < gk := by omega
        have HME := Aside0.mk (show gk - 1 + (i + 1) = ks.length by omega)
        have HW1 := Aside0.mk (show wrap64 ((i : Int) + 1) = (i : Int) + 1 from wrap64_id (by omega) (by omega))
        have hdec : decide ((i : Int) < (ks.length : Int)) = true := decide_eq_true (by omega)
        have hdecn : decide (i < ks.length) = true := decide_eq_true hlt
        have hp0 : (0 ≤ (i : Int)) = True := eq_true (by omega)
        have hp1 : ((i : Int) < (ks.length : Int)) = True := eq_true (by omega)
        have hp2 : (i < ks.length) = True := eq_true hlt
        obtain ⟨A3, c3, rfl, hle3, hC3⟩ := owns_readsI HA.out
        obtain ⟨A10', c10', he10, hle10', hC10⟩ := owns_readsI HK.out
        obtain ⟨ad, had, hcell⟩ := Kd.at_int hC10 i (by omega) (by omega)
        cases he10
        subst had
        have hC3' := Aside0.mk hC3
        rw [hks0, Int.toNat_natCast] at hcell
        have HY1 := Aside0.mk (fun x W1 hj hm => HY.out pre x W1 hj hm)
        clear HY
        gi_wp2_with fail
        refine ⟨trivial, (callsIn_wide.2 (lattice_up.calls k A3 c3 a ks[i] b wr hC3'.out hle3 HB'.out)).mono ?_⟩
        rintro e w2 ⟨vb, rfl, hrb, hb2⟩
        have hownb := Kd.own_of_R hrb
        have hob : w2.ownsRow w.heap.size 3 1 vb b.length (nums .i64 b) := own_weaken hownb HS.out
        obtain ⟨A4, c4, rfl, hle4, hC4⟩ := owns_readsI hob
        have HOB := Aside0.mk hob
        have HJ2 := Aside0.mk (HJ.out _ _ _ HJ'.out hb2)
        have HK2 := Aside0.mk (own_below HK.out hb2)
        have HS2 := Aside0.mk (Nat.le_trans HS.out hb2.size)
        clear hrb hownb hob hb2 hcell hC10 HA HJ' HK HS
        gi_wp2_with fail
        refine ⟨trivial, (callsIn_wide.2 (cloneI_calls A4 c4 b w2 hC4 hle4 hbl)).mono ?_⟩
        rintro e w3 ⟨vc, rfl, hoc, hb3⟩
        have HOB3 := Aside0.mk (own_below HOB.out hb3)
        have hJ3 := HJ.out _ _ _ HJ2.out hb3
        have HK3 := Aside0.mk (own_below HK2.out hb3)
        have HS3 := Aside0.mk (Nat.le_trans HS2.out hb3.size)
        have hY1 := HY1.out (((i : Int) + 1), vc, b) w3 hJ3 (own_weaken hoc (Nat.le_trans hb0 HS2.out))
        obtain ⟨fn, tm, cas, bd, hy, hR⟩ := hY1
        dsimp only at hy
        clear hoc hb3 hJ3 HJ2 HK2 HS2 HOB hC4
        gi_wp2
        refine hR.mono ?_
        rintro e w4 ⟨rfl, hJ4, hk4⟩
        have HOB4 := Aside0.mk (own_but HOB3.out hk4 hXw)
        have HK4 := Aside0.mk (own_but HK3.out hk4 hXw)
        have HS4 := Aside0.mk (Nat.le_trans HS3.out hk4.1.size)
        have HJ4 := Aside0.mk hJ4
        have HP4 := Aside0.mk (show (pre ++ [(((i : Int) + 1), vc, b)]).map (fun x => x.2.2) ++ rest' = [] :: r by
          have := HP.out
          rw [List.map_append, List.append_assoc]
          exact this)
        clear hy hR hk4 hJ4 HOB3 HK3 HS3 HP
        gi_wp2
        gi_roundg (gk - 1)
        case rel => exact ⟨b, i + 1, _, rest', by first | rfl | (rw [HW1.out]; rfl), HME.out, ⟨HR'.out⟩, HOB4, HJ4, HP4, HK4, HS4⟩
        case measure => exact hme
      · rw [if_neg hbl] at hr'
        cases hr'
    · have hii : i = ks.length := by omega
      subst hii
      gi_wp2
      go_end0
      have hr0 := HR.out
      rw [List.drop_length] at hr0
      cases hr0
      have hp := HP.out
      rw [List.append_nil] at hp
      exact ⟨⟨_, rfl⟩, pre, hp, HJ'.out⟩
end Go.Proofs.Ytoglefgjiaoopaa.P
