/- layer 3's each: what it yields, part by part. -/
import Derived.Test.YteoncgijnkfhfaaKfPx0
import Derived.Test.YteoncgijnkfhfaaKfHRangeS
import Derived.Test.YteoncgijnkfhfaaKfHSGood
import Derived.Test.YteoncgijnkfhfaaKfHSEach
import Derived.Sort.LoopGhostIn
namespace Go.Proofs.Yteoncgijnkfhfaa.P
open Go Go.RowKit Go.Proofs.YteoncgijnkfhfaaW.PrintWords Go.Proofs.YteoncgijnkfhfaaW.PrintLast Go.Proofs.YteoncgijnkfhfaaW.PrintMore
set_option linter.unusedVariables false
set_option linter.unusedSimpArgs false
attribute [local go_sem] Oper.semAt_some

/-- What each captures: how many, the way to tell a part, the list. -/
structure EachB (W : World) (Bm Bp Bl many : Nat) (p : Nat) (Ak : Option Addr) (nk ck : Nat) (A : Addr) (n c : Nat) : Prop where
  m : W.heap[Bm]? = some (.cells #[.int .i64 (many : Int)] 3 (0, 0))
  f : W.heap[Bp]? = some (.cells #[.func (.func 43) #[.agg #[.int .i64 (p : Int), .slice Ak nk ck]] #[]] 72 (0, 0))
  l : W.heap[Bl]? = some (.cells #[.slice (some A) n c] 22 (0, 0))
/-- These stay. -/
def EachT (T : Nat → Obj → Prop) (Bm Bp Bl : Nat) : Prop := (∀ cs, ¬ T Bm (.cells cs 3 (0, 0))) ∧ (∀ cs, ¬ T Bp (.cells cs 72 (0, 0))) ∧ (∀ cs, ¬ T Bl (.cells cs 22 (0, 0)))
theorem EachB.butS {T : Nat → Obj → Prop} {X : Nat} {W W1 : World} {Bm Bp Bl many p : Nat} {Ak : Option Addr} {nk ck : Nat} {A : Addr} {n c : Nat} (h : EachB W Bm Bp Bl many p Ak nk ck A n c) (hT : EachT T Bm Bp Bl) (hk : CellsButS T X W W1) : EachB W1 Bm Bp Bl many p Ak nk ck A n c :=
  ⟨hk.2 _ _ (hT.1 _) h.m rfl, hk.2 _ _ (hT.2.1 _) h.f rfl, hk.2 _ _ (hT.2.2 _) h.l rfl⟩
theorem EachB.below {W W1 : World} {Bm Bp Bl many p : Nat} {Ak : Option Addr} {nk ck : Nat} {A : Addr} {n c : Nat} (h : EachB W Bm Bp Bl many p Ak nk ck A n c) (hb : Below W.heap.size W W1) : EachB W1 Bm Bp Bl many p Ak nk ck A n c :=
  ⟨blk_below h.m hb, blk_below h.f hb, blk_below h.l hb⟩

set_option maxHeartbeats 8000000 in
set_option maxRecDepth 100000 in
theorem each_seqS (T : Nat → Obj → Prop) (nn : Nat) (hnn : 1 ≤ nn) (w : World) (Bm Bp Bl X many p : Nat) (Ak : Option Addr) (nk ck : Nat) (A : Addr) (n c sz : Nat) (hE : EachB w Bm Bp Bl many p Ak nk ck A n c) (hT : EachT T Bm Bp Bl)
    (hp : p ≤ 3) (hsz : sz = n / 2 ^ p) (hn : n ≤ 1000000) (hm : many * sz ≤ n) (hm2 : many ≤ 1000) (hs0 : 0 < sz) (hc : n ≤ c) (hX : X ≤ w.heap.size) :
    SeqS T Fence.wide nn Try.prog 63 #[.pointer (some ⟨Bm, 0, none⟩), .pointer (some ⟨Bp, 0, none⟩), .pointer (some ⟨Bl, 0, none⟩)] X (fun i : Nat => #[.int .i64 (i : Int), .slice (some (A.add (i * sz))) sz (c - i * sz)])
      (fun pre i W => i = pre.length ∧ i < many) (fun xs => xs = List.range many) w := by
  intro lp J W hW hJ hY h0
  refine callsIn_of_wp Try.func63 rfl trivial ?_ rfl
  simp only [Try.ntmps63, List.size_toArray, List.length_cons, List.length_nil, Nat.reduceAdd, Nat.reduceSub, Array.replicate_succ, Array.replicate_zero, List.push_toArray, List.append_toArray, List.nil_append, List.cons_append]
  have hEW := hE.below hW
  have hc1 : W.cell? ⟨Bm, 0, none⟩ = some (.int .i64 (many : Int)) := (blk_cell hEW.m 0).trans rfl
  have HY := Aside0.mk hY
  have HJ := Aside0.mk hJ
  have HE := Aside0.mk hEW
  have HS := Aside0.mk hW.size
  have H0 := Aside0.mk h0
  have HP := Aside0.mk (And.intro hp (And.intro hsz (And.intro hn (And.intro hm (And.intro hs0 hc)))))
  have HX := Aside0.mk hX
  clear hY hJ hEW hW h0 hp hsz hn hm hs0 hc hE hX
  gi_wp2
  gi_loopg [5, 7] many (fun kq v5 v7 wr => ∃ (i : Nat), v7 = .int .i64 i ∧ kq + i = many ∧ Aside0 (J (List.range i) wr) ∧ Aside0 (EachB wr Bm Bp Bl many p Ak nk ck A n c) ∧ Aside0 (w.heap.size ≤ wr.heap.size))
  case atStart => exact ⟨0, rfl, by omega, H0, HE, HS⟩
  case round =>
    clear HE HS H0 hc1
    obtain ⟨i, rfl, hi, HJ', HE, HS⟩ := hrel
    by_cases hlt : i < many
    · have hdec : decide ((i : Int) < (many : Int)) = true := decide_eq_true (by omega)
      have hdecn : decide (i < many) = true := decide_eq_true hlt
      have hme : gk - 1 < gk := by omega
      have HME := Aside0.mk (show gk - 1 + (i + 1) = many by omega)
      have HW1 := Aside0.mk (show wrap64 ((i : Int) + 1) = (i : Int) + 1 from w64E (by omega) (by omega))
      have HLT := Aside0.mk hlt
      have hc2 : wr.cell? ⟨Bp, 0, none⟩ = some (.func (.func 43) #[.agg #[.int .i64 (p : Int), .slice Ak nk ck]] #[]) := (blk_cell HE.out.f 0).trans rfl
      have hc3 : wr.cell? ⟨Bl, 0, none⟩ = some (.slice (some A) n c) := (blk_cell HE.out.l 0).trans rfl
      have HIL := Aside0.mk (show i ≤ 1000 by omega)
      have HMU := Aside0.mk (show (i + 1) * sz ≤ n by
        have := Nat.mul_le_mul_right sz (show i + 1 ≤ many by omega)
        have := HP.out.2.2.2.1
        omega)
      clear hlt hi
      gi_wp2_with fail
      refine ⟨trivial, (callsIn_wide.2 (part_calls p Ak nk ck A n c i sz wr HP.out.1 HP.out.2.1 HP.out.2.2.1 HMU.out HP.out.2.2.2.2.1 HP.out.2.2.2.2.2 HIL.out)).mono ?_⟩
      rintro e w2 ⟨rfl, hw2⟩
      have hb2 : Below wr.heap.size wr w2 := by rw [hw2]; exact below_alloc (Below.refl _ _) _
      have hJ2 := HJ.out _ _ _ HJ'.out hb2
      have HE2 := Aside0.mk (HE.out.below hb2)
      have HS2 := Aside0.mk (Nat.le_trans HS.out hb2.size)
      have hY1 := HY.out (List.range i) i w2 hJ2 ⟨by rw [List.length_range], HLT.out⟩
      obtain ⟨fn, tm, cas, bd, hy, hR⟩ := hY1
      clear hw2 hb2 hJ2 HJ' HE HS hc2 hc3
      gi_wp2
      refine hR.mono ?_
      rintro e w4 ⟨rfl, hJ4, hk4⟩
      have HE4 := Aside0.mk (HE2.out.butS hT hk4)
      have HS4 := Aside0.mk (Nat.le_trans HS2.out hk4.1.size)
      have HJ4 := Aside0.mk (show J (List.range (i + 1)) w4 by rw [List.range_succ]; exact hJ4)
      clear hy hR hk4 hJ4
      gi_wp2
      gi_roundg (gk - 1)
      case rel => exact ⟨i + 1, by first | rfl | (rw [HW1.out]; rfl), HME.out, HJ4, HE4, HS4⟩
      case measure => exact hme
    · have hii : i = many := by omega
      subst hii
      gi_wp2
      go_end0
      first | exact ⟨⟨_, rfl⟩, _, rfl, HJ'.out⟩ | exact ⟨⟨_, rfl⟩, HJ'.out⟩
end Go.Proofs.Yteoncgijnkfhfaa.P
