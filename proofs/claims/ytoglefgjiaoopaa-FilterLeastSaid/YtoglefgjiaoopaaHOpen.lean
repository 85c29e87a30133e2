/- filter.open: the coefficients behind each number of indices, in one row. -/
import Derived.Test.YtoglefgjiaoopaaPx0
import Derived.Test.YtoglefgjiaoopaaHStepsS
import Derived.Test.YtoglefgjiaoopaaHCoefs
import Derived.Laws.ResultCell
import Derived.Maps.OwnIn
namespace Go.Proofs.Ytoglefgjiaoopaa.P
open Go Go.RowKit Go.Maps Go.Proofs.YtoglefgjiaoopaaW.PrintWords Go.Proofs.YtoglefgjiaoopaaW.PrintLast Go.Proofs.YtoglefgjiaoopaaW.PrintMore
set_option linter.unusedVariables false
set_option linter.unusedSimpArgs false
attribute [local go_sem] Oper.semAt_some

def filter_open.f (k : Nat) (l : List Int) : Option (List (List Int)) :=
  (lattice_Reflect.f k l).bind fun ks => if ks.length ≤ 1000000000 then (stepsL k [] ks).bind fun r => some ([] :: r) else none
theorem filter_open.mono : ∀ a0 k, LeO (filter_open.f k a0) (filter_open.f (k + 1) a0) := by
  intro a0 k
  exact LeO.bind (lattice_Reflect.mono _ _) (fun ks => LeO.ite (LeO.bind (stepsL_mono _ _ _) (fun _ => LeO.refl _)) (LeO.refl _))
theorem rowI_info : (Try.prog.info? 22).map (fun i => (i.zero, i.size, i.bytes)) = some (some (.slice none 0 0), 1, 24) := by kernel_rfl
abbrev KdL : Kd (List Int) := Kd.slice 3 (Kd.int .i64)
theorem R_kept {α : Type} {d : Kd α} {e B base : Nat} {ok : Nat → Prop} {w w1 : World} {v : Value} {xs : List α} (h : d.R e w base ok v xs) (hB : CellsKept B w w1) : d.R e w1 base ok v xs :=
  Kd.R_mono (Kd.R_move (Kd.R_bound h) (fun k hk => by
    obtain ⟨_, _, _, q, hq, cells, hc⟩ := hk
    exact (hB.2 k _ hc rfl).trans hc.symm)) (fun _ hk => hk.1)
def OpenT (s : Nat) (k : Nat) (o : Obj) : Prop := k = s + 1 ∨ (s + 2 < k ∧ ∃ cells, o = .cells cells 22 (0, 0))
def OpenInv (w : World) (pre : List (Int × Value × List Int)) (W : World) : Prop :=
  Below w.heap.size w W ∧ W.heap[w.heap.size]? = some (.cells #[.slice none 0 0] 55 (0, 0)) ∧ ∃ v, W.heap[w.heap.size + 1]? = some (.cells #[v] 55 (0, 0)) ∧ Kd.R KdL 22 W (w.heap.size + 3) (fun _ => True) v (pre.map (fun x => x.2.2))

/-- A row more. -/
theorem open_append {w W w1 : World} {pre : List (Int × Value × List Int)} {v v1 xv : Value} {xn : Int} {xl : List Int} {inner : List Value} (hb : Below w.heap.size w W) (h0 : W.heap[w.heap.size]? = some (.cells #[.slice none 0 0] 55 (0, 0)))
    (hv : W.heap[w.heap.size + 1]? = some (.cells #[v] 55 (0, 0))) (hR : Kd.R KdL 22 W (w.heap.size + 3) (fun _ => True) v (pre.map (fun x => x.2.2)))
    (hm : W.ownsRow (w.heap.size + 3) 3 1 xv xl.length (nums .i64 xl)) (hs : w.heap.size + 3 ≤ W.heap.size)
    (hr : Reps (KdL.M W (w.heap.size + 3) (fun k => True ∧ some k ≠ v.ownBlock)) 1 (pre.map (fun x => x.2.2)) inner)
    (hown : w1.ownsRow (w.heap.size + 3) 22 1 v1 ((pre.map (fun x => x.2.2)).length + 1) (inner ++ [xv])) (hg : (W.alloc (.cells #[xv] 22)).grownBy w1 v.ownBlock) (hat : v1.ownBlock = v.ownBlock ∨ v1.ownBlock = some (W.alloc (.cells #[xv] 22)).heap.size) :
    KeepsOthers W (w1.setCell ⟨w.heap.size + 1, 0, none⟩ v1) ∧ CellsButS (OpenT w.heap.size) (w.heap.size + 1) W (w1.setCell ⟨w.heap.size + 1, 0, none⟩ v1) ∧ OpenInv w (pre ++ [(xn, xv, xl)]) (w1.setCell ⟨w.heap.size + 1, 0, none⟩ v1) := by
  have hvb : ∀ k, v.ownBlock = some k → w.heap.size + 3 ≤ k ∧ k < W.heap.size ∧ ∃ cells, W.heap[k]? = some (.cells cells 22 (0, 0)) := by
    intro k hk
    obtain ⟨inn, ho⟩ := Kd.R_own hR
    exact ⟨own_base ho k hk, own_lt ho k hk, own_typed ho k hk⟩
  have hgW : W.grownBy w1 v.ownBlock := World.grownBy.trans (World.grownBy_alloc W _ _) hg
  have hsz : W.heap.size ≤ w1.heap.size := hgW.size
  have hx1 : w1.heap[w.heap.size + 1]? = some (.cells #[v] 55 (0, 0)) := (hgW.block _ (blk_lt hv) (fun e => by have := (hvb _ e.symm).1; omega)).trans hv
  have hx0 : w1.heap[w.heap.size]? = some (.cells #[.slice none 0 0] 55 (0, 0)) := (hgW.block _ (blk_lt h0) (fun e => by have := (hvb _ e.symm).1; omega)).trans h0
  have hR1 : Kd.R KdL 22 w1 (w.heap.size + 3) (fun _ => True) v1 (pre.map (fun x => x.2.2) ++ [xl]) := by
    refine Kd.R_appended (d := KdL) (okp := fun k => some k ≠ v.ownBlock) (fun _ _ => trivial) hr ⟨xv, rfl, Kd.R_of_own hm (fun k hk => ?_)⟩ (fun k hk => ⟨trivial, hk⟩) (fun _ _ => trivial) hown hgW ?_
    · intro e
      obtain ⟨_, _, c1, h1⟩ := hvb k e.symm
      obtain ⟨c2, h2⟩ := own_typed hm k hk
      rw [h1] at h2
      cases h2
    · rcases hat with h | h
      · exact .inl h
      · exact .inr ⟨_, h, by simp⟩
  have hbX : Below (w.heap.size + 1) W w1 := ⟨hgW.os, hgW.tape, hgW.output, hgW.size, fun k hk => hgW.block k (by omega) (fun e => by have := (hvb k e.symm).1; omega)⟩
  refine ⟨?_, ⟨hbX.setCell (p := ⟨w.heap.size + 1, 0, none⟩) (Nat.le_refl _) _, ?_⟩, ?_, ?_, v1, ?_, ?_⟩
  · refine KeepsOthers.trans (KeepsOthers.of_grownBy hgW ?_) (KeepsOthers.setCell _ _ _)
    intro j o hj ho
    obtain ⟨_, _, cells, h1⟩ := hvb j hj
    rw [h1] at ho
    cases ho
    rfl
  · intro k o hT ho hc
    have hk1 : k ≠ w.heap.size + 1 := fun e => hT (.inl e)
    have hlt := (Array.getElem?_eq_some_iff.1 ho).1
    have h1 : w1.heap[k]? = some o := by
      refine (hgW.block k hlt ?_).trans ho
      intro e
      obtain ⟨hge, _, cells, h2⟩ := hvb k e.symm
      rw [h2] at ho
      cases ho
      exact hT (.inr ⟨by omega, cells, rfl⟩)
    exact (Below.heap_setCell w1 ⟨w.heap.size + 1, 0, none⟩ v1 k hk1).trans h1
  · exact (hb.trans (hbX.mono (by omega))).setCell (p := ⟨w.heap.size + 1, 0, none⟩) (by show w.heap.size ≤ w.heap.size + 1; omega) _
  · exact (Below.heap_setCell w1 ⟨w.heap.size + 1, 0, none⟩ v1 _ (by show w.heap.size ≠ w.heap.size + 1; omega)).trans hx0
  · exact blk_put hx1 0 _ rfl
  · rw [List.map_append]
    exact Kd.R_set hR1 hx1 (by decide) 0 v1

set_option maxHeartbeats 8000000 in
set_option maxRecDepth 100000 in
theorem filter_open.calls (k : Nat) (A0 : Option Addr) (c0 : Nat) (l0 : List Int) (r : List (List Int)) (w : World) (hr0 : Kd.C (Kd.int .i64) w A0 l0.length l0) (hc0 : l0.length ≤ c0) (h : filter_open.f k l0 = some r) :
    Calls Try.prog 48 #[.slice A0 l0.length c0] w fun e w' => ∃ v0_ : Value, e = .returned (.agg #[v0_]) ∧ Kd.R KdL 22 w' w.heap.size (fun _ => True) v0_ r ∧ Below w.heap.size w w' := by
  obtain ⟨ks, hks, h⟩ := Option.bind_eq_some_iff.mp h
  by_cases hkl : ks.length ≤ 1000000000
  case neg => rw [if_neg hkl] at h; cases h
  rw [if_pos hkl] at h
  obtain ⟨rs, hrs, h⟩ := Option.bind_eq_some_iff.mp h
  have hlast : [] :: rs = r := Option.some.inj h
  clear h
  refine (callsIn_wide (n := 4)).1 ?_
  refine callsIn_of_wp_marks Try.func48 rfl trivial ?_ rfl
  simp only [Try.ntmps48, List.size_toArray, List.length_cons, List.length_nil, Nat.reduceAdd, Nat.reduceSub, Array.replicate_succ, Array.replicate_zero, List.push_toArray, List.append_toArray, List.nil_append, List.cons_append]
  gi_wp2_with fail
  refine ⟨trivial, (steps_in _ _ _ _ _).mono ?_⟩
  rintro e w1 ⟨rfl, rfl⟩
  gi_wp2_with fail
  have hX0 : (((w.alloc (.cells #[.slice none 0 0] 55)).alloc (.cells #[.slice none 0 0] 55)).alloc (.cells #[.slice A0 l0.length c0] 22)).heap[w.heap.size]? = some (.cells #[.slice none 0 0] 55 (0, 0)) := blk_alloc (blk_alloc (blk_new w _) _) _
  have hX1 : (((w.alloc (.cells #[.slice none 0 0] 55)).alloc (.cells #[.slice none 0 0] 55)).alloc (.cells #[.slice A0 l0.length c0] 22)).heap[w.heap.size + 1]? = some (.cells #[.slice none 0 0] 55 (0, 0)) := by
    have := blk_new (w.alloc (.cells #[.slice none 0 0] 55)) (.cells #[.slice none 0 0] 55)
    rw [World.size_alloc] at this
    exact blk_alloc this _
  have hbox : (((w.alloc (.cells #[.slice none 0 0] 55)).alloc (.cells #[.slice none 0 0] 55)).alloc (.cells #[.slice A0 l0.length c0] 22)).heap[w.heap.size + 1 + 1]? = some (.cells #[.slice A0 l0.length c0] 22 (0, 0)) := by
    have := blk_new ((w.alloc (.cells #[.slice none 0 0] 55)).alloc (.cells #[.slice none 0 0] 55)) (.cells #[.slice A0 l0.length c0] 22)
    rwa [World.size_alloc, World.size_alloc] at this
  have hbel : Below w.heap.size w (((w.alloc (.cells #[.slice none 0 0] 55)).alloc (.cells #[.slice none 0 0] 55)).alloc (.cells #[.slice A0 l0.length c0] 22)) := below_alloc (below_alloc (below_alloc (Below.refl _ _) _) _) _
  have hsz : (((w.alloc (.cells #[.slice none 0 0] 55)).alloc (.cells #[.slice none 0 0] 55)).alloc (.cells #[.slice A0 l0.length c0] 22)).heap.size = w.heap.size + 3 := by simp
  generalize ((w.alloc (.cells #[.slice none 0 0] 55)).alloc (.cells #[.slice none 0 0] 55)).alloc (.cells #[.slice A0 l0.length c0] 22) = w2 at hX0 hX1 hbox hbel hsz ⊢
  have hTb : ¬ OpenT w.heap.size (w.heap.size + 1 + 1) (.cells #[.slice A0 l0.length c0] 22 (0, 0)) := by
    rintro (h | ⟨h, _⟩) <;> omega
  have hTi : ∀ k cells, w2.heap.size ≤ k → ¬ OpenT w.heap.size k (.cells cells 3 (0, 0)) := by
    intro k cells hk
    rintro (h | ⟨_, c, h⟩)
    · omega
    · cases h
  have hM0 : ∀ {W W' : World} {x : Int × Value × List Int}, W.ownsRow (w.heap.size + 3) 3 1 x.2.1 x.2.2.length (nums .i64 x.2.2) → CellsKept w2.heap.size W W' → W'.ownsRow (w.heap.size + 3) 3 1 x.2.1 x.2.2.length (nums .i64 x.2.2) := fun h hk => own_kept' h hk
  refine rangeS (OpenT w.heap.size) rfl (by omega) (gf := 39) (lb := #[.pointer (some ⟨w.heap.size + 1 + 1, 0, none⟩)]) rfl trivial (enters_of Try.func39 (by kernel_rfl) rfl)
    (steps1_seqS (OpenT w.heap.size) k _ (by omega) A0 c0 l0 ks rs w w2 (w.heap.size + 1 + 1) (w.heap.size + 1) (w.heap.size + 3) hbox hTb hTi hr0 hc0 hbel (by omega) (by omega) (by omega) hks hkl hrs) (by omega) (fun _ => rfl)
    (fun pre W => OpenInv w pre W)
    (fun s A B ⟨h1, h2, v, h3, h4⟩ hk => ⟨h1.trans (hk.1.mono (by omega)), hk.2 _ _ h2 rfl, v, hk.2 _ _ h3 rfl, R_kept h4 hk⟩)
    (fun pre x A B hm hk => ⟨hm.1, hM0 hm.2 hk⟩)
    ⟨hbel, hX0, _, hX1, Kd.R_nil _ _ _ _ _⟩
    (fun x => { tmps := #[.slice A0 l0.length c0, undef, .pointer (some ⟨w.heap.size, 0, none⟩), .pointer (some ⟨w.heap.size + 1, 0, none⟩), undef, x.2.1, .slice A0 l0.length c0, .func (.func 39) #[] #[.pointer (some ⟨w.heap.size + 1 + 1, 0, none⟩)], .int .i64 x.1, x.2.1, undef, undef, undef, undef, undef, undef, undef], defers := [] }) ?assign ?body ?done
  case assign =>
    intro l x W K hK
    gi_wp2
    exact hK
  case body =>
    rintro l pre ⟨xn, xv, xl⟩ W ⟨hb, h0, v, hv, hR⟩ ⟨hpl, hm⟩ hs
    replace hm : W.ownsRow (w.heap.size + 3) 3 1 xv xl.length (nums .i64 xl) := hm
    have hR' := hR
    obtain ⟨_, inner, hown, hr⟩ := hR'
    obtain ⟨i0, hi, hz0, hz1, hz2⟩ := info_parts rowI_info
    obtain ⟨A5, c5, rfl, _⟩ := own_reads hm
    obtain ⟨ys, hys⟩ : ∃ ys : List (List Int), pre.map (fun x => x.2.2) = ys := ⟨_, rfl⟩
    have hyl : ys.length ≤ 1000000000 := by rw [← hys, List.length_map]; exact hpl
    rw [hys] at hR hown hr
    obtain ⟨Av, cv, rfl⟩ := Kd.R_slice hR
    have hcx := (blk_cell hv 0).trans rfl
    have hone : ∀ u ∈ [Value.slice A5 xl.length c5], u.oneCell' = true := by
      intro u hu
      rw [List.mem_singleton.1 hu]
      rfl
    have HYS := Aside0.mk hys
    have HYL := Aside0.mk hyl
    have HV := Aside0.mk hv
    have H0 := Aside0.mk h0
    have HB := Aside0.mk hb
    have HR := Aside0.mk hR
    have HM := Aside0.mk hm
    have HRR := Aside0.mk hr
    have HOW := Aside0.mk hown
    have HS := Aside0.mk (show w.heap.size + 3 ≤ W.heap.size by omega)
    have HPL := Aside0.mk hpl
    have HONE := Aside0.mk hone
    clear hv h0 hb hR hm hr hown hs hpl hone
    clear hys hyl
    gi_wp2_with (gi_at_builtin; refine wpListIn_append_own_at _ rfl _ _ 53 rfl (w.heap.size + 3) 22 i0 (.slice none 0 0) 1 24 Try.underlying53 hi hz0 hz1 hz2 rfl (by omega) (.slice Av ys.length cv) ys.length inner rfl (HOW.out.alloc _) ⟨W.heap.size, 0, none⟩ 1 1 [.slice A5 xl.length c5] rfl rfl ?c1 HONE.out ?c2 ?c3 ?c4 ?_)
    case c2 => have := HYL.out; simp only [maxLen]; omega
    case c3 => have := HYL.out; omega
    case c4 => have := HS.out; simp; omega
    intro v1 w1 hown1 hg _ hat
    obtain ⟨A6, c6, rfl⟩ := own_slice hown1
    have hfin := open_append (xn := xn) HB.out H0.out HV.out (by rw [HYS.out]; exact HR.out) HM.out HS.out (by rw [HYS.out]; exact HRR.out) (by rw [HYS.out]; exact hown1) hg (by simpa using hat)
    have hb1 : w1.heap[w.heap.size + 1]? = some (.cells #[.slice Av ys.length cv] 55 (0, 0)) := by
      refine (hg.block _ ?_ ?_).trans ((Below.heap_alloc W _ _ (blk_lt HV.out)).trans HV.out)
      · have := HS.out; simp; omega
      · intro e
        have := own_base HOW.out _ e.symm
        omega
    have hc1 := (blk_cell hb1 0).trans rfl
    have hf1 := blk_frozen hb1 0
    have HFIN := Aside0.mk hfin
    clear hown1 hg hat hfin hb1
    gi_wp2
    exact HFIN.out
  case done =>
    rintro D xs W hD hS ⟨hb, h0, v, hv, hR⟩ hK
    rw [hS, hlast] at hR
    have hcv := (blk_cell hv 0).trans rfl
    have hc0 := (blk_cell h0 0).trans rfl
    have hf0 := blk_frozen h0 0
    obtain ⟨Av, cv, rfl⟩ := Kd.R_slice hR
    have HK := Aside0.mk hK
    have HR := Aside0.mk hR
    have HB := Aside0.mk hb
    have H0 := Aside0.mk h0
    clear hK hR hb h0 hv hS
    gi_wp2
    have hres : W.setCell ⟨w.heap.size, 0, none⟩ (.slice Av r.length cv) = W.setCell ⟨w.heap.size, 0, none⟩ (.slice Av r.length cv) := rfl
    have h2 : (W.setCell ⟨w.heap.size, 0, none⟩ (.slice Av r.length cv)).heap[w.heap.size]? = some (.cells #[.slice Av r.length cv] 55 (0, 0)) := blk_put H0.out 0 _ rfl
    have hc2 := (blk_cell h2 0).trans rfl
    have hkD : (W.setCell ⟨w.heap.size, 0, none⟩ (.slice Av r.length cv)).heap[D]? = some (.deferred (some [])) := by
      refine (Below.heap_setCell W ⟨w.heap.size, 0, none⟩ _ D (by show D ≠ w.heap.size; omega)).trans HK.out
    have hR2 := Kd.R_set HR.out H0.out (by decide) 0 (.slice Av r.length cv)
    have hB2 := HB.out.setCell (p := ⟨w.heap.size, 0, none⟩) (Nat.le_refl _) (.slice Av r.length cv)
    clear hres
    generalize W.setCell ⟨w.heap.size, 0, none⟩ (.slice Av r.length cv) = W3 at h2 hc2 hkD hR2 hB2 ⊢
    refine ⟨by simp, .inl ⟨_, _, rfl, run_takeDeferred hkD, ?_⟩⟩
    have hk : CellsKept w.heap.size W3 (W3.putObj D (.deferred none)) := CellsKept.putObj _ (by omega) hkD rfl
    have hb3 : (W3.putObj D (.deferred none)).heap[w.heap.size]? = some (.cells #[.slice Av r.length cv] 55 (0, 0)) := hk.2 _ _ h2 rfl
    exact ⟨_, results_cell_row rfl _ _ w.heap.size 55 #[.slice Av r.length cv] (0, 0) _ rfl hb3 Try.underlying55 rfl (by kernel_rfl), _, rfl, Kd.R_lower (R_kept hR2 hk) (by omega), hB2.trans hk.1⟩
end Go.Proofs.Ytoglefgjiaoopaa.P
