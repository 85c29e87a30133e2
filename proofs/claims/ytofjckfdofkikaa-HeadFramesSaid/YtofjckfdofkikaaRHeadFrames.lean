/- The law HeadFrames: for every input the call returns true and leaves what it was given; out of its contract and its pure statement. No condition. -/
import Derived.Test.YtofjckfdofkikaaRows
import Derived.Test.YtofjckfdofkikaaPx3
import Derived.Test.YtofjckfdofkikaaUHeadFrames
import Derived.WalkKit
import Derived.ProofKit
import Derived.OpenShut
import Derived.ShutString
import Derived.ChangeOld
import Derived.Below
import Derived.SizedLaws
import Derived.Test.YtofjckfdofkikaaWSized
namespace Go.Proofs.Ytofjckfdofkikaa.headFrames
open Go.ChangeShapes Go.WideShapes Go.ChangeAt Go.RowKit
open Go.ChangeMaps (open_string shut_string)
open Go.Proofs.YtofjckfdofkikaaW.PrintWords Go.Proofs.YtofjckfdofkikaaW.PrintLast Go.Proofs.YtofjckfdofkikaaW.PrintMore
set_option linter.unusedVariables false
theorem own : ownKnob Try.prog.godebug = none := by kernel_rfl
theorem laidOut : laidOutB Try.prog = true := by kernel_rfl
theorem cells23 : Try.prog.cellsOf 23 = 7 := by kernel_rfl
def IsRow (k : IntKind) (w : World) (a : Option Addr) (len cap : Nat) (zs : List Int) : Prop :=
  (a = none ∧ len = 0 ∧ cap = 0 ∧ zs = []) ∨
  ∃ x, a = some x ∧ len ≤ cap ∧ cap ≤ maxLen ∧ zs.length = cap ∧ (∀ i, i < zs.length → w.cell? (x.add i) = some (.int k (zs.getD i 0))) ∧ ∀ n ∈ zs, (Lit.int k n).wf = true
theorem row_of {H : Type} {enc : TypeId × Value → H} {W : World} {fuel : Nat} {t e : TypeId} {k : IntKind} {cs : List Value} {y : DataW H × List MemPlace} (ht : Try.prog.underlying t = some (.slice e)) (he : Try.prog.underlying e = some (.int k)) (hc : Try.prog.cellsOf e = 1)
    (h : DataW.trod enc Try.prog W 0 (fun _ => true) true fuel t cs = some y) : ∃ a len cap zs, cs = [.slice a len cap] ∧ IsRow k W a len cap zs := by
  rcases open_ints ht he hc h with ⟨hcs, _⟩ | ⟨x, l, c, zs, hcs, _, hl, hm, hz, _, hcell, hwz⟩
  · exact ⟨_, _, _, [], hcs, .inl ⟨rfl, rfl, rfl, rfl⟩⟩
  · exact ⟨_, _, _, zs, hcs, .inr ⟨_, rfl, hl, hm, by simpa using hz, hcell, hwz⟩⟩
theorem eq_gets {cs vs : List Value} (hl : cs.length = vs.length) (h : ∀ i, i < vs.length → cs[i]? = vs[i]?) : cs = vs := by
  refine List.ext_getElem? fun i => ?_
  by_cases hi : i < vs.length
  · exact h i hi
  · rw [List.getElem?_eq_none (by omega), List.getElem?_eq_none (by omega)]
theorem at_of {cs : List Value} {i : Nat} {v : Value} (h : (cs.drop i).take 1 = [v]) : cs[i]? = some v := by
  have h2 := congrArg (fun l => l[0]?) h
  simpa [List.getElem?_take, List.getElem?_drop] using h2
theorem at_in {cs : List Value} {i j m : Nat} {v : Value} (h : ((cs.drop i).take m)[j]? = some v) : cs[i + j]? = some v := by
  rw [List.getElem?_take] at h
  split at h
  · rwa [List.getElem?_drop] at h
  · cases h
theorem got {α : Type} {xs : List α} {n : Nat} (h : xs.length = n) (i : Nat) (hi : i < n) : ∃ y, xs[i]? = some y := ⟨xs[i], List.getElem?_eq_getElem (by omega)⟩
set_option maxRecDepth 100000 in
theorem lifted (os : Os) (started : os.Started) (H : Type) (enc : TypeId × Value → H) :
    ReturnsInHanded {} Try.checked os 4 .any (Rows.headFramesSpec.pre6 enc Try.prog Try.f4 Rows.headFramesRow.domain false) (Rows.headFramesSpec.post enc Try.prog Try.f4 false true false false) := by
  refine returnsInHanded_of_change_sized (C := Try.checked) own started (by kernel_rfl) Try.func4
    (ChangeSpec.witness6 (enc := enc) (C := Try.checked) false ⟨#[], #[.agg #[.int .i64 0, .int .i64 0, .bool false, .int .i64 0, .int .i64 0, .int .i64 0, .int .i64 0], .int .i64 0], []⟩ 8 (by kernel_rfl) (by kernel_rfl) (by kernel_rfl) (by kernel_rfl)) ?_
  intro W base args ds gs before hval0 hW hcnd hsz0 _
  have hsz : (DataW.weightsEach Try.prog (Try.f4.params.toList ++ Rows.headFramesSpec.plain.varTypes Try.prog) (ds ++ gs)).all (· ≤ reachBytes) = true := hsz0
  have hval : ∀ (j : Nat) t v, Try.f4.params[j]? = some t → args[j]? = some v → Value.okWide Try.prog W .any base t v := hval0
  have hW' := hW
  obtain ⟨p, q, hA0, hV, rfl, hfz, hnd⟩ := hW
  have hA : DataW.TrodAll enc Try.prog W 0 (fun _ => true) true Try.f4.params.toList args.toList ds p := hA0
  rw [Try.params4] at hA hval hsz
  obtain ⟨v0, vs0, d0, ds0, p0, q0, hargs, rfl, rfl, h0, r0⟩ := trodAll_cons hA
  obtain ⟨v1, vs1, d1, ds1, p1, q1, rfl, rfl, rfl, h1, r1⟩ := trodAll_cons r0
  obtain ⟨rfl, rfl, rfl⟩ := trodAll_nil r1
  obtain rfl : args = #[v0, v1] := by cases args; simp_all
  obtain ⟨rfl, rfl⟩ := trodVars_none hV
  have k0 := h0
  have lt0 : ∀ x ∈ p0, x.block < W.heap.size := by obtain ⟨m, hm⟩ := k0; exact DataW.trod_lt m _ _ _ hm
  obtain ⟨cs0, rfl, hsz0⟩ := okWide_struct Try.underlying23 (hval 0 23 v0 rfl rfl)
  obtain ⟨fu0, hu0⟩ := h0
  obtain ⟨xs_1, m_2, _, _, hl_3, hlen_4, hf_5⟩ := DataW.trod_struct Try.underlying23 hu0
  obtain ⟨y_6, hy_7⟩ := got hlen_4 0 (by decide)
  have g_8 := (hf_5 0 _ rfl).trans hy_7
  obtain ⟨a_11, e_10, _, w_12⟩ := DataW.trod_int Try.underlying3 g_8
  have c_9 := (at_of e_10)
  obtain ⟨y_13, hy_14⟩ := got hlen_4 1 (by decide)
  have g_15 := (hf_5 1 _ rfl).trans hy_14
  obtain ⟨a_18, e_17, _, w_19⟩ := DataW.trod_int Try.underlying3 g_15
  have c_16 := (at_of e_17)
  obtain ⟨y_20, hy_21⟩ := got hlen_4 2 (by decide)
  have g_22 := (hf_5 2 _ rfl).trans hy_21
  obtain ⟨a_25, e_24, _⟩ := DataW.trod_bool Try.underlying4 g_22
  have c_23 := (at_of e_24)
  obtain ⟨y_26, hy_27⟩ := got hlen_4 3 (by decide)
  have g_28 := (hf_5 3 _ rfl).trans hy_27
  obtain ⟨a_31, e_30, _, w_32⟩ := DataW.trod_int Try.underlying3 g_28
  have c_29 := (at_of e_30)
  obtain ⟨y_33, hy_34⟩ := got hlen_4 4 (by decide)
  have g_35 := (hf_5 4 _ rfl).trans hy_34
  obtain ⟨a_38, e_37, _, w_39⟩ := DataW.trod_int Try.underlying3 g_35
  have c_36 := (at_of e_37)
  obtain ⟨y_40, hy_41⟩ := got hlen_4 5 (by decide)
  have g_42 := (hf_5 5 _ rfl).trans hy_41
  obtain ⟨a_45, e_44, _, w_46⟩ := DataW.trod_int Try.underlying3 g_42
  have c_43 := (at_of e_44)
  obtain ⟨y_47, hy_48⟩ := got hlen_4 6 (by decide)
  have g_49 := (hf_5 6 _ rfl).trans hy_48
  obtain ⟨a_52, e_51, _, w_53⟩ := DataW.trod_int Try.underlying3 g_49
  have c_50 := (at_of e_51)
  simp only [cells23] at hsz0
  obtain rfl : cs0 = #[.int .i64 a_11, .int .i64 a_18, .bool a_25, .int .i64 a_31, .int .i64 a_38, .int .i64 a_45, .int .i64 a_52] := by
    apply Array.toList_inj.1
    refine eq_gets (by rw [Array.length_toList, hsz0]; rfl) ?_
    intro i hi
    match i, hi with
    | 0, _ => exact c_9
    | 1, _ => exact c_16
    | 2, _ => exact c_23
    | 3, _ => exact c_29
    | 4, _ => exact c_36
    | 5, _ => exact c_43
    | 6, _ => exact c_50
    | i + 7, hi => exact absurd hi (by simp)
  have k1 := h1
  have lt1 : ∀ x ∈ p1, x.block < W.heap.size := by obtain ⟨m, hm⟩ := k1; exact DataW.trod_lt m _ _ _ hm
  obtain ⟨a1, rfl, rfl, rfl, w1⟩ := open_int Try.underlying3 (hval 1 3 v1 rfl rfl) h1
  clear hA0 hval0 hsz0 hsz
  obtain ⟨k, hp⟩ := Pure.HeadFrames a_11 a_18 a_25 a_31 a_38 a_45 a_52 a1 w_12 w_19 w_32 w_39 w_46 w_53 w1
  refine (P.sackbutlaw16_HeadFrames.calls k a_11 a_18 a_25 a_31 a_38 a_45 a_52 a1 true W  hp).mono fun e W' ⟨he, bel0⟩ => ?_
  have bel : Below W.heap.size W W' := bel0
  subst he
  exact ⟨_, rfl, _, _, _, [], _, [], hW', trodAll_mk1 (shut_bool Try.underlying4 _), (trodAll_cons_mk (Below.trod laidOut (by kernel_rfl) (of_decide_eq_true (by kernel_rfl)) k0 bel lt0) (trodAll_cons_mk (Below.trod laidOut (by kernel_rfl) (of_decide_eq_true (by kernel_rfl)) k1 bel lt1) trodAll_mk0)), rfl, bel.frame _, fun h => by cases h⟩
theorem over : Rows.headFramesRow.holds Try.pinned (OpenSpec.ofChange Rows.headFramesSpec) :=
  OpenClaim.holds_of_wide 4 Try.f4 rfl rfl rfl rfl rfl rfl rfl ⟨rfl, rfl, rfl, rfl, rfl⟩ rfl rfl rfl rfl rfl (by kernel_rfl) Try.func4 (by kernel_rfl)
    (of_decide_eq_true (by kernel_rfl)) (by unfold Func.isWrapper; first | (rw [if_pos (by decide +kernel)]; kernel_rfl) | (rw [if_neg (by decide +kernel)]; exact ⟨rfl, rfl⟩))
    (fun os started H enc _ => lifted os started H enc)
theorem proved : Rows.HeadFramesSaid := over
#print axioms proved
end Go.Proofs.Ytofjckfdofkikaa.headFrames
namespace Go.Proofs.Ytofjckfdofkikaa
/-- The row, under a short name, for the claim. -/
theorem headFrames_holds : Rows.HeadFramesSaid := headFrames.proved
end Go.Proofs.Ytofjckfdofkikaa
