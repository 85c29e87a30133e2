/- The law WeftBacks: for every input the call returns true and leaves what it was given; out of its contract and its pure statement. No condition. -/
import Derived.Test.YtlebgjcpidpgnaaRows
import Derived.Test.YtlebgjcpidpgnaaPx18
import Derived.Test.YtlebgjcpidpgnaaUWeftBacks
import Derived.WalkKit
import Derived.ProofKit
import Derived.OpenShut
import Derived.ShutString
import Derived.ChangeOld
import Derived.Below
import Derived.SizedLaws
import Derived.Test.YtlebgjcpidpgnaaWSized
namespace Go.Proofs.Ytlebgjcpidpgnaa.weftBacks
open Go.ChangeShapes Go.WideShapes Go.ChangeAt Go.RowKit
open Go.ChangeMaps (open_string shut_string)
open Go.Proofs.YtlebgjcpidpgnaaW.PrintWords Go.Proofs.YtlebgjcpidpgnaaW.PrintLast Go.Proofs.YtlebgjcpidpgnaaW.PrintMore
set_option linter.unusedVariables false
theorem own : ownKnob Try.prog.godebug = none := by kernel_rfl
theorem laidOut : laidOutB Try.prog = true := by kernel_rfl
theorem cells40 : Try.prog.cellsOf 40 = 2 := by kernel_rfl
theorem cells44 : Try.prog.cellsOf 44 = 5 := by kernel_rfl
def IsRow (k : IntKind) (w : World) (a : Option Addr) (len cap : Nat) (zs : List Int) : Prop :=
  (a = none ∧ len = 0 ∧ cap = 0 ∧ zs = []) ∨
  ∃ x, a = some x ∧ len ≤ cap ∧ cap ≤ maxLen ∧ zs.length = cap ∧ (∀ i, i < zs.length → w.cell? (x.add i) = some (.int k (zs.getD i 0))) ∧ ∀ n ∈ zs, (Lit.int k n).wf = true
theorem row_of {H : Type} {enc : TypeId × Value → H} {W : World} {fuel : Nat} {t e : TypeId} {k : IntKind} {cs : List Value} {y : DataW H × List MemPlace} (ht : Try.prog.underlying t = some (.slice e)) (he : Try.prog.underlying e = some (.int k)) (hc : Try.prog.cellsOf e = 1)
    (h : DataW.trod enc Try.prog W 0 (fun _ => true) true fuel t cs = some y) : ∃ a len cap zs, cs = [.slice a len cap] ∧ IsRow k W a len cap zs := by
  rcases open_ints ht he hc h with ⟨hcs, _⟩ | ⟨x, l, c, zs, hcs, _, hl, hm, hz, _, hcell, hwz⟩
  · exact ⟨_, _, _, [], hcs, .inl ⟨rfl, rfl, rfl, rfl⟩⟩
  · exact ⟨_, _, _, zs, hcs, .inr ⟨_, rfl, hl, hm, by simpa using hz, hcell, hwz⟩⟩
theorem eq_gets {cs vs : List Value} (hl : cs.length = vs.length) (h : ∀ i, i < vs.length → cs[i]? = vs[i]?) : cs = vs := by
  refine List.ext_getElem? fun i => ?_
  by_cases hi : i < vs.length
  · exact h i hi
  · rw [List.getElem?_eq_none (by omega), List.getElem?_eq_none (by omega)]
theorem at_of {cs : List Value} {i : Nat} {v : Value} (h : (cs.drop i).take 1 = [v]) : cs[i]? = some v := by
  have h2 := congrArg (fun l => l[0]?) h
  simpa [List.getElem?_take, List.getElem?_drop] using h2
theorem at_in {cs : List Value} {i j m : Nat} {v : Value} (h : ((cs.drop i).take m)[j]? = some v) : cs[i + j]? = some v := by
  rw [List.getElem?_take] at h
  split at h
  · rwa [List.getElem?_drop] at h
  · cases h
theorem got {α : Type} {xs : List α} {n : Nat} (h : xs.length = n) (i : Nat) (hi : i < n) : ∃ y, xs[i]? = some y := ⟨xs[i], List.getElem?_eq_getElem (by omega)⟩
set_option maxRecDepth 100000 in
theorem lifted (os : Os) (started : os.Started) (H : Type) (enc : TypeId × Value → H) :
    ReturnsInHanded {} Try.checked os 9 .any (Rows.weftBacksSpec.pre6 enc Try.prog Try.f9 Rows.weftBacksRow.domain false) (Rows.weftBacksSpec.post enc Try.prog Try.f9 false true false false) := by
  refine returnsInHanded_of_change_sized (C := Try.checked) own started (by kernel_rfl) Try.func9
    (ChangeSpec.witness6 (enc := enc) (C := Try.checked) false ⟨#[], #[.agg #[.bool false, .int .i64 0, .int .i64 0, .int .i64 0, .int .i64 0], .agg #[.slice none 0 0, .slice none 0 0], .int .i64 0], []⟩ 8 (by kernel_rfl) (by kernel_rfl) (by kernel_rfl) (by kernel_rfl)) ?_
  intro W base args ds gs before hval0 hW hcnd hsz0 _
  have hsz : (DataW.weightsEach Try.prog (Try.f9.params.toList ++ Rows.weftBacksSpec.plain.varTypes Try.prog) (ds ++ gs)).all (· ≤ reachBytes) = true := hsz0
  have hval : ∀ (j : Nat) t v, Try.f9.params[j]? = some t → args[j]? = some v → Value.okWide Try.prog W .any base t v := hval0
  have hW' := hW
  obtain ⟨p, q, hA0, hV, rfl, hfz, hnd⟩ := hW
  have hA : DataW.TrodAll enc Try.prog W 0 (fun _ => true) true Try.f9.params.toList args.toList ds p := hA0
  rw [Try.params9] at hA hval hsz
  obtain ⟨v0, vs0, d0, ds0, p0, q0, hargs, rfl, rfl, h0, r0⟩ := trodAll_cons hA
  obtain ⟨v1, vs1, d1, ds1, p1, q1, rfl, rfl, rfl, h1, r1⟩ := trodAll_cons r0
  obtain ⟨v2, vs2, d2, ds2, p2, q2, rfl, rfl, rfl, h2, r2⟩ := trodAll_cons r1
  obtain ⟨rfl, rfl, rfl⟩ := trodAll_nil r2
  obtain rfl : args = #[v0, v1, v2] := by cases args; simp_all
  obtain ⟨rfl, rfl⟩ := trodVars_none hV
  have k0 := h0
  have lt0 : ∀ x ∈ p0, x.block < W.heap.size := by obtain ⟨m, hm⟩ := k0; exact DataW.trod_lt m _ _ _ hm
  obtain ⟨cs0, rfl, hsz0⟩ := okWide_struct Try.underlying44 (hval 0 44 v0 rfl rfl)
  obtain ⟨fu0, hu0⟩ := h0
  obtain ⟨xs_1, m_2, _, _, hl_3, hlen_4, hf_5⟩ := DataW.trod_struct Try.underlying44 hu0
  obtain ⟨y_6, hy_7⟩ := got hlen_4 0 (by decide)
  have g_8 := (hf_5 0 _ rfl).trans hy_7
  obtain ⟨a_11, e_10, _⟩ := DataW.trod_bool Try.underlying4 g_8
  have c_9 := (at_of e_10)
  obtain ⟨y_12, hy_13⟩ := got hlen_4 1 (by decide)
  have g_14 := (hf_5 1 _ rfl).trans hy_13
  obtain ⟨a_17, e_16, _, w_18⟩ := DataW.trod_int Try.underlying3 g_14
  have c_15 := (at_of e_16)
  obtain ⟨y_19, hy_20⟩ := got hlen_4 2 (by decide)
  have g_21 := (hf_5 2 _ rfl).trans hy_20
  obtain ⟨xs_22, m_23, _, _, hl_24, hlen_25, hf_26⟩ := DataW.trod_array Try.underlying42 g_21
  obtain ⟨y_27, hy_28⟩ := got hlen_25 0 (by decide)
  have g_29 := (hf_26 0 (by decide)).trans hy_28
  obtain ⟨a_32, e_31, _, w_33⟩ := DataW.trod_int Try.underlying3 g_29
  have c_30 := (at_in (at_of e_31))
  obtain ⟨y_34, hy_35⟩ := got hlen_25 1 (by decide)
  have g_36 := (hf_26 1 (by decide)).trans hy_35
  obtain ⟨a_39, e_38, _, w_40⟩ := DataW.trod_int Try.underlying3 g_36
  have c_37 := (at_in (at_of e_38))
  obtain ⟨y_41, hy_42⟩ := got hlen_25 2 (by decide)
  have g_43 := (hf_26 2 (by decide)).trans hy_42
  obtain ⟨a_46, e_45, _, w_47⟩ := DataW.trod_int Try.underlying3 g_43
  have c_44 := (at_in (at_of e_45))
  simp only [cells44] at hsz0
  obtain rfl : cs0 = #[.bool a_11, .int .i64 a_17, .int .i64 a_32, .int .i64 a_39, .int .i64 a_46] := by
    apply Array.toList_inj.1
    refine eq_gets (by rw [Array.length_toList, hsz0]; rfl) ?_
    intro i hi
    match i, hi with
    | 0, _ => exact c_9
    | 1, _ => exact c_15
    | 2, _ => exact c_30
    | 3, _ => exact c_37
    | 4, _ => exact c_44
    | i + 5, hi => exact absurd hi (by simp)
  have k1 := h1
  have lt1 : ∀ x ∈ p1, x.block < W.heap.size := by obtain ⟨m, hm⟩ := k1; exact DataW.trod_lt m _ _ _ hm
  obtain ⟨cs1, rfl, hsz1⟩ := okWide_struct Try.underlying40 (hval 1 40 v1 rfl rfl)
  obtain ⟨fu1, hu1⟩ := h1
  obtain ⟨xs_48, m_49, _, _, hl_50, hlen_51, hf_52⟩ := DataW.trod_struct Try.underlying40 hu1
  obtain ⟨y_53, hy_54⟩ := got hlen_51 0 (by decide)
  have g_55 := (hf_52 0 _ rfl).trans hy_54
  obtain ⟨a_58, len_59, cap_60, z_61, e_57, w_62⟩ := row_of Try.underlying23 Try.underlying3 (by kernel_rfl) g_55
  have c_56 := (at_of e_57)
  obtain ⟨y_63, hy_64⟩ := got hlen_51 1 (by decide)
  have g_65 := (hf_52 1 _ rfl).trans hy_64
  obtain ⟨a_68, len_69, cap_70, z_71, e_67, w_72⟩ := row_of Try.underlying23 Try.underlying3 (by kernel_rfl) g_65
  have c_66 := (at_of e_67)
  simp only [cells40] at hsz1
  obtain rfl : cs1 = #[.slice a_58 len_59 cap_60, .slice a_68 len_69 cap_70] := by
    apply Array.toList_inj.1
    refine eq_gets (by rw [Array.length_toList, hsz1]; rfl) ?_
    intro i hi
    match i, hi with
    | 0, _ => exact c_56
    | 1, _ => exact c_66
    | i + 2, hi => exact absurd hi (by simp)
  obtain ⟨l_59, rfl, hrl_59, hml_59, hwl_59, hcl_59⟩ := ReadsInt.ofRowC w_62
  obtain ⟨l_69, rfl, hrl_69, hml_69, hwl_69, hcl_69⟩ := ReadsInt.ofRowC w_72
  have k2 := h2
  have lt2 : ∀ x ∈ p2, x.block < W.heap.size := by obtain ⟨m, hm⟩ := k2; exact DataW.trod_lt m _ _ _ hm
  obtain ⟨a2, rfl, rfl, rfl, w2⟩ := open_int Try.underlying3 (hval 2 3 v2 rfl rfl) h2
  clear hA0 hval0 hsz0 hsz
  obtain ⟨k, hp⟩ := Pure.WeftBacks a_11 a_17 a_32 a_39 a_46 l_59 l_69 a2 w_18 w_33 w_40 w_47 hml_59 hwl_59 hml_69 hwl_69 w2
  refine (P.sackbutlaw11_WeftBacks.calls k a_11 a_17 a_32 a_39 a_46 _ _ l_59 _ _ l_69 a2 true W (Kd.C_of_reads (d := (0 : Int)) (h1 := fun _ => rfl) hrl_59) hcl_59 (Kd.C_of_reads (d := (0 : Int)) (h1 := fun _ => rfl) hrl_69) hcl_69 hp).mono fun e W' ⟨he, bel0⟩ => ?_
  have bel : Below W.heap.size W W' := bel0
  subst he
  exact ⟨_, rfl, _, _, _, [], _, [], hW', trodAll_mk1 (shut_bool Try.underlying4 _), (trodAll_cons_mk (Below.trod laidOut (by kernel_rfl) (of_decide_eq_true (by kernel_rfl)) k0 bel lt0) (trodAll_cons_mk (Below.trod laidOut (by kernel_rfl) (of_decide_eq_true (by kernel_rfl)) k1 bel lt1) (trodAll_cons_mk (Below.trod laidOut (by kernel_rfl) (of_decide_eq_true (by kernel_rfl)) k2 bel lt2) trodAll_mk0))), rfl, bel.frame _, fun h => by cases h⟩
theorem over : Rows.weftBacksRow.holds Try.pinned (OpenSpec.ofChange Rows.weftBacksSpec) :=
  OpenClaim.holds_of_wide 9 Try.f9 rfl rfl rfl rfl rfl rfl rfl ⟨rfl, rfl, rfl, rfl, rfl⟩ rfl rfl rfl rfl rfl (by kernel_rfl) Try.func9 (by kernel_rfl)
    (of_decide_eq_true (by kernel_rfl)) (by unfold Func.isWrapper; first | (rw [if_pos (by decide +kernel)]; kernel_rfl) | (rw [if_neg (by decide +kernel)]; exact ⟨rfl, rfl⟩))
    (fun os started H enc _ => lifted os started H enc)
theorem proved : Rows.WeftBacksSaid := over
#print axioms proved
end Go.Proofs.Ytlebgjcpidpgnaa.weftBacks
namespace Go.Proofs.Ytlebgjcpidpgnaa
/-- The row, under a short name, for the claim. -/
theorem weftBacks_holds : Rows.WeftBacksSaid := weftBacks.proved
end Go.Proofs.Ytlebgjcpidpgnaa
