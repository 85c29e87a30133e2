/- The law SlideWhole: for every input the call returns true and leaves what it was given; out of its contract and its pure statement. No condition. -/
import Derived.Test.YteoncgijnkfhfaaRows
import Derived.Test.YteoncgijnkfhfaaKeHLawSWh
import Derived.Test.YteoncgijnkfhfaaKeUSlideWhole
import Derived.WalkKit
import Derived.ProofKit
import Derived.OpenShut
import Derived.ShutString
import Derived.ChangeOld
import Derived.Below
import Derived.SizedLaws
import Derived.Test.YteoncgijnkfhfaaKeWSized
namespace Go.Proofs.Yteoncgijnkfhfaa.slideWhole
open Go.ChangeShapes Go.WideShapes Go.ChangeAt Go.RowKit
open Go.ChangeMaps (open_string shut_string)
open Go.Proofs.YteoncgijnkfhfaaW.PrintWords Go.Proofs.YteoncgijnkfhfaaW.PrintLast Go.Proofs.YteoncgijnkfhfaaW.PrintMore
set_option linter.unusedVariables false
theorem own : ownKnob Try.prog.godebug = none := by kernel_rfl
theorem laidOut : laidOutB Try.prog = true := by kernel_rfl
def IsRow (k : IntKind) (w : World) (a : Option Addr) (len cap : Nat) (zs : List Int) : Prop :=
  (a = none ∧ len = 0 ∧ cap = 0 ∧ zs = []) ∨
  ∃ x, a = some x ∧ len ≤ cap ∧ cap ≤ maxLen ∧ zs.length = cap ∧ (∀ i, i < zs.length → w.cell? (x.add i) = some (.int k (zs.getD i 0))) ∧ ∀ n ∈ zs, (Lit.int k n).wf = true
theorem row_of {H : Type} {enc : TypeId × Value → H} {W : World} {fuel : Nat} {t e : TypeId} {k : IntKind} {cs : List Value} {y : DataW H × List MemPlace} (ht : Try.prog.underlying t = some (.slice e)) (he : Try.prog.underlying e = some (.int k)) (hc : Try.prog.cellsOf e = 1)
    (h : DataW.trod enc Try.prog W 0 (fun _ => true) true fuel t cs = some y) : ∃ a len cap zs, cs = [.slice a len cap] ∧ IsRow k W a len cap zs := by
  rcases open_ints ht he hc h with ⟨hcs, _⟩ | ⟨x, l, c, zs, hcs, _, hl, hm, hz, _, hcell, hwz⟩
  · exact ⟨_, _, _, [], hcs, .inl ⟨rfl, rfl, rfl, rfl⟩⟩
  · exact ⟨_, _, _, zs, hcs, .inr ⟨_, rfl, hl, hm, by simpa using hz, hcell, hwz⟩⟩
theorem eq_gets {cs vs : List Value} (hl : cs.length = vs.length) (h : ∀ i, i < vs.length → cs[i]? = vs[i]?) : cs = vs := by
  refine List.ext_getElem? fun i => ?_
  by_cases hi : i < vs.length
  · exact h i hi
  · rw [List.getElem?_eq_none (by omega), List.getElem?_eq_none (by omega)]
theorem at_of {cs : List Value} {i : Nat} {v : Value} (h : (cs.drop i).take 1 = [v]) : cs[i]? = some v := by
  have h2 := congrArg (fun l => l[0]?) h
  simpa [List.getElem?_take, List.getElem?_drop] using h2
theorem at_in {cs : List Value} {i j m : Nat} {v : Value} (h : ((cs.drop i).take m)[j]? = some v) : cs[i + j]? = some v := by
  rw [List.getElem?_take] at h
  split at h
  · rwa [List.getElem?_drop] at h
  · cases h
theorem got {α : Type} {xs : List α} {n : Nat} (h : xs.length = n) (i : Nat) (hi : i < n) : ∃ y, xs[i]? = some y := ⟨xs[i], List.getElem?_eq_getElem (by omega)⟩
set_option maxRecDepth 100000 in
theorem lifted (os : Os) (started : os.Started) (H : Type) (enc : TypeId × Value → H) :
    ReturnsInHanded {} Try.checked os 8 .any (Rows.slideWholeSpec.pre6 enc Try.prog Try.f8 Rows.slideWholeRow.domain false) (Rows.slideWholeSpec.post enc Try.prog Try.f8 false true false false) := by
  refine returnsInHanded_of_change_sized (C := Try.checked) own started (by kernel_rfl) Try.func8
    (ChangeSpec.witness6 (enc := enc) (C := Try.checked) false ⟨#[], #[.slice none 0 0, .slice none 0 0], []⟩ 8 (by kernel_rfl) (by kernel_rfl) (by kernel_rfl) (by kernel_rfl)) ?_
  intro W base args ds gs before hval0 hW hcnd hsz0 _
  have hsz : (DataW.weightsEach Try.prog (Try.f8.params.toList ++ Rows.slideWholeSpec.plain.varTypes Try.prog) (ds ++ gs)).all (· ≤ reachBytes) = true := hsz0
  have hval : ∀ (j : Nat) t v, Try.f8.params[j]? = some t → args[j]? = some v → Value.okWide Try.prog W .any base t v := hval0
  have hW' := hW
  obtain ⟨p, q, hA0, hV, rfl, hfz, hnd⟩ := hW
  have hA : DataW.TrodAll enc Try.prog W 0 (fun _ => true) true Try.f8.params.toList args.toList ds p := hA0
  rw [Try.params8] at hA hval hsz
  obtain ⟨v0, vs0, d0, ds0, p0, q0, hargs, rfl, rfl, h0, r0⟩ := trodAll_cons hA
  obtain ⟨v1, vs1, d1, ds1, p1, q1, rfl, rfl, rfl, h1, r1⟩ := trodAll_cons r0
  obtain ⟨rfl, rfl, rfl⟩ := trodAll_nil r1
  obtain rfl : args = #[v0, v1] := by cases args; simp_all
  obtain ⟨rfl, rfl⟩ := trodVars_none hV
  have k0 := h0
  have lt0 : ∀ x ∈ p0, x.block < W.heap.size := by obtain ⟨m, hm⟩ := k0; exact DataW.trod_lt m _ _ _ hm
  obtain ⟨a0, len0, cap0, rfl⟩ := okWide_slice Try.underlying22 (hval 0 22 v0 rfl rfl)
  obtain ⟨z0, w0⟩ : ∃ zs, IsRow .i64 W a0 len0 cap0 zs := by
    obtain ⟨fuel, hf⟩ := h0
    obtain ⟨a', l', c', zs, e, r⟩ := row_of Try.underlying22 Try.underlying3 (by kernel_rfl) hf
    simp [Value.cells] at e
    obtain ⟨rfl, rfl, rfl⟩ := e
    exact ⟨zs, r⟩
  have y0 : len0 * 8 ≤ 140737488351232 := Go.Proofs.YteoncgijnkfhfaaW.PrintWords.sized_ints hsz (j := 0) (t := 22) rfl rfl Try.underlying22 Try.underlying3 (by kernel_rfl) (by kernel_rfl) k0
  obtain ⟨l0, rfl, hrl0, hml0, hwl0, hcl0⟩ := ReadsInt.ofRowC w0
  have k1 := h1
  have lt1 : ∀ x ∈ p1, x.block < W.heap.size := by obtain ⟨m, hm⟩ := k1; exact DataW.trod_lt m _ _ _ hm
  obtain ⟨a1, len1, cap1, rfl⟩ := okWide_slice Try.underlying38 (hval 1 38 v1 rfl rfl)
  obtain ⟨z1, w1⟩ : ∃ zs, IsRow .u8 W a1 len1 cap1 zs := by
    obtain ⟨fuel, hf⟩ := h1
    obtain ⟨a', l', c', zs, e, r⟩ := row_of Try.underlying38 Try.underlying5 (by kernel_rfl) hf
    simp [Value.cells] at e
    obtain ⟨rfl, rfl, rfl⟩ := e
    exact ⟨zs, r⟩
  have y1 : len1 * 1 ≤ 140737488351232 := Go.Proofs.YteoncgijnkfhfaaW.PrintWords.sized_ints hsz (j := 1) (t := 38) rfl rfl Try.underlying38 Try.underlying5 (by kernel_rfl) (by kernel_rfl) k1
  obtain ⟨l1, rfl, hrl1, hml1, hwl1, hcl1⟩ := ReadsInt.ofRowC w1
  clear hA0 hval0 hsz0 hsz
  have hp := Pure.SlideWhole l0 l1 hml0 y0 hwl0 hml1 y1 hwl1
  refine (P.sackbutlaw03_SlideWhole.calls _ _ l0 _ _ l1 true W (Kd.C_of_reads (d := (0 : Int)) (h1 := fun _ => rfl) hrl0) hcl0 (Kd.C_of_reads (d := (0 : Int)) (h1 := fun _ => rfl) hrl1) hcl1 hp).mono fun e W' ⟨he, bel0⟩ => ?_
  have bel : Below W.heap.size W W' := bel0
  subst he
  exact ⟨_, rfl, _, _, _, [], _, [], hW', trodAll_mk1 (shut_bool Try.underlying4 _), (trodAll_cons_mk (Below.trod laidOut (by kernel_rfl) (of_decide_eq_true (by kernel_rfl)) k0 bel lt0) (trodAll_cons_mk (Below.trod laidOut (by kernel_rfl) (of_decide_eq_true (by kernel_rfl)) k1 bel lt1) trodAll_mk0)), rfl, bel.frame _, fun h => by cases h⟩
theorem over : Rows.slideWholeRow.holds Try.pinned (OpenSpec.ofChange Rows.slideWholeSpec) :=
  OpenClaim.holds_of_wide 8 Try.f8 rfl rfl rfl rfl rfl rfl rfl ⟨rfl, rfl, rfl, rfl, rfl⟩ rfl rfl rfl rfl rfl (by kernel_rfl) Try.func8 (by kernel_rfl)
    (of_decide_eq_true (by kernel_rfl)) (by unfold Func.isWrapper; first | (rw [if_pos (by decide +kernel)]; kernel_rfl) | (rw [if_neg (by decide +kernel)]; exact ⟨rfl, rfl⟩))
    (fun os started H enc _ => lifted os started H enc)
theorem proved : Rows.SlideWholeSaid := over
#print axioms proved
end Go.Proofs.Yteoncgijnkfhfaa.slideWhole
namespace Go.Proofs.Yteoncgijnkfhfaa
/-- The row, under a short name, for the claim. -/
theorem slideWhole_holds : Rows.SlideWholeSaid := slideWhole.proved
end Go.Proofs.Yteoncgijnkfhfaa
