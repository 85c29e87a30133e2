/- A slice of acts that came in, told as a list. -/
import Derived.Test.YtgglnmpjajnkaaaPx0
import Derived.Test.YtgglnmpjajnkaaaHLawPP
import Derived.Deep.Slices
namespace Go.Proofs.Ytgglnmpjajnkaaa.P
open Go Go.ChangeShapes Go.WideShapes Go.RowKit Go.Proofs.YtgglnmpjajnkaaaW.PrintWords Go.Proofs.YtgglnmpjajnkaaaW.PrintLast Go.Proofs.YtgglnmpjajnkaaaW.PrintMore
set_option linter.unusedVariables false
set_option linter.unusedSimpArgs false

theorem add_addA (a : Addr) (i j : Nat) : (a.add i).add j = a.add (i + j) := by
  unfold Addr.add
  by_cases h1 : i = 0 <;> by_cases h2 : j = 0 <;> simp [h1, h2, Nat.add_assoc]
theorem take_one {cs : List Value} {i : Nat} {v : Value} (h : (cs.drop i).take 1 = [v]) : cs[i]? = some v := by
  have h2 := congrArg (fun l => l[0]?) h
  simpa [List.getElem?_take, List.getElem?_drop] using h2
theorem acts_of {H : Type} {enc : TypeId × Value → H} {W : World} {fuel t : Nat} {a : Option Addr} {len cap : Nat} {y : DataW H × List MemPlace} (ht : Try.prog.underlying t = some (.slice 28))
    (h : DataW.trod enc Try.prog W 0 (fun _ => true) true fuel t [.slice a len cap] = some y) :
    ∃ l : List S28, len = l.length ∧ Kd.C k28 W a l.length l ∧ l.length ≤ cap ∧ l.length ≤ maxLen ∧ ∀ x ∈ l, actIn x = true := by
  have hC : Try.prog.cellsOf 28 = 3 := by kernel_rfl
  have hC1 : Try.prog.cellsOf 3 = 1 := by kernel_rfl
  rcases Go.Deep.open_slice ht h with ⟨hcs, _⟩ | ⟨ad, len', cap', m, n, D, Pl, hcs, _, hl, hm, hmm, _, hi⟩
  · simp only [List.cons.injEq, Value.slice.injEq, and_true] at hcs
    obtain ⟨rfl, rfl, rfl⟩ := hcs
    exact ⟨[], rfl, Kd.C_nil _ _, by simp, by simp, by simp⟩
  · simp only [List.cons.injEq, Value.slice.injEq, and_true] at hcs
    obtain ⟨rfl, rfl, rfl⟩ := hcs
    simp only [if_true] at hmm
    have each : ∀ i, ∃ x : S28, i < len → (W.cell? (ad.add (i * 3 + 0)) = some (.int .i64 x.f0) ∧ W.cell? (ad.add (i * 3 + 1)) = some (.int .i64 x.f1) ∧ W.cell? (ad.add (i * 3 + 2)) = some (.int .i64 x.f2)) ∧ actIn x = true := by
      intro i
      by_cases hlt : i < len
      · obtain ⟨cs', hc, hd⟩ := hi i (by omega)
        rw [hC] at hc
        obtain ⟨_, hlen, hcell⟩ := World.cells?_some hc
        obtain ⟨xs, n', _, _, _, hxl, hf⟩ := DataW.trod_struct Try.underlying28 hd
        have hx : ∀ j, j < 3 → ∃ y, xs[j]? = some y := fun j hj => ⟨xs[j]'(by rw [hxl]; exact hj), List.getElem?_eq_getElem _⟩
        obtain ⟨y0, hy0⟩ := hx 0 (by omega)
        obtain ⟨y1, hy1⟩ := hx 1 (by omega)
        obtain ⟨y2, hy2⟩ := hx 2 (by omega)
        have g0 := (hf 0 _ rfl).trans hy0
        have g1 := (hf 1 _ rfl).trans hy1
        have g2 := (hf 2 _ rfl).trans hy2
        obtain ⟨n0, e0, _, w0⟩ := DataW.trod_int Try.underlying3 g0
        obtain ⟨n1, e1, _, w1⟩ := DataW.trod_int Try.underlying3 g1
        obtain ⟨n2, e2, _, w2⟩ := DataW.trod_int Try.underlying3 g2
        change (cs'.drop 0).take (Try.prog.cellsOf 3) = _ at e0
        change (cs'.drop 1).take (Try.prog.cellsOf 3) = _ at e1
        change (cs'.drop 2).take (Try.prog.cellsOf 3) = _ at e2
        rw [hC1] at e0 e1 e2
        have c0 := take_one e0
        have c1 := take_one e1
        have c2 := take_one e2
        refine ⟨⟨n0, n1, n2⟩, fun _ => ⟨⟨?_, ?_, ?_⟩, ?_⟩⟩
        · rw [← add_addA]; exact (hcell 0 (by omega)).trans c0
        · rw [← add_addA]; exact (hcell 1 (by omega)).trans c1
        · rw [← add_addA]; exact (hcell 2 (by omega)).trans c2
        · have hb : -9223372036854775808 ≤ n1 ∧ n1 ≤ 9223372036854775807 := by
            simp [Lit.wf, IntKind.min, IntKind.max, IntKind.signed, IntKind.bits] at w1
            omega
          simp [actIn, hb]
      · exact ⟨⟨0, 0, 0⟩, fun h' => absurd h' hlt⟩
    obtain ⟨f, hf⟩ : ∃ f : Nat → S28, ∀ i, i < len → (W.cell? (ad.add (i * 3 + 0)) = some (.int .i64 (f i).f0) ∧ W.cell? (ad.add (i * 3 + 1)) = some (.int .i64 (f i).f1) ∧ W.cell? (ad.add (i * 3 + 2)) = some (.int .i64 (f i).f2)) ∧ actIn (f i) = true :=
      ⟨fun i => Classical.choose (each i), fun i => Classical.choose_spec (each i)⟩
    have hll : ((List.range len).map f).length = len := by simp
    refine ⟨(List.range len).map f, hll.symm, ⟨rfl, by rw [hll]; unfold maxLen at hm; omega, fun _ => ⟨ad, rfl, fun j p hj => ?_⟩⟩, by omega, by omega, ?_⟩
    · rw [List.getElem?_map] at hj
      obtain ⟨q, hq, rfl⟩ := Option.map_eq_some_iff.mp hj
      have hjl : j < len := by
        have := (List.getElem?_eq_some_iff.mp hq).1
        simpa using this
      rw [List.getElem?_range hjl] at hq
      cases hq
      obtain ⟨⟨c0, c1, c2⟩, _⟩ := hf j hjl
      refine ⟨_, rfl, k28_mk W (f j), fun i u hu => ?_⟩
      match i, hu with
      | 0, hu => cases hu; exact c0
      | 1, hu => cases hu; exact c1
      | 2, hu => cases hu; exact c2
      | i + 3, hu => simp at hu
    · intro x hx
      obtain ⟨i, hi', rfl⟩ := List.mem_map.mp hx
      exact (hf i (by simpa using hi')).2
end Go.Proofs.Ytgglnmpjajnkaaa.P
