/- The fixed fact that the laws of layer 3 begin with. -/
import Derived.Test.YteoncgijnkfhfaaKfPx0
import Derived.Test.YteoncgijnkfhfaaKfHSPut
namespace Go.Proofs.Yteoncgijnkfhfaa.P
open Go.RowKit Go.Proofs.YteoncgijnkfhfaaW.PrintWords Go.Proofs.YteoncgijnkfhfaaW.PrintLast Go.Proofs.YteoncgijnkfhfaaW.PrintMore
set_option linter.unusedVariables false
set_option linter.unusedSimpArgs false

def sackbutlaw03_awake.f : Option Bool := some true
theorem lit_C (w : World) (x : Int) : Kd.C (Kd.int .i64) (w.alloc (.cells #[.int .i64 x] 3)) (some ⟨w.heap.size, 0, none⟩) ([x] : List Int).length [x] :=
  Kd.C_of_reads (d := (0 : Int)) (h1 := fun _ => rfl) (own_reads' (own_lit w w.heap.size 3 .i64 [x] (Nat.le_refl _) (by simp)))
set_option maxHeartbeats 8000000 in
set_option maxRecDepth 100000 in
theorem sackbutlaw03_awake.calls (r : Bool) (w : World) (h : sackbutlaw03_awake.f = some r) :
    Calls Try.prog 9 #[] w fun e w' => e = .returned (.bool r) ∧ Below w.heap.size w w' := by
  cases h
  have hW0 := isWr_new w w (Below.refl _ _)
  have hb := below_alloc (below_alloc (Below.refl (w.alloc (.cells #[.slice none 0 0, .int .i64 0] 56)).heap.size (w.alloc (.cells #[.slice none 0 0, .int .i64 0] 56))) (.cells #[.int .i64 0] 3)) (.cells #[.int .i64 0] 3)
  have hc1 := Kd.C_alloc (lit_C (w.alloc (.cells #[.slice none 0 0, .int .i64 0] 56)) 0) (.cells #[.int .i64 0] 3)
  have hc2 := lit_C ((w.alloc (.cells #[.slice none 0 0, .int .i64 0] 56)).alloc (.cells #[.int .i64 0] 3)) 0
  rw [World.size_alloc] at hc1
  rw [World.size_alloc, World.size_alloc] at hc2
  have HB0 := Aside0.mk (below_alloc (below_alloc (below_alloc (Below.refl w.heap.size w) (.cells #[.slice none 0 0, .int .i64 0] 56)) (.cells #[.int .i64 0] 3)) (.cells #[.int .i64 0] 3))
  have hp := wr_slidePut w _ w.heap.size (.slice none 0 0) [] ⟨w.heap.size + 1, 0, none⟩ 1 [0] 0 (some ⟨w.heap.size + 1 + 1, 0, none⟩) 1 [0] HB0.out (isWr_below hW0 hb) (by simp) hc1 (by simp) hc2 (by simp) (by decide) ⟨by show w.heap.size + 1 ≠ w.heap.size; omega, by simp [Value.ownBlock]⟩ (fun ad he => by
    injection he with he
    subst he
    exact ⟨by show w.heap.size + 1 + 1 ≠ w.heap.size; omega, by simp [Value.ownBlock]⟩)
  rw [show ([] : List Bool) ++ (bitsOf 0 2 ++ slideBits [0] [0] (([0] : List Int).length / 2 ^ (0 : Int).toNat) ([0] : List Int).length) = [false, false, false, false, false, false, false, true] by decide] at hp
  simp only [List.length_cons, List.length_nil, Nat.zero_add] at hp
  have HP := Aside0.mk hp
  clear hp hW0 hb hc1 hc2
  have hu := Try.underlying56
  go_enter Try.func9, Try.ntmps9
  go_wp2_with fail
  (with_reducible refine HP.out.mono ?_)
  rintro e w1 ⟨rfl, v1, hi1, hs1⟩
  have HI1 := Aside0.mk hi1
  have HS1 := Aside0.mk hs1
  clear hi1 hs1 HP
  go_wp2_with fail
  (with_reducible refine (wr_Len w _ _ _ _ HI1.out).mono ?_)
  rintro e w3 ⟨rfl, rfl⟩
  go_wp2_with fail
  (with_reducible refine (wr_Bytes w _ _ _ _ HI1.out (by simp)).mono ?_)
  rintro e w3 ⟨v3, rfl, ho3, hb3⟩
  have hpk : pack [false, false, false, false, false, false, false, true] = [1] := by decide
  rw [hpk] at ho3
  have hcv := own_string (P := Try.prog) (src := 38) (dst := 9) Try.underlying38 Try.underlying5 Try.underlying9 ho3
  rw [show strOfNums [1] = (⟨#[1]⟩ : ByteArray) by rfl] at hcv
  have HB3 := Aside0.mk (below_then HS1.out.below HS1.out.below.size hb3)
  clear ho3 hb3 hpk
  go_wp2
  go_ret
  exact ⟨rfl, HB3.out⟩
end Go.Proofs.Yteoncgijnkfhfaa.P
