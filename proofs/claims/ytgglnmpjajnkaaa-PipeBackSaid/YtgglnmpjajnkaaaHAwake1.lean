/- The fixed fact that the laws of layer 1 begin with. -/
import Derived.Test.YtgglnmpjajnkaaaPx0
import Derived.Test.YtgglnmpjajnkaaaHNew
import Derived.Test.YtgglnmpjajnkaaaHZeros
namespace Go.Proofs.Ytgglnmpjajnkaaa.P
open Go.RowKit Go.Proofs.YtgglnmpjajnkaaaW.PrintWords Go.Proofs.YtgglnmpjajnkaaaW.PrintLast Go.Proofs.YtgglnmpjajnkaaaW.PrintMore
set_option linter.unusedVariables false
set_option linter.unusedSimpArgs false

def sackbutlaw01_awake.f : Option Bool := some true

set_option maxHeartbeats 8000000 in
set_option maxRecDepth 100000 in
theorem sackbutlaw01_awake.calls (r : Bool) (w : World) (h : sackbutlaw01_awake.f = some r) :
    Calls Try.prog 14 #[] w fun e w' => e = .returned (.bool r) ∧ Below w.heap.size w w' := by
  cases h
  have HB0 := Aside0.mk ((Below.refl w.heap.size w).alloc (Nat.le_refl _) (.cells #[.slice none 0 0, .int .i64 0] 26))
  have HW0 := Aside0.mk (isWr_new w w (Below.refl _ _))
  have hu := Try.underlying26
  go_enter Try.func14, Try.ntmps14
  go_wp2_with fail
  have hp1 := wr_Put w _ _ _ [] 5 3 (by decide) (by decide) HB0.out HW0.out (by simp)
  rw [show putOk 5 3 = true by decide, if_pos rfl, show ([] : List Bool) ++ bitsOf 5 (3 : Int).toNat = [true, false, true] by decide] at hp1
  have HP1 := Aside0.mk hp1
  clear hp1
  (with_reducible refine HP1.out.mono ?_)
  rintro e w1 ⟨rfl, v1, hi1, hs1⟩
  have HI1 := Aside0.mk hi1
  have HS1 := Aside0.mk hs1
  clear hi1 hs1 HP1
  go_wp2_with fail
  have hp2 := wr_Signed w w1 _ _ _ (-1) 2 (by decide) (by decide) HS1.out.below HI1.out (by simp)
  rw [show signedOk (-1) 2 = true by decide, if_pos rfl, show [true, false, true] ++ bitsOf ((-1) % 2 ^ (2 : Int).toNat) (2 : Int).toNat = [true, false, true, true, true] by decide] at hp2
  have HP2 := Aside0.mk hp2
  clear hp2
  (with_reducible refine HP2.out.mono ?_)
  rintro e w2 ⟨rfl, v2, hi2, hs2⟩
  have HI2 := Aside0.mk hi2
  have HS2 := Aside0.mk hs2
  clear hi2 hs2 HP2
  go_wp2_with fail
  have hp3 := wr_Zeros w w2 _ _ _ 2 HS2.out.below HI2.out (by simp)
  rw [show decide ((0 : Int) ≤ 2 ∧ (2 : Int) ≤ 1000) = true by decide, if_pos (by decide), show [true, false, true, true, true] ++ (List.replicate (2 : Int).toNat false ++ [true]) = [true, false, true, true, true, false, false, true] by decide] at hp3
  have HP3 := Aside0.mk hp3
  clear hp3
  (with_reducible refine HP3.out.mono ?_)
  rintro e w3 ⟨rfl, v3, hi3, hs3⟩
  have HI3 := Aside0.mk hi3
  have HS3 := Aside0.mk hs3
  clear hi3 hs3 HP3
  go_wp2_with fail
  (with_reducible refine (wr_Bytes w _ _ _ _ HI3.out (by simp)).mono ?_)
  rintro e w4 ⟨v4, rfl, ho4, hb4⟩
  have hpk : pack [true, false, true, true, true, false, false, true] = [185] := by decide
  rw [hpk] at ho4
  have hcv := own_string (P := Try.prog) (src := 24) (dst := 9) Try.underlying24 Try.underlying5 Try.underlying9 ho4
  rw [show strOfNums [185] = (⟨#[185]⟩ : ByteArray) by rfl] at hcv
  have HI4 := Aside0.mk (isWr_below HI3.out hb4)
  have HB4 := Aside0.mk (below_then HS3.out.below HS3.out.below.size hb4)
  clear ho4 hb4 hpk
  go_wp2_with fail
  (with_reducible refine (wr_Len w _ _ _ _ HI4.out).mono ?_)
  rintro e w5 ⟨rfl, rfl⟩
  go_wp2
  go_ret
  exact ⟨rfl, HB4.out⟩
end Go.Proofs.Ytgglnmpjajnkaaa.P
