/- The fixed fact that the laws of layer 2 begin with. -/
import Derived.Test.YtgglnmpjajnkaaaPx0
import Derived.Test.YtgglnmpjajnkaaaHRice
import Derived.Test.YtgglnmpjajnkaaaHNew
import Derived.Test.YtgglnmpjajnkaaaPx3
namespace Go.Proofs.Ytgglnmpjajnkaaa.P
open Go.RowKit Go.Proofs.YtgglnmpjajnkaaaW.PrintWords Go.Proofs.YtgglnmpjajnkaaaW.PrintLast Go.Proofs.YtgglnmpjajnkaaaW.PrintMore
set_option linter.unusedVariables false
set_option linter.unusedSimpArgs false

def sackbutlaw02_awake.f : Option Bool := some true
set_option maxHeartbeats 8000000 in
set_option maxRecDepth 100000 in
theorem sackbutlaw02_awake.calls (r : Bool) (w : World) (h : sackbutlaw02_awake.f = some r) :
    Calls Try.prog 21 #[] w fun e w' => e = .returned (.bool r) ∧ Below w.heap.size w w' := by
  cases h
  have HB0 := Aside0.mk ((Below.refl w.heap.size w).alloc (Nat.le_refl _) (.cells #[.slice none 0 0, .int .i64 0] 26))
  have HW0 := Aside0.mk (isWr_new w w (Below.refl _ _))
  have hu := Try.underlying26
  go_enter Try.func21, Try.ntmps21
  go_wp2_with fail
  have hp1 := wr_ricePut w _ _ _ [] (-1) 0 HB0.out HW0.out (by simp)
  rw [show mayZ (-1) 0 = true by decide, if_pos rfl, show ([] : List Bool) ++ codeZ (-1) (0 : Int).toNat = [false, true] by decide] at hp1
  have HP1 := Aside0.mk hp1
  clear hp1
  (with_reducible refine HP1.out.mono ?_)
  rintro e w1 ⟨rfl, v1, hi1, hs1⟩
  have HI1 := Aside0.mk hi1
  have HS1 := Aside0.mk hs1
  clear hi1 hs1 HP1
  go_wp2_with fail
  have hp2 := wr_ricePut w w1 _ _ _ 5 2 HS1.out.below HI1.out (by simp)
  rw [show mayZ 5 2 = true by decide, if_pos rfl, show [false, true] ++ codeZ 5 (2 : Int).toNat = [false, true, false, false, true, true, false] by decide] at hp2
  have HP2 := Aside0.mk hp2
  clear hp2
  (with_reducible refine HP2.out.mono ?_)
  rintro e w2 ⟨rfl, v2, hi2, hs2⟩
  have HI2 := Aside0.mk hi2
  have HS2 := Aside0.mk hs2
  clear hi2 hs2 HP2
  go_wp2_with fail
  (with_reducible refine (wr_Len w _ _ _ _ HI2.out).mono ?_)
  rintro e w3 ⟨rfl, rfl⟩
  go_wp2_with fail
  (with_reducible refine (wr_Bytes w _ _ _ _ HI2.out (by simp)).mono ?_)
  rintro e w3 ⟨v3, rfl, ho3, hb3⟩
  have hpk : pack [false, true, false, false, true, true, false] = [76] := by decide
  rw [hpk] at ho3
  have hcv := own_string (P := Try.prog) (src := 24) (dst := 9) Try.underlying24 Try.underlying5 Try.underlying9 ho3
  rw [show strOfNums [76] = (⟨#[76]⟩ : ByteArray) by rfl] at hcv
  have HB3 := Aside0.mk (below_then HS2.out.below HS2.out.below.size hb3)
  clear ho3 hb3 hpk
  go_wp2_with fail
  (with_reducible refine (rice_Cost.calls 5 2 5 _ (by kernel_rfl)).mono ?_)
  rintro e w4 ⟨rfl, hd⟩
  have HB4 := Aside0.mk (below_then HB3.out HB3.out.size hd.below)
  clear hd
  go_wp2
  go_ret
  exact ⟨rfl, HB4.out⟩
end Go.Proofs.Ytgglnmpjajnkaaa.P
