/- The contract of layer 9's tree.Put: a text's bits, one by one. -/
import Derived.Test.YtlebgjcpidpgnaaPx0
import Derived.Test.YtlebgjcpidpgnaaHLeaves
import Derived.Test.YtlebgjcpidpgnaaHLen
import Derived.Shelf.Abstract
import Derived.WalkSmall
namespace Go.Proofs.Ytlebgjcpidpgnaa.P
open Go.RowKit Go.Proofs.YtlebgjcpidpgnaaW.PrintWords Go.Proofs.YtlebgjcpidpgnaaW.PrintLast Go.Proofs.YtlebgjcpidpgnaaW.PrintMore
set_option linter.unusedVariables false
set_option linter.unusedSimpArgs false

set_option maxHeartbeats 4000000 in
set_option maxRecDepth 100000 in
theorem wr_treeNo (w0 w : World) (g : Nat) (v : Value) (l : List Bool) (t : ByteArray) (z : Int) (r1 : List Int) (r2 : Int) (hB : Below w0.heap.size w0 w) (h : IsWr w0 w g v l) (hl : tree_Leaves.f t z = some (r1, r2)) (hr : r2 ≠ 0) :
    Calls Try.prog 40 #[.pointer (some ⟨g, 0, none⟩), .string t, .int .i64 z] w (WrPost w0 w g v l (.bool false)) := by
  have HW := Aside0.mk h
  have HB := Aside0.mk hB
  have HL := Aside0.mk hl
  have hrb : (r2 != 0) = true := by simp [hr]
  clear h hB hl hr
  go_enter Try.func40, Try.ntmps40
  go_wp2_with fail
  (with_reducible refine (tree_Leaves.calls t z r1 r2 _ HL.out).mono ?_)
  rintro e w1 ⟨v1, rfl, _, hb1⟩
  have HB1 := Aside0.mk hb1
  clear hb1
  go_wp2
  go_ret
  exact ⟨rfl, v, isWr_below HW.out HB1.out, ⟨below_then HB.out HB.out.size HB1.out, kept_belowL _ HB1.out, .inl rfl⟩⟩
theorem bits_one (c : Bool) : bitsOf (if c = true then 1 else 0) 1 = [c] := by cases c <;> rfl
theorem put_one (c : Bool) : putOk (if c = true then 1 else 0) 1 = true := by cases c <;> rfl
theorem take_next (cs : List Bool) (i : Nat) (h : i < cs.length) : cs.take (i + 1) = cs.take i ++ [cs.getD i false] := by
  rw [List.take_add_one, List.getD_eq_getElem?_getD, List.getElem?_eq_getElem h]
  rfl

set_option maxHeartbeats 4000000 in
set_option maxRecDepth 100000 in
theorem wr_treePut (w0 w : World) (g : Nat) (v : Value) (l cs : List Bool) (t : ByteArray) (z : Int) (r1 : List Int) (hB : Below w0.heap.size w0 w) (h : IsWr w0 w g v l) (hl : tree_Leaves.f t z = some (r1, 0)) (hs : t.size = cs.length) (hc : ∀ i : Nat, i < cs.length → bt t i = if cs.getD i false = true then 49 else 48) (hm : l.length ≤ 800000000) (hm2 : cs.length ≤ 1000) :
    Calls Try.prog 40 #[.pointer (some ⟨g, 0, none⟩), .string t, .int .i64 z] w (WrPost w0 w g v (l ++ cs) (.bool true)) := by
  have HW := Aside0.mk h
  have HB := Aside0.mk hB
  have HL := Aside0.mk hl
  have HC := Aside0.mk hc
  clear h hB hl hc
  go_enter Try.func40, Try.ntmps40
  go_wp2_with fail
  (with_reducible refine (tree_Leaves.calls t z r1 0 _ HL.out).mono ?_)
  rintro e w1 ⟨v1, rfl, _, hb1⟩
  have HW1 := Aside0.mk (isWr_below HW.out hb1)
  have HS1 := Aside0.mk (show WrStep w0 w w1 g v v from ⟨below_then HB.out HB.out.size hb1, kept_belowL _ hb1, .inl rfl⟩)
  clear hb1
  go_wp2
  go_loopg [9, 20] cs.length (fun kq v9 v20 wr => ∃ (i : Nat) (v2 : Value), v20 = .int .i64 i ∧ kq + i = cs.length ∧ Aside0 (IsWr w0 wr g v2 (l ++ cs.take i)) ∧ Aside0 (WrStep w0 w wr g v v2))
  case atStart => exact ⟨0, v, rfl, by omega, ⟨by rw [List.take_zero, List.append_nil]; exact HW1.out⟩, HS1⟩
  case round =>
    obtain ⟨i, v2, rfl, hk, HI, HS⟩ := hrel
    by_cases hi : i < cs.length
    · have hx : ∀ h : i < t.size, ((t[i]'h).toNat : Int) = if cs.getD i false = true then 49 else 48 := fun h => by
        have := bt_at t (i : Int) (by simpa using h)
        rw [HC.out i hi] at this
        simpa using this
      cases hcb : cs.getD i false with
      | true =>
        rw [hcb, if_pos rfl] at hx
        have hn : cs.take (i + 1) = cs.take i ++ [true] := by rw [take_next cs i hi, hcb]
        have HN := Aside0.mk hn
        have hput := fun W (hB : Below w0.heap.size w0 W) (hI : IsWr w0 W g v2 (l ++ cs.take i)) => wr_Put w0 W g v2 (l ++ cs.take i) 1 1 (by omega) (by omega) hB hI (by simp; omega)
        rw [show putOk 1 1 = true from rfl, if_pos rfl, show bitsOf 1 (Int.toNat 1) = [true] from rfl] at hput
        have HPT := Aside0.mk hput
        clear hn hput hcb
        go_wp2_with fail
        (with_reducible refine (HPT.out wr HS.out.below HI.out).mono ?_)
        rintro e w2 ⟨rfl, v3, hi3, hs3⟩
        have HI3 := Aside0.mk hi3
        have HS3 := Aside0.mk (HS.out.trans hs3)
        clear hi3 hs3
        go_wp2
        go_roundg (cs.length - (i + 1))
        case rel => exact ⟨i + 1, v3, by go_num, by omega, ⟨by rw [HN.out, ← List.append_assoc]; exact HI3.out⟩, HS3⟩
        case measure => omega
      | false =>
        rw [hcb, if_neg (by simp)] at hx
        have hn : cs.take (i + 1) = cs.take i ++ [false] := by rw [take_next cs i hi, hcb]
        have HN := Aside0.mk hn
        have hput := fun W (hB : Below w0.heap.size w0 W) (hI : IsWr w0 W g v2 (l ++ cs.take i)) => wr_Put w0 W g v2 (l ++ cs.take i) 0 1 (by omega) (by omega) hB hI (by simp; omega)
        rw [show putOk 0 1 = true from rfl, if_pos rfl, show bitsOf 0 (Int.toNat 1) = [false] from rfl] at hput
        have HPT := Aside0.mk hput
        clear hn hput hcb
        go_wp2_with fail
        (with_reducible refine (HPT.out wr HS.out.below HI.out).mono ?_)
        rintro e w2 ⟨rfl, v3, hi3, hs3⟩
        have HI3 := Aside0.mk hi3
        have HS3 := Aside0.mk (HS.out.trans hs3)
        clear hi3 hs3
        go_wp2
        go_roundg (cs.length - (i + 1))
        case rel => exact ⟨i + 1, v3, by go_num, by omega, ⟨by rw [HN.out, ← List.append_assoc]; exact HI3.out⟩, HS3⟩
        case measure => omega
    · obtain rfl : i = cs.length := by omega
      go_wp2
      go_ret
      have := HI.out
      rw [List.take_length] at this
      exact ⟨rfl, v2, this, HS.out⟩
end Go.Proofs.Ytlebgjcpidpgnaa.P
