/- head.fields: a head's parts, and how many bits each has. -/
import Derived.Test.YtofjckfdofkikaaPx0
import Derived.StillTailTactics
import Derived.RegionTactic
import Derived.BigRegion
namespace Go.Proofs.Ytofjckfdofkikaa.P
open Go Go.RowKit Go.Proofs.YtofjckfdofkikaaW.PrintWords Go.Proofs.YtofjckfdofkikaaW.PrintLast Go.Proofs.YtofjckfdofkikaaW.PrintMore
set_option linter.unusedVariables false
set_option linter.unusedSimpArgs false

def flagZ (b : Bool) : Int := if b = true then 1 else 0
theorem flag_still (b : Bool) (w : World) : Calls Try.prog 59 #[.bool b] w fun e w' => e = .returned (.int .i64 (flagZ b)) ∧ w' = w := by
  cases b
  · go_enter Try.func59, Try.ntmps59
    go_wp2
    go_ret
    exact ⟨rfl, rfl⟩
  · go_enter Try.func59, Try.ntmps59
    go_wp2
    go_ret
    exact ⟨rfl, rfl⟩
abbrev headV (c0 c1 : Int) (big : Bool) (c3 c4 c5 c6 sum : Int) : Value := .agg #[.int .i64 c0, .int .i64 c1, .bool big, .int .i64 c3, .int .i64 c4, .int .i64 c5, .int .i64 c6, .int .u32 sum]
abbrev fieldsC (f0 f1 f2 f3 f4 f5 f6 f7 : Int) : Array Value := #[.int .i64 f0, .int .i64 3, .int .i64 f1, .int .i64 2, .int .i64 f2, .int .i64 1, .int .i64 f3, .int .i64 24, .int .i64 f4, .int .i64 6, .int .i64 f5, .int .i64 8, .int .i64 f6, .int .i64 21, .int .i64 f7, .int .i64 32, .int .i64 0, .int .i64 23]

set_option maxHeartbeats 8000000 in
set_option maxRecDepth 100000 in
theorem head_fields (c0 c1 : Int) (big : Bool) (c3 c4 c5 c6 sum : Int) (w : World) (h0 : -1000000000 ≤ c0) (h0' : c0 ≤ 1000000000) (h1 : 0 ≤ c1) (h1' : c1 ≤ 1000000000) (h4 : 0 ≤ c4) (h4' : c4 ≤ 1000000000) (hs : 0 ≤ sum) (hs' : sum ≤ 4294967295) :
    Calls Try.prog 44 #[headV c0 c1 big c3 c4 c5 c6 sum] w fun e w' => e = .returned (.agg (fieldsC (c0 - 1) (c1 / 8) (flagZ big) c3 (c4 / 16 - 1) c5 c6 sum)) ∧ Below w.heap.size w w' := by
  have hu := Try.underlying49
  have hu2 := Try.underlying23
  have hu3 := Try.underlying76
  have hq1 : c1.tdiv 8 = c1 / 8 := Int.tdiv_eq_ediv_of_nonneg h1
  have hq4 : c4.tdiv 16 = c4 / 16 := Int.tdiv_eq_ediv_of_nonneg h4
  have he1 : IntKind.i64.wrap (c0 - 1) = c0 - 1 := by rw [IntKind.wrap_i64]; omega
  have he2 : IntKind.i64.wrap (c1 / 8) = c1 / 8 := by rw [IntKind.wrap_i64]; omega
  have he3 : IntKind.i64.wrap (c4 / 16) = c4 / 16 := by rw [IntKind.wrap_i64]; omega
  have he4 : IntKind.i64.wrap (c4 / 16 - 1) = c4 / 16 - 1 := by rw [IntKind.wrap_i64]; omega
  have he5 : IntKind.i64.wrap sum = sum := by rw [IntKind.wrap_i64]; omega
  have HOK := Aside0.mk (And.intro h0 (And.intro h0' (And.intro h1 (And.intro h1' (And.intro h4 h4')))))
  go_enter Try.func44, Try.ntmps44
  go_wp2
  have hbA := blk_new w (.cells #[.int .i64 c0, .int .i64 c1, .bool big, .int .i64 c3, .int .i64 c4, .int .i64 c5, .int .i64 c6, .int .u32 sum] 49)
  have hBl := below_alloc (Below.refl w.heap.size w) (.cells #[.int .i64 c0, .int .i64 c1, .bool big, .int .i64 c3, .int .i64 c4, .int .i64 c5, .int .i64 c6, .int .u32 sum] 49)
  have hz1 : (w.alloc (.cells #[.int .i64 c0, .int .i64 c1, .bool big, .int .i64 c3, .int .i64 c4, .int .i64 c5, .int .i64 c6, .int .u32 sum] 49)).heap.size = w.heap.size + 1 := Array.size_push _
  generalize w.alloc (.cells #[.int .i64 c0, .int .i64 c1, .bool big, .int .i64 c3, .int .i64 c4, .int .i64 c5, .int .i64 c6, .int .u32 sum] 49) = w1 at hbA hBl hz1 ⊢
  have hbB := blk_new w1 (.cells #[.int .i64 0, .int .i64 0, .int .i64 0, .int .i64 0, .int .i64 0, .int .i64 0, .int .i64 0, .int .i64 0, .int .i64 0, .int .i64 0, .int .i64 0, .int .i64 0, .int .i64 0, .int .i64 0, .int .i64 0, .int .i64 0, .int .i64 0, .int .i64 0] 77)
  have hbA2 := blk_alloc hbA (.cells #[.int .i64 0, .int .i64 0, .int .i64 0, .int .i64 0, .int .i64 0, .int .i64 0, .int .i64 0, .int .i64 0, .int .i64 0, .int .i64 0, .int .i64 0, .int .i64 0, .int .i64 0, .int .i64 0, .int .i64 0, .int .i64 0, .int .i64 0, .int .i64 0] 77)
  have hBl2 := below_alloc hBl (.cells #[.int .i64 0, .int .i64 0, .int .i64 0, .int .i64 0, .int .i64 0, .int .i64 0, .int .i64 0, .int .i64 0, .int .i64 0, .int .i64 0, .int .i64 0, .int .i64 0, .int .i64 0, .int .i64 0, .int .i64 0, .int .i64 0, .int .i64 0, .int .i64 0] 77)
  have hz2 : (w1.alloc (.cells #[.int .i64 0, .int .i64 0, .int .i64 0, .int .i64 0, .int .i64 0, .int .i64 0, .int .i64 0, .int .i64 0, .int .i64 0, .int .i64 0, .int .i64 0, .int .i64 0, .int .i64 0, .int .i64 0, .int .i64 0, .int .i64 0, .int .i64 0, .int .i64 0] 77)).heap.size = w1.heap.size + 1 := Array.size_push _
  generalize w1.alloc (.cells #[.int .i64 0, .int .i64 0, .int .i64 0, .int .i64 0, .int .i64 0, .int .i64 0, .int .i64 0, .int .i64 0, .int .i64 0, .int .i64 0, .int .i64 0, .int .i64 0, .int .i64 0, .int .i64 0, .int .i64 0, .int .i64 0, .int .i64 0, .int .i64 0] 77) = w2 at hbB hbA2 hBl2 hz2 ⊢
  have hbC := blk_new w2 (.cells #[.int .i64 c0, .int .i64 c1, .bool big, .int .i64 c3, .int .i64 c4, .int .i64 c5, .int .i64 c6] 23)
  have hbB3 := blk_alloc hbB (.cells #[.int .i64 c0, .int .i64 c1, .bool big, .int .i64 c3, .int .i64 c4, .int .i64 c5, .int .i64 c6] 23)
  have hbA3 := blk_alloc hbA2 (.cells #[.int .i64 c0, .int .i64 c1, .bool big, .int .i64 c3, .int .i64 c4, .int .i64 c5, .int .i64 c6] 23)
  have hBl3 := below_alloc hBl2 (.cells #[.int .i64 c0, .int .i64 c1, .bool big, .int .i64 c3, .int .i64 c4, .int .i64 c5, .int .i64 c6] 23)
  generalize w2.alloc (.cells #[.int .i64 c0, .int .i64 c1, .bool big, .int .i64 c3, .int .i64 c4, .int .i64 c5, .int .i64 c6] 23) = w3 at hbC hbB3 hbA3 hBl3 ⊢
  rw [hz2, hz1] at hbC
  rw [hz1] at hbB3
  obtain ⟨g, hg⟩ : ∃ g, w.heap.size = g := ⟨_, rfl⟩
  have HG := Aside0.mk hg
  rw [hg] at hbA3 hbB3 hbC ⊢
  clear hg hbA hbA2 hbB hz1 hz2 hBl hBl2
  have hk0 := (blk_cell hbC 0).trans rfl
  have hk1 := (blk_cell hbC 1).trans rfl
  have hk2 := (blk_cell hbC 2).trans rfl
  have hk3 := (blk_cell hbC 3).trans rfl
  have hk4 := (blk_cell hbC 4).trans rfl
  have hk5 := (blk_cell hbC 5).trans rfl
  have hk6 := (blk_cell hbC 6).trans rfl
  have hk7 := (blk_cell hbA3 7).trans rfl
  have hf0 := blk_frozen hbB3 0
  have hc0 := (blk_cell hbB3 0).trans rfl
  have hf1 := blk_frozen hbB3 1
  have hc1 := (blk_cell hbB3 1).trans rfl
  have hf2 := blk_frozen hbB3 2
  have hc2 := (blk_cell hbB3 2).trans rfl
  have hf3 := blk_frozen hbB3 3
  have hc3 := (blk_cell hbB3 3).trans rfl
  have hf4 := blk_frozen hbB3 4
  have hc4 := (blk_cell hbB3 4).trans rfl
  have hf5 := blk_frozen hbB3 5
  have hc5 := (blk_cell hbB3 5).trans rfl
  have hf6 := blk_frozen hbB3 6
  have hc6 := (blk_cell hbB3 6).trans rfl
  have hf7 := blk_frozen hbB3 7
  have hc7 := (blk_cell hbB3 7).trans rfl
  have hf8 := blk_frozen hbB3 8
  have hc8 := (blk_cell hbB3 8).trans rfl
  have hf9 := blk_frozen hbB3 9
  have hc9 := (blk_cell hbB3 9).trans rfl
  have hf10 := blk_frozen hbB3 10
  have hc10 := (blk_cell hbB3 10).trans rfl
  have hf11 := blk_frozen hbB3 11
  have hc11 := (blk_cell hbB3 11).trans rfl
  have hf12 := blk_frozen hbB3 12
  have hc12 := (blk_cell hbB3 12).trans rfl
  have hf13 := blk_frozen hbB3 13
  have hc13 := (blk_cell hbB3 13).trans rfl
  have hf14 := blk_frozen hbB3 14
  have hc14 := (blk_cell hbB3 14).trans rfl
  have hf15 := blk_frozen hbB3 15
  have hc15 := (blk_cell hbB3 15).trans rfl
  have hf16 := blk_frozen hbB3 16
  have hc16 := (blk_cell hbB3 16).trans rfl
  have hf17 := blk_frozen hbB3 17
  have hc17 := (blk_cell hbB3 17).trans rfl
  have HB3 := Aside0.mk hbB3
  have HBl := Aside0.mk hBl3
  clear hbC hbB3 hbA3 hBl3 w1 w2
  go_still_tail 32, (by kernel_rfl)
  still_call (flag_still big _)
  repeat still_step
  refine wpStill_nil ?_
  change wpList _ _ _ _ _ w3.drew
  obtain ⟨x0, hx0⟩ : ∃ x, c0 - 1 = x := ⟨_, rfl⟩
  obtain ⟨x1, hx1⟩ : ∃ x, c1 / 8 = x := ⟨_, rfl⟩
  obtain ⟨x2, hx2⟩ : ∃ x : Int, flagZ big = x := ⟨_, rfl⟩
  obtain ⟨x4, hx4⟩ : ∃ x, c4 / 16 - 1 = x := ⟨_, rfl⟩
  have HX := Aside0.mk (And.intro hx0 (And.intro hx1 (And.intro hx2 hx4)))
  have HGE := Aside0.mk (show w.heap.size ≤ g + 1 by have := HG.out; omega)
  rw [hx0, hx1, hx2, hx4]
  clear hx0 hx1 hx2 hx4 he1 he2 he3 he4 he5 hq1 hq4 h0 h0' h1 h1' h4 h4' hs hs' hk0 hk1 hk2 hk3 hk4 hk5 hk6 hk7
  go_wp2
  obtain ⟨e0, e1, e2, e4⟩ := HX.out
  rw [e0, e1, e2, e4]
  have hB2 := blk_drew (blk_put (cs := #[.int .i64 x0, .int .i64 3, .int .i64 x1, .int .i64 2, .int .i64 x2, .int .i64 1, .int .i64 c3, .int .i64 24, .int .i64 x4, .int .i64 6, .int .i64 c5, .int .i64 8, .int .i64 c6, .int .i64 21, .int .i64 sum, .int .i64 32, .int .i64 0, .int .i64 0]) (blk_put (cs := #[.int .i64 x0, .int .i64 3, .int .i64 x1, .int .i64 2, .int .i64 x2, .int .i64 1, .int .i64 c3, .int .i64 24, .int .i64 x4, .int .i64 6, .int .i64 c5, .int .i64 8, .int .i64 c6, .int .i64 21, .int .i64 sum, .int .i64 32, .int .i64 0, .int .i64 0]) (blk_put (cs := #[.int .i64 x0, .int .i64 3, .int .i64 x1, .int .i64 2, .int .i64 x2, .int .i64 1, .int .i64 c3, .int .i64 24, .int .i64 x4, .int .i64 6, .int .i64 c5, .int .i64 8, .int .i64 c6, .int .i64 21, .int .i64 sum, .int .i64 0, .int .i64 0, .int .i64 0]) (blk_put (cs := #[.int .i64 x0, .int .i64 3, .int .i64 x1, .int .i64 2, .int .i64 x2, .int .i64 1, .int .i64 c3, .int .i64 24, .int .i64 x4, .int .i64 6, .int .i64 c5, .int .i64 8, .int .i64 c6, .int .i64 21, .int .i64 0, .int .i64 0, .int .i64 0, .int .i64 0]) (blk_put (cs := #[.int .i64 x0, .int .i64 3, .int .i64 x1, .int .i64 2, .int .i64 x2, .int .i64 1, .int .i64 c3, .int .i64 24, .int .i64 x4, .int .i64 6, .int .i64 c5, .int .i64 8, .int .i64 c6, .int .i64 0, .int .i64 0, .int .i64 0, .int .i64 0, .int .i64 0]) (blk_put (cs := #[.int .i64 x0, .int .i64 3, .int .i64 x1, .int .i64 2, .int .i64 x2, .int .i64 1, .int .i64 c3, .int .i64 24, .int .i64 x4, .int .i64 6, .int .i64 c5, .int .i64 8, .int .i64 0, .int .i64 0, .int .i64 0, .int .i64 0, .int .i64 0, .int .i64 0]) (blk_put (cs := #[.int .i64 x0, .int .i64 3, .int .i64 x1, .int .i64 2, .int .i64 x2, .int .i64 1, .int .i64 c3, .int .i64 24, .int .i64 x4, .int .i64 6, .int .i64 c5, .int .i64 0, .int .i64 0, .int .i64 0, .int .i64 0, .int .i64 0, .int .i64 0, .int .i64 0]) (blk_put (cs := #[.int .i64 x0, .int .i64 3, .int .i64 x1, .int .i64 2, .int .i64 x2, .int .i64 1, .int .i64 c3, .int .i64 24, .int .i64 x4, .int .i64 6, .int .i64 0, .int .i64 0, .int .i64 0, .int .i64 0, .int .i64 0, .int .i64 0, .int .i64 0, .int .i64 0]) (blk_put (cs := #[.int .i64 x0, .int .i64 3, .int .i64 x1, .int .i64 2, .int .i64 x2, .int .i64 1, .int .i64 c3, .int .i64 24, .int .i64 x4, .int .i64 0, .int .i64 0, .int .i64 0, .int .i64 0, .int .i64 0, .int .i64 0, .int .i64 0, .int .i64 0, .int .i64 0]) (blk_put (cs := #[.int .i64 x0, .int .i64 3, .int .i64 x1, .int .i64 2, .int .i64 x2, .int .i64 1, .int .i64 c3, .int .i64 24, .int .i64 0, .int .i64 0, .int .i64 0, .int .i64 0, .int .i64 0, .int .i64 0, .int .i64 0, .int .i64 0, .int .i64 0, .int .i64 0]) (blk_put (cs := #[.int .i64 x0, .int .i64 3, .int .i64 x1, .int .i64 2, .int .i64 x2, .int .i64 1, .int .i64 c3, .int .i64 0, .int .i64 0, .int .i64 0, .int .i64 0, .int .i64 0, .int .i64 0, .int .i64 0, .int .i64 0, .int .i64 0, .int .i64 0, .int .i64 0]) (blk_put (cs := #[.int .i64 x0, .int .i64 3, .int .i64 x1, .int .i64 2, .int .i64 x2, .int .i64 1, .int .i64 0, .int .i64 0, .int .i64 0, .int .i64 0, .int .i64 0, .int .i64 0, .int .i64 0, .int .i64 0, .int .i64 0, .int .i64 0, .int .i64 0, .int .i64 0]) (blk_put (cs := #[.int .i64 x0, .int .i64 3, .int .i64 x1, .int .i64 2, .int .i64 x2, .int .i64 0, .int .i64 0, .int .i64 0, .int .i64 0, .int .i64 0, .int .i64 0, .int .i64 0, .int .i64 0, .int .i64 0, .int .i64 0, .int .i64 0, .int .i64 0, .int .i64 0]) (blk_put (cs := #[.int .i64 x0, .int .i64 3, .int .i64 x1, .int .i64 2, .int .i64 0, .int .i64 0, .int .i64 0, .int .i64 0, .int .i64 0, .int .i64 0, .int .i64 0, .int .i64 0, .int .i64 0, .int .i64 0, .int .i64 0, .int .i64 0, .int .i64 0, .int .i64 0]) (blk_put (cs := #[.int .i64 x0, .int .i64 3, .int .i64 x1, .int .i64 0, .int .i64 0, .int .i64 0, .int .i64 0, .int .i64 0, .int .i64 0, .int .i64 0, .int .i64 0, .int .i64 0, .int .i64 0, .int .i64 0, .int .i64 0, .int .i64 0, .int .i64 0, .int .i64 0]) (blk_put (cs := #[.int .i64 x0, .int .i64 3, .int .i64 0, .int .i64 0, .int .i64 0, .int .i64 0, .int .i64 0, .int .i64 0, .int .i64 0, .int .i64 0, .int .i64 0, .int .i64 0, .int .i64 0, .int .i64 0, .int .i64 0, .int .i64 0, .int .i64 0, .int .i64 0]) (blk_put (cs := #[.int .i64 x0, .int .i64 0, .int .i64 0, .int .i64 0, .int .i64 0, .int .i64 0, .int .i64 0, .int .i64 0, .int .i64 0, .int .i64 0, .int .i64 0, .int .i64 0, .int .i64 0, .int .i64 0, .int .i64 0, .int .i64 0, .int .i64 0, .int .i64 0]) (blk_put (cs := #[.int .i64 0, .int .i64 0, .int .i64 0, .int .i64 0, .int .i64 0, .int .i64 0, .int .i64 0, .int .i64 0, .int .i64 0, .int .i64 0, .int .i64 0, .int .i64 0, .int .i64 0, .int .i64 0, .int .i64 0, .int .i64 0, .int .i64 0, .int .i64 0]) HB3.out 0 (.int .i64 x0) rfl) 1 (.int .i64 3) rfl) 2 (.int .i64 x1) rfl) 3 (.int .i64 2) rfl) 4 (.int .i64 x2) rfl) 5 (.int .i64 1) rfl) 6 (.int .i64 c3) rfl) 7 (.int .i64 24) rfl) 8 (.int .i64 x4) rfl) 9 (.int .i64 6) rfl) 10 (.int .i64 c5) rfl) 11 (.int .i64 8) rfl) 12 (.int .i64 c6) rfl) 13 (.int .i64 21) rfl) 14 (.int .i64 sum) rfl) 15 (.int .i64 32) rfl) 16 (.int .i64 0) rfl) 17 (.int .i64 23) rfl)
  have hL2 := below_drew ((((((((((((((((((HBl.out.setCell (p := ⟨g + 1, 0, none⟩) HGE.out (.int .i64 x0)).setCell (p := ⟨g + 1, 1, none⟩) HGE.out (.int .i64 3)).setCell (p := ⟨g + 1, 2, none⟩) HGE.out (.int .i64 x1)).setCell (p := ⟨g + 1, 3, none⟩) HGE.out (.int .i64 2)).setCell (p := ⟨g + 1, 4, none⟩) HGE.out (.int .i64 x2)).setCell (p := ⟨g + 1, 5, none⟩) HGE.out (.int .i64 1)).setCell (p := ⟨g + 1, 6, none⟩) HGE.out (.int .i64 c3)).setCell (p := ⟨g + 1, 7, none⟩) HGE.out (.int .i64 24)).setCell (p := ⟨g + 1, 8, none⟩) HGE.out (.int .i64 x4)).setCell (p := ⟨g + 1, 9, none⟩) HGE.out (.int .i64 6)).setCell (p := ⟨g + 1, 10, none⟩) HGE.out (.int .i64 c5)).setCell (p := ⟨g + 1, 11, none⟩) HGE.out (.int .i64 8)).setCell (p := ⟨g + 1, 12, none⟩) HGE.out (.int .i64 c6)).setCell (p := ⟨g + 1, 13, none⟩) HGE.out (.int .i64 21)).setCell (p := ⟨g + 1, 14, none⟩) HGE.out (.int .i64 sum)).setCell (p := ⟨g + 1, 15, none⟩) HGE.out (.int .i64 32)).setCell (p := ⟨g + 1, 16, none⟩) HGE.out (.int .i64 0)).setCell (p := ⟨g + 1, 17, none⟩) HGE.out (.int .i64 23))
  refine bodyPost_ret (results_cell_row rfl _ _ (g + 1) 77 (fieldsC x0 x1 x2 c3 x4 c5 c6 sum) (0, 0) _ rfl hB2 Try.underlying77 rfl (by kernel_rfl)) rfl ?_
  exact ⟨rfl, hL2⟩
end Go.Proofs.Ytofjckfdofkikaa.P
