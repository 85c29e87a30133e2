/- layer 3's Put of what may not be told so: nothing is put. -/
import Derived.Test.YteoncgijnkfhfaaKfPx0
import Derived.Test.YteoncgijnkfhfaaKfHSGood
import Derived.Test.YteoncgijnkfhfaaKfHLen
namespace Go.Proofs.Yteoncgijnkfhfaa.P
open Go Go.RowKit Go.Proofs.YteoncgijnkfhfaaW.PrintWords Go.Proofs.YteoncgijnkfhfaaW.PrintLast Go.Proofs.YteoncgijnkfhfaaW.PrintMore
set_option linter.unusedVariables false
set_option linter.unusedSimpArgs false

set_option maxHeartbeats 8000000 in
set_option maxRecDepth 100000 in
theorem wr_slideNo (w0 w : World) (g : Nat) (v : Value) (l : List Bool) (A : Option Addr) (c : Nat) (ls : List Int) (p : Int) (Ak : Option Addr) (ck : Nat) (ks : List Int) (hB : Below w0.heap.size w0 w) (h : IsWr w0 w g v l) (hr : Kd.C (Kd.int .i64) w A ls.length ls) (hc : ls.length ≤ c) (hrk : Kd.C (Kd.int .i64) w Ak ks.length ks) (hck : ks.length ≤ ck) (hlen : ks.length ≤ 140737488355328 ∧ ls.length ≤ 140737488355328) (hgd : goodP p ks ls = false) :
    Calls Try.prog 27 #[.pointer (some ⟨g, 0, none⟩), .slice A ls.length c, .agg #[.int .i64 p, .slice Ak ks.length ck]] w (WrPost w0 w g v l (.bool false)) := by
  have HGD := Aside0.mk (show slide_Parts_good.f p ks ls = some false by unfold slide_Parts_good.f; rw [if_pos hlen, hgd])
  have HR := Aside0.mk hr
  have HC := Aside0.mk (And.intro hc hck)
  have HRK := Aside0.mk hrk
  have HW := Aside0.mk h
  have HB := Aside0.mk hB
  have HB2 := Aside0.mk (below_alloc (below_alloc (Below.refl w.heap.size w) (.cells #[.pointer (some ⟨g, 0, none⟩)] 58)) (.cells #[.int .i64 p, .slice Ak ks.length ck] 24))
  clear hr hc hck hrk h hB hlen hgd
  go_enter Try.func27, Try.ntmps27
  go_wp2_with fail
  (with_reducible refine (slide_Parts_good.calls p Ak ck ks A c ls false _ (Kd.C_below HRK.out HB2.out) HC.out.2 (Kd.C_below HR.out HB2.out) HC.out.1 HGD.out).mono ?_)
  rintro e w3 ⟨rfl, hb3⟩
  have HB3 := Aside0.mk (below_then HB2.out HB2.out.size hb3)
  clear hb3 HB2
  go_wp2
  go_ret
  exact ⟨rfl, v, isWr_below HW.out HB3.out, below_then HB.out HB.out.size HB3.out, kept_belowL _ HB3.out, .inl rfl⟩
end Go.Proofs.Yteoncgijnkfhfaa.P
