/- The law SlideTakes: its first statements, and what stands in its last one. -/
import Derived.Test.YteoncgijnkfhfaaKaPx0
import Derived.Test.YteoncgijnkfhfaaKaHSAwake
import Derived.Test.YteoncgijnkfhfaaKaPx5
import Derived.Test.YteoncgijnkfhfaaKaPx6
import Derived.Test.YteoncgijnkfhfaaKaPx3
import Derived.Test.YteoncgijnkfhfaaKaPx1
import Derived.Test.YteoncgijnkfhfaaKaUSame
import Derived.Test.YteoncgijnkfhfaaKaUSTake
import Derived.Deep.RegionWith
namespace Go.Proofs.Yteoncgijnkfhfaa.P
open Go.RowKit Go.Proofs.YteoncgijnkfhfaaW.PrintWords Go.Proofs.YteoncgijnkfhfaaW.PrintLast Go.Proofs.YteoncgijnkfhfaaW.PrintMore Go.Proofs.Yteoncgijnkfhfaa.Pure
set_option linter.unusedVariables false
set_option linter.unusedSimpArgs false

def sackbutlaw03_SlideTakes.f (b : List Int) (n : Int) : Option Bool := if b.all (fun x => decide (0 ≤ x) && decide (x ≤ 255)) = true then some true else none
theorem all8S {more : List Int} (h : more.all (fun x => decide (0 ≤ x) && decide (x ≤ 255)) = true) : Bytes8 more := by
  intro x hx
  have := List.all_eq_true.mp h x hx
  simpa using this
set_option maxHeartbeats 8000000 in
set_option maxRecDepth 100000 in
theorem stakes_long (A : Option Addr) (c : Nat) (b : List Int) (n : Int) (w : World) (h : 120 < b.length) :
    Calls Try.prog 6 #[.slice A b.length c, .int .i64 n] w fun e w' => e = .returned (.bool true) ∧ Below w.heap.size w w' := by
  have hd : decide ((120 : Int) < (b.length : Int)) = true := by simp; omega
  clear h
  go_enter Try.func6, Try.ntmps6
  go_wp2_with fail
  (with_reducible refine (sackbutlaw03_awake.calls true _ rfl).mono ?_)
  rintro e w1 ⟨rfl, hb1⟩
  have HB1 := Aside0.mk hb1
  clear hb1
  go_wp2_with fail
  (with_reducible refine (sackbutlaw03_awake.calls true _ rfl).mono ?_)
  rintro e w2 ⟨rfl, hb2⟩
  have HB2 := Aside0.mk (below_then HB1.out HB1.out.size hb2)
  clear hb2
  go_wp2
  go_ret
  exact ⟨rfl, HB2.out⟩
/-- What stands in the law's last statement. -/
structure Fx (w W : World) (g : Nat) (b : List Int) (p e : Int) (b7 b8 b10 : Nat) (L K : List Int) (P a : Int) (t : ByteArray) (Av : Option Addr) (cv : Nat) (Aw : Option Addr) (cw : Nat) (Ak : Option Addr) (ck : Nat) (Al : Option Addr) (cl : Nat) : Prop where
  is : IsS74 w W g b p e
  bel : Below w.heap.size w W
  x7 : W.heap[b7]? = some (.cells #[.int .i64 P, .slice Ak K.length ck] 24 (0, 0))
  x8 : W.heap[b8]? = some (.cells #[.string t, .int .i64 a, .int .i64 e] 44 (0, 0))
  x10 : W.heap[b10]? = some (.cells #[.int .i64 P, .slice Al K.length cl] 30 (0, 0))
  rv : Kd.C (Kd.int .i64) W Av L.length L ∧ L.length ≤ cv
  rw : Kd.C (Kd.int .i64) W Aw L.length L ∧ L.length ≤ cw
  rk : Kd.C (Kd.int .i64) W Ak K.length K ∧ K.length ≤ ck
  rl : Kd.C (Kd.int .i64) W Al K.length K ∧ K.length ≤ cl
theorem Fx.below {w W W' : World} {g : Nat} {b : List Int} {p e : Int} {b7 b8 b10 : Nat} {L K : List Int} {P a : Int} {t : ByteArray} {Av : Option Addr} {cv : Nat} {Aw : Option Addr} {cw : Nat} {Ak : Option Addr} {ck : Nat} {Al : Option Addr} {cl : Nat} (h : Fx w W g b p e b7 b8 b10 L K P a t Av cv Aw cw Ak ck Al cl) (hb : Below W.heap.size W W') : Fx w W' g b p e b7 b8 b10 L K P a t Av cv Aw cw Ak ck Al cl :=
  ⟨h.is.below hb, below_then h.bel h.bel.size hb, blk_below h.x7 hb, blk_below h.x8 hb, blk_below h.x10 hb, ⟨Kd.C_below h.rv.1 hb, h.rv.2⟩, ⟨Kd.C_below h.rw.1 hb, h.rw.2⟩, ⟨Kd.C_below h.rk.1 hb, h.rk.2⟩, ⟨Kd.C_below h.rl.1 hb, h.rl.2⟩⟩
theorem own_CS {w : World} {base : Nat} {v : Value} {l : List Int} (h : w.ownsRow base 3 1 v l.length (nums .i64 l)) : ∃ A c, v = .slice A l.length c ∧ l.length ≤ c ∧ Kd.C (Kd.int .i64) w A l.length l := by
  obtain ⟨A, c, rfl, hr⟩ := own_reads h
  exact ⟨A, c, rfl, own_le h, Kd.C_of_reads (d := (0 : Int)) (h1 := fun _ => rfl) hr⟩
theorem fail_q (w W : World) (g : Nat) (b : List Int) (p e : Int) (h : IsS74 w W g b p e) : Calls Try.prog 23 #[.pointer (some ⟨g, 0, none⟩)] W fun e_ w' => e_ = .returned (.int .i64 e) ∧ w' = W := by
  obtain ⟨A, c, hb, _⟩ := h
  have hc : W.cell? ⟨g, 2, none⟩ = some (.int .i64 e) := (blk_cell hb 2).trans rfl
  clear hb
  go_enter Try.func23, Try.ntmps23
  go_wp2
  go_ret
  exact ⟨rfl, rfl⟩
end Go.Proofs.Yteoncgijnkfhfaa.P
