/- lattice.Coefs: the last of what lattice.Steps yields. -/
import Derived.Test.YtoglefgjiaoopaaPx0
import Derived.Test.YtoglefgjiaoopaaHSteps
namespace Go.Proofs.Ytoglefgjiaoopaa.P
open Go Go.RowKit Go.Proofs.YtoglefgjiaoopaaW.PrintWords Go.Proofs.YtoglefgjiaoopaaW.PrintLast Go.Proofs.YtoglefgjiaoopaaW.PrintMore
set_option linter.unusedVariables false
set_option linter.unusedSimpArgs false
attribute [local go_sem] Oper.semAt_some

def lattice_Coefs.f (k : Nat) (l : List Int) : Option (List Int) :=
  (lattice_Reflect.f k l).bind fun ks => if ks.length ≤ 1000000000 then (stepsL k [] ks).bind fun r => some (r.getLastD []) else none
theorem lattice_Coefs.mono : ∀ a0 k, LeO (lattice_Coefs.f k a0) (lattice_Coefs.f (k + 1) a0) := by
  intro a0 k
  exact LeO.bind (lattice_Reflect.mono _ _) (fun ks => LeO.ite (LeO.bind (stepsL_mono _ _ _) (fun _ => LeO.refl _)) (LeO.refl _))
theorem own_kept' {w w1 : World} {B base : Nat} {e : TypeId} {size n : Nat} {v : Value} {xs : List Value} (h : w.ownsRow base e size v n xs) (hb : CellsKept B w w1) : w1.ownsRow base e size v n xs := by
  refine own_move h fun k hk => ?_
  obtain ⟨cells, hc⟩ := own_typed h k hk
  exact (hb.2 k _ hc rfl).trans hc.symm
theorem steps_in (n : Nat) (A : Option Addr) (c m : Nat) (w : World) :
    CallsIn Fence.wide n Try.prog 17 #[.slice A m c] w fun e w' => e = .returned (.func (.func 39) #[] #[.pointer (some ⟨w.heap.size, 0, none⟩)]) ∧ w' = w.alloc (.cells #[.slice A m c] 22) := by
  refine callsIn_of_wp Try.func17 rfl trivial ?_ rfl
  simp only [Try.ntmps17, List.size_toArray, List.length_cons, List.length_nil, Nat.reduceAdd, Nat.reduceSub, Array.replicate_succ, Array.replicate_zero, List.push_toArray, List.append_toArray, List.nil_append, List.cons_append]
  gi_wp2
  go_ret
  exact ⟨rfl, rfl⟩
def lastX (pre : List (Int × Value × List Int)) : Int × Value × List Int := pre.getLastD (0, .slice none 0 0, [])
theorem lastX_app (pre : List (Int × Value × List Int)) (x : Int × Value × List Int) : lastX (pre ++ [x]) = x := by simp [lastX]
theorem lastX_map (xs : List (Int × Value × List Int)) (r : List (List Int)) (h : xs.map (fun x => x.2.2) = [] :: r) : (lastX xs).2.2 = r.getLastD [] := by
  have e : (lastX xs).2.2 = (xs.map (fun x => x.2.2)).getLastD [] := by
    unfold lastX
    rw [List.getLastD_eq_getLast?, List.getLastD_eq_getLast?, List.getLast?_map]
    cases xs.getLast? <;> rfl
  rw [e, h]
  cases r <;> rfl

set_option maxHeartbeats 8000000 in
set_option maxRecDepth 100000 in
theorem lattice_Coefs.calls (k : Nat) (A0 : Option Addr) (c0 : Nat) (l0 : List Int) (r : List Int) (w : World) (hr0 : Kd.C (Kd.int .i64) w A0 l0.length l0) (hc0 : l0.length ≤ c0) (h : lattice_Coefs.f k l0 = some r) :
    Calls Try.prog 25 #[.slice A0 l0.length c0] w fun e w' => ∃ v0_ : Value, e = .returned (v0_) ∧ Kd.R (Kd.int .i64) 3 w' w.heap.size (fun _ => True) v0_ r ∧ Below w.heap.size w w' := by
  obtain ⟨ks, hks, h⟩ := Option.bind_eq_some_iff.mp h
  by_cases hkl : ks.length ≤ 1000000000
  · rw [if_pos hkl] at h
    obtain ⟨rs, hrs, h⟩ := Option.bind_eq_some_iff.mp h
    have hlast : rs.getLastD [] = r := Option.some.inj h
    clear h
    refine (callsIn_wide (n := 4)).1 ?_
    refine callsIn_of_wp_marks Try.func25 rfl trivial ?_ rfl
    simp only [Try.ntmps25, List.size_toArray, List.length_cons, List.length_nil, Nat.reduceAdd, Nat.reduceSub, Array.replicate_succ, Array.replicate_zero, List.push_toArray, List.append_toArray, List.nil_append, List.cons_append]
    gi_wp2_with fail
    refine ⟨trivial, (steps_in _ _ _ _ _).mono ?_⟩
    rintro e w1 ⟨rfl, rfl⟩
    gi_wp2_with fail
    have hX : ((w.alloc (.cells #[.slice none 0 0] 22)).alloc (.cells #[.slice A0 l0.length c0] 22)).heap[w.heap.size]? = some (.cells #[.slice none 0 0] 22 (0, 0)) := blk_alloc (blk_new w _) _
    have hbox : ((w.alloc (.cells #[.slice none 0 0] 22)).alloc (.cells #[.slice A0 l0.length c0] 22)).heap[w.heap.size + 1]? = some (.cells #[.slice A0 l0.length c0] 22 (0, 0)) := by
      have := blk_new (w.alloc (.cells #[.slice none 0 0] 22)) (.cells #[.slice A0 l0.length c0] 22)
      rwa [World.size_alloc] at this
    have hbel : Below w.heap.size w ((w.alloc (.cells #[.slice none 0 0] 22)).alloc (.cells #[.slice A0 l0.length c0] 22)) := below_alloc (below_alloc (Below.refl _ _) _) _
    have hsz : ((w.alloc (.cells #[.slice none 0 0] 22)).alloc (.cells #[.slice A0 l0.length c0] 22)).heap.size = w.heap.size + 2 := by simp
    generalize (w.alloc (.cells #[.slice none 0 0] 22)).alloc (.cells #[.slice A0 l0.length c0] 22) = w2 at hX hbox hbel hsz ⊢
    refine rangeM rfl (by omega) (gf := 39) (lb := #[.pointer (some ⟨w.heap.size + 1, 0, none⟩)]) rfl trivial (enters_of Try.func39 (by kernel_rfl) rfl)
      (steps1_seq k _ (by omega) A0 c0 l0 ks rs w w2 (w.heap.size + 1) w.heap.size w.heap.size hbox (by omega) hr0 hc0 hbel (Nat.le_refl _) (by omega) (by omega) hks hkl hrs) (by omega) (fun _ => rfl)
      (fun pre W => Below w.heap.size w W ∧ W.heap[w.heap.size]? = some (.cells #[(lastX pre).2.1] 22 (0, 0)) ∧ W.ownsRow w.heap.size 3 1 (lastX pre).2.1 (lastX pre).2.2.length (nums .i64 (lastX pre).2.2))
      (fun s A B hi hk => ⟨hi.1.trans (hk.1.mono (by omega)), hk.2 _ _ hi.2.1 rfl, own_kept' hi.2.2 hk⟩)
      (fun x A B hm hk => own_kept' hm hk)
      ⟨hbel, hX, own_nil _ _ _ _⟩
      (fun x => { tmps := #[.slice A0 l0.length c0, undef, .slice none 0 0, .pointer (some ⟨w.heap.size, 0, none⟩), undef, x.2.1, .slice A0 l0.length c0, .func (.func 39) #[] #[.pointer (some ⟨w.heap.size + 1, 0, none⟩)], .int .i64 x.1, x.2.1, undef, undef], defers := [] }) ?assign ?body ?done
    case assign =>
      intro l x W K hK
      gi_wp2
      exact hK
    case body =>
      rintro l pre ⟨xn, xv, xl⟩ W ⟨hb, hx, ho⟩ hm hs
      replace hm : W.ownsRow w.heap.size 3 1 xv xl.length (nums .i64 xl) := hm
      obtain ⟨A, c, rfl, hle, hC⟩ := owns_readsI hm
      have hfz := blk_frozen hx 0
      have hcx := (blk_cell hx 0).trans rfl
      have hne := own_ne hm hx (by decide)
      gi_wp2
      refine ⟨trivial, KeepsOthers.setCell _ _ _, ⟨(Below.refl w.heap.size W).setCell (p := ⟨w.heap.size, 0, none⟩) (Nat.le_refl _) _, fun k o hk ho _ => (Below.heap_setCell _ _ _ k hk).trans ho⟩, hb.setCell (p := ⟨w.heap.size, 0, none⟩) (Nat.le_refl _) _, ?_, ?_⟩
      · rw [lastX_app]
        exact blk_put hx 0 _ rfl
      · rw [lastX_app]
        exact own_setCell hm hne _
    case done =>
      rintro D xs W hD hS ⟨hb, hx, ho⟩ hK
      have hl := lastX_map xs rs hS
      generalize lastX xs = x at hx ho hl
      obtain ⟨xn, xv, xl⟩ := x
      replace ho : W.ownsRow w.heap.size 3 1 xv xl.length (nums .i64 xl) := ho
      obtain rfl : xl = r := hl.trans hlast
      clear hl hlast hS
      obtain ⟨A, c, rfl, hle, hC⟩ := owns_readsI ho
      have hcx := (blk_cell hx 0).trans rfl
      gi_wp2
      refine ⟨by simp, .inl ⟨_, _, rfl, run_takeDeferred hK, ?_⟩⟩
      have hk : CellsKept w.heap.size W (W.putObj D (.deferred none)) := CellsKept.putObj _ (by omega) hK rfl
      exact ⟨_, results_tmp rfl _ _ _, _, rfl, Kd.R_of_own (own_kept' ho hk) (fun _ _ => trivial), hb.trans hk.1⟩
  · rw [if_neg hkl] at h
    cases h
end Go.Proofs.Ytoglefgjiaoopaa.P
