/- The contract of the document's text of leaves: sackbutref09.Text. -/
import Derived.Test.YtlebgjcpidpgnaaPx0
import Derived.Test.YtlebgjcpidpgnaaHTree
import Derived.Test.YtlebgjcpidpgnaaHWalk
import Derived.Test.YtlebgjcpidpgnaaHFit
import Derived.Test.YtlebgjcpidpgnaaHTRead
import Derived.Test.YtlebgjcpidpgnaaHTFit
import Derived.RegionTactic
import Derived.BigRegion
namespace Go.Proofs.Ytlebgjcpidpgnaa.P
open Go.RowKit Go.Proofs.YtlebgjcpidpgnaaW.PrintWords Go.Proofs.YtlebgjcpidpgnaaW.PrintLast Go.Proofs.YtlebgjcpidpgnaaW.PrintMore
set_option linter.unusedVariables false
set_option linter.unusedSimpArgs false

def sackbutref09_Text.f (l : List Int) (z : Int) : Option (ByteArray × Int) :=
  if z < 1 ∨ 1024 < z then some ({ data := #[] }, 1) else if (fitR 4 l z).2.2 = false ∨ (fitR 4 l z).2.1 ≠ [] then some ({ data := #[] }, 10) else some ((fitR 4 l z).1, 0)

set_option maxHeartbeats 4000000 in
set_option maxRecDepth 100000 in
theorem sackbutref09_Text.calls (A0 : Option Addr) (c0 : Nat) (l0 : List Int) (a1 : Int) (r1 : ByteArray) (r2 : Int) (w : World) (hr0 : Kd.C (Kd.int .i64) w A0 l0.length l0) (hc0 : l0.length ≤ c0) (h : sackbutref09_Text.f l0 a1 = some (r1, r2)) :
    Calls Try.prog 28 #[.slice A0 l0.length c0, .int .i64 a1] w fun e w' => e = .returned (.tuple #[.string r1, .int .i64 r2]) ∧ Below w.heap.size w w' := by
  unfold sackbutref09_Text.f at h
  have HR0 := Aside0.mk hr0
  have HC0 := Aside0.mk hc0
  clear hr0 hc0
  by_cases hz : a1 < 1 ∨ 1024 < a1
  · rw [if_pos hz] at h
    obtain ⟨rfl, rfl⟩ : { data := #[] } = r1 ∧ 1 = r2 := by simpa using h
    clear h
    by_cases h1 : a1 < 1
    · have hd := decide_eq_true h1
      go_enter Try.func28, Try.ntmps28
      go_wp2
      go_ret2
      exact ⟨rfl, Below.refl _ _⟩
    · have h2 : 1024 < a1 := by omega
      have hd := decide_eq_false h1
      have hd2 := decide_eq_true h2
      go_enter Try.func28, Try.ntmps28
      go_wp2
      go_ret2
      exact ⟨rfl, Below.refl _ _⟩
  · rw [if_neg hz] at h
    have hz0 : 0 ≤ a1 := by omega
    have hz1 : a1 ≤ 1024 := by omega
    have hd := decide_eq_false (show ¬ a1 < 1 by omega)
    have hd2 := decide_eq_false (show ¬ 1024 < a1 by omega)
    rcases hf : fitR 4 l0 a1 with ⟨t, rest, ok⟩
    rw [hf] at h
    have HF := Aside0.mk hf
    have H := Aside0.mk h
    clear h hz hf
    go_enter Try.func28, Try.ntmps28
    go_wp2_with fail
    (with_reducible refine (fit_calls 4 l0 A0 c0 a1 4 w HR0.out HC0.out hz0 hz1 ⟨rfl⟩ (by omega)).mono ?_)
    rintro e w2 ⟨A2, c2, rfl, hc2, hr2, hb2⟩
    rw [HF.out] at hc2 ⊢
    have HB2 := Aside0.mk hb2
    clear hr2 hb2
    have H := H.out
    simp only at H hc2 ⊢
    cases ok with
    | false =>
      rw [if_pos (.inl rfl)] at H
      obtain ⟨rfl, rfl⟩ : { data := #[] } = r1 ∧ 10 = r2 := by simpa using H
      clear H
      go_wp2
      go_ret2
      exact ⟨rfl, HB2.out⟩
    | true =>
      cases rest with
      | nil =>
        rw [if_neg (by simp)] at H
        obtain ⟨rfl, rfl⟩ : t = r1 ∧ 0 = r2 := by simpa using H
        clear H
        go_wp2
        go_ret2
        exact ⟨rfl, HB2.out⟩
      | cons x rest =>
        rw [if_pos (.inr (by simp))] at H
        obtain ⟨rfl, rfl⟩ : { data := #[] } = r1 ∧ 10 = r2 := by simpa using H
        have hpd : decide ((0 : Int) < (rest.length : Int) + 1) = true := by simp
        clear H
        go_wp2
        go_ret2
        exact ⟨rfl, HB2.out⟩
end Go.Proofs.Ytlebgjcpidpgnaa.P
