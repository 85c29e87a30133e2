/- The contract of layer 9's tree.Text. -/
import Derived.Test.YtlebgjcpidpgnaaPx0
import Derived.Test.YtlebgjcpidpgnaaHTree
import Derived.Test.YtlebgjcpidpgnaaHWalk
import Derived.Test.YtlebgjcpidpgnaaHBld
import Derived.Test.YtlebgjcpidpgnaaHFit
import Derived.Test.YtlebgjcpidpgnaaHLeaves
import Derived.RegionTactic
import Derived.BigRegion
import Derived.Shelf.Abstract
import Derived.WalkSmall
namespace Go.Proofs.Ytlebgjcpidpgnaa.P
open Go.RowKit Go.Proofs.YtlebgjcpidpgnaaW.PrintWords Go.Proofs.YtlebgjcpidpgnaaW.PrintLast Go.Proofs.YtlebgjcpidpgnaaW.PrintMore
set_option linter.unusedVariables false
set_option linter.unusedSimpArgs false

theorem ft_below (w0 : World) (g : Nat) (k : Nat) (w w' : World) (s : FtS) (hb : Below w.heap.size w w') (h : FtI w0 g k w s) : FtI w0 g k w' s := by
  obtain ⟨hB, ⟨cs, A, c, ⟨hg, hbk, hT, hs, hli, a, v, h1, ha, h2, hn, ho⟩, h4, h0, hc, hr, h3⟩, hl⟩ := h
  exact ⟨below_then hB hB.size hb, ⟨cs, A, c, ⟨hg, blk_below hbk hb, hT, hs, hli, a, v, h1, ha, h2, hn, own_move ho (fun k hk => hb.block k (own_lt ho k hk))⟩, h4, h0, hc, hr, h3⟩, hl⟩
theorem ft_down (w0 : World) (g : Nat) (k j : Nat) (w : World) (s : FtS) (hj : j ≤ k) (h : FtI w0 g k w s) : FtI w0 g j w s := ⟨h.1, h.2.1, by have := h.2.2; omega⟩
theorem fit_walk (w0 w : World) (g : Nat) (l : List Int) (z : Int) (hi : FtI w0 g (0 + wc 4) w (l, [], false)) (h0 : 0 ≤ z) (h1 : z ≤ 1024) :
    Calls Try.prog 49 #[.agg #[.func (.func 60) #[.pointer (some ⟨g, 0, none⟩)] #[], .func (.func 61) #[.pointer (some ⟨g, 0, none⟩)] #[]], .string { data := #[] }, .int .i64 z, .int .i64 4] w
      (fun e w' => e = .returned (.bool (walkP twoF leafF 4 { data := #[] } z (l, [], false)).1) ∧ FtI w0 g 0 w' (walkP twoF leafF 4 { data := #[] } z (l, [], false)).2) := by
  refine (walk_any (FtI w0 g) (fun _ _ _ _ h i => ft_below _ _ _ _ _ _ h i) (fun _ _ _ _ h i => ft_down _ _ _ _ _ _ h i) twoF leafF _ _ _ _ (ft_two w0 g) (ft_leaf w0 g)
    (enters_of Try.func60 (by kernel_rfl) rfl) (enters_of Try.func61 (by kernel_rfl) rfl)
    4 0 (l, [], false) w { data := #[] } z 4 hi h0 h1 ⟨rfl⟩ (by omega) (by decide)).mono ?_
  rintro e w' ⟨he, hi, _⟩
  exact ⟨he, hi⟩
def textW (l : List Int) (z : Int) : FtS := (walkP twoF leafF 4 { data := #[] } z (l, [], false)).2
def tree_Text.f (l : List Int) (z : Int) : Option (ByteArray × Int) :=
  if z < 1 ∨ 1024 < z then some ({ data := #[] }, 1) else if (textW l z).2.2 = true ∨ (textW l z).1 ≠ [] then some ({ data := #[] }, 10) else some (⟨(textW l z).2.1.toArray⟩, 0)

set_option maxHeartbeats 4000000 in
set_option maxRecDepth 100000 in
theorem tree_Text.calls (A0 : Option Addr) (c0 : Nat) (l0 : List Int) (a1 : Int) (r1 : ByteArray) (r2 : Int) (w : World) (hr0 : Kd.C (Kd.int .i64) w A0 l0.length l0) (hc0 : l0.length ≤ c0) (h : tree_Text.f l0 a1 = some (r1, r2)) :
    Calls Try.prog 27 #[.slice A0 l0.length c0, .int .i64 a1] w fun e w' => e = .returned (.tuple #[.string r1, .int .i64 r2]) ∧ Below w.heap.size w w' := by
  unfold tree_Text.f at h
  have HR0 := Aside0.mk hr0
  have HC0 := Aside0.mk hc0
  clear hr0 hc0
  by_cases hz : a1 < 1 ∨ 1024 < a1
  · rw [if_pos hz] at h
    obtain ⟨rfl, rfl⟩ : { data := #[] } = r1 ∧ 1 = r2 := by simpa using h
    have HZ := Aside0.mk (show (decide (1 ≤ a1) && decide (a1 ≤ 1024)) = false by rcases hz with h | h <;> simp <;> omega)
    clear h hz
    go_enter Try.func27, Try.ntmps27
    go_wp2_with fail
    (with_reducible refine (sized_calls a1 w).mono ?_)
    rintro e w1 ⟨rfl, rfl⟩
    rw [HZ.out]
    go_wp2
    go_ret2
    exact ⟨rfl, Below.refl _ _⟩
  · rw [if_neg hz] at h
    have hz0 : 0 ≤ a1 := by omega
    have hz1 : a1 ≤ 1024 := by omega
    have HZ := Aside0.mk (show (decide (1 ≤ a1) && decide (a1 ≤ 1024)) = true by simp; omega)
    have H := Aside0.mk h
    clear h hz
    go_enter Try.func27, Try.ntmps27
    go_wp2_with fail
    (with_reducible refine (sized_calls a1 w).mono ?_)
    rintro e w1 ⟨rfl, rfl⟩
    rw [HZ.out]
    go_wp2_with fail
    have hbl : Below w1.heap.size w1 (w1.alloc (.cells #[.slice A0 l0.length c0, .pointer none, .slice none 0 0, .bool false] 104)) := below_alloc (Below.refl _ _) _
    have hi0 : FtI w1 w1.heap.size (0 + wc 4) (w1.alloc (.cells #[.slice A0 l0.length c0, .pointer none, .slice none 0 0, .bool false] 104)) (l0, [], false) :=
      ⟨hbl, ⟨_, A0, c0, ⟨Nat.le_refl _, blk_new _ _, by decide, by simp, by kernel_rfl, none, .slice none 0 0, rfl, .inl rfl, rfl, fun _ => rfl, own_nil _ _ _ _⟩, rfl, rfl, HC0.out, HR0.out, rfl⟩, by simp [wc]⟩
    (with_reducible refine (fit_walk w1 _ w1.heap.size l0 a1 hi0 hz0 hz1).mono ?_)
    rintro e w2 ⟨rfl, hi⟩
    have hi : FtI w1 w1.heap.size 0 w2 (textW l0 a1) := hi
    clear hi0 hbl
    have H := H.out
    generalize textW l0 a1 = s at hi H
    obtain ⟨rest, text, bad⟩ := s
    obtain ⟨hB, ⟨cs, A, c, hI, h4, h0, hc, hr, h3⟩, hl⟩ := hi
    simp only at hI h0 hc hr h3 hl H
    have hc0 : w2.cell? ⟨w1.heap.size, 0, none⟩ = some (.slice A rest.length c) := cs_get1 hI.2.1 h0
    have hc3 : w2.cell? ⟨w1.heap.size, 3, none⟩ = some (.bool bad) := cs_get1 hI.2.1 h3
    have HB := Aside0.mk hB
    have HI := Aside0.mk hI
    clear hB hI h0 h3 h4 hr hl hc
    generalize (walkP twoF leafF 4 { data := #[] } a1 (l0, [], false)).1 = bw
    cases bad with
    | true =>
      rw [if_pos (.inl rfl)] at H
      obtain ⟨rfl, rfl⟩ : { data := #[] } = r1 ∧ 10 = r2 := by simpa using H
      clear H
      go_wp2
      go_ret2
      exact ⟨rfl, HB.out⟩
    | false =>
      cases rest with
      | nil =>
        rw [if_neg (by simp)] at H
        obtain ⟨rfl, rfl⟩ : ⟨text.toArray⟩ = r1 ∧ 0 = r2 := by simpa using H
        clear H
        go_wp2_with fail
        (with_reducible refine (bd_string w1 w2 w1.heap.size 104 cs text HB.out HI.out).mono ?_)
        rintro e w3 ⟨rfl, hB3⟩
        go_wp2
        go_ret2
        exact ⟨rfl, hB3⟩
      | cons x rest =>
        rw [if_pos (.inr (by simp))] at H
        obtain ⟨rfl, rfl⟩ : { data := #[] } = r1 ∧ 10 = r2 := by simpa using H
        have hpos : (((x :: rest).length : Int) > 0) = True := by simp
        have hpd : decide ((0 : Int) < (rest.length : Int) + 1) = true := by simp
        clear H
        go_wp2
        go_ret2
        exact ⟨rfl, HB.out⟩
end Go.Proofs.Ytlebgjcpidpgnaa.P
