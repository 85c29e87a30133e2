/- The contract of the document's tree for leaves: sackbutref09.Fit. -/
import Derived.Test.YtlebgjcpidpgnaaPx0
import Derived.Test.YtlebgjcpidpgnaaHTree
import Derived.Test.YtlebgjcpidpgnaaHWalk
import Derived.Test.YtlebgjcpidpgnaaHFit
import Derived.Test.YtlebgjcpidpgnaaHTRead
import Derived.RegionTactic
import Derived.BigRegion
namespace Go.Proofs.Ytlebgjcpidpgnaa.P
open Go.RowKit Go.Proofs.YtlebgjcpidpgnaaW.PrintWords Go.Proofs.YtlebgjcpidpgnaaW.PrintLast Go.Proofs.YtlebgjcpidpgnaaW.PrintMore
set_option linter.unusedVariables false
set_option linter.unusedSimpArgs false

def noFit : ByteArray × List Int × Bool := ({ data := #[] }, [], false)
/-- What the document fits. -/
def fitR : Nat → List Int → Int → ByteArray × List Int × Bool
  | 0, [], z => noFit
  | 0, x :: l, z => if z < x then noFit else if x = z then ({ data := #[] }, l, true) else noFit
  | n + 1, [], z => noFit
  | n + 1, x :: l, z => if z < x then noFit else if x = z then (if mayT z ((n : Int) + 1) = true then ({ data := #[48] }, l, true) else ({ data := #[] }, l, true))
    else if mayT z ((n : Int) + 1) = false then noFit
    else if (fitR n (x :: l) (z / 2)).2.2 = false then noFit
    else ({ data := #[49] } ++ (fitR n (x :: l) (z / 2)).1 ++ (fitR n (fitR n (x :: l) (z / 2)).2.1 (z / 2)).1, (fitR n (fitR n (x :: l) (z / 2)).2.1 (z / 2)).2.1, (fitR n (fitR n (x :: l) (z / 2)).2.1 (z / 2)).2.2)
def FitPost (w : World) (r : ByteArray × List Int × Bool) (e : Ending) (w' : World) : Prop :=
  ∃ A c, e = .returned (.tuple #[.string r.1, .slice A r.2.1.length c, .bool r.2.2]) ∧ r.2.1.length ≤ c ∧ Kd.C (Kd.int .i64) w' A r.2.1.length r.2.1 ∧ Below w.heap.size w w'
theorem noFit_post (w : World) : FitPost w noFit (.returned (.tuple #[.string { data := #[] }, .slice none 0 0, .bool false])) w := ⟨none, 0, rfl, Nat.le_refl _, Kd.C_nil _ _, Below.refl _ _⟩

set_option maxHeartbeats 4000000 in
set_option maxRecDepth 100000 in
theorem fit_nil (n : Nat) (A : Option Addr) (c : Nat) (z m : Int) (w : World) :
    Calls Try.prog 63 #[.slice A 0 c, .int .i64 z, .int .i64 m] w (FitPost w noFit) := by
  go_enter Try.func63, Try.ntmps63
  go_wp2
  go_ret3
  exact noFit_post w
set_option maxHeartbeats 4000000 in
set_option maxRecDepth 100000 in
theorem fit_over (n : Nat) (A : Option Addr) (c : Nat) (x : Int) (l : List Int) (z m : Int) (w : World) (hr : Kd.C (Kd.int .i64) w A (x :: l).length (x :: l)) (hc : (x :: l).length ≤ c) (hx : z < x) :
    Calls Try.prog 63 #[.slice A (x :: l).length c, .int .i64 z, .int .i64 m] w (FitPost w noFit) := by
  obtain ⟨ad, rfl, hx0, hx1⟩ := head_cell hr
  have hn := hr.2.1
  have hd : decide (z < x) = true := decide_eq_true hx
  have HR := Aside0.mk hr
  clear hr
  go_enter Try.func63, Try.ntmps63
  go_wp2
  go_ret3
  exact noFit_post w
set_option maxHeartbeats 4000000 in
set_option maxRecDepth 100000 in
theorem fit_at (n : Nat) (A : Option Addr) (c : Nat) (l : List Int) (z m : Int) (w : World) (hr : Kd.C (Kd.int .i64) w A (z :: l).length (z :: l)) (hc : (z :: l).length ≤ c) (h0 : 0 ≤ z) (h1 : z ≤ 1024) (hm0 : 0 ≤ m) (hm : m ≤ 4) :
    Calls Try.prog 63 #[.slice A (z :: l).length c, .int .i64 z, .int .i64 m] w (FitPost w (if mayT z m = true then ({ data := #[48] }, l, true) else ({ data := #[] }, l, true))) := by
  obtain ⟨ad, rfl, hx0, hx1⟩ := head_cell hr
  have hn := hr.2.1
  have HR := Aside0.mk hr
  have HD := Aside0.mk (Kd.C_drop hr (m := 1) (by simp) hc)
  clear hr
  have hc2 : l.length + 1 ≤ c := by simpa using hc
  cases hmy : mayT z m with
  | false =>
    rw [if_neg (by simp)]
    go_enter Try.func63, Try.ntmps63
    go_wp2_with fail
    (with_reducible refine (rmay_calls z m _ h0 h1 hm0 hm).mono ?_)
    rintro e w1 ⟨rfl, rfl⟩
    rw [hmy]
    by_cases hc1 : c = 1
    · subst hc1
      obtain rfl : l = [] := List.length_eq_zero_iff.mp (by omega)
      go_wp2
      go_region
      all_goals go_wp2
      all_goals go_ret3
      all_goals exact ⟨some ad, 0, rfl, by simp only; omega, by first | simpa using HD.out | simpa using Kd.C_below HD.out (below_drew (Below.refl _ _)), by first | exact Below.refl _ _ | exact below_drew (Below.refl _ _)⟩
    · go_wp2
      go_region
      all_goals go_wp2
      all_goals go_ret3
      all_goals (have hD := HD.out; rw [if_neg hc1] at hD; exact ⟨_, c - 1, rfl, by simp only; omega, by first | exact hD | exact Kd.C_below hD (below_drew (Below.refl _ _)), by first | exact Below.refl _ _ | exact below_drew (Below.refl _ _)⟩)
  | true =>
    rw [if_pos rfl]
    go_enter Try.func63, Try.ntmps63
    go_wp2_with fail
    (with_reducible refine (rmay_calls z m _ h0 h1 hm0 hm).mono ?_)
    rintro e w1 ⟨rfl, rfl⟩
    rw [hmy]
    by_cases hc1 : c = 1
    · subst hc1
      obtain rfl : l = [] := List.length_eq_zero_iff.mp (by omega)
      go_wp2
      go_region
      all_goals go_wp2
      all_goals go_ret3
      all_goals exact ⟨some ad, 0, rfl, by simp only; omega, by first | simpa using HD.out | simpa using Kd.C_below HD.out (below_drew (Below.refl _ _)), by first | exact Below.refl _ _ | exact below_drew (Below.refl _ _)⟩
    · go_wp2
      go_region
      all_goals go_wp2
      all_goals go_ret3
      all_goals (have hD := HD.out; rw [if_neg hc1] at hD; exact ⟨_, c - 1, rfl, by simp only; omega, by first | exact hD | exact Kd.C_below hD (below_drew (Below.refl _ _)), by first | exact Below.refl _ _ | exact below_drew (Below.refl _ _)⟩)
theorem fitR_size : ∀ (n : Nat) (l : List Int) (z : Int), (fitR n l z).1.size + 1 ≤ 2 ^ (n + 1) := by
  intro n
  induction n with
  | zero =>
    intro l z
    have h0 : noFit.1.size = 0 := rfl
    have h2 : ({ data := #[] } : ByteArray).size = 0 := rfl
    cases l with
    | nil => unfold fitR; omega
    | cons x l =>
      unfold fitR
      split
      · omega
      · split
        · simp only; omega
        · omega
  | succ n ih =>
    intro l z
    have hp : 2 ^ (n + 1 + 1) = 2 ^ (n + 1) + 2 ^ (n + 1) := by rw [Nat.pow_succ 2 (n + 1)]; omega
    have hp1 : 0 < 2 ^ n := Nat.pow_pos (by omega)
    have hp2 : 2 ^ (n + 1) = 2 ^ n + 2 ^ n := by rw [Nat.pow_succ]; omega
    have h0 : noFit.1.size = 0 := rfl
    have h1 : ({ data := #[48] } : ByteArray).size = 1 := rfl
    have h2 : ({ data := #[] } : ByteArray).size = 0 := rfl
    have h3 : ({ data := #[49] } : ByteArray).size = 1 := rfl
    cases l with
    | nil => unfold fitR; omega
    | cons x l =>
      unfold fitR
      have q1 := ih (x :: l) (z / 2)
      have q2 := ih (fitR n (x :: l) (z / 2)).2.1 (z / 2)
      split
      · omega
      · split
        · split
          · simp only; omega
          · simp only; omega
        · split
          · omega
          · split
            · omega
            · simp only [ByteArray.size_append]; omega
set_option maxHeartbeats 4000000 in
set_option maxRecDepth 100000 in
theorem fit_no (n : Nat) (A : Option Addr) (c : Nat) (x : Int) (l : List Int) (z m : Int) (w : World) (hr : Kd.C (Kd.int .i64) w A (x :: l).length (x :: l)) (hc : (x :: l).length ≤ c) (hx : x < z) (h0 : 0 ≤ z) (h1 : z ≤ 1024) (hm0 : 0 ≤ m) (hm : m ≤ 4) (hmy : mayT z m = false) :
    Calls Try.prog 63 #[.slice A (x :: l).length c, .int .i64 z, .int .i64 m] w (FitPost w noFit) := by
  obtain ⟨ad, rfl, hx0, hx1⟩ := head_cell hr
  have hn := hr.2.1
  have hd : decide (z < x) = false := decide_eq_false (by omega)
  have he : (x == z) = false := beq_eq_false_iff_ne.mpr (by omega)
  have HR := Aside0.mk hr
  have HMY := Aside0.mk hmy
  clear hr hmy
  go_enter Try.func63, Try.ntmps63
  go_wp2_with fail
  (with_reducible refine (rmay_calls z m _ h0 h1 hm0 hm).mono ?_)
  rintro e w1 ⟨rfl, rfl⟩
  rw [HMY.out]
  go_wp2
  go_ret3
  exact noFit_post _
set_option maxHeartbeats 4000000 in
set_option maxRecDepth 100000 in
theorem fit_calls : ∀ (n : Nat) (l : List Int) (A : Option Addr) (c : Nat) (z m : Int) (w : World), Kd.C (Kd.int .i64) w A l.length l → l.length ≤ c → 0 ≤ z → z ≤ 1024 → Aside0 (m = (n : Int)) → m ≤ 4 →
    Calls Try.prog 63 #[.slice A l.length c, .int .i64 z, .int .i64 m] w (FitPost w (fitR n l z)) := by
  intro n
  induction n with
  | zero =>
    intro l A c z m w hr hc h0 h1 HM hm
    have hm0 : 0 ≤ m := by have := HM.out; omega
    have hmy : mayT z m = false := by rw [HM.out]; simp [mayT]
    cases l with
    | nil => exact fit_nil 0 A c z m w
    | cons x l =>
      unfold fitR
      by_cases h2 : z < x
      · rw [if_pos h2]
        exact fit_over 0 A c x l z m w hr hc h2
      · rw [if_neg h2]
        by_cases h3 : x = z
        · subst h3
          rw [if_pos rfl]
          have := fit_at 0 A c l x m w hr hc h0 h1 hm0 hm
          rw [hmy, if_neg (by simp)] at this
          exact this
        · rw [if_neg h3]
          exact fit_no 0 A c x l z m w hr hc (by omega) h0 h1 hm0 hm hmy
  | succ n ih =>
    intro l A c z m w hr hc h0 h1 HM hm
    have hm0 : 0 ≤ m := by have := HM.out; omega
    have hme : mayT z ((n : Int) + 1) = mayT z m := by rw [HM.out]; rfl
    cases l with
    | nil => exact fit_nil 0 A c z m w
    | cons x l =>
      unfold fitR
      rw [hme]
      by_cases h2 : z < x
      · rw [if_pos h2]
        exact fit_over 0 A c x l z m w hr hc h2
      · rw [if_neg h2]
        by_cases h3 : x = z
        · subst h3
          rw [if_pos rfl]
          exact fit_at 0 A c l x m w hr hc h0 h1 hm0 hm
        · rw [if_neg h3]
          have hxz : x < z := by omega
          cases hmy : mayT z m with
          | false =>
            rw [if_pos rfl]
            exact fit_no 0 A c x l z m w hr hc hxz h0 h1 hm0 hm hmy
          | true =>
            rw [if_neg (by simp)]
            have HMY := Aside0.mk hmy
            have HM1 := Aside0.mk (show m - 1 = (n : Int) by have := HM.out; omega)
            have HR := Aside0.mk hr
            clear hmy hr hme h2 h3
            rcases hf1 : fitR n (x :: l) (z / 2) with ⟨ta, ra, oa⟩
            have hs1 := fitR_size n (x :: l) (z / 2)
            rw [hf1] at hs1
            have HF1 := Aside0.mk hf1
            clear hf1
            simp only at hs1 ⊢
            cases oa with
            | false =>
              rw [if_pos rfl]
              obtain ⟨ad, rfl, hx0, hx1⟩ := head_cell HR.out
              have hn := HR.out.2.1
              have hd : decide (z < x) = false := decide_eq_false (by omega)
              have he : (x == z) = false := beq_eq_false_iff_ne.mpr (by omega)
              go_enter Try.func63, Try.ntmps63
              go_wp2_with fail
              (with_reducible refine (rmay_calls z m _ h0 h1 hm0 hm).mono ?_)
              rintro e w1 ⟨rfl, rfl⟩
              rw [HMY.out]
              go_wp2_with fail
              have hih := ih (x :: l) (some ad) c (z / 2) (m - 1) w1 HR.out hc (by omega) (by omega) HM1 (by omega)
              rw [List.length_cons] at hih
              (with_reducible refine hih.mono ?_)
              rintro e w2 ⟨A2, c2, rfl, hc2, hr2, hb2⟩
              rw [HF1.out] at hc2 hr2 ⊢
              have HB2 := Aside0.mk hb2
              have HR2 := Aside0.mk hr2
              clear hb2 hr2
              go_wp2
              go_ret3
              exact ⟨none, 0, rfl, Nat.le_refl _, Kd.C_nil _ _, HB2.out⟩
            | true =>
              rw [if_neg (by simp)]
              rcases hf2 : fitR n ra (z / 2) with ⟨tb, rb, ob⟩
              have hs2 := fitR_size n ra (z / 2)
              rw [hf2] at hs2
              have HF2 := Aside0.mk hf2
              clear hf2
              simp only at hs2 ⊢
              have hn4 : 2 ^ (n + 1) ≤ 32 := by
                have := HM1.out
                exact Nat.le_trans (Nat.pow_le_pow_right (by omega) (show n + 1 ≤ 5 by omega)) (by decide)
              have ha : ta.size ≤ 32 := by omega
              have hb : tb.size ≤ 32 := by omega
              have h49 : (({ data := #[49] } : ByteArray) ++ ta).size = ta.size + 1 := by rw [ByteArray.size_append, show ({ data := #[49] } : ByteArray).size = 1 from rfl]; omega
              clear hs1 hs2 hn4
              obtain ⟨ad, rfl, hx0, hx1⟩ := head_cell HR.out
              have hn := HR.out.2.1
              have hd : decide (z < x) = false := decide_eq_false (by omega)
              have he : (x == z) = false := beq_eq_false_iff_ne.mpr (by omega)
              go_enter Try.func63, Try.ntmps63
              go_wp2_with fail
              (with_reducible refine (rmay_calls z m _ h0 h1 hm0 hm).mono ?_)
              rintro e w1 ⟨rfl, rfl⟩
              rw [HMY.out]
              go_wp2_with fail
              have hih := ih (x :: l) (some ad) c (z / 2) (m - 1) w1 HR.out hc (by omega) (by omega) HM1 (by omega)
              rw [List.length_cons] at hih
              (with_reducible refine hih.mono ?_)
              rintro e w2 ⟨A2, c2, rfl, hc2, hr2, hb2⟩
              rw [HF1.out] at hc2 hr2 ⊢
              have HB2 := Aside0.mk hb2
              have HR2 := Aside0.mk hr2
              clear hb2 hr2
              go_wp2_with fail
              (with_reducible refine (ih ra A2 c2 (z / 2) (m - 1) _ HR2.out hc2 (by omega) (by omega) HM1 (by omega)).mono ?_)
              rintro e w3 ⟨A3, c3, rfl, hc3, hr3, hb3⟩
              rw [HF2.out] at hc3 hr3 ⊢
              have HB3 := Aside0.mk (below_then HB2.out HB2.out.size hb3)
              have HR3 := Aside0.mk hr3
              clear hb3 hr3
              go_wp2
              go_ret3
              exact ⟨A3, c3, rfl, hc3, HR3.out, HB3.out⟩
end Go.Proofs.Ytlebgjcpidpgnaa.P
