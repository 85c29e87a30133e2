/- The contract of the document's reading of a tree's text: sackbutref09.Read. -/
import Derived.Test.YtlebgjcpidpgnaaPx0
import Derived.Test.YtlebgjcpidpgnaaHTree
import Derived.Test.YtlebgjcpidpgnaaHWalk
import Derived.RegionTactic
import Derived.BigRegion
namespace Go.Proofs.Ytlebgjcpidpgnaa.P
open Go.RowKit Go.Proofs.YtlebgjcpidpgnaaW.PrintWords Go.Proofs.YtlebgjcpidpgnaaW.PrintLast Go.Proofs.YtlebgjcpidpgnaaW.PrintMore
set_option linter.unusedVariables false
set_option linter.unusedSimpArgs false

theorem rmay_calls (z n : Int) (w : World) (h0 : 0 ≤ z) (h1 : z ≤ 1024) (hn0 : 0 ≤ n) (hn : n ≤ 4) :
    Calls Try.prog 50 #[.int .i64 z, .int .i64 n] w (fun e w' => e = .returned (.bool (mayT z n)) ∧ w' = w) := by
  go_enter Try.func50, Try.ntmps50
  go_wp2
  all_goals go_ret
  all_goals refine ⟨?_, rfl⟩
  all_goals simp [*, mayT]
  all_goals first | omega | (by_cases hq : z % 32 = 0 <;> simp [hq])
/-- What the document reads. -/
def readF : Nat → ByteArray → Int → List Int × ByteArray × Bool
  | 0, t, z => ([z], t, true)
  | n + 1, t, z => if mayT z ((n : Int) + 1) = true then
      (if t.size = 0 ∨ (bt t 0 ≠ 48 ∧ bt t 0 ≠ 49) then ([], { data := #[] }, false)
      else if bt t 0 = 48 then ([z], t.extract 1 t.size, true)
      else if (readF n (t.extract 1 t.size) (z / 2)).2.2 = false then ([], { data := #[] }, false)
      else ((readF n (t.extract 1 t.size) (z / 2)).1 ++ (readF n (readF n (t.extract 1 t.size) (z / 2)).2.1 (z / 2)).1, (readF n (readF n (t.extract 1 t.size) (z / 2)).2.1 (z / 2)).2.1, (readF n (readF n (t.extract 1 t.size) (z / 2)).2.1 (z / 2)).2.2))
    else ([z], t, true)
theorem readF_length : ∀ (n : Nat) (t : ByteArray) (z : Int), (readF n t z).1.length ≤ 2 ^ n := by
  intro n
  induction n with
  | zero => intro t z; simp [readF]
  | succ n ih =>
    intro t z
    have h1 := ih (t.extract 1 t.size) (z / 2)
    have h2 := ih (readF n (t.extract 1 t.size) (z / 2)).2.1 (z / 2)
    have hp : 0 < 2 ^ n := Nat.pow_pos (by omega)
    unfold readF
    rw [Nat.pow_succ]
    split
    · split
      · simp
      · split
        · simp; omega
        · split
          · simp
          · simp only [List.length_append]; omega
    · simp; omega
theorem lit_R (w : World) (z : Int) : Kd.R (Kd.int .i64) 3 (w.alloc (.cells #[.int .i64 z] 3)) w.heap.size (fun _ => True) (.slice (some ⟨w.heap.size, 0, none⟩) 1 1) [z] :=
  Kd.R_of_own (own_lit w w.heap.size 3 .i64 [z] (Nat.le_refl _) (by simp)) (fun _ _ => trivial)

set_option maxHeartbeats 4000000 in
set_option maxRecDepth 100000 in
theorem read_calls : ∀ (n : Nat) (t : ByteArray) (z m : Int) (w : World), 0 ≤ z → z ≤ 1024 → Aside0 (m = (n : Int)) → m ≤ 4 →
    Calls Try.prog 35 #[.string t, .int .i64 z, .int .i64 m] w (fun e w' => ∃ v, e = .returned (.tuple #[v, .string (readF n t z).2.1, .bool (readF n t z).2.2]) ∧ Kd.R (Kd.int .i64) 3 w' w.heap.size (fun _ => True) v (readF n t z).1 ∧ Below w.heap.size w w') := by
  intro n
  induction n with
  | zero =>
    intro t z m w h0 h1 HM hm
    have hm0 : 0 ≤ m := by have := HM.out; omega
    have hmy : mayT z m = false := by rw [HM.out]; simp [mayT]
    have hr : readF 0 t z = ([z], t, true) := rfl
    rw [hr]
    clear hr
    go_enter Try.func35, Try.ntmps35
    go_wp2_with fail
    (with_reducible refine (rmay_calls z m _ h0 h1 hm0 hm).mono ?_)
    rintro e w1 ⟨rfl, rfl⟩
    rw [hmy]
    go_wp2
    go_ret3
    exact ⟨_, rfl, lit_R _ _, below_alloc (Below.refl _ _) _⟩
  | succ n ih =>
    intro t z m w h0 h1 HM hm
    have hm0 : 0 ≤ m := by have := HM.out; omega
    cases hmy : mayT z m with
    | false =>
      have hr : readF (n + 1) t z = ([z], t, true) := by
        unfold readF
        rw [if_neg (by rw [HM.out] at hmy; intro h; rw [show mayT z ((n : Int) + 1) = mayT z ((n + 1 : Nat) : Int) from rfl, hmy] at h; cases h)]
      rw [hr]
      clear hr
      go_enter Try.func35, Try.ntmps35
      go_wp2_with fail
      (with_reducible refine (rmay_calls z m _ h0 h1 hm0 hm).mono ?_)
      rintro e w1 ⟨rfl, rfl⟩
      rw [hmy]
      go_wp2
      go_ret3
      exact ⟨_, rfl, lit_R _ _, below_alloc (Below.refl _ _) _⟩
    | true =>
      have HMY := Aside0.mk hmy
      have HM1 := Aside0.mk (show m - 1 = (n : Int) by have := HM.out; omega)
      have hr : readF (n + 1) t z = if t.size = 0 ∨ (bt t 0 ≠ 48 ∧ bt t 0 ≠ 49) then ([], { data := #[] }, false)
          else if bt t 0 = 48 then ([z], t.extract 1 t.size, true)
          else if (readF n (t.extract 1 t.size) (z / 2)).2.2 = false then ([], { data := #[] }, false)
          else ((readF n (t.extract 1 t.size) (z / 2)).1 ++ (readF n (readF n (t.extract 1 t.size) (z / 2)).2.1 (z / 2)).1, (readF n (readF n (t.extract 1 t.size) (z / 2)).2.1 (z / 2)).2.1, (readF n (readF n (t.extract 1 t.size) (z / 2)).2.1 (z / 2)).2.2) := by
        conv => lhs; unfold readF
        rw [if_pos (by rw [HM.out] at hmy; exact hmy)]
      rw [hr]
      clear hr hmy
      by_cases hz : t.size = 0
      · rw [if_pos (.inl hz)]
        obtain rfl : t = { data := #[] } := by
          cases t with | mk d =>
            have : d = #[] := by simpa [ByteArray.size] using hz
            rw [this]
        clear hz
        go_enter Try.func35, Try.ntmps35
        go_wp2_with fail
        (with_reducible refine (rmay_calls z m _ h0 h1 hm0 hm).mono ?_)
        rintro e w1 ⟨rfl, rfl⟩
        rw [HMY.out]
        go_wp2
        go_ret3
        exact ⟨_, rfl, Kd.R_nil _ _ _ _ _, Below.refl _ _⟩
      · have hpos : 0 < t.size := Nat.pos_of_ne_zero hz
        have hem : t.toList.isEmpty = false := by
          rw [Bool.eq_false_iff]
          intro hh
          have h1 := List.isEmpty_iff.mp hh
          rw [ByteArray.toList_eq] at h1
          have h2 := congrArg List.length h1
          rw [Array.length_toList] at h2
          exact hz h2
        have hx : ∀ h : 0 < t.size, ((t[0]'h).toNat : Int) = bt t 0 := fun h => bt_at t 0 h
        by_cases h48 : bt t 0 = 48
        · rw [if_neg (by simp [hz, h48]), if_pos h48]
          rw [h48] at hx
          go_enter Try.func35, Try.ntmps35
          go_wp2_with fail
          (with_reducible refine (rmay_calls z m _ h0 h1 hm0 hm).mono ?_)
          rintro e w1 ⟨rfl, rfl⟩
          rw [HMY.out]
          go_wp2
          go_region
          all_goals go_wp2
          all_goals go_ret3
          all_goals exact ⟨_, rfl, lit_R _ _, by first | exact below_alloc (Below.refl _ _) _ | exact below_drew (below_alloc (Below.refl _ _) _)⟩
        · by_cases h49 : bt t 0 = 49
          · rw [if_neg (by simp [hz, h49]), if_neg h48]
            rw [h49] at hx
            rcases ha : readF n (t.extract 1 t.size) (z / 2) with ⟨la, ta, oa⟩
            have HA := Aside0.mk ha
            have hla := readF_length n (t.extract 1 t.size) (z / 2)
            rw [ha] at hla
            clear ha
            simp only at hla ⊢
            cases oa with
            | false =>
              rw [if_pos rfl]
              go_enter Try.func35, Try.ntmps35
              go_wp2_with fail
              (with_reducible refine (rmay_calls z m _ h0 h1 hm0 hm).mono ?_)
              rintro e w1 ⟨rfl, rfl⟩
              rw [HMY.out]
              go_wp2_with fail
              (with_reducible refine (ih (t.extract 1 t.size) (z / 2) (m - 1) _ (by omega) (by omega) HM1 (by omega)).mono ?_)
              rintro e w2 ⟨v2, rfl, hr2, hb2⟩
              rw [HA.out] at hr2 ⊢
              have HR2 := Aside0.mk hr2
              have HB2 := Aside0.mk hb2
              clear hr2 hb2
              go_wp2
              go_ret3
              exact ⟨_, rfl, Kd.R_nil _ _ _ _ _, HB2.out⟩
            | true =>
              rw [if_neg (by simp)]
              rcases hb : readF n ta (z / 2) with ⟨lb, tb, ob⟩
              have HBF := Aside0.mk hb
              have hlb := readF_length n ta (z / 2)
              rw [hb] at hlb
              clear hb
              simp only at hlb ⊢
              have hn4 : 2 ^ n ≤ 16 := by
                have := HM1.out
                have : n ≤ 4 := by omega
                exact Nat.le_trans (Nat.pow_le_pow_right (by omega) this) (by decide)
              have HL := Aside0.mk (show (la.length + lb.length) * 8 ≤ 140737488355328 by omega)
              clear hla hlb hn4
              go_enter Try.func35, Try.ntmps35
              go_wp2_with fail
              (with_reducible refine (rmay_calls z m _ h0 h1 hm0 hm).mono ?_)
              rintro e w1 ⟨rfl, rfl⟩
              rw [HMY.out]
              go_wp2_with fail
              (with_reducible refine (ih (t.extract 1 t.size) (z / 2) (m - 1) _ (by omega) (by omega) HM1 (by omega)).mono ?_)
              rintro e w2 ⟨v2, rfl, hr2, hb2⟩
              rw [HA.out] at hr2 ⊢
              have HR2 := Aside0.mk hr2
              have HB2 := Aside0.mk hb2
              clear hr2 hb2
              go_wp2_with fail
              (with_reducible refine (ih ta (z / 2) (m - 1) _ (by omega) (by omega) HM1 (by omega)).mono ?_)
              rintro e w3 ⟨v3, rfl, hr3, hb3⟩
              rw [HBF.out] at hr3 ⊢
              have ho2 := own_move (Kd.own_of_R HR2.out) (fun k hk => hb3.block k (own_lt (Kd.own_of_R HR2.out) k hk))
              have ho3 := Kd.own_of_R hr3
              have hB3 := below_then HB2.out HB2.out.size hb3
              obtain ⟨A2, c2, rfl⟩ := own_slice ho2
              obtain ⟨A3, c3, rfl⟩ := own_slice ho3
              have HRD := Aside0.mk (own_reads' ho3)
              have HO2 := Aside0.mk ho2
              have HB3 := Aside0.mk hB3
              have hsz := hB3.size
              clear ho2 ho3 hr3 hb3 hB3 HR2 HB2
              go_wp2_with (at_builtin; refine print_append_row (w0 := w1) w1.heap.size rfl _ _ 23 3 .i64 8 rfl Try.underlying23 tint_info (by decide) (.slice A2 la.length c2) la lb A3 lb.length c3 rfl rfl HO2.out HRD.out HB3.out hsz ?c1 ?_)
              case c1 => exact HL.out
              intro v4 w4 hown4 hB4 _ _
              have HO4 := Aside0.mk hown4
              have HB4 := Aside0.mk hB4
              clear hown4 hB4
              go_wp2
              go_ret3
              exact ⟨_, rfl, Kd.R_of_own (by rw [List.length_append]; exact HO4.out) (fun _ _ => trivial), HB4.out⟩
          · rw [if_pos (.inr ⟨h48, h49⟩)]
            generalize bt t 0 = x at hx h48 h49
            have e1 : (x != 48) = true := bne_iff_ne.mpr h48
            have e2 : (x != 49) = true := bne_iff_ne.mpr h49
            clear h48 h49
            go_enter Try.func35, Try.ntmps35
            go_wp2_with fail
            (with_reducible refine (rmay_calls z m _ h0 h1 hm0 hm).mono ?_)
            rintro e w1 ⟨rfl, rfl⟩
            rw [HMY.out]
            go_wp2
            go_ret3
            exact ⟨_, rfl, Kd.R_nil _ _ _ _ _, Below.refl _ _⟩
def sackbutref09_Read.f (t : ByteArray) (z m : Int) : Option (List Int × ByteArray × Bool) := if 0 ≤ z ∧ z ≤ 1024 ∧ m = 4 then some (readF 4 t z) else none
theorem sackbutref09_Read.calls (a0 : ByteArray) (a1 a2 : Int) (r1 : List Int) (r2 : ByteArray) (r3 : Bool) (w : World) (h : sackbutref09_Read.f a0 a1 a2 = some (r1, r2, r3)) :
    Calls Try.prog 35 #[.string a0, .int .i64 a1, .int .i64 a2] w fun e w' => ∃ v0_ : Value, e = .returned (.tuple #[v0_, .string r2, .bool r3]) ∧ Kd.R (Kd.int .i64) 3 w' w.heap.size (fun _ => True) v0_ r1 ∧ Below w.heap.size w w' := by
  unfold sackbutref09_Read.f at h
  by_cases hc : 0 ≤ a1 ∧ a1 ≤ 1024 ∧ a2 = 4
  · rw [if_pos hc] at h
    obtain ⟨h0, h1, rfl⟩ := hc
    have h := Option.some.inj h
    have := read_calls 4 a0 a1 4 w h0 h1 ⟨rfl⟩ (by omega)
    rw [h] at this
    exact this
  · rw [if_neg hc] at h
    cases h
end Go.Proofs.Ytlebgjcpidpgnaa.P
