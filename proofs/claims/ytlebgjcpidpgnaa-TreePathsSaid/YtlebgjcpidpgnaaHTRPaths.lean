/- The contract of the document's ways through a tree: sackbutref09.Paths. -/
import Derived.Test.YtlebgjcpidpgnaaPx0
import Derived.Test.YtlebgjcpidpgnaaHTree
import Derived.Test.YtlebgjcpidpgnaaHWalk
import Derived.Test.YtlebgjcpidpgnaaHTRead
import Derived.Test.YtlebgjcpidpgnaaUTree
import Derived.RegionTactic
import Derived.BigRegion
namespace Go.Proofs.Ytlebgjcpidpgnaa.P
open Go.RowKit Go.Proofs.YtlebgjcpidpgnaaW.PrintWords Go.Proofs.YtlebgjcpidpgnaaW.PrintLast Go.Proofs.YtlebgjcpidpgnaaW.PrintMore Go.Proofs.Ytlebgjcpidpgnaa.Pure
set_option linter.unusedVariables false
set_option linter.unusedSimpArgs false

theorem str_info : (Try.prog.info? 9).map (fun i => (i.zero, i.size, i.bytes)) = some (some (.string .empty), 1, 16) := by kernel_rfl
/-- The ways to a tree's leaves. -/
def pathsT : ByteArray → Sh → List ByteArray
  | p, .leaf => [p]
  | p, .two a b => pathsT (p ++ { data := #[48] }) a ++ pathsT (p ++ { data := #[49] }) b
theorem pathsT_length : ∀ (n : Nat) (τ : Sh) (z : Int) (p : ByteArray), okT n z τ → (pathsT p τ).length ≤ 2 ^ n := by
  intro n
  induction n with
  | zero =>
    intro τ z p h
    cases τ with
    | leaf => simp [pathsT]
    | two a b => cases h
  | succ n ih =>
    intro τ z p h
    cases τ with
    | leaf => simp only [pathsT, List.length_cons, List.length_nil]; exact Nat.one_le_two_pow
    | two a b =>
      simp only [pathsT, List.length_append]
      have h1 := ih a _ (p ++ { data := #[48] }) h.2.1
      have h2 := ih b _ (p ++ { data := #[49] }) h.2.2
      rw [Nat.pow_succ]
      omega
def RowS (w : World) (base : Nat) (v : Value) (l : List ByteArray) : Prop := w.ownsRow base 9 1 v l.length (encs Value.string l)
theorem rowS_lit (w : World) (p : ByteArray) : RowS (w.alloc (.cells #[.string p] 9)) w.heap.size (.slice (some ⟨w.heap.size, 0, none⟩) 1 1) [p] :=
  own_lit_of (enc := Value.string) w w.heap.size 9 [p] (Nat.le_refl _) (by simp)

set_option maxHeartbeats 4000000 in
set_option maxRecDepth 100000 in
theorem rpaths_calls : ∀ (n : Nat) (τ : Sh) (t p : ByteArray) (z m : Int) (u : List UInt8) (w : World), rdT n z (tl t) = some (τ, u) → 0 ≤ z → z ≤ 1024 → Aside0 (m = (n : Int)) → m ≤ 4 → p.size + n ≤ 40 →
    Calls Try.prog 18 #[.string t, .int .i64 z, .int .i64 m, .string p] w (fun e w' => ∃ v t', e = .returned (.tuple #[v, .string t']) ∧ tl t' = u ∧ RowS w' w.heap.size v (pathsT p τ) ∧ Below w.heap.size w w') := by
  intro n
  induction n with
  | zero =>
    intro τ t p z m u w hr h0 h1 HM hm hp
    have hm0 : 0 ≤ m := by have := HM.out; omega
    have hmy : mayT z m = false := by rw [HM.out]; simp [mayT]
    obtain ⟨rfl, rfl⟩ : Sh.leaf = τ ∧ tl t = u := by simpa [rdT] using hr
    clear hr
    go_enter Try.func18, Try.ntmps18
    go_wp2_with fail
    (with_reducible refine (rmay_calls z m _ h0 h1 hm0 hm).mono ?_)
    rintro e w1 ⟨rfl, rfl⟩
    rw [hmy]
    go_wp2
    go_ret2
    exact ⟨_, _, rfl, rfl, rowS_lit _ _, below_alloc (Below.refl _ _) _⟩
  | succ n ih =>
    intro τ t p z m u w hr h0 h1 HM hm hp
    have hm0 : 0 ≤ m := by have := HM.out; omega
    cases hmy : mayT z m with
    | false =>
      obtain ⟨rfl, rfl⟩ : Sh.leaf = τ ∧ tl t = u := by
        unfold rdT at hr
        rw [if_neg (by rw [HM.out] at hmy; intro h; rw [show mayT z ((n : Int) + 1) = mayT z ((n + 1 : Nat) : Int) from rfl, hmy] at h; cases h)] at hr
        simpa using hr
      clear hr
      go_enter Try.func18, Try.ntmps18
      go_wp2_with fail
      (with_reducible refine (rmay_calls z m _ h0 h1 hm0 hm).mono ?_)
      rintro e w1 ⟨rfl, rfl⟩
      rw [hmy]
      go_wp2
      go_ret2
      exact ⟨_, _, rfl, rfl, rowS_lit _ _, below_alloc (Below.refl _ _) _⟩
    | true =>
      have HMY := Aside0.mk hmy
      have HM1 := Aside0.mk (show m - 1 = (n : Int) by have := HM.out; omega)
      unfold rdT at hr
      rw [if_pos (by rw [HM.out] at hmy; exact hmy)] at hr
      clear hmy
      rcases ht : tl t with _ | ⟨c, t1⟩
      · rw [ht] at hr
        cases hr
      · rw [ht] at hr
        simp only at hr
        have hb0 := bt_zero ht
        have hpos : 0 < t.size := by rw [tl_size, ht]; simp
        have hz : t.size ≠ 0 := by omega
        have hx : ∀ h : 0 < t.size, ((t[0]'h).toNat : Int) = c.toNat := fun h => (bt_at t 0 h).trans hb0
        have hd := tl_drop t 1
        rw [ht, List.drop_one, List.tail_cons] at hd
        by_cases h48 : c = 48
        · subst h48
          rw [if_pos rfl] at hr
          obtain ⟨rfl, rfl⟩ : Sh.leaf = τ ∧ t1 = u := by simpa using hr
          have hx : ∀ h : 0 < t.size, ((t[0]'h).toNat : Int) = 48 := hx
          have HD := Aside0.mk hd
          clear hr ht hd hb0 hz
          go_enter Try.func18, Try.ntmps18
          go_wp2_with fail
          (with_reducible refine (rmay_calls z m _ h0 h1 hm0 hm).mono ?_)
          rintro e w1 ⟨rfl, rfl⟩
          rw [HMY.out]
          go_wp2
          go_region
          all_goals go_wp2
          all_goals go_ret2
          all_goals exact ⟨_, _, rfl, HD.out, rowS_lit _ _, by first | exact below_alloc (Below.refl _ _) _ | exact below_drew (below_alloc (Below.refl _ _) _)⟩
        · rw [if_neg h48] at hr
          by_cases h49 : c = 49
          · subst h49
            rw [if_pos rfl] at hr
            obtain ⟨⟨a, ta⟩, ha, hr⟩ := Option.bind_eq_some_iff.mp hr
            obtain ⟨⟨b, tb⟩, hb, hr⟩ := Option.bind_eq_some_iff.mp hr
            obtain ⟨rfl, rfl⟩ : Sh.two a b = τ ∧ tb = u := by simpa using hr
            have hx : ∀ h : 0 < t.size, ((t[0]'h).toNat : Int) = 49 := hx
            have hla := pathsT_length n a (z / 2) (p ++ { data := #[48] }) (rdT_enc _ _ _ _ _ ha).2
            have hlb := pathsT_length n b (z / 2) (p ++ { data := #[49] }) (rdT_enc _ _ _ _ _ hb).2
            have hn4 : 2 ^ n ≤ 16 := by
              have := HM1.out
              have : n ≤ 4 := by omega
              exact Nat.le_trans (Nat.pow_le_pow_right (by omega) this) (by decide)
            have HL := Aside0.mk (show ((pathsT (p ++ { data := #[48] }) a).length + (pathsT (p ++ { data := #[49] }) b).length) * 16 ≤ 140737488355328 by omega)
            have HA := Aside0.mk (show rdT n (z / 2) (tl (t.extract 1 t.size)) = some (a, ta) by rw [hd]; exact ha)
            have HBB := Aside0.mk hb
            have hsz : ((p.size : Int) + 1) ≤ 1000 := by omega
            have hps : p.size + n + 1 ≤ 40 := by omega
            simp only [pathsT]
            clear hr ht hd hb0 hz ha hb hla hlb hn4 hp
            generalize hpa : pathsT (p ++ { data := #[48] }) a = la
            generalize hpb : pathsT (p ++ { data := #[49] }) b = lb
            rw [hpa, hpb] at HL
            have HPA := Aside0.mk hpa
            have HPB := Aside0.mk hpb
            clear hpa hpb
            go_enter Try.func18, Try.ntmps18
            go_wp2_with fail
            (with_reducible refine (rmay_calls z m _ h0 h1 hm0 hm).mono ?_)
            rintro e w1 ⟨rfl, rfl⟩
            rw [HMY.out]
            go_wp2_with fail
            (with_reducible refine (ih a (t.extract 1 t.size) (p ++ { data := #[48] }) (z / 2) (m - 1) ta _ HA.out (by omega) (by omega) HM1 (by omega) (by rw [size_one]; omega)).mono ?_)
            rintro e w2 ⟨v2, t2, rfl, ht2, hr2, hb2⟩
            rw [HPA.out] at hr2
            have HR2 := Aside0.mk hr2
            have HB2 := Aside0.mk hb2
            have HT2 := Aside0.mk ht2
            clear hr2 hb2 ht2
            go_wp2_with fail
            (with_reducible refine (ih b t2 (p ++ { data := #[49] }) (z / 2) (m - 1) tb _ (by rw [HT2.out]; exact HBB.out) (by omega) (by omega) HM1 (by omega) (by rw [size_one]; omega)).mono ?_)
            rintro e w3 ⟨v3, t3, rfl, ht3, hr3, hb3⟩
            rw [HPB.out] at hr3
            have ho2 := own_move HR2.out (fun k hk => hb3.block k (own_lt HR2.out k hk))
            have hB3 := below_then HB2.out HB2.out.size hb3
            obtain ⟨A2, c2, rfl⟩ := own_slice ho2
            unfold RowS at hr3
            obtain ⟨A3, c3, rfl⟩ := own_slice hr3
            have HRD := Aside0.mk (own_reads_of' (enc := Value.string) (d := ({ data := #[] } : ByteArray)) hr3)
            have HO2 := Aside0.mk ho2
            have HB3 := Aside0.mk hB3
            have HT3 := Aside0.mk ht3
            have hsz3 := hB3.size
            clear ho2 hr3 hb3 hB3 HR2 HB2 ht3
            go_wp2_with (at_builtin; refine print_append_row_of (w0 := w1) Value.string ({ data := #[] } : ByteArray) w1.heap.size rfl _ _ 31 9 (.string .empty) 16 rfl Try.underlying31 str_info rfl (by decide) (fun _ => rfl) (.slice A2 la.length c2) la lb A3 lb.length c3 rfl rfl HO2.out HRD.out HB3.out hsz3 ?c1 ?_)
            case c1 => exact HL.out
            intro v4 w4 hown4 hB4 _ _
            have HO4 := Aside0.mk hown4
            have HB4 := Aside0.mk hB4
            clear hown4 hB4
            go_wp2
            go_ret2
            exact ⟨_, _, rfl, HT3.out, by unfold RowS; rw [List.length_append]; exact HO4.out, HB4.out⟩
          · rw [if_neg h49] at hr
            cases hr
end Go.Proofs.Ytlebgjcpidpgnaa.P
