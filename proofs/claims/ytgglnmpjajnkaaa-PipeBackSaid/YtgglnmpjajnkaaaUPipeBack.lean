/- The pure statement of the law PipeBack. -/
import Derived.Test.YtgglnmpjajnkaaaPx0
import Derived.Test.YtgglnmpjajnkaaaHLawPB
import Derived.Test.YtgglnmpjajnkaaaUActs
import Derived.Test.YtgglnmpjajnkaaaUAlign
import Derived.Test.YtgglnmpjajnkaaaURun
import Derived.Test.YtgglnmpjajnkaaaUSigned
namespace Go.Proofs.Ytgglnmpjajnkaaa.Pure
open Go.RowKit Go.Proofs.Ytgglnmpjajnkaaa.P Go.Proofs.YtgglnmpjajnkaaaW.PrintWords Go.Proofs.YtgglnmpjajnkaaaW.PrintLast Go.Proofs.YtgglnmpjajnkaaaW.PrintMore
set_option linter.unusedVariables false
set_option linter.unusedSimpArgs false

theorem pack_bytes8 (l : List Bool) : Bytes8 (pack l) := by
  intro x hx
  unfold pack at hx
  obtain ⟨i, _, rfl⟩ := List.mem_map.mp hx
  exact byteAt_range l i
/-- What an act adds. -/
def extB (l : List Bool) (a x n : Int) : List Bool :=
  if a = 1 then bitsOf (x % 18446744073709551616) n.toNat else if a = 2 then bitsOf (x % 2 ^ n.toNat) n.toNat else if a = 3 then List.replicate n.toNat false ++ [true]
  else if a = 4 then List.replicate ((8 - l.length % 8) % 8) false else []
theorem doBits_ok {l : List Bool} {a x n : Int} (h : doOk a x n = true) : doBits l a x n = l ++ extB l a x n := by
  unfold doOk at h
  unfold doBits extB
  by_cases h1 : a = 1
  · rw [if_pos h1] at h
    rw [if_pos h1, if_pos h1, if_pos h]
  · rw [if_neg h1] at h
    rw [if_neg h1, if_neg h1]
    by_cases h2 : a = 2
    · rw [if_pos h2] at h
      rw [if_pos h2, if_pos h2, if_pos h]
    · rw [if_neg h2] at h
      rw [if_neg h2, if_neg h2]
      by_cases h3 : a = 3
      · rw [if_pos h3] at h
        rw [if_pos h3, if_pos h3, if_pos (by simpa using h)]
      · rw [if_neg h3, if_neg h3]
        by_cases h4 : a = 4
        · rw [if_pos h4, if_pos h4]
          rfl
        · rw [if_neg h4, if_neg h4, List.append_nil]
theorem doBits_no {l : List Bool} {a x n : Int} (h : doOk a x n = false) : doBits l a x n = l := by
  unfold doOk at h
  unfold doBits
  by_cases h1 : a = 1
  · rw [if_pos h1] at h
    rw [if_pos h1, if_neg (by simp [h])]
  · rw [if_neg h1] at h
    rw [if_neg h1]
    by_cases h2 : a = 2
    · rw [if_pos h2] at h
      rw [if_pos h2, if_neg (by simp [h])]
    · rw [if_neg h2] at h
      rw [if_neg h2]
      by_cases h3 : a = 3
      · rw [if_pos h3] at h
        rw [if_pos h3, if_neg (by simpa using h)]
      · rw [if_neg h3] at h
        cases h
/-- The bits of acts, from some on. -/
def allB (l : List Bool) : List S28 → List Bool
  | [] => l
  | a :: r => allB (doBits l a.f0 a.f1 a.f2) r
def Ok (a : S28) : Prop := doOk a.f0 a.f1 a.f2 = true ∧ actIn a = true
theorem allB_app (l : List Bool) (o : List S28) (a : S28) : allB l (o ++ [a]) = doBits (allB l o) a.f0 a.f1 a.f2 := by
  induction o generalizing l with
  | nil => rfl
  | cons b o ih => exact ih _
theorem own_all : ∀ (ac : List S28) (l : List Bool) (o : List S28), (∀ a ∈ ac, actIn a = true) → l = allB [] o → (∀ a ∈ o, Ok a) → l.length ≤ 9001 →
    (ownL ac l o).1 = allB [] (ownL ac l o).2 ∧ (∀ a ∈ (ownL ac l o).2, Ok a) ∧ (ownL ac l o).1.length ≤ 9001 := by
  intro ac
  induction ac with
  | nil => intro l o _ h1 h2 h3; exact ⟨h1, h2, h3⟩
  | cons a r ih =>
    intro l o hin h1 h2 h3
    have hr := fun b hb => hin b (List.mem_cons_of_mem _ hb)
    simp only [ownL]
    split
    · rename_i h80
      have hdl := doBits_len l a.f0 a.f1 a.f2
      split
      · rename_i hok
        refine ih _ _ hr (by rw [allB_app, ← h1]) ?_ (by omega)
        intro b hb
        rcases List.mem_append.mp hb with hb | hb
        · exact h2 b hb
        · rw [List.mem_singleton.mp hb]
          exact ⟨hok, hin a List.mem_cons_self⟩
      · rename_i hok
        rw [doBits_no (by simpa using hok)]
        exact ih _ _ hr h1 h2 h3
    · exact ih _ _ hr h1 h2 h3
theorem allB_pre : ∀ (o : List S28) (l : List Bool), (∀ a ∈ o, Ok a) → ∃ m, allB l o = l ++ m := by
  intro o
  induction o with
  | nil => intro l _; exact ⟨[], by simp [allB]⟩
  | cons a o ih =>
    intro l h
    obtain ⟨m, hm⟩ := ih (doBits l a.f0 a.f1 a.f2) (fun b hb => h b (List.mem_cons_of_mem _ hb))
    refine ⟨extB l a.f0 a.f1 a.f2 ++ m, ?_⟩
    simp only [allB]
    rw [hm, doBits_ok (h a List.mem_cons_self).1, List.append_assoc]
theorem runG_zeros (most : Int) (s : List Bool) : ∀ (n : Nat) (i : Int), i + n ≤ most → runG most i (List.replicate n false ++ (true :: s)) = (i + n, s, 0) := by
  intro n
  induction n with
  | zero =>
    intro i _
    simp [runG]
  | succ n ih =>
    intro i h
    have h2 := ih (i + 1) (by omega)
    rw [List.replicate_succ, List.cons_append]
    unfold runG
    rw [if_neg (by omega), h2]
    congr 1
    omega
theorem numL_none : ∀ n : Nat, numL (List.replicate n false) = 0 := fun n => by
  rw [numL_zero]
  induction n with
  | zero => rfl
  | succ n ih => rw [List.replicate_succ]; simp
/-- Whatever could be put is taken. -/
theorem read_all {k : Nat} (hk : 200000 < k) {L : List Bool} (hL : L.length ≤ 9001) : ∀ (o : List S28) (l : List Bool), (∀ a ∈ o, Ok a) → allB l o = L →
    readL k (pack L) o (pos (pack L) ((alignB L).drop l.length)) 0 = some (pos (pack L) ((alignB L).drop L.length), 0) := by
  have hb := pack_bytes8 L
  have hlen : (pack L).length ≤ 10000000 := by rw [pack_length]; omega
  have hup : unpack (pack L) = alignB L := unpack_pack L
  have hal : (alignB L).length ≤ 9010 := by unfold alignB; simp only [List.length_append, List.length_replicate]; omega
  intro o
  induction o with
  | nil =>
    intro l _ h
    simp only [allB] at h
    subst h
    rfl
  | cons a o ih =>
    intro l hok h
    obtain ⟨hd, hin⟩ := hok a List.mem_cons_self
    have hok2 := fun b hb => hok b (List.mem_cons_of_mem _ hb)
    have hnext := ih (doBits l a.f0 a.f1 a.f2) hok2 h
    obtain ⟨m, hm⟩ := allB_pre o (doBits l a.f0 a.f1 a.f2) hok2
    have h : allB (doBits l a.f0 a.f1 a.f2) o = L := h
    rw [hm, doBits_ok hd, List.append_assoc] at h
    have hs : (alignB L).drop l.length = extB l a.f0 a.f1 a.f2 ++ (alignB L).drop (doBits l a.f0 a.f1 a.f2).length := by
      have e : alignB L = l ++ (extB l a.f0 a.f1 a.f2 ++ (m ++ List.replicate ((8 - L.length % 8) % 8) false)) := by
        rw [show l ++ (extB l a.f0 a.f1 a.f2 ++ (m ++ List.replicate ((8 - L.length % 8) % 8) false)) = (l ++ (extB l a.f0 a.f1 a.f2 ++ m)) ++ List.replicate ((8 - L.length % 8) % 8) false by simp only [List.append_assoc], h]
        rfl
      rw [e, doBits_ok hd, List.drop_left' rfl, ← List.append_assoc l, List.drop_left' (by rw [List.length_append])]
    have hsuf : (alignB L).drop l.length <:+ unpack (pack L) := by rw [hup]; exact List.drop_suffix _ _
    have hlr : ((alignB L).drop l.length).length ≤ 9010 := by rw [List.length_drop]; omega
    simp only [actIn, Bool.and_eq_true, decide_eq_true_eq] at hin
    unfold doOk at hd
    simp only [readL]
    generalize hR : (alignB L).drop (doBits l a.f0 a.f1 a.f2).length = R at hs hnext
    by_cases h1 : a.f0 = 1
    · rw [if_pos h1] at hd
      have hE : extB l a.f0 a.f1 a.f2 = bitsOf (a.f1 % 18446744073709551616) a.f2.toNat := by unfold extB; rw [if_pos h1]
      simp only [putOk, Bool.and_eq_true, decide_eq_true_eq] at hd
      rw [if_pos h1, take_ok hb hlen hsuf 0 a.f2 (by omega), bs]
      have hT : takeB ((alignB L).drop l.length) 0 a.f2 = (a.f1 % 18446744073709551616, R, 0) := by
        rw [hs, hE]
        unfold takeB
        rw [if_neg (by simp), if_neg (by omega), if_neg (by rw [List.length_append, bitsOf_length]; omega), List.take_left' (by rw [bitsOf_length]), List.drop_left' (by rw [bitsOf_length]), numL_bitsOf _ (by omega) hd.2]
      rw [hT]
      simp only [if_true]
      exact hnext
    · rw [if_neg h1] at hd
      rw [if_neg h1]
      by_cases h2 : a.f0 = 2
      · rw [if_pos h2] at hd
        have hE : extB l a.f0 a.f1 a.f2 = bitsOf (a.f1 % 2 ^ a.f2.toNat) a.f2.toNat := by unfold extB; rw [if_neg h1, if_pos h2]
        simp only [signedOk, Bool.and_eq_true, decide_eq_true_eq] at hd
        obtain ⟨⟨⟨hn1, hn2⟩, hlo⟩, hhi⟩ := hd
        obtain ⟨n, hn⟩ : ∃ n : Nat, a.f2 = (n : Int) := ⟨a.f2.toNat, by omega⟩
        rw [hn] at hn1 hn2 hlo hhi hE hs ⊢
        rw [Int.toNat_natCast] at hE
        have hm1 : ((n : Int) - 1).toNat = n - 1 := by omega
        rw [hm1] at hlo hhi
        have hp := p48 (n := n) (by omega)
        have hpe : (2 : Int) ^ n = 2 * 2 ^ (n - 1) := by
          conv => lhs; rw [show n = (n - 1) + 1 by omega, Int.pow_succ]
          omega
        have hp1 := p48 (n := n - 1) (by omega)
        rw [if_pos h2, psigned_ok hb hlen hsuf 0 (by omega) (by omega) (by omega), bs]
        have hx0 : 0 ≤ a.f1 % 2 ^ n := Int.emod_nonneg _ (by omega)
        have hx1 : a.f1 % 2 ^ n < 2 ^ n := Int.emod_lt_of_pos _ (by omega)
        have hT : takeB ((alignB L).drop l.length) 0 n = (a.f1 % 2 ^ n, R, 0) := by
          rw [hs, hE]
          unfold takeB
          rw [if_neg (by simp), if_neg (by omega), if_neg (by rw [List.length_append, bitsOf_length]; omega), Int.toNat_natCast, List.take_left' (by rw [bitsOf_length]), List.drop_left' (by rw [bitsOf_length]), numL_bitsOf _ hx0 hx1]
        rw [hT]
        simp only [if_true]
        have hv : signV n (a.f1 % 2 ^ n) = a.f1 := by
          unfold signV
          by_cases hx : a.f1 < 0
          · have he : (a.f1 + 2 ^ n) % 2 ^ n = a.f1 + 2 ^ n := Int.emod_eq_of_lt (by omega) (by omega)
            rw [Int.add_emod_right] at he
            rw [he, if_pos (by omega)]
            omega
          · rw [Int.emod_eq_of_lt (by omega) (by omega), if_neg (by omega)]
        rw [if_pos hv]
        exact hnext
      · rw [if_neg h2] at hd
        rw [if_neg h2]
        by_cases h3 : a.f0 = 3
        · rw [if_pos h3] at hd
          have hd2 : 0 ≤ a.f2 ∧ a.f2 ≤ 1000 := by simpa using hd
          have hE : extB l a.f0 a.f1 a.f2 = List.replicate a.f2.toNat false ++ [true] := by unfold extB; rw [if_neg h1, if_neg h2, if_pos h3]
          rw [if_pos h3, pzeros_ok hb hlen hsuf 0 1000 (by omega), bs]
          have hT : runB ((alignB L).drop l.length) 0 1000 = (a.f2, R, 0) := by
            rw [hs, hE, List.append_assoc]
            unfold runB
            rw [if_neg (by simp)]
            have := runG_zeros 1000 R a.f2.toNat 0 (by omega)
            rw [show ([true] ++ R : List Bool) = true :: R from rfl, this]
            congr 1
            omega
          rw [hT]
          simp only [if_true]
          exact hnext
        · rw [if_neg h3]
          by_cases h4 : a.f0 = 4
          · have hE : extB l a.f0 a.f1 a.f2 = List.replicate ((8 - l.length % 8) % 8) false := by unfold extB; rw [if_neg h1, if_neg h2, if_neg h3, if_pos h4]
            rw [if_pos h4, ralign_ok hb hlen hsuf 0 (by omega), bs]
            have hl8 : ((alignB L).drop l.length).length % 8 = (8 - l.length % 8) % 8 := by
              have ha : (alignB L).length % 8 = 0 := by unfold alignB; simp only [List.length_append, List.length_replicate]; omega
              have hle : l.length ≤ (alignB L).length := by
                have : l.length ≤ L.length := by rw [← h, List.length_append]; omega
                unfold alignB
                rw [List.length_append]
                omega
              rw [List.length_drop]
              omega
            have hA : alignR ((alignB L).drop l.length) 0 = (R, 0) := by
              have hT : takeB ((alignB L).drop l.length) 0 (((8 - l.length % 8) % 8 : Nat) : Int) = (0, R, 0) := by
                rw [hs, hE]
                unfold takeB
                rw [if_neg (by simp), if_neg (by omega), if_neg (by rw [List.length_append, List.length_replicate]; omega), Int.toNat_natCast, List.take_left' (by rw [List.length_replicate]), List.drop_left' (by rw [List.length_replicate]), numL_none]
              unfold alignR
              rw [hl8, hT]
              rfl
            rw [hA]
            exact hnext
          · have hE : extB l a.f0 a.f1 a.f2 = [] := by unfold extB; rw [if_neg h1, if_neg h2, if_neg h3, if_neg h4]
            rw [if_neg h4]
            rw [hE, List.nil_append] at hs
            rw [hs]
            exact hnext
theorem PipeBack : ∀ (l0 : List P.S28), l0.length ≤ maxLen → (∀ x ∈ l0, P.actIn x = true) → ∃ k, sackbutlaw01_PipeBack.f k l0 = some true := by
  intro ac _ hin
  refine ⟨300000, ?_⟩
  unfold sackbutlaw01_PipeBack.f
  split
  · rfl
  · rw [if_neg (by rw [List.all_eq_true.2 hin]; simp)]
    obtain ⟨h1, h2, h3⟩ := own_all ac [] [] hin rfl (by simp) (by simp)
    generalize hL : (ownL ac [] []).1 = L at h1 h3 ⊢
    generalize hO : (ownL ac [] []).2 = o at h1 h2 ⊢
    have hr := read_all (k := 300000) (by omega) h3 o [] h2 h1.symm
    have hup : unpack (pack L) = alignB L := unpack_pack L
    rw [List.length_nil, List.drop_zero, show pos (pack L) (alignB L) = 0 by rw [← hup]; exact pos_nil _] at hr
    rw [hr, bs]
    have hlen : (pack L).length ≤ 10000000 := by rw [pack_length]; omega
    have hsuf : (alignB L).drop L.length <:+ unpack (pack L) := by rw [hup]; exact List.drop_suffix _ _
    have hd : (alignB L).drop L.length = List.replicate ((8 - L.length % 8) % 8) false := by unfold alignB; exact List.drop_left' rfl
    have hl8 : ((alignB L).drop L.length).length < 8 := by rw [hd, List.length_replicate]; omega
    unfold backEnd
    simp only
    rw [if_neg (by simp), end_ok (pack_bytes8 L) hlen hsuf 0 (by omega), bs]
    have he : endR ((alignB L).drop L.length) 0 = 0 := by
      rw [end_few hl8, hd, if_neg]
      have := (numL_zero (List.replicate ((8 - L.length % 8) % 8) false)).1 (numL_none _)
      rw [this]
      simp
    rw [he]
    simp only
    rw [if_neg (by simp), left_ok hlen hsuf, bs]
    simp only
    rw [if_pos (by omega)]
end Go.Proofs.Ytgglnmpjajnkaaa.Pure
