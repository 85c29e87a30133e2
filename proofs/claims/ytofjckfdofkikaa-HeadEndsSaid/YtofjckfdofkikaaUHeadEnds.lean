/- The pure statement of the law HeadEnds. -/
import Derived.Test.YtofjckfdofkikaaPx0
import Derived.Test.YtofjckfdofkikaaHEnds
import Derived.Test.YtofjckfdofkikaaUHeadGood
namespace Go.Proofs.Ytofjckfdofkikaa.Pure
open Go.RowKit Go.Proofs.Ytofjckfdofkikaa.P Go.Proofs.YtofjckfdofkikaaW.PrintWords Go.Proofs.YtofjckfdofkikaaW.PrintLast Go.Proofs.YtofjckfdofkikaaW.PrintMore
set_option linter.unusedVariables false
set_option linter.unusedSimpArgs false

/-- A beginning of a head's bytes: the end is missing. -/
theorem readB_begin (l : List Bool) {j : Nat} (hj : j < 20) : readB (([83, 75, 66, 84, 1] ++ pack l).take j) = noHead 3 := by
  unfold readB
  have hb : beginsB (([83, 75, 66, 84, 1] ++ pack l).take j) 5 = true := by
    rw [begins_iff, List.take_take]
    have h : ([83, 75, 66, 84, 1] ++ pack l).take (min 5 j) = magicL.take (min 5 j) := List.take_append_of_le_length (by simp; omega)
    rw [h, List.length_take, show magicL.length = 5 from rfl, show min (min 5 j) 5 = min 5 j by omega]
  rw [if_neg (by rw [hb]; simp), if_pos (by rw [List.length_take]; omega)]

theorem HeadEnds : ∀ (a_19 : Int) (a_26 : Int) (a_33 : Bool) (a_39 : Int) (a_46 : Int) (a_53 : Int) (a_60 : Int) (a_67 : Int) (a1 : Int) (l2 : List Int), (Lit.int .i64 a_19).wf = true → (Lit.int .i64 a_26).wf = true → (Lit.int .i64 a_39).wf = true → (Lit.int .i64 a_46).wf = true → (Lit.int .i64 a_53).wf = true → (Lit.int .i64 a_60).wf = true → (Lit.int .u32 a_67).wf = true → (Lit.int .u8 a1).wf = true → l2.length ≤ maxLen → l2.length * 1 ≤ 140737488351232 → (∀ x ∈ l2, (Lit.int .u8 x).wf = true) → ∃ k, sackbutlaw16_HeadEnds.f k a_19 a_26 a_33 a_39 a_46 a_53 a_60 a_67 a1 l2 = some true := by
  intro c b g r f s n m cut more _ _ _ _ _ _ hm hcut _ _ hmore
  have hmb := u32b hm
  have hcb := u8b hcut
  refine ⟨400, ?_⟩
  unfold sackbutlaw16_HeadEnds.f
  rw [head_awake, bs, if_neg (by simp)]
  obtain ⟨t, ht⟩ := ref16_some c b r f s n g
  rw [ht, bs]
  by_cases hq : t = false ∨ 50 < more.length
  · rw [if_pos hq]
  · rw [if_neg hq]
    have htt : t = true := by
      cases t with
      | false => exact absurd (.inl rfl) hq
      | true => rfl
    subst htt
    have hG := goodH_ref ht
    have hl20 : ([83, 75, 66, 84, 1] ++ pack (allBits c b g r f s n m)).length = 20 := by
      rw [List.length_append, pack_length, allBits_length]
      rfl
    have h8 := bytes8_head (allBits c b g r f s n m)
    have h8m : Bytes8 (([83, 75, 66, 84, 1] ++ pack (allBits c b g r f s n m)) ++ more) := by
      intro x hx
      rcases List.mem_append.mp hx with hx | hx
      · exact h8 x hx
      · exact u8b (hmore x hx)
    rw [bytes_good hG hmb.1 (by omega), bs]
    simp only
    rw [if_neg (by rw [hl20]; omega), hread_ok (fun x hx => h8 x (List.mem_of_mem_take hx)) (by omega), bs, readB_begin _ (by omega), hread_ok h8m (by omega), bs, readB_good hG hmb.1 (by omega) more, if_pos (show (noHead 3).2.2.2.2.2.2.2.2 = 3 from rfl), if_pos (by simp [eqHead])]
end Go.Proofs.Ytofjckfdofkikaa.Pure
