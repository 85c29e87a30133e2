/- The pure statement of the law HeadOthers. -/
import Derived.Test.YtofjckfdofkikaaPx0
import Derived.Test.YtofjckfdofkikaaPx4
import Derived.Test.YtofjckfdofkikaaUHead
namespace Go.Proofs.Ytofjckfdofkikaa.Pure
open Go.RowKit Go.Proofs.Ytofjckfdofkikaa.P Go.Proofs.YtofjckfdofkikaaW.PrintWords Go.Proofs.YtofjckfdofkikaaW.PrintLast Go.Proofs.YtofjckfdofkikaaW.PrintMore
set_option linter.unusedVariables false
set_option linter.unusedSimpArgs false

theorem HeadOthers : ∀ (a_19 : Int) (a_26 : Int) (a_33 : Bool) (a_39 : Int) (a_46 : Int) (a_53 : Int) (a_60 : Int) (a_67 : Int) (a_87 : Int) (a_94 : Int) (a_101 : Bool) (a_107 : Int) (a_114 : Int) (a_121 : Int) (a_128 : Int) (a_135 : Int), (Lit.int .i64 a_19).wf = true → (Lit.int .i64 a_26).wf = true → (Lit.int .i64 a_39).wf = true → (Lit.int .i64 a_46).wf = true → (Lit.int .i64 a_53).wf = true → (Lit.int .i64 a_60).wf = true → (Lit.int .u32 a_67).wf = true → (Lit.int .i64 a_87).wf = true → (Lit.int .i64 a_94).wf = true → (Lit.int .i64 a_107).wf = true → (Lit.int .i64 a_114).wf = true → (Lit.int .i64 a_121).wf = true → (Lit.int .i64 a_128).wf = true → (Lit.int .u32 a_135).wf = true → ∃ k, sackbutlaw16_HeadOthers.f k a_19 a_26 a_33 a_39 a_46 a_53 a_60 a_67 a_87 a_94 a_101 a_107 a_114 a_121 a_128 a_135 = some true := by
  intro c b g r f s n m c' b' g' r' f' s' n' m' _ _ _ _ _ _ hm _ _ _ _ _ _ hm'
  have hmb := u32b hm
  have hmb' := u32b hm'
  refine ⟨2, ?_⟩
  unfold sackbutlaw16_HeadOthers.f
  rw [head_awake, bs, if_pos rfl]
  have quick : sackbutlaw16_HeadOthers.j0 2 true c b g r f s n m c' b' g' r' f' s' n' m' = some true := by
    rw [show 2 = 1 + 1 from rfl]
    simp only [sackbutlaw16_HeadOthers.j0]
    rw [if_pos trivial, head_awake, bs]
  obtain ⟨t, ht⟩ := ref16_some c b r f s n g
  rw [ht, bs]
  cases t with
  | false =>
    rw [if_neg (by simp)]
    exact quick
  | true =>
    rw [if_pos rfl]
    obtain ⟨t', ht'⟩ := ref16_some c' b' r' f' s' n' g'
    rw [ht', bs]
    cases t' with
    | false => exact quick
    | true =>
      have hG := goodH_ref ht
      have hG' := goodH_ref ht'
      rw [show 2 = 1 + 1 from rfl]
      simp only [sackbutlaw16_HeadOthers.j0]
      rw [if_neg (by simp), bytes_good hG hmb.1 (by omega), bs, bytes_good hG' hmb'.1 (by omega), bs]
      simp only [if_true]
      congr 1
      rw [beq_iff_eq, Bool.eq_iff_iff, beq_iff_eq]
      simp only [Bool.and_eq_true, beq_iff_eq]
      constructor
      · intro he
        have h1 := str_inj (head_bytes8 _) (head_bytes8 _) he
        have h2 := pack_inj (by rw [allBits_length]) (by rw [allBits_length, allBits_length]) (List.append_cancel_left h1)
        obtain ⟨e1, e2, e3, e4, e5, e6, e7, e8⟩ := all_inj hG hG' hmb.1 (by omega) hmb'.1 (by omega) h2
        exact ⟨⟨e1, e2, e3, e4, e5, e6, e7⟩, e8⟩
      · rintro ⟨⟨rfl, rfl, rfl, rfl, rfl, rfl, rfl⟩, rfl⟩
        rfl
end Go.Proofs.Ytofjckfdofkikaa.Pure
