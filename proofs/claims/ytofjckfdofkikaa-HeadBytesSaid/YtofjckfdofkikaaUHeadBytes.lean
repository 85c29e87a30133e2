/- The pure statement of the law HeadBytes. -/
import Derived.Test.YtofjckfdofkikaaPx0
import Derived.Test.YtofjckfdofkikaaPx7
import Derived.Test.YtofjckfdofkikaaPx6
import Derived.Test.YtofjckfdofkikaaUHeadGood
namespace Go.Proofs.Ytofjckfdofkikaa.Pure
open Go.RowKit Go.Proofs.Ytofjckfdofkikaa.P Go.Proofs.YtofjckfdofkikaaW.PrintWords Go.Proofs.YtofjckfdofkikaaW.PrintLast Go.Proofs.YtofjckfdofkikaaW.PrintMore
set_option linter.unusedVariables false
set_option linter.unusedSimpArgs false

theorem HeadBytes : ∀ (a_19 : Int) (a_26 : Int) (a_33 : Bool) (a_39 : Int) (a_46 : Int) (a_53 : Int) (a_60 : Int) (a_67 : Int), (Lit.int .i64 a_19).wf = true → (Lit.int .i64 a_26).wf = true → (Lit.int .i64 a_39).wf = true → (Lit.int .i64 a_46).wf = true → (Lit.int .i64 a_53).wf = true → (Lit.int .i64 a_60).wf = true → (Lit.int .u32 a_67).wf = true → ∃ k, sackbutlaw16_HeadBytes.f k a_19 a_26 a_33 a_39 a_46 a_53 a_60 a_67 = some true := by
  intro c b g r f s n m _ _ _ _ _ _ hm
  have hmb := u32b hm
  refine ⟨400, ?_⟩
  unfold sackbutlaw16_HeadBytes.f
  rw [head_awake, bs, if_pos rfl]
  obtain ⟨t, ht⟩ := ref16_some c b r f s n g
  have hh : head_Good.f c b g r f s n = some t := by rw [goods_same]; exact ht
  rw [ht, bs]
  cases t with
  | false =>
    have hB : head_Bytes.f c b g r f s n m = some ([], 7) := by
      unfold head_Bytes.f
      rw [hh, bs, if_neg (by simp)]
    rw [hB, bs, hh, bs]
    rfl
  | true =>
    have hG := goodH_ref ht
    rw [bytes_good hG hmb.1 (by omega), bs, hh, bs, if_neg (by simp), if_pos rfl]
    simp only
    rw [hread_ok (bytes8_head _) (by omega), bs, if_pos trivial, refbytes_good hG hmb.1 (by omega) (by omega), bs]
    have hr := readB_good (g := g) hG hmb.1 (by omega) []
    rw [List.append_nil] at hr
    rw [hr]
    simp
end Go.Proofs.Ytofjckfdofkikaa.Pure
