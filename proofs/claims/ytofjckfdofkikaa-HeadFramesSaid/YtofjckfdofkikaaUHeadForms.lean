/- The pure statement of the law HeadForms: a configuration's form has its bits and its order of bytes. -/
import Derived.Test.YtofjckfdofkikaaPx2
namespace Go.Proofs.Ytofjckfdofkikaa.Pure
open Go.RowKit Go.Proofs.Ytofjckfdofkikaa.P Go.Proofs.YtofjckfdofkikaaW.PrintWords Go.Proofs.YtofjckfdofkikaaW.PrintLast Go.Proofs.YtofjckfdofkikaaW.PrintMore

theorem head_awake : sackbutlaw16_awake.f = some true := by kernel_rfl

theorem HeadForms : ∀ (a_11 : Int) (a_18 : Int) (a_25 : Bool) (a_31 : Int) (a_38 : Int) (a_45 : Int) (a_52 : Int), (Lit.int .i64 a_11).wf = true → (Lit.int .i64 a_18).wf = true → (Lit.int .i64 a_31).wf = true → (Lit.int .i64 a_38).wf = true → (Lit.int .i64 a_45).wf = true → (Lit.int .i64 a_52).wf = true → sackbutlaw16_HeadForms.f a_11 a_18 a_25 a_31 a_38 a_45 a_52 = some true := by
  intro a b c d e f g _ _ _ _ _ _
  simp [sackbutlaw16_HeadForms.f, head_awake, head_Form.f]

end Go.Proofs.Ytofjckfdofkikaa.Pure
