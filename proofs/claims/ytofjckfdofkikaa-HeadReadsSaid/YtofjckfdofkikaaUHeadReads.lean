/- The pure statement of the law HeadReads. -/
import Derived.Test.YtofjckfdofkikaaPx0
import Derived.Test.YtofjckfdofkikaaPx8
import Derived.Test.YtofjckfdofkikaaURead
namespace Go.Proofs.Ytofjckfdofkikaa.Pure
open Go.RowKit Go.Proofs.Ytofjckfdofkikaa.P Go.Proofs.YtofjckfdofkikaaW.PrintWords Go.Proofs.YtofjckfdofkikaaW.PrintLast Go.Proofs.YtofjckfdofkikaaW.PrintMore
set_option linter.unusedVariables false
set_option linter.unusedSimpArgs false

theorem HeadReads : ∀ (l0 : List Int), l0.length ≤ maxLen → l0.length * 1 ≤ 140737488351232 → (∀ x ∈ l0, (Lit.int .u8 x).wf = true) → ∃ k, sackbutlaw16_HeadReads.f k l0 = some true := by
  intro l _ _ hw
  have h8 := bytes8 hw
  refine ⟨99 + 1, ?_⟩
  unfold sackbutlaw16_HeadReads.f
  rw [head_awake, bs, if_pos rfl]
  simp only [sackbutlaw16_HeadReads.j0]
  by_cases hl : (l.length : Int) > 100
  · rw [if_pos (by simpa using hl), head_awake, bs]
  · rw [if_neg (by simpa using hl), hread_ok h8 (by omega), bs, rread_ok h8 (by omega), bs, if_pos rfl, if_neg (by simp), if_pos rfl]
    rcases readB_or l with ⟨e, he, hr⟩ | ⟨h20, hb, h9, hg, hr⟩
    · rw [hr]
      simp only [noHead]
      rw [bytes_zero, bs]
      exact if_neg he
    · have hu : (unpack ((l.take 20).drop 5)).length = 120 := by rw [unpack_length, List.length_drop, List.length_take]; omega
      have hs := seg_range (S := unpack ((l.take 20).drop 5)) (a := 65) (b := 97) (by omega) (by omega) (by omega)
      rw [hr]
      simp only
      rw [bytes_good hg hs.1 hs.2, bs, if_pos rfl]
      simp only
      rw [if_pos trivial, if_pos (by omega), bits_read hu h9, bytes_read h8 hb h20]
      simp
end Go.Proofs.Ytofjckfdofkikaa.Pure
