/- The pure statement of the law TreeTakes. -/
import Derived.Test.YtlebgjcpidpgnaaPx0
import Derived.Test.YtlebgjcpidpgnaaPx4
import Derived.Test.YtlebgjcpidpgnaaPx2
import Derived.Test.YtlebgjcpidpgnaaHLeaves
import Derived.Test.YtlebgjcpidpgnaaHTRead
import Derived.Test.YtlebgjcpidpgnaaHTTake
import Derived.Test.YtlebgjcpidpgnaaUTools
import Derived.Test.YtlebgjcpidpgnaaUSame
import Derived.Test.YtlebgjcpidpgnaaUTree
import Derived.Test.YtlebgjcpidpgnaaUTree2
import Derived.Test.YtlebgjcpidpgnaaUTTake
namespace Go.Proofs.Ytlebgjcpidpgnaa.Pure
open Go.RowKit Go.Proofs.Ytlebgjcpidpgnaa.P Go.Proofs.YtlebgjcpidpgnaaW.PrintWords Go.Proofs.YtlebgjcpidpgnaaW.PrintLast Go.Proofs.YtlebgjcpidpgnaaW.PrintMore
set_option linter.unusedVariables false
set_option linter.unusedSimpArgs false

theorem awakeKA : sackbutlaw09_awake.f (119 + 1) = some true := by kernel_rfl
theorem awakeKB : sackbutlaw09_awake.f 119 = some true := by kernel_rfl
theorem nil_list : ({ data := #[] } : ByteArray).toList = ([] : List UInt8) := ByteArray.toList_eq _
theorem tl_txt (s : List Bool) : tl (txt s) = s.map ch := rfl
theorem TreeTakes : ∀ (l0 : List Int) (a1 : Int), l0.length ≤ maxLen → l0.length * 1 ≤ 140737488351232 → (∀ x ∈ l0, (Lit.int .u8 x).wf = true) → (Lit.int .i64 a1).wf = true → ∃ k, sackbutlaw09_TreeTakes.f k l0 a1 = some true := by
  intro b z _ _ hw _
  have h8 := bytes8 hw
  refine ⟨119 + 1, ?_⟩
  unfold sackbutlaw09_TreeTakes.f
  rw [awakeKA, bs, if_pos rfl]
  simp only [sackbutlaw09_TreeTakes.j0]
  by_cases hl : (b.length : Int) > 20
  · rw [if_pos (by simpa using hl), awakeKB, bs]
  · have hlb : b.length ≤ 20 := by omega
    have hul := unpack_length b
    rw [if_neg (by simpa using hl)]
    unfold pipe_Open.f
    rw [bs]
    simp only
    have hbits : sackbutref01_Bits.f 118 b = some (txt (unpack b)) := bits_ok h8 (by omega) (by omega)
    by_cases hz : z < 1 ∨ 1024 < z
    · rw [take_tree_no b 0 hz, bs]
      have fin : sackbutlaw09_TreeTakes.j1 119 b z { data := #[] } [] true b 0 1 = some true := by
        simp only [sackbutlaw09_TreeTakes.j1, if_true]
        rw [fail_ok, bs, if_pos rfl, if_pos nil_list]
        rfl
      by_cases h0 : z < 1
      · rw [if_pos h0]
        exact fin
      · rw [if_neg h0, decide_eq_true (show z > 1024 by omega)]
        exact fin
    · have h0 : 1 ≤ z := by omega
      have h1 : z ≤ 1024 := by omega
      have htk := take_tree h8 (by omega) (List.suffix_refl (unpack b)) h0 h1
      rw [pos_nil] at htk
      have hrd : sackbutref09_Read.f (txt (unpack b)) z 4 = some (readF 4 (txt (unpack b)) z) := by
        unfold sackbutref09_Read.f
        rw [if_pos (by omega)]
      rcases htk with ⟨τ, s', e1, e2, e3⟩ | ⟨e1, s', e2, e3⟩
      · rw [e3, bs]
        simp only
        rw [if_neg (by omega), decide_eq_false (show ¬ z > 1024 by omega)]
        simp only [sackbutlaw09_TreeTakes.j1, Bool.false_eq_true, if_false]
        rw [hbits, bs, hrd, bs]
        rcases readF_ok 4 (txt (unpack b)) z with ⟨σ, u, r, f1, f2, f3⟩ | ⟨f1, f3⟩
        · rw [tl_txt, e1] at f1
          injection f1 with f1
          injection f1 with g1 g2
          subst g1 g2
          obtain ⟨k1, k2⟩ := rdT_enc _ _ _ _ _ e1
          have hlen := leavesT_length _ _ _ k2
          have hr : r = txt s' := tl_inj (f2.trans (tl_txt s').symm)
          subst hr
          have hs' : s'.length ≤ (unpack b).length := e2.length_le
          rw [f3]
          simp only [if_true]
          rw [fail_ok, bs]
          simp only [if_true]
          rw [same_ok _ _ (by omega) (by omega), bs, decide_eq_true rfl, if_pos rfl, left_ok (by omega) e2, bs, txt_size, txt_size, if_pos rfl, w64 (by omega) (by omega), if_pos (by omega), if_pos (by omega)]
          congr 1
          rw [ByteArray.toList_eq, ByteArray.toList_eq, beq_iff_eq, txt_take, txt_data]
          rw [List.map_take, k1]
          have hle : (encT 4 z τ).length = (unpack b).length - s'.length := by
            have := congrArg List.length k1
            simp only [List.length_map, List.length_append] at this
            omega
          rw [show (((unpack b).length : Int) - (s'.length : Int)).toNat = (encT 4 z τ).length by omega, List.take_left']
          rfl
        · rw [tl_txt, e1] at f1
          cases f1
      · rw [e3, bs]
        simp only
        rw [if_neg (by omega), decide_eq_false (show ¬ z > 1024 by omega)]
        simp only [sackbutlaw09_TreeTakes.j1, Bool.false_eq_true, if_false]
        rw [hbits, bs, hrd, bs]
        rcases readF_ok 4 (txt (unpack b)) z with ⟨σ, u, r, f1, f2, f3⟩ | ⟨f1, f3⟩
        · rw [tl_txt, e1] at f1
          cases f1
        · rw [if_neg (by rw [f3]; simp), fail_ok, bs, if_pos rfl, if_pos nil_list]
          rfl
end Go.Proofs.Ytlebgjcpidpgnaa.Pure
