/- The pure statement of the law PipeParts. -/
import Derived.Test.YtgglnmpjajnkaaaPx0
import Derived.Test.YtgglnmpjajnkaaaHLawPT
import Derived.Test.YtgglnmpjajnkaaaUBits2
namespace Go.Proofs.Ytgglnmpjajnkaaa.Pure
open Go.RowKit Go.Proofs.Ytgglnmpjajnkaaa.P Go.Proofs.YtgglnmpjajnkaaaW.PrintWords Go.Proofs.YtgglnmpjajnkaaaW.PrintLast Go.Proofs.YtgglnmpjajnkaaaW.PrintMore
set_option linter.unusedVariables false
set_option linter.unusedSimpArgs false

theorem pack_bytes8 (l : List Bool) : Bytes8 (pack l) := by
  intro x hx
  unfold pack at hx
  obtain ⟨i, _, rfl⟩ := List.mem_map.mp hx
  exact byteAt_range l i
theorem doBits_app (z l : List Bool) {a x n : Int} (h4 : a ≠ 4) : doBits (z ++ l) a x n = z ++ doBits l a x n := by
  unfold doBits
  by_cases h1 : a = 1
  · rw [if_pos h1, if_pos h1]
    split <;> simp
  · rw [if_neg h1, if_neg h1]
    by_cases h2 : a = 2
    · rw [if_pos h2, if_pos h2]
      split <;> simp
    · rw [if_neg h2, if_neg h2]
      by_cases h3 : a = 3
      · rw [if_pos h3, if_pos h3]
        split <;> simp
      · rw [if_neg h3, if_neg h3, if_neg h4, if_neg h4]
theorem partsL_app (z0 : List Bool) : ∀ (ac : List S28) (l : List Bool), l.length ≤ 5001 → (partsL ac l (z0 ++ l)).2 = z0 ++ (partsL ac l (z0 ++ l)).1 ∧ (partsL ac l (z0 ++ l)).1.length ≤ 5001 := by
  intro ac
  induction ac with
  | nil =>
    intro l hl
    exact ⟨rfl, hl⟩
  | cons a r ih =>
    intro l hl
    simp only [partsL]
    by_cases h : a.f0 ≠ 4 ∧ l.length < 4000
    · rw [if_pos h, doBits_app z0 l h.1]
      exact ih _ (by have := doBits_len l a.f0 a.f1 a.f2; omega)
    · rw [if_neg h]
      exact ih _ hl
theorem PipeParts : ∀ (l0 : List P.S28) (l1 : List P.S28), l0.length ≤ maxLen → (∀ x ∈ l0, P.actIn x = true) → l1.length ≤ maxLen → (∀ x ∈ l1, P.actIn x = true) → ∃ k, sackbutlaw01_PipeParts.f k l0 l1 = some true := by
  intro ac bc _ ha _ hb
  refine ⟨100000, ?_⟩
  unfold sackbutlaw01_PipeParts.f
  split
  · rfl
  · rw [if_neg (by
      rintro (h | h)
      · rw [List.all_eq_true.2 ha] at h; cases h
      · rw [List.all_eq_true.2 hb] at h; cases h)]
    obtain ⟨e1, n1⟩ := partsL_app [] ac [] (by simp)
    simp only [List.nil_append] at e1 n1
    obtain ⟨e2, n2⟩ := partsL_app (partsL ac [] []).1 bc [] (by simp)
    simp only [List.append_nil] at e2 n2
    rw [e1, e2]
    generalize (partsL ac [] []).1 = x at n1 n2 ⊢
    generalize (partsL bc [] x).1 = y at n2 ⊢
    unfold partsEnd
    have hp : ∀ l : List Bool, l.length ≤ 5001 → sackbutref01_Bits.f 100000 (pack l) = some (txt (alignB l)) := fun l hl => by
      have hpl : (pack l).length = (l.length + 7) / 8 := pack_length l
      rw [bits_ok (pack_bytes8 l) (by omega) (by omega), unpack_pack]
    have ht : ∀ l : List Bool, (txt (alignB l)).extract 0 l.length = txt l := fun l => by rw [txt_take, alignB_take]
    have hs : ∀ l : List Bool, l.length ≤ 5001 → l.length ≤ (txt (alignB l)).size ∧ (txt (alignB l)).size ≤ 5010 := fun l hl => by
      rw [txt_size]
      unfold alignB
      simp only [List.length_append, List.length_replicate]
      omega
    have s1 := hs x n1
    have s2 := hs y n2
    rw [hp x n1, bs, hp y n2, bs, ht, ht, txt_app, if_neg (by
      rintro (h | h | h | h | h)
      · omega
      · omega
      · omega
      · omega
      · exact h (txt_size _).symm), bytes_ok (by rw [List.length_append]; omega) (by rw [List.length_append]; omega), bs]
    simp
end Go.Proofs.Ytgglnmpjajnkaaa.Pure
