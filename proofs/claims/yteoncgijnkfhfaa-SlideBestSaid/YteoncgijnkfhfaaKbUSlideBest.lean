/- The pure statement of the law SlideBest. -/
import Derived.Test.YteoncgijnkfhfaaKbPx0
import Derived.Test.YteoncgijnkfhfaaKbPx14
import Derived.Test.YteoncgijnkfhfaaKbUSlide
namespace Go.Proofs.Yteoncgijnkfhfaa.Pure
open Go.RowKit Go.Proofs.Yteoncgijnkfhfaa.P Go.Proofs.YteoncgijnkfhfaaW.PrintWords Go.Proofs.YteoncgijnkfhfaaW.PrintLast Go.Proofs.YteoncgijnkfhfaaW.PrintMore
set_option linter.unusedVariables false
set_option linter.unusedSimpArgs false

theorem SlideBest : ∀ (l0 : List Int) (a_11 : Int) (l_19 : List Int), l0.length ≤ maxLen → l0.length * 8 ≤ 140737488351232 → (∀ x ∈ l0, (Lit.int .i64 x).wf = true) → (Lit.int .i64 a_11).wf = true → l_19.length ≤ maxLen → (∀ x ∈ l_19, (Lit.int .i64 x).wf = true) → ∃ k, sackbutlaw03_SlideBest.f k l0 a_11 l_19 = some true := by
  intro l p ks _ _ _ _ _ _
  refine ⟨4000, ?_⟩
  unfold sackbutlaw03_SlideBest.f
  rw [awake03, bs, if_pos rfl, few_ok, bs, show 4000 = 3999 + 1 from rfl, sackbutlaw03_SlideBest.j0]
  by_cases hfew : l.length ≤ 64 ∧ ks.length ≤ 12
  case neg => rw [decide_eq_false hfew, if_pos (show (!false) = true from rfl), awake03, bs]
  rw [decide_eq_true hfew, if_neg (by simp)]
  obtain ⟨h64, h12⟩ := hfew
  have hrl := refList_ok (k := 3999) (l := l) (by omega) (by omega)
  cases hz : listZ l with
  | false =>
    have hBest : slide_Best.f 3999 l = some (0, [], 0) := by
      unfold slide_Best.f
      rw [if_neg]
      rintro ⟨hw, hfa⟩
      have : listZ l = true := by
        obtain ⟨_, h1, h2, _⟩ := whole_iff.mp (show wholeZ l.length ((0 : Nat) : Int) = true from hw)
        refine listZ_iff.mpr ⟨fun x hx => ?_, h1, h2⟩
        rw [List.any_eq_false] at hfa
        have := hfa x hx
        unfold farZ at this
        simp at this
        omega
      rw [hz] at this
      cases this
    rw [hBest, bs, hrl, bs, hz, if_neg (by simp)]
    rfl
  | true =>
    obtain ⟨hl, h1, h2⟩ := listZ_iff.mp hz
    have hw : wholeZ l.length ((0 : Nat) : Int) = true := whole_iff.mpr ⟨by omega, h1, h2, by simp [Nat.mod_one]⟩
    obtain ⟨q, hq, hwq, hmin⟩ := bestZ_spec hw
    have h8 := pow_le8 (whole_iff.mp hwq).1
    have hkl := kz_length l (l.length / 2 ^ q) (2 ^ q)
    rw [slide_Best_ok hl hw (by omega), bs, hrl, bs, hz, if_pos rfl, refBest_ok hl hw (by omega), bs, hq]
    have hsame : sackbutref03_Same.f 3999 (PZ l q).1 (PZ l q).2.1 (PZ l q).1 (PZ l q).2.1 = some true := by
      unfold sackbutref03_Same.f
      rw [if_pos rfl, same_ok _ _ (by show (kz l (l.length / 2 ^ q) (2 ^ q)).length ≤ _; omega) (by show (kz l (l.length / 2 ^ q) (2 ^ q)).length < _; omega), bs, decide_eq_true rfl]
    have hrb : sackbutref03_Bits.f 3999 l (PZ l q).1 (PZ l q).2.1 = some (PZ l q).2.2 := refBits_ok (p := q) hl kz_range hwq hkl (by omega) _
    have hsb : slide_Bits.f 3999 l (PZ l q).1 (PZ l q).2.1 = some (PZ l q).2.2 := slideBits_ok hl kz_range hwq hkl (by omega)
    simp only
    rw [hsame, bs, if_pos rfl, hrb, bs, if_pos rfl, hsb, bs, bne_self_eq_false, show 3999 = 3998 + 1 from rfl, sackbutlaw03_SlideBest.j1, if_neg (by simp), refGood_ok (by omega) (by omega) (by omega), bs]
    cases hg : goodZ l.length p ks with
    | false => rfl
    | true =>
      obtain ⟨P, rfl, hwP, hkP, hkr⟩ := good_facts hg
      rw [if_pos rfl, slideBits_ok hl hkr hwP hkP (by omega), bs]
      congr 1
      refine decide_eq_true ?_
      have h3 := hmin P hwP
      have h4 := sumZ_least (l := l) (sz := l.length / 2 ^ P) (n := 2 ^ P) hkr (by omega) (2 ^ P) (Nat.le_refl _)
      exact Int.le_trans h3 h4
end Go.Proofs.Yteoncgijnkfhfaa.Pure
