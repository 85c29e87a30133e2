/- The pure statement of the law SlideLeast. -/
import Derived.Test.YteoncgijnkfhfaaKdPx0
import Derived.Test.YteoncgijnkfhfaaKdPx15
import Derived.Test.YteoncgijnkfhfaaKdUSlide
namespace Go.Proofs.Yteoncgijnkfhfaa.Pure
open Go.RowKit Go.Proofs.Yteoncgijnkfhfaa.P Go.Proofs.YteoncgijnkfhfaaW.PrintWords Go.Proofs.YteoncgijnkfhfaaW.PrintLast Go.Proofs.YteoncgijnkfhfaaW.PrintMore
set_option linter.unusedVariables false
set_option linter.unusedSimpArgs false

theorem SlideLeast : ∀ (l0 : List Int) (a_11 : Int) (l_19 : List Int), l0.length ≤ maxLen → l0.length * 8 ≤ 140737488351232 → (∀ x ∈ l0, (Lit.int .i64 x).wf = true) → (Lit.int .i64 a_11).wf = true → l_19.length ≤ maxLen → (∀ x ∈ l_19, (Lit.int .i64 x).wf = true) → ∃ k, sackbutlaw03_SlideLeast.f k l0 a_11 l_19 = some true := by
  intro l p ks _ _ _ _ _ _
  refine ⟨4000, ?_⟩
  unfold sackbutlaw03_SlideLeast.f
  rw [awake03, bs, if_pos rfl, few_ok, bs]
  by_cases hfew : l.length ≤ 64 ∧ ks.length ≤ 12
  case neg => rw [decide_eq_false hfew, if_neg (by simp), show 4000 = 3999 + 1 from rfl, sackbutlaw03_SlideLeast.j0, if_pos rfl, awake03, bs]
  rw [decide_eq_true hfew, if_pos rfl]
  obtain ⟨h64, h12⟩ := hfew
  rw [refList_ok (l := l) (by omega) (by omega), bs, show 4000 = 3999 + 1 from rfl, sackbutlaw03_SlideLeast.j0]
  cases hz : listZ l with
  | false => rw [if_pos (show (!false) = true from rfl), awake03, bs]
  | true =>
    rw [if_neg (by simp)]
    obtain ⟨hl, h1, h2⟩ := listZ_iff.mp hz
    have hw : wholeZ l.length ((0 : Nat) : Int) = true := whole_iff.mpr ⟨by omega, h1, h2, by simp [Nat.mod_one]⟩
    obtain ⟨q, hq, hwq, _⟩ := bestZ_spec hw
    obtain ⟨hq3, _, _, hdq⟩ := whole_iff.mp hwq
    have h8 := pow_le8 hq3
    have hkl := kz_length l (l.length / 2 ^ q) (2 ^ q)
    have hge := sumZ_ge (sz := l.length / 2 ^ q) (n := 2 ^ q) hl kz_range (show 2 ^ q ≤ (kz l (l.length / 2 ^ q) (2 ^ q)).length by omega) (Nat.mul_div_le _ _) (2 ^ q) (Nat.le_refl _)
    rw [size_mul hdq] at hge
    have hge2 : 2 + 5 * ((2 ^ q : Nat) : Int) + (l.length : Int) ≤ (PZ l q).2.2 := hge
    have hgood : slide_Good.f (l.length : Int) (PZ l q).1 (PZ l q).2.1 = some true := by
      unfold slide_Good.f
      rw [if_pos (by show (kz l (l.length / 2 ^ q) (2 ^ q)).length ≤ _; omega)]
      congr 1
      unfold goodZ
      simp only [Bool.and_eq_true, Bool.not_eq_true', List.any_eq_false, decide_eq_true_eq]
      refine ⟨hwq, ?_, fun x hx => ?_⟩
      · show ((kz l (l.length / 2 ^ q) (2 ^ q)).length : Int) = 2 ^ (q : Int).toNat
        rw [hkl, Int.toNat_natCast]
        simp
      · have := kz_range x hx
        unfold outZ
        simp
        omega
    rw [slide_Best_ok hl hw (by omega), bs, hq]
    rw [w64 (x := 7 + (l.length : Int)) (by omega) (by omega), if_neg (by omega), hgood, bs, show 3999 = 3998 + 1 from rfl, sackbutlaw03_SlideLeast.j1, if_neg (by simp), refGood_ok (by omega) (by omega) (by omega), bs]
    cases hg : goodZ l.length p ks with
    | false =>
      have hB : slide_Bits.f 3998 l p ks = some 0 := by
        unfold slide_Bits.f
        rw [if_pos ⟨by omega, by omega⟩, if_neg]
        unfold goodP
        rw [hg]
        simp
      rw [if_neg (by simp), hB, bs]
      rfl
    | true =>
      obtain ⟨P, rfl, hwP, hkP, hkr⟩ := good_facts hg
      obtain ⟨hP3, _, _, hdP⟩ := whole_iff.mp hwP
      have hP8 := pow_le8 hP3
      have hgeP := sumZ_ge (sz := l.length / 2 ^ P) (n := 2 ^ P) hl hkr (by omega) (Nat.mul_div_le _ _) (2 ^ P) (Nat.le_refl _)
      rw [size_mul hdP] at hgeP
      rw [if_pos rfl, slideBits_ok hl hkr hwP hkP (by omega), bs, w64 (x := 5 * (ks.length : Int)) (by omega) (by omega), w64 (x := 2 + 5 * (ks.length : Int)) (by omega) (by omega), w64 (by omega) (by omega)]
      congr 1
      refine decide_eq_true ?_
      rw [hkP]
      exact hgeP
end Go.Proofs.Yteoncgijnkfhfaa.Pure
