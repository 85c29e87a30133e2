/- The pure statement of the law LatticeSilent. -/
import Derived.Test.YtoglefgjiaoopaaPx0
import Derived.Test.YtoglefgjiaoopaaPx6
import Derived.Test.YtoglefgjiaoopaaULattice
namespace Go.Proofs.Ytoglefgjiaoopaa.Pure
open Go.RowKit Go.Proofs.Ytoglefgjiaoopaa.P Go.Proofs.YtoglefgjiaoopaaW.PrintWords Go.Proofs.YtoglefgjiaoopaaW.PrintLast Go.Proofs.YtoglefgjiaoopaaW.PrintMore
set_option linter.unusedVariables false
set_option linter.unusedSimpArgs false

theorem upF_zero (a : List Int) {j : Nat} (hj : j < a.length) (hw : ∀ i : Nat, i < a.length → wrap64 (rd a i) = rd a i) : upF a 0 j = rd a j := by
  unfold upF
  rw [show (0 : Int) * rd a (a.length - 1 - j : Nat) = 0 by simp, show rnd (wrap64 0) = 0 by decide +kernel]
  have := hw j hj
  simpa using this
theorem cz_wrapped (l : List Int) (i : Nat) : ∀ j : Nat, j < i → wrap64 (rd (cz l i) j) = rd (cz l i) j := by
  have hww : ∀ x, wrap64 (wrap64 x) = wrap64 x := fun x => w64 (w64b x).1 (w64b x).2
  cases i with
  | zero => intro j h; omega
  | succ i =>
    intro j hj
    rw [cz]
    unfold upZ
    rw [cz_length]
    by_cases h : j < i
    · rw [rd_left (by omega) (by rw [tab_length]; omega), rd_tab (by omega)]
      unfold upF
      exact hww _
    · rw [rd_end _ _ (by rw [tab_length]; omega)]
      unfold reflW
      split
      · exact hww _
      · split <;> exact hww _
theorem cz_app (l : List Int) (x : Int) : ∀ i : Nat, i ≤ l.length → cz (l ++ [x]) i = cz l i := by
  intro i
  induction i with
  | zero => intro _; rfl
  | succ i ih =>
    intro h
    rw [cz, cz, ih (by omega), rd_left (by omega) (by omega)]
theorem cz_silent {l : List Int} (h2 : 2 ≤ l.length) : cz (l ++ [0]) (l.length + 1) = cz l l.length ++ [0] := by
  rw [cz, cz_app l 0 l.length (by omega), rd_end _ _ rfl]
  have e0 : reflW (l.length : Nat) 0 = 0 := by
    unfold reflW
    rw [if_neg (by omega), if_neg (by omega)]
    decide +kernel
  rw [e0]
  unfold upZ
  congr 1
  rw [cz_length]
  have h := cz_length l l.length
  conv => rhs; rw [← tab_self (cz l l.length), h]
  exact tab_congr fun i hi => upF_zero _ (by rw [h]; exact hi) (by rw [h]; exact cz_wrapped l l.length)
theorem dotW_left (a b p : List Int) : ∀ i : Nat, i ≤ a.length → dotW (a ++ b) p i = dotW a p i := by
  intro i
  induction i with
  | zero => intro _; rfl
  | succ i ih =>
    intro h
    rw [dotW, dotW, ih (by omega), rd_left (by omega) (by omega)]
theorem dotW_wrapped (a p : List Int) (i : Nat) : wrap64 (dotW a p i) = dotW a p i := by
  cases i with
  | zero => exact w64 (by show _ ≤ (0 : Int); omega) (by show (0 : Int) ≤ _; omega)
  | succ i => exact w64 (w64b _).1 (w64b _).2
theorem predZ_silent (a p : List Int) : predZ (a ++ [0]) p = predZ a p := by
  unfold predZ
  rw [List.length_append, List.length_singleton]
  by_cases h : p.length ≤ a.length
  · rw [show min (a.length + 1) p.length = min a.length p.length by omega, dotW_left _ _ _ _ (by omega)]
  · rw [show min (a.length + 1) p.length = a.length + 1 by omega, show min a.length p.length = a.length by omega, dotW, dotW_left _ _ _ _ (by omega), rd_end _ _ rfl]
    rw [show (0 : Int) * rd p (p.length - 1 - a.length : Nat) = 0 by simp, show wrap64 0 = 0 by decide +kernel, Int.add_zero, dotW_wrapped]
theorem silent_end {l p : List Int} (h2 : 2 ≤ l.length) (h15 : l.length ≤ 15) (hp : p.length ≤ 40) {k : Nat} (hk : 90 < k) :
    ((lattice_Coefs.f k l).bind fun t137 => ((some (([] : List Int) : List Int)).bind fun y140 => (if y140.length + l.length < 17592186044416 then ((some (y140 ++ l : List Int)).bind fun y143 => (if y143.length < 17592186044416 then ((lattice_Coefs.f k (y143 ++ [0])).bind fun t149 => (if (t137.length : Int) = (l.length : Int) then (sackbutlaw06_LatticeSilent.j2 k l p t137 t149 ((t149.length : Int) != (wrap64 ((l.length : Int) + 1)))) else (sackbutlaw06_LatticeSilent.j2 k l p t137 t149 true))) else (none))) else (none)))) = some true := by
  have hl1 : (l ++ [(0 : Int)]).length = l.length + 1 := by simp
  have hcl := cz_length l l.length
  rw [coefs_ok (by omega) (by omega), bs, bs, if_pos (by simp; omega), bs, List.nil_append, if_pos (by omega), coefs_ok (by omega) (by omega), bs, hl1, cz_silent h2, if_pos (by omega), List.length_append, List.length_singleton, hcl, w64 (x := (l.length : Int) + 1) (by omega) (by omega)]
  have e : (((l.length + 1 : Nat) : Int) != (l.length : Int) + 1) = false := by simp
  rw [e]
  obtain ⟨k, rfl, _⟩ := pred_k (show 0 < k by omega)
  simp only [sackbutlaw06_LatticeSilent.j2]
  have et : (cz l l.length ++ [0]).take ((l.length : Int)).toNat = cz l l.length := by
    rw [Int.toNat_natCast]
    conv => lhs; arg 1; rw [← hcl]
    simp
  rw [if_neg (by simp), if_pos (by omega), if_pos (by simp; omega), et, same_ok _ _ (by omega) (by omega), bs, if_pos (by simp), if_pos (by simp; omega), if_pos (rd_end _ _ (by rw [hcl])), pred_ok (by omega) (by omega) (by omega), bs, pred_ok (by simp; omega) (by omega) (by simp; omega), bs, predZ_silent]
  simp
theorem silent_l0 {l p : List Int} (h2 : 2 ≤ l.length) (h15 : l.length ≤ 15) (hp : p.length ≤ 40) (d : Nat) : ∀ (k i : Nat), i + d = p.length → d + 100 < k → sackbutlaw06_LatticeSilent.l0 k l p p p.length i = some true := by
  induction d with
  | zero =>
    intro k i hi hk
    obtain ⟨k, rfl, _⟩ := pred_k (show 0 < k by omega)
    simp only [sackbutlaw06_LatticeSilent.l0]
    rw [if_neg (by omega)]
    exact silent_end h2 h15 hp (by omega)
  | succ d ih =>
    intro k i hi hk
    obtain ⟨k, rfl, _⟩ := pred_k (show 0 < k by omega)
    simp only [sackbutlaw06_LatticeSilent.l0]
    have := ih k (i + 1) (by omega) (by omega)
    rw [if_pos (by omega), if_pos (by omega), if_pos (by omega), w64 (x := (i : Int) + 1) (by omega) (by omega)]
    split
    · rfl
    · split
      · rfl
      · exact_mod_cast this
theorem LatticeSilent : ∀ (l0 : List Int) (l1 : List Int), l0.length ≤ maxLen → l0.length * 8 ≤ 140737488351232 → (∀ x ∈ l0, (Lit.int .i64 x).wf = true) → l1.length ≤ maxLen → l1.length * 8 ≤ 140737488351232 → (∀ x ∈ l1, (Lit.int .i64 x).wf = true) → ∃ k, sackbutlaw06_LatticeSilent.f k l0 l1 = some true := by
  intro l p _ hll _ _ _ _
  obtain ⟨K, hK⟩ : ∃ K, K = l.length + 400 := ⟨_, rfl⟩
  refine ⟨K + 1, ?_⟩
  unfold sackbutlaw06_LatticeSilent.f
  rw [awake06 (by omega), bs, if_pos rfl, rgood_ok (by omega) (by omega), bs]
  have hj : ∀ b, (b = true ∨ (2 ≤ l.length ∧ l.length ≤ 15 ∧ p.length ≤ 40)) → sackbutlaw06_LatticeSilent.j0 (K + 1) l p b = some true := by
    intro b hb
    simp only [sackbutlaw06_LatticeSilent.j0]
    cases b with
    | true => rw [if_pos rfl, awake06 (by omega), bs]
    | false =>
      obtain ⟨h1, h2, h3⟩ := hb.resolve_left (by simp)
      rw [if_neg (by simp)]
      exact silent_l0 h1 h2 h3 p.length K 0 (by omega) (by omega)
  split
  · split
    · exact hj _ (.inl rfl)
    · split
      · exact hj _ (.inl rfl)
      · refine hj _ ?_
        by_cases h : (p.length : Int) > 40
        · exact .inl (decide_eq_true h)
        · exact .inr ⟨by omega, by omega, by omega⟩
  · exact hj _ (.inl rfl)
end Go.Proofs.Ytoglefgjiaoopaa.Pure
