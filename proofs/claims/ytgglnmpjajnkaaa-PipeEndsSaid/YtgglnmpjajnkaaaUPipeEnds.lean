/- The pure statement of the law PipeEnds. -/
import Derived.Test.YtgglnmpjajnkaaaPx0
import Derived.Test.YtgglnmpjajnkaaaPx10
import Derived.Test.YtgglnmpjajnkaaaUAlign
namespace Go.Proofs.Ytgglnmpjajnkaaa.Pure
open Go.RowKit Go.Proofs.Ytgglnmpjajnkaaa.P Go.Proofs.YtgglnmpjajnkaaaW.PrintWords Go.Proofs.YtgglnmpjajnkaaaW.PrintLast Go.Proofs.YtgglnmpjajnkaaaW.PrintMore
set_option linter.unusedVariables false
set_option linter.unusedSimpArgs false

theorem awake01 : sackbutlaw01_awake.f = some true := rfl
theorem ends_l1 {b : List Int} (hb : Bytes8 b) (hl : b.length ≤ 100) {s : List Bool} (hs : s <:+ unpack b) (d : Nat) : ∀ (k i : Nat), i + d = s.length → d + 60 < k → sackbutlaw01_PipeEnds.l1 k (txt s) (if (s.take i).any id = true then 5 else 0) s.length i b (pos b s) 0 = some true := by
  have hn := suf_len hs
  induction d with
  | zero =>
    intro k i hi hk
    obtain ⟨k, rfl, _⟩ := pred_k (show 0 < k by omega)
    simp only [sackbutlaw01_PipeEnds.l1]
    rw [if_neg (by omega), txt_size, end_ok hb (by omega) hs _ (by omega), bs, bs, left_ok (by omega) hs, bs]
    by_cases h8 : s.length < 8
    · rw [if_neg (by omega), end_few h8, List.take_of_length_le (by omega), if_pos rfl]
      simp [fail_ok]
    · rw [if_pos (by omega)]
      have : endR s 0 = 4 := by unfold endR; rw [if_pos ⟨rfl, by omega⟩]
      rw [this, if_pos rfl]
      simp [fail_ok]
  | succ d ih =>
    intro k i hi hk
    obtain ⟨k, rfl, hk'⟩ := pred_k (show 0 < k by omega)
    simp only [sackbutlaw01_PipeEnds.l1]
    have ht : s.take (i + 1) = s.take i ++ [s.getD i false] := by
      rw [List.take_add_one, List.getD, List.getElem?_eq_getElem (by omega)]
      rfl
    have := ih k (i + 1) (by omega) (by omega)
    rw [ht, List.any_append] at this
    rw [if_pos (by omega), if_pos (by omega), txt_size, if_pos (by omega), txt_bt (by omega), w64 (x := (i : Int) + 1) (by omega) (by omega)]
    cases hc : s.getD i false with
    | true =>
      rw [hc] at this
      simp only [List.any_cons, List.any_nil, id, Bool.or_true, Bool.true_or, if_true] at this ⊢
      exact_mod_cast this
    | false =>
      rw [hc] at this
      simp only [List.any_cons, List.any_nil, id, Bool.or_false, Bool.false_eq_true, if_false] at this ⊢
      rw [if_neg (by omega)]
      exact_mod_cast this
theorem ends_l0 {b : List Int} (hb : Bytes8 b) (hl : b.length ≤ 100) (n : Nat) (hn : n ≤ (unpack b).length) (d : Nat) : ∀ (k i : Nat), i + d = n → 900 + d < k → sackbutlaw01_PipeEnds.l0 k (txt (unpack b)) n n i b (pos b ((unpack b).drop i)) 0 = some true := by
  have hu := unpack_length b
  induction d with
  | zero =>
    intro k i hi hk
    obtain ⟨k, rfl, _⟩ := pred_k (show 0 < k by omega)
    simp only [sackbutlaw01_PipeEnds.l0]
    have hi' : i = n := by omega
    subst hi'
    rw [if_neg (by omega), if_pos (by omega), txt_size, if_pos (by omega), Int.toNat_natCast, txt_drop, txt_size]
    have := ends_l1 hb hl (List.drop_suffix i (unpack b)) ((unpack b).drop i).length k 0 (by omega) (by rw [List.length_drop]; omega)
    exact this
  | succ d ih =>
    intro k i hi hk
    obtain ⟨k, rfl, hk'⟩ := pred_k (show 0 < k by omega)
    simp only [sackbutlaw01_PipeEnds.l0]
    have hlen : ((unpack b).drop i).length = (unpack b).length - i := List.length_drop
    have e1 : takeB ((unpack b).drop i) 0 1 = (numL (((unpack b).drop i).take 1), (unpack b).drop (i + 1), 0) := by
      unfold takeB
      rw [if_neg (by omega), if_neg (by omega), if_neg (by omega), show (1 : Int).toNat = 1 from rfl, List.drop_drop]
    rw [if_pos (by omega), take_ok hb (by omega) (List.drop_suffix i (unpack b)) _ _ (by omega), bs, e1, w64 (x := (i : Int) + 1) (by omega) (by omega)]
    have := ih k (i + 1) (by omega) (by omega)
    exact_mod_cast this
theorem PipeEnds : ∀ (l0 : List Int) (a1 : Int), l0.length ≤ maxLen → l0.length * 1 ≤ 140737488351232 → (∀ x ∈ l0, (Lit.int .u8 x).wf = true) → (Lit.int .u16 a1).wf = true → ∃ k, sackbutlaw01_PipeEnds.f k l0 a1 = some true := by
  intro b n _ _ hb0 hn0
  have hb := bytes8 hb0
  have hnb := u16b hn0
  refine ⟨3000 + 1, ?_⟩
  unfold sackbutlaw01_PipeEnds.f
  rw [awake01, bs, if_pos rfl]
  simp only [sackbutlaw01_PipeEnds.j0]
  by_cases hl : (b.length : Int) > 100
  · rw [decide_eq_true hl, if_pos rfl, awake01, bs]
  · have hu := unpack_length b
    rw [decide_eq_false hl, if_neg (by simp)]
    show ((some (b, (0 : Int), (0 : Int))).bind _) = _
    rw [bs, bits_ok hb (by omega) (by omega), bs, txt_size, w64 (x := ((unpack b).length : Int) + 1) (by omega) (by omega), if_neg (by omega), w64 (x := n) (by omega) (by omega), Int.tmod_eq_emod_of_nonneg (by omega)]
    have e : n % (((unpack b).length : Int) + 1) = ((n % (((unpack b).length : Int) + 1)).toNat : Int) := by
      rw [Int.toNat_of_nonneg (Int.emod_nonneg _ (by omega))]
    have hlt := Int.emod_lt_of_pos n (show (0 : Int) < ((unpack b).length : Int) + 1 by omega)
    rw [e]
    have := ends_l0 hb (by omega) (n % (((unpack b).length : Int) + 1)).toNat (by omega) _ 3000 0 (Nat.zero_add _) (by omega)
    rw [List.drop_zero, pos_nil] at this
    exact this
end Go.Proofs.Ytgglnmpjajnkaaa.Pure
