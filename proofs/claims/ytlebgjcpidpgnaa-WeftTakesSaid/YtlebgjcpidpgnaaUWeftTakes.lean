/- The pure statement of the law WeftTakes. -/
import Derived.Test.YtlebgjcpidpgnaaPx0
import Derived.Test.YtlebgjcpidpgnaaPx7
import Derived.Test.YtlebgjcpidpgnaaPx6
import Derived.Test.YtlebgjcpidpgnaaHWTake
import Derived.Test.YtlebgjcpidpgnaaHWRTake
import Derived.Test.YtlebgjcpidpgnaaUSigned
namespace Go.Proofs.Ytlebgjcpidpgnaa.Pure
open Go.RowKit Go.Proofs.Ytlebgjcpidpgnaa.P Go.Proofs.YtlebgjcpidpgnaaW.PrintWords Go.Proofs.YtlebgjcpidpgnaaW.PrintLast Go.Proofs.YtlebgjcpidpgnaaW.PrintMore
set_option linter.unusedVariables false
set_option linter.unusedSimpArgs false

def sgB (s : List Bool) (e : Int) : Int × List Bool × Int := (if (takeB s e 5).2.2 = 0 then signV 5 (takeB s e 5).1 else (takeB s e 5).1, (takeB s e 5).2.1, (takeB s e 5).2.2)
theorem sgB_suf (s : List Bool) (e : Int) : (sgB s e).2.1 <:+ s := takeB_suf s e 5
/-- What a weave's bits say. -/
def takeW (s : List Bool) (e c : Int) : Bool × Int × Int × Int × Int × List Bool × Int :=
  if (takeB s e 1).1 = 0 then (false, 0, 0, 0, 0, (takeB s e 1).2.1, (takeB s e 1).2.2) else
  let m := takeB (takeB s e 1).2.1 (takeB s e 1).2.2 3
  let g0 := sgB m.2.1 m.2.2
  let g1 := sgB g0.2.1 g0.2.2
  let g2 := sgB g1.2.1 g1.2.2
  if g2.2.2 = 0 then (if weft_Good.f true m.1 g0.1 g1.1 g2.1 c = some true then (true, m.1, g0.1, g1.1, g2.1, g2.2.1, 0) else (false, 0, 0, 0, 0, g2.2.1, 2)) else (false, 0, 0, 0, 0, g2.2.1, g2.2.2)
theorem good_or (s : Bool) (m x y z c : Int) : weft_Good.f s m x y z c = some true ∨ weft_Good.f s m x y z c = some false := by
  unfold weft_Good.f
  generalize (if s = false then decide (m = 0) && decide (x = 0 ∧ y = 0 ∧ z = 0) else !(wOut x || wOut y || wOut z) && (decide (0 ≤ m) && (decide (m < c) && decide (m < 8))) && !decide (x = 0 ∧ y = 0 ∧ z = 0)) = q
  cases q
  · exact .inr rfl
  · exact .inl rfl
theorem wtake_ok {b : List Int} (hb : Bytes8 b) (hl : b.length ≤ 10000000) {s : List Bool} (hs : s <:+ unpack b) (e c : Int) {k : Nat} (hk : 52 < k) :
    weft_Take.f k b (pos b s) e c = some ((takeW s e c).1, (takeW s e c).2.1, (takeW s e c).2.2.1, (takeW s e c).2.2.2.1, (takeW s e c).2.2.2.2.1, pos b (takeW s e c).2.2.2.2.2.1, (takeW s e c).2.2.2.2.2.2) := by
  have hsig : ∀ (s : List Bool) (e : Int), s <:+ unpack b → pipe_Reader_Signed.f k b (pos b s) e 5 = some ((sgB s e).1, pos b (sgB s e).2.1, (sgB s e).2.2) := fun s e hs => psigned_ok (n := 5) hb hl hs e (by omega) (by omega) hk
  unfold weft_Take.f takeW
  rw [take_ok hb hl hs e 1 hk, bs]
  have h1 := takeB_suf s e 1
  generalize takeB s e 1 = t at h1 ⊢
  by_cases ht : t.1 = 0
  · rw [if_pos ht, if_pos ht]
  · rw [if_neg ht, if_neg ht]
    simp only
    rw [take_ok hb hl (h1.trans hs) t.2.2 3 hk, bs]
    have hm := takeB_num (n := 3) t.2.1 t.2.2 (by omega)
    rw [show ((3 : Nat) : Int) = 3 from rfl, show (2 : Int) ^ 3 = 8 from rfl] at hm
    have h2 := takeB_suf t.2.1 t.2.2 3
    generalize takeB t.2.1 t.2.2 3 = m at hm h2 ⊢
    simp only
    rw [if_neg (by omega), hsig m.2.1 m.2.2 (h2.trans (h1.trans hs)), bs]
    have h3 := sgB_suf m.2.1 m.2.2
    generalize sgB m.2.1 m.2.2 = g0 at h3 ⊢
    simp only
    rw [hsig g0.2.1 g0.2.2 (h3.trans (h2.trans (h1.trans hs))), bs]
    have h4 := sgB_suf g0.2.1 g0.2.2
    generalize sgB g0.2.1 g0.2.2 = g1 at h4 ⊢
    simp only
    rw [hsig g1.2.1 g1.2.2 (h4.trans (h3.trans (h2.trans (h1.trans hs)))), bs]
    generalize sgB g1.2.1 g1.2.2 = g2
    simp only
    by_cases he : g2.2.2 = 0
    · rw [if_pos he, if_pos he]
      rcases good_or true m.1 g0.1 g1.1 g2.1 c with hg | hg
      · rw [hg, bs, if_pos rfl, if_pos rfl]
      · rw [hg, bs, if_neg (by simp), if_neg (by simp)]
    · rw [if_neg he, if_neg he]
theorem rwtake_ok {s : List Bool} (hs : s.length ≤ 1000000) (a e c : Int) {k : Nat} (hk : 100 < k) :
    sackbutref11_Take.f k (txt s) a e c = some (txt (takeW s e c).2.2.2.2.2.1, a, (takeW s e c).2.2.2.2.2.2, (takeW s e c).1, (takeW s e c).2.1, (takeW s e c).2.2.1, (takeW s e c).2.2.2.1, (takeW s e c).2.2.2.2.1) := by
  have hsig : ∀ (s : List Bool) (e : Int), s.length ≤ 1000000 → sackbutref01_Int.f k (txt s) a e 5 = some (txt (sgB s e).2.1, a, (sgB s e).2.2, (sgB s e).1) := fun s e hs => rint_ok (n := 5) s (by omega) a e (by omega) (by omega) hk
  have hsl : ∀ {u v : List Bool}, u <:+ v → v.length ≤ 1000000 → u.length ≤ 1000000 := fun h1 h2 => Nat.le_trans h1.length_le h2
  unfold sackbutref11_Take.f takeW
  rw [rtake_ok s (by omega) a e 1 (by omega), bs]
  have h1 := takeB_suf s e 1
  generalize takeB s e 1 = t at h1 ⊢
  by_cases ht : t.1 = 0
  · rw [if_pos ht, if_pos ht]
  · rw [if_neg ht, if_neg ht]
    simp only
    rw [rtake_ok t.2.1 (by have := hsl h1 hs; omega) a t.2.2 3 (by omega), bs]
    have h2 := takeB_suf t.2.1 t.2.2 3
    generalize takeB t.2.1 t.2.2 3 = m at h2 ⊢
    simp only
    rw [hsig m.2.1 m.2.2 (hsl (h2.trans h1) hs), bs]
    have h3 := sgB_suf m.2.1 m.2.2
    generalize sgB m.2.1 m.2.2 = g0 at h3 ⊢
    simp only
    rw [hsig g0.2.1 g0.2.2 (hsl (h3.trans (h2.trans h1)) hs), bs]
    have h4 := sgB_suf g0.2.1 g0.2.2
    generalize sgB g0.2.1 g0.2.2 = g1 at h4 ⊢
    simp only
    rw [hsig g1.2.1 g1.2.2 (hsl (h4.trans (h3.trans (h2.trans h1))) hs), bs]
    generalize sgB g1.2.1 g1.2.2 = g2
    simp only
    by_cases he : g2.2.2 = 0
    · rw [if_pos he, if_pos he]
      unfold sackbutref11_Good.f
      rcases good_or true m.1 g0.1 g1.1 g2.1 c with hg | hg
      · rw [hg, bs, if_pos rfl, if_pos rfl]
      · rw [hg, bs, if_neg (by simp), if_neg (by simp)]
    · rw [if_neg he, if_neg he]
theorem takeW_suf (s : List Bool) (e c : Int) : (takeW s e c).2.2.2.2.2.1 <:+ s := by
  unfold takeW
  have h1 := takeB_suf s e 1
  generalize takeB s e 1 = t at h1 ⊢
  split
  · exact h1
  · have h2 := takeB_suf t.2.1 t.2.2 3
    generalize takeB t.2.1 t.2.2 3 = m at h2 ⊢
    have h3 := sgB_suf m.2.1 m.2.2
    have h4 := sgB_suf (sgB m.2.1 m.2.2).2.1 (sgB m.2.1 m.2.2).2.2
    have h5 := sgB_suf (sgB (sgB m.2.1 m.2.2).2.1 (sgB m.2.1 m.2.2).2.2).2.1 (sgB (sgB m.2.1 m.2.2).2.1 (sgB m.2.1 m.2.2).2.2).2.2
    have h6 := h5.trans (h4.trans (h3.trans (h2.trans h1)))
    simp only
    split
    · split
      · exact h6
      · exact h6
    · exact h6
theorem awakeA : sackbutlaw11_awake.f (119 + 1) = some true := by kernel_rfl
theorem awakeB : sackbutlaw11_awake.f 119 = some true := by kernel_rfl
theorem WeftTakes : ∀ (l0 : List Int) (a1 : Int), l0.length ≤ maxLen → l0.length * 1 ≤ 140737488351232 → (∀ x ∈ l0, (Lit.int .u8 x).wf = true) → (Lit.int .i64 a1).wf = true → ∃ k, sackbutlaw11_WeftTakes.f k l0 a1 = some true := by
  intro b c _ _ hw _
  have h8 := bytes8 hw
  refine ⟨119 + 1, ?_⟩
  unfold sackbutlaw11_WeftTakes.f
  rw [awakeA, bs, if_pos rfl]
  simp only [sackbutlaw11_WeftTakes.j0]
  by_cases hl : (b.length : Int) > 20
  · rw [if_pos (by simpa using hl), awakeB, bs]
  · have hlb : b.length ≤ 20 := by omega
    have hul := unpack_length b
    rw [if_neg (by simpa using hl)]
    unfold pipe_Open.f
    rw [bs]
    simp only
    have hwt := wtake_ok h8 (by omega) (s := unpack b) (List.suffix_refl _) 0 c (k := 119) (by omega)
    rw [pos_nil] at hwt
    have hro : sackbutref01_Open.f 119 b = some (txt (unpack b), ((unpack b).length : Int), 0) := by
      unfold sackbutref01_Open.f
      rw [bits_ok h8 (by omega) (by omega), bs, txt_size]
    have hrt := rwtake_ok (s := unpack b) (by omega) ((unpack b).length : Int) 0 c (k := 119) (by omega)
    have hsuf := takeW_suf (unpack b) 0 c
    rw [hwt, bs, hro, bs]
    simp only
    rw [hrt, bs]
    generalize takeW (unpack b) 0 c = T at hsuf ⊢
    simp only [beq_self_eq_true, Bool.and_self, if_true]
    rw [fail_ok, bs, if_pos rfl]
    by_cases he : T.2.2.2.2.2.2 = 0
    · rw [if_pos he, he, left_ok (by omega) hsuf, bs, txt_size]
      simp
    · rw [if_neg he]
end Go.Proofs.Ytlebgjcpidpgnaa.Pure
