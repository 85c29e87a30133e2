/- A good head: what layer 16 and its document make of it; unlike heads have unlike bits. -/
import Derived.Test.YtofjckfdofkikaaPx0
import Derived.Test.YtofjckfdofkikaaPx3
import Derived.Test.YtofjckfdofkikaaPx4
import Derived.Test.YtofjckfdofkikaaHHBytes
import Derived.Test.YtofjckfdofkikaaUBitsP
namespace Go.Proofs.Ytofjckfdofkikaa.Pure
open Go.RowKit Go.Proofs.Ytofjckfdofkikaa.P Go.Proofs.YtofjckfdofkikaaW.PrintWords Go.Proofs.YtofjckfdofkikaaW.PrintLast Go.Proofs.YtofjckfdofkikaaW.PrintMore
set_option linter.unusedVariables false
set_option linter.unusedSimpArgs false

theorem head_awake : sackbutlaw16_awake.f = some true := by kernel_rfl
theorem gate_no {p : Prop} [Decidable p] {x : Option Bool} (h : (if p then some false else x) = some true) : ¬ p ∧ x = some true := by
  by_cases hp : p
  · rw [if_pos hp] at h; cases h
  · rw [if_neg hp] at h; exact ⟨hp, h⟩
theorem gate_yes {p : Prop} [Decidable p] {x : Option Bool} (h : (if p then x else some false) = some true) : p ∧ x = some true := by
  by_cases hp : p
  · rw [if_pos hp] at h; exact ⟨hp, h⟩
  · rw [if_neg hp] at h; cases h
theorem gate_some {α : Type} {p : Prop} [Decidable p] {x y : Option α} (h1 : ∃ t, x = some t) (h2 : ∃ t, y = some t) : ∃ t, (if p then x else y) = some t := by
  by_cases hp : p
  · rw [if_pos hp]; exact h1
  · rw [if_neg hp]; exact h2
theorem ref16_tail {r f s n : Int} (h : (if r < 1 then some false else (if r > 16777215 then some false else (if f ≥ 16 then (if f ≤ 1024 then (if (Int.tmod f 16) = 0 then (if s ≥ 0 then (if s ≤ 255 then (if n ≥ 0 then (some (decide (n ≤ 1048576))) else (some false)) else (some false)) else (some false)) else (some false)) else (some false)) else (some false)))) = some true) :
    1 ≤ r ∧ r ≤ 16777215 ∧ 16 ≤ f ∧ f ≤ 1024 ∧ Int.tmod f 16 = 0 ∧ 0 ≤ s ∧ s ≤ 255 ∧ 0 ≤ n ∧ n ≤ 1048576 := by
  obtain ⟨h1, h⟩ := gate_no h
  obtain ⟨h2, h⟩ := gate_no h
  obtain ⟨h3, h⟩ := gate_yes h
  obtain ⟨h4, h⟩ := gate_yes h
  obtain ⟨h5, h⟩ := gate_yes h
  obtain ⟨h6, h⟩ := gate_yes h
  obtain ⟨h7, h⟩ := gate_yes h
  obtain ⟨h8, h⟩ := gate_yes h
  have h9 : n ≤ 1048576 := by simpa using h
  exact ⟨by omega, by omega, h3, h4, h5, h6, h7, h8, h9⟩
theorem ref16_good {c b r f s n : Int} {g : Bool} (h : sackbutref16_Good.f c b g r f s n = some true) : 1 ≤ c ∧ c ≤ 8 ∧ (b = 8 ∨ b = 16 ∨ b = 24) ∧ 1 ≤ r ∧ r ≤ 16777215 ∧ 16 ≤ f ∧ f ≤ 1024 ∧ Int.tmod f 16 = 0 ∧ 0 ≤ s ∧ s ≤ 255 ∧ 0 ≤ n ∧ n ≤ 1048576 := by
  unfold sackbutref16_Good.f at h
  obtain ⟨h1, h⟩ := gate_no h
  obtain ⟨h2, h⟩ := gate_no h
  by_cases hb : b = 8
  · rw [if_pos hb] at h
    exact ⟨by omega, by omega, .inl hb, ref16_tail h⟩
  · rw [if_neg hb] at h
    by_cases hb2 : b = 16
    · rw [if_pos hb2] at h
      exact ⟨by omega, by omega, .inr (.inl hb2), ref16_tail h⟩
    · rw [if_neg hb2] at h
      obtain ⟨hb3, h⟩ := gate_yes h
      exact ⟨by omega, by omega, .inr (.inr hb3), ref16_tail h⟩
theorem ref16_some (c b r f s n : Int) (g : Bool) : ∃ t, sackbutref16_Good.f c b g r f s n = some t := by
  unfold sackbutref16_Good.f
  repeat' (first | exact ⟨_, rfl⟩ | refine gate_some ?_ ?_)

/-- A good configuration. -/
structure GoodH (c b r f s n : Int) : Prop where
  c1 : 1 ≤ c
  c8 : c ≤ 8
  bits : b = 8 ∨ b = 16 ∨ b = 24
  r1 : 1 ≤ r
  r2 : r ≤ 16777215
  f1 : 16 ≤ f
  f2 : f ≤ 1024
  f3 : f % 16 = 0
  s1 : 0 ≤ s
  s2 : s ≤ 255
  n1 : 0 ≤ n
  n2 : n ≤ 1048576
theorem goodH_ref {c b r f s n : Int} {g : Bool} (h : sackbutref16_Good.f c b g r f s n = some true) : GoodH c b r f s n := by
  obtain ⟨h1, h2, h3, h4, h5, h6, h7, h8, h9, h10, h11, h12⟩ := ref16_good h
  rw [Int.tmod_eq_emod_of_nonneg (by omega)] at h8
  exact ⟨h1, h2, h3, h4, h5, h6, h7, h8, h9, h10, h11, h12⟩
theorem within_ok {x a b : Int} (h1 : a ≤ x) (h2 : x ≤ b) : head_within.f x a b = some true := by
  unfold head_within.f
  rw [if_pos h1, decide_eq_true h2]
theorem goodH_head {c b r f s n : Int} {g : Bool} (h : GoodH c b r f s n) : head_Good.f c b g r f s n = some true := by
  have hp : pack_Form_Good.f b g = some true := by
    unfold pack_Form_Good.f
    rcases h.bits with rfl | rfl | rfl <;> simp
  unfold head_Good.f
  rw [within_ok h.c1 h.c8, bs, if_pos rfl]
  unfold head_Form.f
  rw [bs]
  simp only
  rw [hp, bs, if_pos rfl, within_ok h.r1 h.r2, bs, if_pos rfl, within_ok h.f1 h.f2, bs, if_pos rfl, if_pos (by rw [Int.tmod_eq_emod_of_nonneg (by have := h.f1; omega)]; exact h.f3), within_ok h.s1 h.s2, bs, if_pos rfl, within_ok h.n1 h.n2, bs]
abbrev allBits (c b : Int) (g : Bool) (r f s n m : Int) : List Bool := headBits c b g r f s n m 9
theorem allBits_length (c b : Int) (g : Bool) (r f s n m : Int) : (allBits c b g r f s n m).length = 120 := by
  unfold allBits headBits
  simp [bitsOf_length]
theorem bytes_good {c b r f s n m : Int} {g : Bool} (h : GoodH c b r f s n) (hm : 0 ≤ m) (hm2 : m ≤ 4294967295) : head_Bytes.f c b g r f s n m = some ([83, 75, 66, 84, 1] ++ pack (allBits c b g r f s n m), 0) := by
  unfold head_Bytes.f
  rw [goodH_head h, bs, if_pos rfl, if_pos]
  obtain ⟨h1, h2, h3, h4, h5, h6, h7, h8, h9, h10, h11, h12⟩ := h
  simp [headOk]
  omega
theorem bits_inj {x y : Int} {n : Nat} (hx0 : 0 ≤ x) (hx : x < 2 ^ n) (hy0 : 0 ≤ y) (hy : y < 2 ^ n) (h : bitsOf x n = bitsOf y n) : x = y := by
  rw [← numL_bitsOf n hx0 hx, ← numL_bitsOf n hy0 hy, h]
theorem pack_inj {a b : List Bool} (ha : a.length % 8 = 0) (hl : a.length = b.length) (h : pack a = pack b) : a = b := by
  have e : ∀ l : List Bool, l.length % 8 = 0 → alignB l = l := by
    intro l hl
    unfold alignB
    rw [hl]
    simp
  rw [← e a ha, ← e b (by omega), ← unpack_pack, ← unpack_pack, h]
theorem flag_inj {a b : Bool} (h : flagZ a = flagZ b) : a = b := by
  cases a <;> cases b <;> first | rfl | exact absurd h (by decide)
theorem all_inj {c b r f s n m c' b' r' f' s' n' m' : Int} {g g' : Bool} (h : GoodH c b r f s n) (h' : GoodH c' b' r' f' s' n') (hm : 0 ≤ m) (hm2 : m ≤ 4294967295) (hm' : 0 ≤ m') (hm2' : m' ≤ 4294967295)
    (he : allBits c b g r f s n m = allBits c' b' g' r' f' s' n' m') : c = c' ∧ b = b' ∧ g = g' ∧ r = r' ∧ f = f' ∧ s = s' ∧ n = n' ∧ m = m' := by
  obtain ⟨h1, h2, h3, h4, h5, h6, h7, h8, h9, h10, h11, h12⟩ := h
  obtain ⟨k1, k2, k3, k4, k5, k6, k7, k8, k9, k10, k11, k12⟩ := h'
  unfold allBits headBits at he
  simp only [List.append_assoc] at he
  have hf := flag_b g
  have hf' := flag_b g'
  obtain ⟨e1, he⟩ := List.append_inj he (by rw [bitsOf_length, bitsOf_length])
  obtain ⟨e2, he⟩ := List.append_inj he (by rw [bitsOf_length, bitsOf_length])
  obtain ⟨e3, he⟩ := List.append_inj he (by rw [bitsOf_length, bitsOf_length])
  obtain ⟨e4, he⟩ := List.append_inj he (by rw [bitsOf_length, bitsOf_length])
  obtain ⟨e5, he⟩ := List.append_inj he (by rw [bitsOf_length, bitsOf_length])
  obtain ⟨e6, he⟩ := List.append_inj he (by rw [bitsOf_length, bitsOf_length])
  obtain ⟨e7, he⟩ := List.append_inj he (by rw [bitsOf_length, bitsOf_length])
  obtain ⟨e8, he⟩ := List.append_inj he (by rw [bitsOf_length, bitsOf_length])
  have p3 : (2 : Int) ^ 3 = 8 := rfl
  have p2 : (2 : Int) ^ 2 = 4 := rfl
  have p1 : (2 : Int) ^ 1 = 2 := rfl
  have p24 : (2 : Int) ^ 24 = 16777216 := rfl
  have p6 : (2 : Int) ^ 6 = 64 := rfl
  have p8 : (2 : Int) ^ 8 = 256 := rfl
  have p21 : (2 : Int) ^ 21 = 2097152 := rfl
  have p32 : (2 : Int) ^ 32 = 4294967296 := rfl
  have q1 := bits_inj (by omega) (by rw [p3]; omega) (by omega) (by rw [p3]; omega) e1
  have q2 := bits_inj (by omega) (by rw [p2]; omega) (by omega) (by rw [p2]; omega) e2
  have q3 := bits_inj (by omega) (by rw [p1]; omega) (by omega) (by rw [p1]; omega) e3
  have q4 := bits_inj (by omega) (by rw [p24]; omega) (by omega) (by rw [p24]; omega) e4
  have q5 := bits_inj (by omega) (by rw [p6]; omega) (by omega) (by rw [p6]; omega) e5
  have q6 := bits_inj (by omega) (by rw [p8]; omega) (by omega) (by rw [p8]; omega) e6
  have q7 := bits_inj (by omega) (by rw [p21]; omega) (by omega) (by rw [p21]; omega) e7
  have q8 := bits_inj (by omega) (by rw [p32]; omega) (by omega) (by rw [p32]; omega) e8
  exact ⟨by omega, by omega, flag_inj q3, q4, by omega, q6, q7, q8⟩
theorem map_inj : ∀ (a b : List Int), (∀ x ∈ a, 0 ≤ x ∧ x ≤ 255) → (∀ x ∈ b, 0 ≤ x ∧ x ≤ 255) → a.map (fun n => UInt8.ofNat n.toNat) = b.map (fun n => UInt8.ofNat n.toNat) → a = b := by
  intro a
  induction a with
  | nil =>
    intro b _ _ h
    cases b with
    | nil => rfl
    | cons y b => simp at h
  | cons x a ih =>
    intro b ha hb h
    cases b with
    | nil => simp at h
    | cons y b =>
      simp only [List.map_cons, List.cons.injEq] at h
      have hx := ha x (by simp)
      have hy := hb y (by simp)
      have e : x.toNat % 256 = y.toNat % 256 := by
        have := congrArg UInt8.toNat h.1
        simpa using this
      rw [show x = y by omega, ih b (fun z hz => ha z (by simp [hz])) (fun z hz => hb z (by simp [hz])) h.2]
theorem str_inj {a b : List Int} (ha : ∀ x ∈ a, 0 ≤ x ∧ x ≤ 255) (hb : ∀ x ∈ b, 0 ≤ x ∧ x ≤ 255) (h : (strOfNums a).toList = (strOfNums b).toList) : a = b := by
  rw [ByteArray.toList_eq, ByteArray.toList_eq] at h
  exact map_inj a b ha hb h
theorem head_bytes8 (l : List Bool) : ∀ x ∈ ([83, 75, 66, 84, 1] ++ pack l : List Int), 0 ≤ x ∧ x ≤ 255 := by
  intro x hx
  rcases List.mem_append.mp hx with h | h
  · simp at h
    omega
  · unfold pack at h
    obtain ⟨i, _, rfl⟩ := List.mem_map.mp h
    exact byteAt_range l i
end Go.Proofs.Ytofjckfdofkikaa.Pure
