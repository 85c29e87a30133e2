/- What the reading of a head answers, in the program and in its document: one plain answer. -/
import Derived.Test.YtofjckfdofkikaaPx0
import Derived.Test.YtofjckfdofkikaaHRead
import Derived.Test.YtofjckfdofkikaaHRRead
import Derived.Test.YtofjckfdofkikaaUHead
import Derived.Test.YtofjckfdofkikaaUReader
namespace Go.Proofs.Ytofjckfdofkikaa.Pure
open Go.RowKit Go.Proofs.Ytofjckfdofkikaa.P Go.Proofs.YtofjckfdofkikaaW.PrintWords Go.Proofs.YtofjckfdofkikaaW.PrintLast Go.Proofs.YtofjckfdofkikaaW.PrintMore
set_option linter.unusedVariables false
set_option linter.unusedSimpArgs false

theorem ref_of_good {c b r f s n : Int} (g : Bool) (h : GoodH c b r f s n) : sackbutref16_Good.f c b g r f s n = some true := by
  obtain ⟨h1, h2, h3, h4, h5, h6, h7, h8, h9, h10, h11, h12⟩ := h
  have hf : Int.tmod f 16 = 0 := by rw [Int.tmod_eq_emod_of_nonneg (by omega)]; exact h8
  unfold sackbutref16_Good.f
  rcases h3 with rfl | rfl | rfl
  all_goals
    rw [if_neg (by omega), if_neg (by omega)]
    simp only [show ¬ r < 1 by omega, show ¬ r > 16777215 by omega, show f ≥ 16 by omega, show f ≤ 1024 by omega, hf, show s ≥ 0 by omega, show s ≤ 255 by omega, show n ≥ 0 by omega, if_true, if_false, decide_eq_true h12]
    try simp
theorem within_true {x a b : Int} (h : head_within.f x a b = some true) : a ≤ x ∧ x ≤ b := by
  unfold head_within.f at h
  split at h
  · rename_i h1
    exact ⟨h1, by simpa using h⟩
  · cases h
theorem good_of_head {c b r f s n : Int} {g : Bool} (h : head_Good.f c b g r f s n = some true) : GoodH c b r f s n := by
  unfold head_Good.f at h
  obtain ⟨t1, h1, h⟩ := Option.bind_eq_some_iff.mp h
  cases t1 with
  | false => cases h
  | true =>
  rw [if_pos rfl] at h
  unfold head_Form.f at h
  rw [bs] at h
  obtain ⟨t2, h2, h⟩ := Option.bind_eq_some_iff.mp h
  cases t2 with
  | false => cases h
  | true =>
  rw [if_pos rfl] at h
  obtain ⟨t3, h3, h⟩ := Option.bind_eq_some_iff.mp h
  cases t3 with
  | false => cases h
  | true =>
  rw [if_pos rfl] at h
  obtain ⟨t4, h4, h⟩ := Option.bind_eq_some_iff.mp h
  cases t4 with
  | false => cases h
  | true =>
  rw [if_pos rfl] at h
  obtain ⟨h5, h⟩ := gate_yes h
  obtain ⟨t6, h6, h⟩ := Option.bind_eq_some_iff.mp h
  cases t6 with
  | false => cases h
  | true =>
  rw [if_pos rfl] at h
  obtain ⟨t7, h7, h⟩ := Option.bind_eq_some_iff.mp h
  cases h
  have a1 := within_true h1
  have a3 := within_true h3
  have a4 := within_true h4
  have a6 := within_true h6
  have a7 := within_true h7
  rw [Int.tmod_eq_emod_of_nonneg (by omega)] at h5
  have hb : b = 8 ∨ b = 16 ∨ b = 24 := by
    simp only at h2
    unfold pack_Form_Good.f at h2
    split at h2
    · exact .inl ‹_›
    · split at h2
      · exact .inr (.inl ‹_›)
      · exact .inr (.inr (by simpa using h2))
  exact ⟨a1.1, a1.2, hb, a3.1, a3.2, a4.1, a4.2, h5, a6.1, a6.2, a7.1, a7.2⟩
/-- Is it good? The two say the same. -/
theorem goods_same (c b r f s n : Int) (g : Bool) : head_Good.f c b g r f s n = sackbutref16_Good.f c b g r f s n := by
  obtain ⟨t, ht⟩ := ref16_some c b r f s n g
  obtain ⟨t', ht'⟩ := good_some c b g r f s n
  rw [ht, ht']
  cases t with
  | true =>
    have := goodH_head (g := g) (goodH_ref ht)
    rw [ht'] at this
    exact this
  | false =>
    cases t' with
    | false => rfl
    | true =>
      have := ref_of_good g (good_of_head ht')
      rw [ht] at this
      cases this
theorem rd_take {l : List Int} {n i : Nat} (h : i < n) : rd (l.take n) (i : Int) = rd l (i : Int) := by
  simp [rd, List.getElem?_take_of_lt h]
theorem begins_iff (l : List Int) : beginsB l 5 = true ↔ magicL.take (l.take 5).length = l.take 5 := by
  have hm : magicL.length = 5 := rfl
  have hl : (l.take 5).length = min 5 l.length := List.length_take
  unfold beginsB
  rw [List.all_eq_true]
  constructor
  · intro h
    refine ext_rd (by rw [List.length_take, hm]; omega) (fun i hi => ?_)
    rw [List.length_take, hm] at hi
    have hi5 : i < (l.take 5).length := by omega
    have := h i (List.mem_range.2 (by omega))
    rw [rd_take hi5, rd_take (show i < 5 by omega)]
    simp only [Bool.or_eq_true, decide_eq_true_eq, beq_iff_eq] at this
    rcases this with h1 | h1
    · omega
    · exact h1.symm
  · intro h j hj
    have hj5 : j < 5 := List.mem_range.1 hj
    simp only [Bool.or_eq_true, decide_eq_true_eq, beq_iff_eq]
    by_cases hjl : l.length ≤ j
    · exact .inl hjl
    · refine .inr ?_
      have h2 : rd (magicL.take (l.take 5).length) (j : Int) = rd (l.take 5) (j : Int) := by rw [h]
      rw [rd_take (by omega), rd_take hj5] at h2
      exact h2.symm
theorem strOf_size (l : List Int) : (strOfNums l).size = l.length := by simp [strOfNums, ByteArray.size]
theorem strOf_take (l : List Int) (n : Nat) : (strOfNums l).extract 0 n = strOfNums (l.take n) := by
  apply ba_ext
  simp [strOfNums, List.map_take]
theorem magic8 : ∀ x ∈ magicL, 0 ≤ x ∧ x ≤ 255 := by decide
theorem prefix_ok {l : List Int} (h : Bytes8 l) : strings_HasPrefix.f magicS (strOfNums (l.take 5)) = some (beginsB l 5) := by
  have hms : magicS = strOfNums magicL := rfl
  have hl : (l.take 5).length ≤ 5 := by rw [List.length_take]; omega
  have hs : (strOfNums magicL).size = 5 := rfl
  unfold strings_HasPrefix.f stringslite_HasPrefix.f
  rw [hms, hs, strOf_size, if_pos (by omega), if_pos (by omega), if_pos (by omega), bs, Int.toNat_natCast, strOf_take]
  congr 1
  rw [Bool.eq_iff_iff, beq_iff_eq, begins_iff]
  constructor
  · intro he
    exact str_inj (fun x hx => magic8 x (List.mem_of_mem_take hx)) (fun x hx => h x (List.mem_of_mem_take hx)) he
  · intro he
    rw [he]

/-- The number that a part of the bits is. -/
def seg (S : List Bool) (a b : Nat) : Int := numL ((S.take b).drop a)
theorem seg_range {S : List Bool} {a b : Nat} (hS : b ≤ S.length) (hab : a ≤ b) (h : b - a ≤ 32) : 0 ≤ seg S a b ∧ seg S a b ≤ 4294967295 := by
  have hr := numL_range ((S.take b).drop a)
  have hl : ((S.take b).drop a).length = b - a := by rw [List.length_drop, List.length_take]; omega
  rw [hl] at hr
  have hp : (2 : Int) ^ (b - a) ≤ 4294967296 := by
    have : 2 ^ (b - a) ≤ 2 ^ 32 := Nat.pow_le_pow_right (by omega) h
    have h2 : ((2 ^ (b - a) : Nat) : Int) ≤ ((2 ^ 32 : Nat) : Int) := by exact_mod_cast this
    rw [Int.natCast_pow] at h2
    exact h2
  unfold seg
  omega
/-- What 120 bits say. -/
def readS (S : List Bool) : Int × Int × Bool × Int × Int × Int × Int × Int × Int :=
  if seg S 97 120 ≠ 0 then noHead 5 else
  if sackbutref16_Good.f (seg S 0 3 + 1) (8 * seg S 3 5) (S.getD 5 false) (seg S 6 30) (16 * (seg S 30 36 + 1)) (seg S 36 44) (seg S 44 65) = some true then (seg S 0 3 + 1, 8 * seg S 3 5, S.getD 5 false, seg S 6 30, 16 * (seg S 30 36 + 1), seg S 36 44, seg S 44 65, seg S 65 97, 0) else noHead 7
theorem taken_step {body : List Int} (hb : Bytes8 body) (hl : body.length ≤ 1000) {k : Nat} (hk : 52 < k) {i j n : Nat} {l : List Int} (h : takenF k body 0 0 i = some (l, pos body ((unpack body).drop j), 0)) (hn : fbits i = (n : Int)) (h32 : n ≤ 32) (hj : j + n ≤ (unpack body).length) :
    takenF k body 0 0 (i + 1) = some (l ++ [seg (unpack body) j (j + n)], pos body ((unpack body).drop (j + n)), 0) := by
  have hls : ((unpack body).drop j).length = (unpack body).length - j := List.length_drop
  rw [takenF, h, Option.bind_some, hn, take_ok hb (by omega) (List.drop_suffix _ _) 0 n hk, Option.bind_some]
  have ht : takeB ((unpack body).drop j) 0 n = (numL (((unpack body).drop j).take n), ((unpack body).drop j).drop n, 0) := by
    unfold takeB
    rw [if_neg (by simp), if_neg (by omega), if_neg (by omega), Int.toNat_natCast]
  rw [ht]
  simp only
  have hseg : numL (((unpack body).drop j).take n) = seg (unpack body) j (j + n) := by
    unfold seg
    rw [List.drop_take]
    congr 2
    omega
  have hr := seg_range (S := unpack body) (a := j) (b := j + n) hj (by omega) (by omega)
  rw [hseg, w64 (by omega) (by omega), List.drop_drop]
theorem taken_ok {body : List Int} (hb : Bytes8 body) (hl : body.length = 15) {k : Nat} (hk : 52 < k) :
    takenF k body 0 0 9 = some ([seg (unpack body) 0 3, seg (unpack body) 3 5, seg (unpack body) 5 6, seg (unpack body) 6 30, seg (unpack body) 30 36, seg (unpack body) 36 44, seg (unpack body) 44 65, seg (unpack body) 65 97, seg (unpack body) 97 120], pos body ((unpack body).drop 120), 0) := by
  have hu : (unpack body).length = 120 := by rw [unpack_length]; omega
  have h0 : takenF k body 0 0 0 = some ([], pos body ((unpack body).drop 0), 0) := by
    rw [List.drop_zero, pos_nil]
    rfl
  have h1 := taken_step hb (by omega) hk (n := 3) h0 rfl (by omega) (by omega)
  have h2 := taken_step hb (by omega) hk (n := 2) h1 rfl (by omega) (by omega)
  have h3 := taken_step hb (by omega) hk (n := 1) h2 rfl (by omega) (by omega)
  have h4 := taken_step hb (by omega) hk (n := 24) h3 rfl (by omega) (by omega)
  have h5 := taken_step hb (by omega) hk (n := 6) h4 rfl (by omega) (by omega)
  have h6 := taken_step hb (by omega) hk (n := 8) h5 rfl (by omega) (by omega)
  have h7 := taken_step hb (by omega) hk (n := 21) h6 rfl (by omega) (by omega)
  have h8 := taken_step hb (by omega) hk (n := 32) h7 rfl (by omega) (by omega)
  exact taken_step hb (by omega) hk (n := 23) h8 rfl (by omega) (by omega)
theorem seg_one {S : List Bool} (h : 5 < S.length) : seg S 5 6 = if S.getD 5 false = true then 1 else 0 := by
  have : (S.take 6).drop 5 = [S.getD 5 false] := by
    rw [List.drop_take, show 6 - 5 = 0 + 1 from rfl, drop_take_succ S h]
    simp
  unfold seg
  rw [this, numL_cons]
  simp [numL, numA]
theorem body8 {l : List Int} (h : Bytes8 l) : Bytes8 ((l.take 20).drop 5) := fun x hx => h x (List.mem_of_mem_take (List.mem_of_mem_drop hx))
theorem noGood_or {x : Option Bool} (h : ∃ t, x = some t) : x = some true ∨ x = some false := by
  obtain ⟨t, rfl⟩ := h
  cases t
  · exact .inr rfl
  · exact .inl rfl
theorem hread_whole {l : List Int} (h : Bytes8 l) (hl : 20 ≤ l.length) (hb : beginsB l 5 = true) {k : Nat} (hk : 52 < k) : head_Read.f k l = some (readS (unpack ((l.take 20).drop 5))) := by
  have hbl : ((l.take 20).drop 5).length = 15 := by rw [List.length_drop, List.length_take]; omega
  have hu : (unpack ((l.take 20).drop 5)).length = 120 := by rw [unpack_length]; omega
  unfold head_Read.f
  rw [prefix_ok h, bs, if_neg (by rw [hb]; simp), if_neg (by omega), taken_ok (body8 h) hbl hk, bs]
  generalize unpack ((l.take 20).drop 5) = S at hu ⊢
  have r1 := seg_range (S := S) (a := 0) (b := 3) (by omega) (by omega) (by omega)
  have r2 := seg_range (S := S) (a := 3) (b := 5) (by omega) (by omega) (by omega)
  have r3 := seg_range (S := S) (a := 5) (b := 6) (by omega) (by omega) (by omega)
  have r4 := seg_range (S := S) (a := 6) (b := 30) (by omega) (by omega) (by omega)
  have r5 := seg_range (S := S) (a := 30) (b := 36) (by omega) (by omega) (by omega)
  have r6 := seg_range (S := S) (a := 36) (b := 44) (by omega) (by omega) (by omega)
  have r7 := seg_range (S := S) (a := 44) (b := 65) (by omega) (by omega) (by omega)
  have r8 := seg_range (S := S) (a := 65) (b := 97) (by omega) (by omega) (by omega)
  have r9 := seg_range (S := S) (a := 97) (b := 120) (by omega) (by omega) (by omega)
  have hok : partsOk [seg S 0 3, seg S 3 5, seg S 5 6, seg S 6 30, seg S 30 36, seg S 36 44, seg S 44 65, seg S 65 97, seg S 97 120] = true := by
    simp [partsOk, r1, r2, r3, r4, r5, r6, r7, r8, r9]
  have hflag : (seg S 5 6 == 1) = S.getD 5 false := by
    rw [seg_one (by omega)]
    cases S.getD 5 false <;> rfl
  simp only
  rw [if_neg (by rw [hok]; simp)]
  unfold readS headOf
  simp only [List.getD_cons_zero, List.getD_cons_succ]
  by_cases h9 : seg S 97 120 = 0
  · rw [if_neg (by simp [h9]), if_neg (by simp [h9]), hflag, goods_same]
    rcases noGood_or (ref16_some (seg S 0 3 + 1) (8 * seg S 3 5) (seg S 6 30) (16 * (seg S 30 36 + 1)) (seg S 36 44) (seg S 44 65) (S.getD 5 false)) with hg | hg
    · rw [hg, bs, if_neg (by simp), if_pos rfl]
    · rw [hg, bs, if_pos rfl, if_neg (by simp)]
  · rw [if_pos h9, if_pos h9]
theorem rread_whole {l : List Int} (h : Bytes8 l) (hl : 20 ≤ l.length) (hb : beginsB l 5 = true) {k : Nat} (hk : 52 < k) : sackbutref16_Read.f k l = some (readS (unpack ((l.take 20).drop 5))) := by
  have hbl : ((l.take 20).drop 5).length = 15 := by rw [List.length_drop, List.length_take]; omega
  have hu : (unpack ((l.take 20).drop 5)).length = 120 := by rw [unpack_length]; omega
  unfold sackbutref16_Read.f
  rw [if_neg (by rw [hb]; simp), if_neg (by omega), bits_ok (body8 h) (by omega) (by omega), bs, if_neg (by rw [txt_size]; omega)]
  generalize unpack ((l.take 20).drop 5) = S at hu ⊢
  have hn : ∀ a b, b ≤ 120 → b - a ≤ 32 → sackbutref01_Number.f k ((txt S).extract a b) = some (seg S a b) := by
    intro a b h1 h2
    rw [txt_extract]
    have hl : ((S.take b).drop a).length ≤ 32 := by rw [List.length_drop, List.length_take]; omega
    exact number_ok (by omega) (by omega)
  rw [hn 0 3 (by omega) (by omega), bs, hn 3 5 (by omega) (by omega), bs, hn 6 30 (by omega) (by omega), bs, hn 30 36 (by omega) (by omega), bs, hn 36 44 (by omega) (by omega), bs, hn 44 65 (by omega) (by omega), bs, hn 65 97 (by omega) (by omega), bs, hn 97 120 (by omega) (by omega), bs]
  have r1 := seg_range (S := S) (a := 0) (b := 3) (by omega) (by omega) (by omega)
  have r2 := seg_range (S := S) (a := 3) (b := 5) (by omega) (by omega) (by omega)
  have r4 := seg_range (S := S) (a := 6) (b := 30) (by omega) (by omega) (by omega)
  have r5 := seg_range (S := S) (a := 30) (b := 36) (by omega) (by omega) (by omega)
  have r6 := seg_range (S := S) (a := 36) (b := 44) (by omega) (by omega) (by omega)
  have r7 := seg_range (S := S) (a := 44) (b := 65) (by omega) (by omega) (by omega)
  have r8 := seg_range (S := S) (a := 65) (b := 97) (by omega) (by omega) (by omega)
  have r9 := seg_range (S := S) (a := 97) (b := 120) (by omega) (by omega) (by omega)
  have hok : partsOk [seg S 0 3, seg S 3 5, 0, seg S 6 30, seg S 30 36, seg S 36 44, seg S 44 65, seg S 65 97, seg S 97 120] = true := by
    simp [partsOk, r1, r2, r4, r5, r6, r7, r8, r9]
  have hflag : (bt (txt S) 5 == 49) = S.getD 5 false := by
    rw [show (5 : Int) = ((5 : Nat) : Int) from rfl, txt_bt (by omega)]
    cases S.getD 5 false <;> rfl
  rw [if_neg (by rw [hok]; simp), hflag, show seg S 3 5 * 8 = 8 * seg S 3 5 by omega, show seg S 30 36 * 16 + 16 = 16 * (seg S 30 36 + 1) by omega]
  unfold readS
  by_cases h9 : seg S 97 120 = 0
  · rw [if_neg (by simp [h9]), if_neg (by simp [h9])]
    rcases noGood_or (ref16_some (seg S 0 3 + 1) (8 * seg S 3 5) (seg S 6 30) (16 * (seg S 30 36 + 1)) (seg S 36 44) (seg S 44 65) (S.getD 5 false)) with hg | hg
    · rw [hg, bs, if_neg (by simp), if_pos rfl]
    · rw [hg, bs, if_pos rfl, if_neg (by simp)]
  · rw [if_pos h9, if_pos h9]
/-- All bytes. -/
def readB (l : List Int) : Int × Int × Bool × Int × Int × Int × Int × Int × Int := if beginsB l 5 = false then noHead 6 else if l.length < 20 then noHead 3 else readS (unpack ((l.take 20).drop 5))
theorem hread_ok {l : List Int} (h : Bytes8 l) {k : Nat} (hk : 52 < k) : head_Read.f k l = some (readB l) := by
  unfold readB
  by_cases hb : beginsB l 5 = false
  · unfold head_Read.f
    rw [prefix_ok h, bs, if_pos hb, if_pos hb]
  · by_cases hl : l.length < 20
    · unfold head_Read.f
      rw [prefix_ok h, bs, if_neg hb, if_neg hb, if_pos hl, if_pos hl]
    · rw [if_neg hb, if_neg hl]
      exact hread_whole h (by omega) (by simpa using hb) hk
theorem rread_ok {l : List Int} (h : Bytes8 l) {k : Nat} (hk : 52 < k) : sackbutref16_Read.f k l = some (readB l) := by
  unfold readB
  by_cases hb : beginsB l 5 = false
  · unfold sackbutref16_Read.f
    rw [if_pos hb, if_pos hb]
  · by_cases hl : l.length < 20
    · unfold sackbutref16_Read.f
      rw [if_neg hb, if_neg hb, if_pos hl, if_pos hl]
    · rw [if_neg hb, if_neg hl]
      exact rread_whole h (by omega) (by simpa using hb) hk
theorem readB_zero {l : List Int} {e : Int} (he : e ≠ 0) (h : readB l = noHead e) : (readB l).2.2.2.2.2.2.2.2 ≠ 0 := by rw [h]; exact he
/-- Either nothing is read, or 120 bits behind the first bytes, which are good ones. -/
theorem readB_or (l : List Int) : (∃ e, e ≠ 0 ∧ readB l = noHead e) ∨ (20 ≤ l.length ∧ beginsB l 5 = true ∧ seg (unpack ((l.take 20).drop 5)) 97 120 = 0 ∧
    GoodH (seg (unpack ((l.take 20).drop 5)) 0 3 + 1) (8 * seg (unpack ((l.take 20).drop 5)) 3 5) (seg (unpack ((l.take 20).drop 5)) 6 30) (16 * (seg (unpack ((l.take 20).drop 5)) 30 36 + 1)) (seg (unpack ((l.take 20).drop 5)) 36 44) (seg (unpack ((l.take 20).drop 5)) 44 65) ∧
    readB l = (seg (unpack ((l.take 20).drop 5)) 0 3 + 1, 8 * seg (unpack ((l.take 20).drop 5)) 3 5, (unpack ((l.take 20).drop 5)).getD 5 false, seg (unpack ((l.take 20).drop 5)) 6 30, 16 * (seg (unpack ((l.take 20).drop 5)) 30 36 + 1), seg (unpack ((l.take 20).drop 5)) 36 44, seg (unpack ((l.take 20).drop 5)) 44 65, seg (unpack ((l.take 20).drop 5)) 65 97, 0)) := by
  unfold readB
  by_cases hb : beginsB l 5 = false
  · rw [if_pos hb]
    exact .inl ⟨6, by decide, rfl⟩
  · by_cases hl : l.length < 20
    · rw [if_neg hb, if_pos hl]
      exact .inl ⟨3, by decide, rfl⟩
    · rw [if_neg hb, if_neg hl]
      generalize unpack ((l.take 20).drop 5) = S
      unfold readS
      by_cases h9 : seg S 97 120 = 0
      · rw [if_neg (by simp [h9])]
        rcases noGood_or (ref16_some (seg S 0 3 + 1) (8 * seg S 3 5) (seg S 6 30) (16 * (seg S 30 36 + 1)) (seg S 36 44) (seg S 44 65) (S.getD 5 false)) with hg | hg
        · rw [if_pos hg]
          exact .inr ⟨by omega, by simpa using hb, h9, goodH_ref hg, rfl⟩
        · rw [if_neg (by rw [hg]; simp)]
          exact .inl ⟨7, by decide, rfl⟩
      · rw [if_pos h9]
        exact .inl ⟨5, by decide, rfl⟩
theorem seg_bits {S : List Bool} {a b n : Nat} (hb : b ≤ S.length) (h : b = a + n) : bitsOf (seg S a b) n = (S.take b).drop a := by
  have hl : ((S.take b).drop a).length = n := by rw [List.length_drop, List.length_take]; omega
  have := bitsOf_numL ((S.take b).drop a)
  rw [hl] at this
  exact this
theorem segs_join {S : List Bool} {a b : Nat} (hab : a ≤ b) : S.take a ++ (S.take b).drop a = S.take b := by
  have h := List.take_append_drop a (S.take b)
  rw [List.take_take, Nat.min_eq_left hab] at h
  exact h
/-- The bits of what is read. -/
theorem bits_read {S : List Bool} (hS : S.length = 120) (h9 : seg S 97 120 = 0) : allBits (seg S 0 3 + 1) (8 * seg S 3 5) (S.getD 5 false) (seg S 6 30) (16 * (seg S 30 36 + 1)) (seg S 36 44) (seg S 44 65) (seg S 65 97) = S := by
  unfold allBits headBits
  have e1 : seg S 0 3 + 1 - 1 = seg S 0 3 := by omega
  have e2 : 8 * seg S 3 5 / 8 = seg S 3 5 := by omega
  have e3 : 16 * (seg S 30 36 + 1) / 16 - 1 = seg S 30 36 := by omega
  have e4 : flagZ (S.getD 5 false) = seg S 5 6 := by rw [seg_one (by omega)]; rfl
  have e5 : bitsOf 0 23 = bitsOf (seg S 97 120) 23 := by rw [h9]
  simp only
  rw [e1, e2, e3, e4, e5, seg_bits (a := 0) (b := 3) (by omega) rfl, seg_bits (a := 3) (b := 5) (by omega) rfl, seg_bits (a := 5) (b := 6) (by omega) rfl, seg_bits (a := 6) (b := 30) (by omega) rfl, seg_bits (a := 30) (b := 36) (by omega) rfl, seg_bits (a := 36) (b := 44) (by omega) rfl, seg_bits (a := 44) (b := 65) (by omega) rfl, seg_bits (a := 65) (b := 97) (by omega) rfl, seg_bits (a := 97) (b := 120) (by omega) rfl,
    List.drop_zero, segs_join (by omega), segs_join (by omega), segs_join (by omega), segs_join (by omega), segs_join (by omega), segs_join (by omega), segs_join (by omega), segs_join (by omega)]
  exact List.take_of_length_le (by omega)
theorem pack_unpack {b : List Int} (h : Bytes8 b) : pack (unpack b) = b := by
  have hl := unpack_length b
  refine ext_rd ?_ (fun i hi => ?_)
  · rw [pack_length, hl]; omega
  · have hi2 : i < b.length := by rw [pack_length, hl] at hi; omega
    rw [rd_nat, List.getD_eq_getElem?_getD, pack_get (by rw [pack_length] at hi; exact hi)]
    have h1 := byte_bits (unpack b) (i := i) (by rw [hl]; omega)
    have h2 : ((unpack b).drop (8 * i)).take 8 = bitsOf (rd b i) 8 := by
      have e : b = b.take i ++ (rd b i :: b.drop (i + 1)) := by
        rw [← List.singleton_append, ← List.append_assoc, ← take_rd b hi2, List.take_append_drop]
      have e2 : unpack b = unpack (b.take i) ++ (bitsOf (rd b i) 8 ++ unpack (b.drop (i + 1))) := by
        conv => lhs; rw [e]
        rw [unpack_app, ← List.singleton_append, unpack_app, unpack_one]
      have hl2 : (unpack (b.take i)).length = 8 * i := by rw [unpack_length, List.length_take]; omega
      rw [e2, List.drop_append_of_le_length (by omega), List.drop_of_length_le (by omega), List.nil_append, List.take_append_of_le_length (by rw [bitsOf_length]; omega), List.take_of_length_le (by rw [bitsOf_length]; omega)]
    rw [h2] at h1
    have hr := h.rd hi2
    have hB := byteAt_range (unpack b) i
    have := bits_inj (n := 8) hB.1 (by rw [show (2 : Int) ^ 8 = 256 from rfl]; omega) hr.1 (by rw [show (2 : Int) ^ 8 = 256 from rfl]; omega) h1
    rw [Option.getD_some, this]
theorem begin_whole {l : List Int} (h : beginsB l 5 = true) (hl : 20 ≤ l.length) : l.take 5 = [83, 75, 66, 84, 1] := by
  have := (begins_iff l).1 h
  have hl5 : (l.take 5).length = 5 := by rw [List.length_take]; omega
  rw [hl5] at this
  exact this.symm
/-- What is read has just those bytes. -/
theorem bytes_read {l : List Int} (h : Bytes8 l) (hb : beginsB l 5 = true) (hl : 20 ≤ l.length) : [83, 75, 66, 84, 1] ++ pack (unpack ((l.take 20).drop 5)) = l.take 20 := by
  rw [pack_unpack (body8 h), ← begin_whole hb hl]
  have := List.take_append_drop 5 (l.take 20)
  rw [List.take_take, Nat.min_eq_left (by omega)] at this
  exact this
theorem bytes_zero (m : Int) : head_Bytes.f 0 0 false 0 0 0 0 m = some ([], 7) := by
  unfold head_Bytes.f
  rw [goods_same, show sackbutref16_Good.f 0 0 false 0 0 0 0 = some false by kernel_rfl, bs, if_neg (by simp)]
end Go.Proofs.Ytofjckfdofkikaa.Pure
