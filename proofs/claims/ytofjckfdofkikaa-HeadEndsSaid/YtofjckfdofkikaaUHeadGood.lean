/- The bytes of a good head are read as it. -/
import Derived.Test.YtofjckfdofkikaaPx0
import Derived.Test.YtofjckfdofkikaaPx6
import Derived.Test.YtofjckfdofkikaaURead
namespace Go.Proofs.Ytofjckfdofkikaa.Pure
open Go.RowKit Go.Proofs.Ytofjckfdofkikaa.P Go.Proofs.YtofjckfdofkikaaW.PrintWords Go.Proofs.YtofjckfdofkikaaW.PrintLast Go.Proofs.YtofjckfdofkikaaW.PrintMore
set_option linter.unusedVariables false
set_option linter.unusedSimpArgs false

theorem seg_at {S A B C : List Bool} {a b : Nat} (h : S = A ++ (B ++ C)) (ha : A.length = a) (hb : a + B.length = b) : seg S a b = numL B := by
  subst h
  unfold seg
  rw [← List.append_assoc, List.take_left' (by rw [List.length_append, ha, hb]), List.drop_left' ha]
theorem take_bits (c b : Int) (g : Bool) (r f s n m : Int) (more : List Int) : (([83, 75, 66, 84, 1] ++ pack (allBits c b g r f s n m)) ++ more).take 20 = [83, 75, 66, 84, 1] ++ pack (allBits c b g r f s n m) :=
  List.take_left' (by rw [List.length_append, pack_length, allBits_length]; rfl)
theorem bytes8_head (l : List Bool) : Bytes8 ([83, 75, 66, 84, 1] ++ pack l) := head_bytes8 l
theorem begins_head (l : List Bool) (more : List Int) : beginsB (([83, 75, 66, 84, 1] ++ pack l) ++ more) 5 = true := by
  rw [begins_iff]
  have : (([83, 75, 66, 84, 1] ++ pack l) ++ more).take 5 = [83, 75, 66, 84, 1] := by
    rw [List.append_assoc]
    exact List.take_left' rfl
  rw [this]
  rfl
theorem unpack_head (c b : Int) (g : Bool) (r f s n m : Int) (more : List Int) : unpack (((([83, 75, 66, 84, 1] ++ pack (allBits c b g r f s n m)) ++ more).take 20).drop 5) = allBits c b g r f s n m := by
  rw [take_bits, List.drop_left' (show ([83, 75, 66, 84, 1] : List Int).length = 5 from rfl), unpack_pack]
  unfold alignB
  rw [allBits_length]
  simp
theorem readB_good {c b r f s n m : Int} {g : Bool} (h : GoodH c b r f s n) (hm : 0 ≤ m) (hm2 : m ≤ 4294967295) (more : List Int) : readB (([83, 75, 66, 84, 1] ++ pack (allBits c b g r f s n m)) ++ more) = (c, b, g, r, f, s, n, m, 0) := by
  unfold readB
  have hlen : 20 ≤ (([83, 75, 66, 84, 1] ++ pack (allBits c b g r f s n m)) ++ more).length := by
    rw [List.length_append, List.length_append, pack_length, allBits_length]
    simp only [List.length_cons, List.length_nil]
    omega
  rw [if_neg (by rw [begins_head]; simp), if_neg (by omega), unpack_head]
  have hS : allBits c b g r f s n m = bitsOf (c - 1) 3 ++ bitsOf (b / 8) 2 ++ bitsOf (flagZ g) 1 ++ bitsOf r 24 ++ bitsOf (f / 16 - 1) 6 ++ bitsOf s 8 ++ bitsOf n 21 ++ bitsOf m 32 ++ bitsOf 0 23 := rfl
  have hl := allBits_length c b g r f s n m
  generalize allBits c b g r f s n m = S at hS hl ⊢
  obtain ⟨h1, h2, h3, h4, h5, h6, h7, h8, h9, h10, h11, h12⟩ := h
  have hf := flag_b g
  have e1 : seg S 0 3 = c - 1 := by
    rw [seg_at (S := S) (a := 0) (b := 3) (A := []) (B := bitsOf (c - 1) 3) (by rw [hS]; simp only [List.append_assoc]; rfl) rfl (by rw [bitsOf_length])]
    exact numL_bitsOf 3 (by omega) (by rw [show (2 : Int) ^ 3 = 8 from rfl]; omega)
  have e2 : seg S 3 5 = b / 8 := by
    rw [seg_at (S := S) (a := 3) (b := 5) (A := bitsOf (c - 1) 3) (B := bitsOf (b / 8) 2) (by rw [hS]; simp only [List.append_assoc]; rfl) (by simp [bitsOf_length]) (by rw [bitsOf_length])]
    exact numL_bitsOf 2 (by omega) (by rw [show (2 : Int) ^ 2 = 4 from rfl]; omega)
  have e3 : seg S 5 6 = flagZ g := by
    rw [seg_at (S := S) (a := 5) (b := 6) (A := bitsOf (c - 1) 3 ++ bitsOf (b / 8) 2) (B := bitsOf (flagZ g) 1) (by rw [hS]; simp only [List.append_assoc]; rfl) (by simp [bitsOf_length]) (by rw [bitsOf_length])]
    exact numL_bitsOf 1 (by omega) (by rw [show (2 : Int) ^ 1 = 2 from rfl]; omega)
  have e4 : seg S 6 30 = r := by
    rw [seg_at (S := S) (a := 6) (b := 30) (A := bitsOf (c - 1) 3 ++ bitsOf (b / 8) 2 ++ bitsOf (flagZ g) 1) (B := bitsOf r 24) (by rw [hS]; simp only [List.append_assoc]; rfl) (by simp [bitsOf_length]) (by rw [bitsOf_length])]
    exact numL_bitsOf 24 (by omega) (by rw [show (2 : Int) ^ 24 = 16777216 from rfl]; omega)
  have e5 : seg S 30 36 = f / 16 - 1 := by
    rw [seg_at (S := S) (a := 30) (b := 36) (A := bitsOf (c - 1) 3 ++ bitsOf (b / 8) 2 ++ bitsOf (flagZ g) 1 ++ bitsOf r 24) (B := bitsOf (f / 16 - 1) 6) (by rw [hS]; simp only [List.append_assoc]; rfl) (by simp [bitsOf_length]) (by rw [bitsOf_length])]
    exact numL_bitsOf 6 (by omega) (by rw [show (2 : Int) ^ 6 = 64 from rfl]; omega)
  have e6 : seg S 36 44 = s := by
    rw [seg_at (S := S) (a := 36) (b := 44) (A := bitsOf (c - 1) 3 ++ bitsOf (b / 8) 2 ++ bitsOf (flagZ g) 1 ++ bitsOf r 24 ++ bitsOf (f / 16 - 1) 6) (B := bitsOf s 8) (by rw [hS]; simp only [List.append_assoc]; rfl) (by simp [bitsOf_length]) (by rw [bitsOf_length])]
    exact numL_bitsOf 8 (by omega) (by rw [show (2 : Int) ^ 8 = 256 from rfl]; omega)
  have e7 : seg S 44 65 = n := by
    rw [seg_at (S := S) (a := 44) (b := 65) (A := bitsOf (c - 1) 3 ++ bitsOf (b / 8) 2 ++ bitsOf (flagZ g) 1 ++ bitsOf r 24 ++ bitsOf (f / 16 - 1) 6 ++ bitsOf s 8) (B := bitsOf n 21) (by rw [hS]; simp only [List.append_assoc]; rfl) (by simp [bitsOf_length]) (by rw [bitsOf_length])]
    exact numL_bitsOf 21 (by omega) (by rw [show (2 : Int) ^ 21 = 2097152 from rfl]; omega)
  have e8 : seg S 65 97 = m := by
    rw [seg_at (S := S) (a := 65) (b := 97) (A := bitsOf (c - 1) 3 ++ bitsOf (b / 8) 2 ++ bitsOf (flagZ g) 1 ++ bitsOf r 24 ++ bitsOf (f / 16 - 1) 6 ++ bitsOf s 8 ++ bitsOf n 21) (B := bitsOf m 32) (by rw [hS]; simp only [List.append_assoc]; rfl) (by simp [bitsOf_length]) (by rw [bitsOf_length])]
    exact numL_bitsOf 32 (by omega) (by rw [show (2 : Int) ^ 32 = 4294967296 from rfl]; omega)
  have e9 : seg S 97 120 = 0 := by
    rw [seg_at (S := S) (a := 97) (b := 120) (A := bitsOf (c - 1) 3 ++ bitsOf (b / 8) 2 ++ bitsOf (flagZ g) 1 ++ bitsOf r 24 ++ bitsOf (f / 16 - 1) 6 ++ bitsOf s 8 ++ bitsOf n 21 ++ bitsOf m 32) (B := bitsOf 0 23) (C := []) (by rw [hS, List.append_nil]) (by simp [bitsOf_length]) (by rw [bitsOf_length])]
    exact numL_bitsOf 23 (by omega) (by rw [show (2 : Int) ^ 23 = 8388608 from rfl]; omega)
  have eg : S.getD 5 false = g := by
    rw [seg_one (by omega)] at e3
    exact flag_inj e3
  unfold readS
  rw [e1, e2, e4, e5, e6, e7, e8, e9, eg, show c - 1 + 1 = c by omega, show 8 * (b / 8) = b by omega, show 16 * (f / 16 - 1 + 1) = f by omega, if_neg (by simp), if_pos (ref_of_good g ⟨h1, h2, h3, h4, h5, h6, h7, h8, h9, h10, h11, h12⟩)]
theorem refbytes_good {c b r f s n m : Int} {g : Bool} (h : GoodH c b r f s n) (hm : 0 ≤ m) (hm2 : m ≤ 4294967295) {k : Nat} (hk : 300 < k) : sackbutref16_Bytes.f k c b g r f s n m = some ([83, 75, 66, 84, 1] ++ pack (allBits c b g r f s n m)) := by
  have hf := flag_b g
  have hj : sackbutref16_Bytes.f k c b g r f s n m = sackbutref16_Bytes.j0 k m (flagZ g) c b g r f s n := by
    unfold sackbutref16_Bytes.f
    cases g <;> rfl
  obtain ⟨k, rfl, hk1⟩ := pred_k hk
  have hl := allBits_length c b g r f s n m
  obtain ⟨h1, h2, h3, h4, h5, h6, h7, h8, h9, h10, h11, h12⟩ := h
  rw [hj]
  simp only [sackbutref16_Bytes.j0]
  have hq1 : Int.tdiv b 8 = b / 8 := Int.tdiv_eq_ediv_of_nonneg (by omega)
  have hq2 : Int.tdiv f 16 = f / 16 := Int.tdiv_eq_ediv_of_nonneg (by omega)
  rw [hq1, hq2, w64 (x := c - 1) (by omega) (by omega), w64 (x := b / 8) (by omega) (by omega), w64 (x := f / 16) (by omega) (by omega), w64 (x := f / 16 - 1) (by omega) (by omega), w64 (x := m) (by omega) (by omega)]
  have p0 : sackbutref01_Put.f k (c - 1) 3 = some (txt (bitsOf (c - 1) 3)) := put_ok (n := 3) (by omega) (by omega) (by omega) (by omega)
  have p1 : sackbutref01_Put.f k (b / 8) 2 = some (txt (bitsOf (b / 8) 2)) := put_ok (n := 2) (by omega) (by omega) (by omega) (by omega)
  have p2 : sackbutref01_Put.f k (flagZ g) 1 = some (txt (bitsOf (flagZ g) 1)) := put_ok (n := 1) (by omega) (by omega) (by omega) (by omega)
  have p3 : sackbutref01_Put.f k (r) 24 = some (txt (bitsOf (r) 24)) := put_ok (n := 24) (by omega) (by omega) (by omega) (by omega)
  have p4 : sackbutref01_Put.f k (f / 16 - 1) 6 = some (txt (bitsOf (f / 16 - 1) 6)) := put_ok (n := 6) (by omega) (by omega) (by omega) (by omega)
  have p5 : sackbutref01_Put.f k (s) 8 = some (txt (bitsOf (s) 8)) := put_ok (n := 8) (by omega) (by omega) (by omega) (by omega)
  have p6 : sackbutref01_Put.f k (n) 21 = some (txt (bitsOf (n) 21)) := put_ok (n := 21) (by omega) (by omega) (by omega) (by omega)
  have p7 : sackbutref01_Put.f k (m) 32 = some (txt (bitsOf (m) 32)) := put_ok (n := 32) (by omega) (by omega) (by omega) (by omega)
  have p8 : sackbutref01_Put.f k (0) 23 = some (txt (bitsOf (0) 23)) := put_ok (n := 23) (by omega) (by omega) (by omega) (by omega)
  have hs : ∀ l : List Bool, (txt l).size = l.length := txt_size
  rw [p0, bs, p1, bs, if_pos (by rw [hs, hs, bitsOf_length, bitsOf_length]; omega), p2, bs, txt_app, if_pos (by rw [hs, hs]; simp only [List.length_append, bitsOf_length]; omega), p3, bs, txt_app, if_pos (by rw [hs, hs]; simp only [List.length_append, bitsOf_length]; omega), p4, bs, txt_app, if_pos (by rw [hs, hs]; simp only [List.length_append, bitsOf_length]; omega), p5, bs, txt_app, if_pos (by rw [hs, hs]; simp only [List.length_append, bitsOf_length]; omega), p6, bs, txt_app, if_pos (by rw [hs, hs]; simp only [List.length_append, bitsOf_length]; omega), p7, bs, txt_app, if_pos (by rw [hs, hs]; simp only [List.length_append, bitsOf_length]; omega), p8, bs, txt_app, if_pos (by rw [hs, hs]; simp only [List.length_append, bitsOf_length]; omega), txt_app, bs]
  change (sackbutref01_Bytes.f k (txt (allBits c b g r f s n m))).bind _ = _
  rw [bytes_ok (by omega) (by omega), bs, if_pos]
  rw [pack_length, hl]
  simp only [List.length_cons, List.length_nil]
  omega
end Go.Proofs.Ytofjckfdofkikaa.Pure
