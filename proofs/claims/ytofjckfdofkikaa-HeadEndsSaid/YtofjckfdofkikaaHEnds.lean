/- The law HeadEnds, walked: what it answers. -/
import Derived.Test.YtofjckfdofkikaaPx0
import Derived.Test.YtofjckfdofkikaaPx2
import Derived.Test.YtofjckfdofkikaaHRead
import Derived.Test.YtofjckfdofkikaaHHBytes
import Derived.Test.YtofjckfdofkikaaPx4
import Derived.Deep.QuietTactic
import Derived.BigQuiet
import Derived.ArgAppend
namespace Go.Proofs.Ytofjckfdofkikaa.P
open Go Go.RowKit Go.Proofs.YtofjckfdofkikaaW.PrintWords Go.Proofs.YtofjckfdofkikaaW.PrintLast Go.Proofs.YtofjckfdofkikaaW.PrintMore
set_option linter.unusedVariables false
set_option linter.unusedSimpArgs false
attribute [local go_sem high] eqA49

def eqHead (y : Int × Int × Bool × Int × Int × Int × Int × Int × Int) (c0 c1 : Int) (big : Bool) (c3 c4 c5 c6 sum : Int) : Bool :=
  y.1 == c0 && (y.2.1 == c1 && (y.2.2.1 == big && (y.2.2.2.1 == c3 && (y.2.2.2.2.1 == c4 && (y.2.2.2.2.2.1 == c5 && (y.2.2.2.2.2.2.1 == c6 && (y.2.2.2.2.2.2.2.1 == sum && y.2.2.2.2.2.2.2.2 == 0)))))))
def sackbutlaw16_HeadEnds.f (k : Nat) (c0 c1 : Int) (big : Bool) (c3 c4 c5 c6 sum cut : Int) (more : List Int) : Option Bool :=
  (sackbutlaw16_awake.f).bind fun aw => if aw = false then none else
  (sackbutref16_Good.f c0 c1 big c3 c4 c5 c6).bind fun g => if g = false ∨ 50 < more.length then some true else
  (head_Bytes.f c0 c1 big c3 c4 c5 c6 sum).bind fun b => if b.1.length ≠ 20 ∨ cut < 0 ∨ 255 < cut then none else
  (head_Read.f k (b.1.take (cut % 20).toNat)).bind fun x => (head_Read.f k (b.1 ++ more)).bind fun y => if x.2.2.2.2.2.2.2.2 = 3 then (if eqHead y c0 c1 big c3 c4 c5 c6 sum = true then some true else none) else none
theorem sackbutlaw16_HeadEnds.mono (k : Nat) (c0 c1 : Int) (big : Bool) (c3 c4 c5 c6 sum cut : Int) (more : List Int) : LeO (sackbutlaw16_HeadEnds.f k c0 c1 big c3 c4 c5 c6 sum cut more) (sackbutlaw16_HeadEnds.f (k + 1) c0 c1 big c3 c4 c5 c6 sum cut more) := by
  unfold sackbutlaw16_HeadEnds.f
  refine LeO.bind (LeO.refl _) (fun aw => ?_)
  split
  · exact LeO.refl _
  refine LeO.bind (LeO.refl _) (fun g => ?_)
  split
  · exact LeO.refl _
  refine LeO.bind (LeO.refl _) (fun b => ?_)
  split
  · exact LeO.refl _
  exact LeO.bind (head_Read.mono _ _) (fun x => LeO.bind (head_Read.mono _ _) (fun y => LeO.refl _))

abbrev headO (c0 c1 : Int) (big : Bool) (c3 c4 c5 c6 sum : Int) : Obj := .cells #[.int .i64 c0, .int .i64 c1, .bool big, .int .i64 c3, .int .i64 c4, .int .i64 c5, .int .i64 c6, .int .u32 sum] 49

set_option maxHeartbeats 8000000 in
set_option maxRecDepth 100000 in
theorem ends_main (k : Nat) (c0 c1 : Int) (big : Bool) (c3 c4 c5 c6 sum cut : Int) (A2 : Option Addr) (c2 : Nat) (more : List Int) (B : List Int) (e0 x1 x2 : Int) (x3 : Bool) (x4 x5 x6 x7 x8 : Int) (w : World) (hr2 : Kd.C (Kd.int .u8) w A2 more.length more) (hc2 : more.length ≤ c2)
    (haw : sackbutlaw16_awake.f = some true) (hg : sackbutref16_Good.f c0 c1 big c3 c4 c5 c6 = some true) (hm : more.length ≤ 50) (hB : head_Bytes.f c0 c1 big c3 c4 c5 c6 sum = some (B, e0)) (hBl : B.length = 20) (hct0 : 0 ≤ cut) (hct1 : cut ≤ 255)
    (hx : head_Read.f k (B.take (cut % 20).toNat) = some (x1, x2, x3, x4, x5, x6, x7, x8, 3)) (hy : head_Read.f k (B ++ more) = some (c0, c1, big, c3, c4, c5, c6, sum, 0)) :
    Calls Try.prog 13 #[.agg #[.int .i64 c0, .int .i64 c1, .bool big, .int .i64 c3, .int .i64 c4, .int .i64 c5, .int .i64 c6, .int .u32 sum], .int .u8 cut, .slice A2 more.length c2] w fun e w' => e = .returned (.bool true) ∧ Below w.heap.size w w' := by
  have HR2 := Aside0.mk hr2
  have HC2 := Aside0.mk hc2
  have HAW := Aside0.mk haw
  have HGD := Aside0.mk hg
  have HBY := Aside0.mk hB
  have HX := Aside0.mk hx
  have HY := Aside0.mk hy
  have HBL := Aside0.mk hBl
  clear hr2 hc2 haw hg hB hx hy hBl
  have hmI : (more.length : Int) ≤ 50 := by omega
  have hu := Try.underlying49
  have hu2 := Try.underlying23
  go_enter Try.func13, Try.ntmps13
  go_wp2_with fail
  have hb0 := blk_new w (headO c0 c1 big c3 c4 c5 c6 sum)
  have hB0 := below_alloc (Below.refl w.heap.size w) (headO c0 c1 big c3 c4 c5 c6 sum)
  obtain ⟨gh, hgh⟩ : ∃ gh, w.heap.size = gh := ⟨_, rfl⟩
  have HG := Aside0.mk (Nat.le_of_eq hgh)
  rw [hgh] at hb0 ⊢
  (with_reducible refine (sackbutlaw16_awake.calls true _ HAW.out).mono ?_)
  rintro e w1 ⟨rfl, hb1⟩
  have HH1 := Aside0.mk (blk_below hb0 hb1)
  have HB1 := Aside0.mk (below_then hB0 hB0.size hb1)
  clear hb0 hB0 hb1 hgh
  obtain ⟨-, ⟨hh0, hh1, hh2, hh3, hh4, hh5, hh6, hh7⟩⟩ := blk8 HH1.out
  go_wp2_with fail
  (with_reducible refine (sackbutref16_Good.calls _ _ _ _ _ _ _ true _ HGD.out).mono ?_)
  rintro e w2 ⟨rfl, hb2⟩
  have HH2 := Aside0.mk (blk_below HH1.out hb2)
  have HB2 := Aside0.mk (below_then HB1.out HB1.out.size hb2)
  clear hb2 hh0 hh1 hh2 hh3 hh4 hh5 hh6 hh7 HH1 HB1
  obtain ⟨-, ⟨hh0, hh1, hh2, hh3, hh4, hh5, hh6, hh7⟩⟩ := blk8 HH2.out
  go_wp2_with fail
  (with_reducible refine (head_Bytes.calls _ _ _ _ _ _ _ _ B e0 _ HBY.out).mono ?_)
  rintro e w3 ⟨vB, rfl, hR3, hb3⟩
  have HH3 := Aside0.mk (blk_below HH2.out hb3)
  have HB3 := Aside0.mk (below_then HB2.out HB2.out.size hb3)
  obtain ⟨AB, cB, rfl, hcB, hCB⟩ := Kd.R_reads hR3
  have HCB := Aside0.mk hCB
  have hcB20 : 20 ≤ cB := by have := HBL.out; omega
  clear hR3 hb3 hCB hcB hh0 hh1 hh2 hh3 hh4 hh5 hh6 hh7 HH2 HB2
  have hbl := HBL.out
  obtain ⟨j, hj⟩ : ∃ j : Nat, cut % 20 = (j : Int) := ⟨(cut % 20).toNat, by omega⟩
  have hj20 : j < 20 := by omega
  have hj20I : (j : Int) < 20 := by omega
  have hcBI : (20 : Int) ≤ (cB : Int) := by omega
  rw [hj, Int.toNat_natCast] at HX
  have hlj : (B.take j).length = j := by rw [List.length_take]; omega
  have hC3 : Kd.C (Kd.int .u8) w3 AB (B.take j).length (B.take j) := Kd.C_take HCB.out (by omega)
  have hcall := head_Read.calls k AB cB (B.take j) x1 x2 x3 x4 x5 x6 x7 x8 3 w3 hC3 (by omega) HX.out
  rw [hlj] at hcall
  have HCALL := Aside0.mk hcall
  clear hcall hC3 hlj
  go_wp2_with fail
  (with_reducible refine (HCALL.out).mono ?_)
  rintro e w4 ⟨rfl, hb4⟩
  have HH4 := Aside0.mk (blk_below HH3.out hb4)
  have HB4 := Aside0.mk (below_then HB3.out HB3.out.size hb4)
  have HCB4 := Aside0.mk (Kd.C_below HCB.out hb4)
  clear hb4 HH3 HB3 HCB HCALL hj hj20 hj20I HX
  obtain ⟨ad, rfl, -⟩ := Kd.at_int HCB4.out 0 (by omega) (by omega)
  have hglt : gh < w4.heap.size := blk_lt HH4.out
  have hs5 : (w4.alloc (headO x1 x2 x3 x4 x5 x6 x7 x8)).heap.size = w4.heap.size + 1 := Array.size_push _
  have hm5 : ((w4.alloc (headO x1 x2 x3 x4 x5 x6 x7 x8)).alloc (.cells #[] 5)).ownsRow w.heap.size 5 1 (.slice (some ⟨w4.heap.size + 1, 0, none⟩) 0 0) 0 [] := by
    have := World.ownsRow_made (w4.alloc (headO x1 x2 x3 x4 x5 x6 x7 x8)) #[] 0 (e := 5) (size := 1) (base := w.heap.size) (by rw [hs5]; have := HB4.out.size; omega) (by unfold maxLen; omega) rfl
    rw [hs5] at this
    exact this
  have HM5 := Aside0.mk hm5
  have HB5 := Aside0.mk (below_alloc (below_alloc HB4.out (headO x1 x2 x3 x4 x5 x6 x7 x8)) (.cells #[] 5))
  have HH5 := Aside0.mk (blk_alloc (blk_alloc HH4.out (headO x1 x2 x3 x4 x5 x6 x7 x8)) (.cells #[] 5))
  have HC5 := Aside0.mk (Kd.reads_of_C (enc := Value.int .u8) (d := (0 : Int)) (h1 := fun _ => rfl) (Kd.C_alloc (Kd.C_alloc HCB4.out (headO x1 x2 x3 x4 x5 x6 x7 x8)) (.cells #[] 5)))
  have hbl20 := HBL.out
  rw [hbl20] at HC5
  clear hm5 hs5 HB4 HH4 HCB4 hbl
  go_wp2_with (at_builtin; refine print_append_row (w0 := w) (W := (w4.alloc (headO x1 x2 x3 x4 x5 x6 x7 x8)).alloc (.cells #[] 5)) w.heap.size rfl (.tmp 45) (.tmp 46) 50 5 .u8 1 rfl Try.underlying50 wr_info (by decide) (.slice (some ⟨w4.heap.size + 1, 0, none⟩) 0 0) [] B (some ad) 20 cB rfl rfl ?c1 ?c2 ?c3 ?c4 ?c5 ?_)
  case c1 => exact HM5.out
  case c2 => exact HC5.out
  case c3 => exact HB5.out
  case c4 => have := HB5.out.size; omega
  case c5 => simp
  intro v1 w5 hown1 hB6 hgr1 hat1
  have HH6 := Aside0.mk (blk_grown HH5.out hgr1 (by simp [Value.ownBlock]; omega))
  have HO1 := Aside0.mk hown1
  have HB6 := Aside0.mk hB6
  have HR6 := Aside0.mk (Kd.reads_of_C (enc := Value.int .u8) (d := (0 : Int)) (h1 := fun _ => rfl) (Kd.C_below HR2.out hB6))
  have HNE : Aside0 (some gh ≠ v1.ownBlock) := ⟨fun he => by
    have hz : ((w4.alloc (headO x1 x2 x3 x4 x5 x6 x7 x8)).alloc (.cells #[] 5)).heap.size = w4.heap.size + 1 + 1 := by rw [show ((w4.alloc (headO x1 x2 x3 x4 x5 x6 x7 x8)).alloc (.cells #[] 5)).heap.size = (w4.alloc (headO x1 x2 x3 x4 x5 x6 x7 x8)).heap.size + 1 from Array.size_push _, show (w4.alloc (headO x1 x2 x3 x4 x5 x6 x7 x8)).heap.size = w4.heap.size + 1 from Array.size_push _]
    rcases hat1 with h1 | ⟨b, h1, h2⟩
    · rw [h1] at he
      simp [Value.ownBlock] at he
      omega
    · rw [h1] at he
      injection he with he
      first | omega | (rw [hz] at h2; omega)⟩
  clear hown1 hB6 hgr1 hat1 HM5 HB5 HH5 HC5 hglt
  go_wp2_with (at_builtin; refine print_append_row (w0 := w) (W := w5) w.heap.size rfl (.tmp 47) (.tmp 48) 50 5 .u8 1 rfl Try.underlying50 wr_info (by decide) v1 B more A2 more.length c2 rfl rfl ?d1 ?d2 ?d3 ?d4 ?d5 ?_)
  case d1 => rw [HBL.out]; exact HO1.out
  case d2 => exact HR6.out
  case d3 => exact HB6.out
  case d4 => exact HB6.out.size
  case d5 => rw [HBL.out]; omega
  intro v2 w6 hown2 hB7 hgr2 hat2
  have HH7 := Aside0.mk (blk_grown HH6.out hgr2 HNE.out)
  have HB7 := Aside0.mk hB7
  have hown3 : w6.ownsRow w.heap.size 5 1 v2 (B ++ more).length (nums .u8 (B ++ more)) := by
    first | exact hown2 | simpa [HBL.out] using hown2
  obtain ⟨A7, c7, rfl, hle7, hC7⟩ := owns_reads hown3
  obtain ⟨bm, hbm⟩ : ∃ bm, B ++ more = bm := ⟨_, rfl⟩
  have HBM := Aside0.mk hbm
  rw [hbm] at hC7 hle7 HY ⊢
  have HC7 := Aside0.mk hC7
  have HLE7 := Aside0.mk hle7
  clear hown2 hown3 hB7 hgr2 hat2 hC7 hle7 hbm HO1 HB6 HH6 HR6 HNE
  go_wp2_with fail
  (with_reducible refine (head_Read.calls k A7 c7 bm c0 c1 big c3 c4 c5 c6 sum 0 w6 HC7.out HLE7.out HY.out).mono ?_)
  rintro e w8 ⟨rfl, hb8⟩
  have HH8 := Aside0.mk (blk_below HH7.out hb8)
  have HB8 := Aside0.mk (below_then HB7.out HB7.out.size hb8)
  have hglt : gh < w8.heap.size := blk_lt HH8.out
  obtain ⟨-, ⟨hh0, hh1, hh2, hh3, hh4, hh5, hh6, hh7⟩⟩ := blk8 HH8.out
  clear hb8 HH7 HB7 HC7 HLE7
  go_wp2
  go_ret
  exact ⟨by simp, below_alloc HB8.out _⟩

set_option maxHeartbeats 8000000 in
set_option maxRecDepth 100000 in
theorem ends_quick (c0 c1 : Int) (big : Bool) (c3 c4 c5 c6 sum cut : Int) (A2 : Option Addr) (c2 : Nat) (more : List Int) (g : Bool) (w : World)
    (haw : sackbutlaw16_awake.f = some true) (hg : sackbutref16_Good.f c0 c1 big c3 c4 c5 c6 = some g) (hm : g = false ∨ 50 < more.length) :
    Calls Try.prog 13 #[.agg #[.int .i64 c0, .int .i64 c1, .bool big, .int .i64 c3, .int .i64 c4, .int .i64 c5, .int .i64 c6, .int .u32 sum], .int .u8 cut, .slice A2 more.length c2] w fun e w' => e = .returned (.bool true) ∧ Below w.heap.size w w' := by
  have HAW := Aside0.mk haw
  have HGD := Aside0.mk hg
  have HMM := Aside0.mk hm
  clear haw hg hm
  have hu := Try.underlying49
  have hu2 := Try.underlying23
  go_enter Try.func13, Try.ntmps13
  go_wp2_with fail
  have hb0 := blk_new w (headO c0 c1 big c3 c4 c5 c6 sum)
  have hB0 := below_alloc (Below.refl w.heap.size w) (headO c0 c1 big c3 c4 c5 c6 sum)
  obtain ⟨gh, hgh⟩ : ∃ gh, w.heap.size = gh := ⟨_, rfl⟩
  have HG := Aside0.mk (Nat.le_of_eq hgh)
  rw [hgh] at hb0 ⊢
  (with_reducible refine (sackbutlaw16_awake.calls true _ HAW.out).mono ?_)
  rintro e w1 ⟨rfl, hb1⟩
  have HH1 := Aside0.mk (blk_below hb0 hb1)
  have HB1 := Aside0.mk (below_then hB0 hB0.size hb1)
  clear hb0 hB0 hb1 hgh
  obtain ⟨-, ⟨hh0, hh1, hh2, hh3, hh4, hh5, hh6, hh7⟩⟩ := blk8 HH1.out
  go_wp2_with fail
  (with_reducible refine (sackbutref16_Good.calls _ _ _ _ _ _ _ g _ HGD.out).mono ?_)
  rintro e w2 ⟨rfl, hb2⟩
  have HB2 := Aside0.mk (below_then HB1.out HB1.out.size hb2)
  clear hb2 hh0 hh1 hh2 hh3 hh4 hh5 hh6 hh7 HH1 HB1
  cases g with
  | false =>
    go_wp2_with fail
    (with_reducible refine (sackbutlaw16_awake.calls true _ HAW.out).mono ?_)
    rintro e w3 ⟨rfl, hb3⟩
    have HB3 := Aside0.mk (below_then HB2.out HB2.out.size hb3)
    clear hb3
    go_wp2
    go_ret
    exact ⟨rfl, HB3.out⟩
  | true =>
    have hm50 : (50 : Int) < (more.length : Int) := by
      have := HMM.out
      simp at this
      omega
    go_wp2_with fail
    (with_reducible refine (sackbutlaw16_awake.calls true _ HAW.out).mono ?_)
    rintro e w3 ⟨rfl, hb3⟩
    have HB3 := Aside0.mk (below_then HB2.out HB2.out.size hb3)
    clear hb3
    go_wp2
    go_ret
    exact ⟨rfl, HB3.out⟩
theorem eqHead_eq {y : Int × Int × Bool × Int × Int × Int × Int × Int × Int} {c0 c1 : Int} {big : Bool} {c3 c4 c5 c6 sum : Int} (h : eqHead y c0 c1 big c3 c4 c5 c6 sum = true) : y = (c0, c1, big, c3, c4, c5, c6, sum, 0) := by
  obtain ⟨y1, y2, y3, y4, y5, y6, y7, y8, y9⟩ := y
  simp only [eqHead, Bool.and_eq_true, beq_iff_eq] at h
  obtain ⟨rfl, rfl, rfl, rfl, rfl, rfl, rfl, rfl, rfl⟩ := h
  rfl
theorem sackbutlaw16_HeadEnds.calls (k : Nat) (c0 c1 : Int) (big : Bool) (c3 c4 c5 c6 sum cut : Int) (A2 : Option Addr) (c2 : Nat) (more : List Int) (r : Bool) (w : World) (hr2 : Kd.C (Kd.int .u8) w A2 more.length more) (hc2 : more.length ≤ c2) (h : sackbutlaw16_HeadEnds.f k c0 c1 big c3 c4 c5 c6 sum cut more = some r) :
    Calls Try.prog 13 #[.agg #[.int .i64 c0, .int .i64 c1, .bool big, .int .i64 c3, .int .i64 c4, .int .i64 c5, .int .i64 c6, .int .u32 sum], .int .u8 cut, .slice A2 more.length c2] w fun e w' => e = .returned (.bool r) ∧ Below w.heap.size w w' := by
  unfold sackbutlaw16_HeadEnds.f at h
  obtain ⟨aw, haw, h⟩ := Option.bind_eq_some_iff.mp h
  cases aw with
  | false => rw [if_pos rfl] at h; cases h
  | true =>
  rw [if_neg (by simp)] at h
  obtain ⟨g, hg, h⟩ := Option.bind_eq_some_iff.mp h
  by_cases hm : g = false ∨ 50 < more.length
  · rw [if_pos hm] at h
    cases h
    exact ends_quick c0 c1 big c3 c4 c5 c6 sum cut A2 c2 more g w haw hg hm
  · rw [if_neg hm] at h
    obtain ⟨⟨B, e0⟩, hB, h⟩ := Option.bind_eq_some_iff.mp h
    have hg1 : g = true := by
      cases g with
      | false => exact absurd (.inl rfl) hm
      | true => rfl
    subst hg1
    by_cases hbb : B.length ≠ 20 ∨ cut < 0 ∨ 255 < cut
    · rw [if_pos hbb] at h
      cases h
    · rw [if_neg hbb] at h
      obtain ⟨⟨x1, x2, x3, x4, x5, x6, x7, x8, x9⟩, hx, h⟩ := Option.bind_eq_some_iff.mp h
      obtain ⟨y, hy, hz⟩ := Option.bind_eq_some_iff.mp h
      clear h
      simp only at hz hx
      by_cases h9 : x9 = 3
      · rw [if_pos h9] at hz
        subst h9
        by_cases hye : eqHead y c0 c1 big c3 c4 c5 c6 sum = true
        · rw [if_pos hye] at hz
          cases hz
          obtain rfl := eqHead_eq hye
          exact ends_main k c0 c1 big c3 c4 c5 c6 sum cut A2 c2 more B e0 x1 x2 x3 x4 x5 x6 x7 x8 w hr2 hc2 haw hg (by omega) hB (by omega) (by omega) (by omega) hx hy
        · rw [if_neg hye] at hz
          cases hz
      · rw [if_neg h9] at hz
        cases hz
end Go.Proofs.Ytofjckfdofkikaa.P
