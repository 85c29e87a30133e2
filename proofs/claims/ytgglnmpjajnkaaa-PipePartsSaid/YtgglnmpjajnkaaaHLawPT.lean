/- The law PipeParts, walked: what it answers. -/
import Derived.Test.YtgglnmpjajnkaaaPx0
import Derived.Test.YtgglnmpjajnkaaaHThree
import Derived.Test.YtgglnmpjajnkaaaHLawPP
import Derived.Test.YtgglnmpjajnkaaaPx1
import Derived.Sort.LoopGhostIn
import Derived.Deep.DeepCutAuto
namespace Go.Proofs.Ytgglnmpjajnkaaa.P
open Go Go.RowKit Go.Proofs.YtgglnmpjajnkaaaW.PrintWords Go.Proofs.YtgglnmpjajnkaaaW.PrintLast Go.Proofs.YtgglnmpjajnkaaaW.PrintMore
set_option linter.unusedVariables false
set_option linter.unusedSimpArgs false

/-- The bits of one writer, and of the one that puts all. -/
def partsL : List S28 → List Bool → List Bool → List Bool × List Bool
  | [], l, z => (l, z)
  | a :: r, l, z => if a.f0 ≠ 4 ∧ l.length < 4000 then partsL r (doBits l a.f0 a.f1 a.f2) (doBits z a.f0 a.f1 a.f2) else partsL r l z
def partsEnd (k : Nat) (x y z : List Bool) : Option Bool :=
  (sackbutref01_Bits.f k (pack x)).bind fun sx => (sackbutref01_Bits.f k (pack y)).bind fun sy => if sx.size < x.length ∨ sy.size < y.length ∨ 1000000 < sx.size ∨ 1000000 < sy.size ∨ z.length ≠ (sx.extract 0 x.length ++ sy.extract 0 y.length).size then none else
  (sackbutref01_Bytes.f k (sx.extract 0 x.length ++ sy.extract 0 y.length)).bind fun b => some ((strOfNums (pack z)).toList == (strOfNums b).toList)
def sackbutlaw01_PipeParts.f (k : Nat) (ac bc : List S28) : Option Bool := if 40 < ac.length ∨ 40 < bc.length then some true else if ac.all actIn = false ∨ bc.all actIn = false then none else
  partsEnd k (partsL ac [] []).1 (partsL bc [] (partsL ac [] []).2).1 (partsL bc [] (partsL ac [] []).2).2
theorem partsEnd_mono (k : Nat) (x y z : List Bool) : LeO (partsEnd k x y z) (partsEnd (k + 1) x y z) := by
  unfold partsEnd
  refine LeO.bind (sackbutref01_Bits.mono _ _) (fun sx => LeO.bind (sackbutref01_Bits.mono _ _) (fun sy => ?_))
  split
  · exact LeO.refl _
  · exact LeO.bind (sackbutref01_Bytes.mono _ _) (fun _ => LeO.refl _)
theorem sackbutlaw01_PipeParts.mono (ac bc : List S28) (k : Nat) : LeO (sackbutlaw01_PipeParts.f k ac bc) (sackbutlaw01_PipeParts.f (k + 1) ac bc) := by
  unfold sackbutlaw01_PipeParts.f
  split
  · exact LeO.refl _
  · split
    · exact LeO.refl _
    · exact partsEnd_mono k _ _ _
def sackbutlaw01_PipeParts.T18 : Bool × List (List Nat × List Nat) := (true, [([], []), ([0, 0], [0]), ([1], []), ([1, 2], [1, 2]), ([2], []), ([4, 4], [4]), ([5], []), ([5, 6], [5, 6]), ([3, 7], [3, 7]), ([8, 6, 0, 1, 2, 3, 4, 5, 6, 7, 8], [8])])
def sackbutlaw01_PipeParts.B18 : List Nat := [0, 1, 3, 7, 7, 23, 55, 119, 255, 511]
theorem sackbutlaw01_PipeParts.tab18 : rtab .any (opsOf Try.f4 18) = sackbutlaw01_PipeParts.T18 := by kernel_rfl
theorem sackbutlaw01_PipeParts.bits18 : waitsOk sackbutlaw01_PipeParts.T18.2 sackbutlaw01_PipeParts.B18 = true := by kernel_rfl
def sackbutlaw01_PipeParts.T19 : Bool × List (List Nat × List Nat) := (true, [([], []), ([], []), ([1], [1]), ([0, 2], [0, 2]), ([3, 0], [3]), ([4, 4], [4]), ([5, 4], [4, 5]), ([4], [4]), ([7, 5, 4], [4, 7]), ([8, 4], [4, 8]), ([6, 9, 4], [4, 6, 9]), ([4, 10], [4, 10]), ([11, 8, 0, 1, 2, 3, 4, 5, 6, 7, 8, 9, 10, 11], [11])])
def sackbutlaw01_PipeParts.B19 : List Nat := [0, 0, 2, 7, 15, 31, 63, 31, 191, 447, 1023, 2047, 4095]
theorem sackbutlaw01_PipeParts.tab19 : rtab .any (opsOf Try.f4 19) = sackbutlaw01_PipeParts.T19 := by kernel_rfl
theorem sackbutlaw01_PipeParts.bits19 : waitsOk sackbutlaw01_PipeParts.T19.2 sackbutlaw01_PipeParts.B19 = true := by kernel_rfl
set_option maxHeartbeats 8000000 in
set_option maxRecDepth 100000 in
theorem sackbutlaw01_PipeParts.calls (k : Nat) (A0 : Option Addr) (c0 : Nat) (ac : List S28) (A1 : Option Addr) (c1 : Nat) (bc : List S28) (r : Bool) (w : World) (hr0 : Kd.C k28 w A0 ac.length ac) (hc0 : ac.length ≤ c0) (hr1 : Kd.C k28 w A1 bc.length bc) (hc1 : bc.length ≤ c1) (h : sackbutlaw01_PipeParts.f k ac bc = some r) :
    Calls Try.prog 4 #[.slice A0 ac.length c0, .slice A1 bc.length c1] w fun e w' => e = .returned (.bool r) ∧ Below w.heap.size w w' := by
  have HR := Aside0.mk hr0
  have HRB := Aside0.mk hr1
  have hu := Try.underlying28
  have hu2 := Try.underlying26
  unfold sackbutlaw01_PipeParts.f at h
  by_cases hq : 40 < ac.length
  · rw [if_pos (.inl hq)] at h
    cases h
    have hqI : (40 : Int) < (ac.length : Int) := by omega
    clear hr0 hc0 hr1 hc1
    go_enter Try.func4, Try.ntmps4
    go_wp2_with fail
    (with_reducible refine (sackbutlaw01_awake.calls true _ rfl).mono ?_)
    rintro e w1 ⟨rfl, hb1⟩
    have HB1 := Aside0.mk hb1
    clear hb1
    go_wp2_with fail
    (with_reducible refine (sackbutlaw01_awake.calls true _ rfl).mono ?_)
    rintro e w2 ⟨rfl, hb2⟩
    have HB2 := Aside0.mk (below_then HB1.out HB1.out.size hb2)
    clear hb2
    go_wp2
    go_ret
    exact ⟨rfl, HB2.out⟩
  by_cases hq2 : 40 < bc.length
  · rw [if_pos (.inr hq2)] at h
    cases h
    have hqI : ¬ (40 : Int) < (ac.length : Int) := by omega
    have hqI2 : (40 : Int) < (bc.length : Int) := by omega
    clear hr0 hc0 hr1 hc1
    go_enter Try.func4, Try.ntmps4
    go_wp2_with fail
    (with_reducible refine (sackbutlaw01_awake.calls true _ rfl).mono ?_)
    rintro e w1 ⟨rfl, hb1⟩
    have HB1 := Aside0.mk hb1
    clear hb1
    go_wp2_with fail
    (with_reducible refine (sackbutlaw01_awake.calls true _ rfl).mono ?_)
    rintro e w2 ⟨rfl, hb2⟩
    have HB2 := Aside0.mk (below_then HB1.out HB1.out.size hb2)
    clear hb2
    go_wp2
    go_ret
    exact ⟨rfl, HB2.out⟩
  have hqI : (ac.length : Int) ≤ 40 := by omega
  have hqI2 : (bc.length : Int) ≤ 40 := by omega
  rw [if_neg (by omega)] at h
  have hall : ac.all actIn = true ∧ bc.all actIn = true := by
    cases h1 : ac.all actIn with
    | false => rw [if_pos (.inl h1)] at h; cases h
    | true =>
      cases h2 : bc.all actIn with
      | false => rw [if_pos (.inr h2)] at h; cases h
      | true => exact ⟨rfl, rfl⟩
  rw [if_neg (by simp [hall])] at h
  have HINA : Aside0 (∀ q ∈ ac, actIn q = true) := ⟨List.all_eq_true.1 hall.1⟩
  have HINB : Aside0 (∀ q ∈ bc, actIn q = true) := ⟨List.all_eq_true.1 hall.2⟩
  have HF1 := Aside0.mk h
  have HNN : Aside0 (ac.length ≤ 40 ∧ bc.length ≤ 40) := ⟨by omega⟩
  obtain ⟨Rx, hRx⟩ : ∃ q, partsL ac [] [] = q := ⟨_, rfl⟩
  have HRX := Aside0.mk hRx
  clear hr0 h hq hq2 hc0 hr1 hc1 hall hRx
  go_enter Try.func4, Try.ntmps4
  go_wp2_with fail
  (with_reducible refine (sackbutlaw01_awake.calls true _ rfl).mono ?_)
  rintro e w1 ⟨rfl, hb1⟩
  have HB1 := Aside0.mk hb1
  clear hb1
  go_wp2_with fail
  have hT0 := three_new w w1 HB1.out
  have hbw := below_alloc (below_alloc (below_alloc HB1.out wrO) wrO) wrO
  obtain ⟨g1, hg1⟩ : ∃ g1, w1.heap.size = g1 := ⟨_, rfl⟩
  rw [hg1] at hT0 ⊢
  generalize ((w1.alloc wrO).alloc wrO).alloc wrO = w2 at hT0 hbw ⊢
  obtain ⟨gx, hgx⟩ : ∃ q, g1 = q := ⟨_, rfl⟩
  obtain ⟨gy, hgy⟩ : ∃ q, g1 + 1 = q := ⟨_, rfl⟩
  obtain ⟨gz, hgz⟩ : ∃ q, g1 + 1 + 1 = q := ⟨_, rfl⟩
  rw [hgz, hgy, hgx] at hT0 ⊢
  have HT0 := Aside0.mk hT0
  have HB0 := Aside0.mk hbw
  clear hT0 hbw hg1 hgx hgy hgz HB1
  obtain ⟨vy, hvy⟩ : ∃ v : Value, Value.slice none 0 0 = v := ⟨_, rfl⟩
  rw [hvy] at HT0
  obtain ⟨y, hy⟩ : ∃ q : List Bool, [] = q := ⟨_, rfl⟩
  have HT0' : Aside0 (Three w w2 gx vy [] gy vy y gz vy []) := ⟨by rw [← hy]; exact HT0.out⟩
  have HYE := Aside0.mk hy
  clear hvy hy HT0
  go_loopg [28] ac.length (fun kq vi wr => ∃ (i : Nat) (vx vz : Value) (x z : List Bool), vi = .int .i64 i ∧ kq + i = ac.length ∧ Aside0 (partsL (ac.drop i) x z = Rx) ∧ Aside0 (Three w wr gx vx x gy vy y gz vz z) ∧ Aside0 (Below w.heap.size w wr) ∧ Aside0 (x.length ≤ 5001 ∧ z.length ≤ 0 + 1001 * i))
  case atStart => exact ⟨0, vy, vy, [], [], rfl, by omega, HRX, HT0', HB0, ⟨by simp, by simp⟩⟩
  case round =>
      clear HT0' HB0
      obtain ⟨i, vx, vz, x, z, rfl, hk, HF, HT, HB, HLN⟩ := hrel
      by_cases hlt : i < ac.length
      · have hme : gk - 1 < gk := by omega
        have hF := HF.out
        rw [drop_get hlt] at hF
        simp only [partsL] at hF
        have hrd : rd_T28 ac (i : Int) = ac[i] := by simp [rd_T28, hlt]
        have hlI : (i : Int) < (ac.length : Int) := by omega
        have h0I : (0 : Int) ≤ (i : Int) := by omega
        obtain ⟨ad, rfl, ha0, ha1, ha2⟩ := at_T28 HR.out (i : Int) h0I hlI
        replace ha0 := (HB.out.cell (World.block_lt_of_cell? w _ ha0)).trans ha0
        replace ha1 := (HB.out.cell (World.block_lt_of_cell? w _ ha1)).trans ha1
        replace ha2 := (HB.out.cell (World.block_lt_of_cell? w _ ha2)).trans ha2
        rw [hrd] at ha0 ha1 ha2
        have hin := HINA.out ac[i] (List.getElem_mem hlt)
        obtain ⟨act, hact⟩ : ∃ q, ac[i] = q := ⟨_, rfl⟩
        rw [hact] at hF ha0 ha1 ha2 hin
        clear hrd hact
        obtain ⟨a0, a1, a2⟩ := act
        simp only at hF ha0 ha1 ha2
        simp only [actIn, Bool.and_eq_true, decide_eq_true_eq] at hin
        have HOK := Aside0.mk hin
        have HF2 := Aside0.mk hF
        have hl1 := HB.out.size
        have HI := Aside0.mk hlt
        clear hF hin hlt HF
        rw [Int.toNat_natCast] at ha0 ha1 ha2
        have hbx := below_alloc (Below.refl wr.heap.size wr) (actO a0 a1 a2)
        have hbk := blk_new wr (actO a0 a1 a2)
        have HB3 := Aside0.mk (below_then HB.out HB.out.size hbx)
        have HT3 := Aside0.mk (HT.out.below hbx)
        have HBX := Aside0.mk hbx
        have HBK := Aside0.mk hbk
        clear hbx hbk
        by_cases h4 : a0 = 4
        · have hF := HF2.out
          rw [if_neg (by simp [h4])] at hF
          have HF3 := Aside0.mk hF
          have h4b : (a0 == 4) = true := by simp [h4]
          have h4c : (a0 != 4) = false := by simp [h4]
          clear hF h4
          go_wp2
          go_roundg (gk - 1)
          case rel => exact ⟨i + 1, vx, vz, x, z, by first | rfl | (congr 1), by omega, HF3, HT3, HB3, ⟨HLN.out.1, by have := HLN.out.2; omega⟩⟩
          case measure => exact hme
        · have h4b : (a0 == 4) = false := by simp [h4]
          have h4c : (a0 != 4) = true := by simp [h4]
          have HN4 := Aside0.mk h4
          clear h4
          go_wp2_with fail
          (with_reducible refine (wr_Len w _ gx vx x HT3.out.x).mono ?_)
          rintro e w4 ⟨rfl, rfl⟩
          by_cases h40 : x.length < 4000
          · have hF := HF2.out
            rw [if_pos ⟨HN4.out, h40⟩] at hF
            have HF3 := Aside0.mk hF
            have h40I : (x.length : Int) < 4000 := by omega
            have HL40 := Aside0.mk h40
            clear hF h40
            go_wp2_with fail
            (with_reducible refine (wr_do w _ gx vx x a0 a1 a2 HOK.out.1 HOK.out.2 HB3.out HT3.out.x (by have := HLN.out.1; omega)).mono ?_)
            rintro e w5 ⟨rfl, v5, hw5, hs5⟩
            have HT5 := Aside0.mk (HT3.out.stepX hs5 hw5)
            have HB5 := Aside0.mk hs5.below
            have hbk5 := (hs5.kept.2 _ (blk_lt HBK.out) (HT3.out.farX HBK.out (by decide) (by decide))).trans HBK.out
            obtain ⟨ga, hga⟩ : ∃ ga, wr.heap.size = ga := ⟨_, rfl⟩
            rw [hga] at hbk5 ⊢
            have hA0 := (blk_cell hbk5 0).trans rfl
            have hA1 := (blk_cell hbk5 1).trans rfl
            have hA2 := (blk_cell hbk5 2).trans rfl
            clear hw5 hs5 hbk5 hga HBK HBX HT3 HB3 ha0 ha1 ha2 hl1 HF2
            go_wp2_with fail
            (with_reducible refine (wr_do w _ gz vz z a0 a1 a2 HOK.out.1 HOK.out.2 HB5.out HT5.out.z (by have := HLN.out.2; have := HI.out; have := HNN.out; omega)).mono ?_)
            rintro e w6 ⟨rfl, v6, hw6, hs6⟩
            have HT6 := Aside0.mk (HT5.out.stepZ hs6 hw6)
            have HB6 := Aside0.mk hs6.below
            clear hw6 hs6 HT5 HB5 hA0 hA1 hA2
            go_wp2
            go_roundg (gk - 1)
            case rel => exact ⟨i + 1, v5, v6, doBits x a0 a1 a2, doBits z a0 a1 a2, by first | rfl | (congr 1), by omega, HF3, HT6, HB6, ⟨by have := doBits_len x a0 a1 a2; have := HL40.out; omega, by have := doBits_len z a0 a1 a2; have := HLN.out.2; omega⟩⟩
            case measure => exact hme
          · have hF := HF2.out
            rw [if_neg (fun h => h40 h.2)] at hF
            have HF3 := Aside0.mk hF
            have h40I : ¬ (x.length : Int) < 4000 := by omega
            clear hF h40
            go_wp2
            go_roundg (gk - 1)
            case rel => exact ⟨i + 1, vx, vz, x, z, by first | rfl | (congr 1), by omega, HF3, HT3, HB3, ⟨HLN.out.1, by have := HLN.out.2; omega⟩⟩
            case measure => exact hme
      · have hi : i = ac.length := by omega
        have hF := HF.out
        rw [hi, List.drop_length] at hF
        simp only [partsL] at hF
        have hlI : ¬ (i : Int) < (ac.length : Int) := by omega
        have HZ0 := Aside0.mk (show z.length ≤ 40040 by have := HLN.out.2; have := HNN.out; omega)
        have HX0 := Aside0.mk HLN.out.1
        have HE : Aside0 (partsEnd k x (partsL bc [] z).1 (partsL bc [] z).2 = some r) := ⟨by have := HF1.out; rw [HRX.out, ← hF] at this; exact this⟩
        obtain ⟨Ry, hRy⟩ : ∃ q, partsL bc y z = q := ⟨_, rfl⟩
        have HRY := Aside0.mk hRy
        have HE2 : Aside0 (partsEnd k x Ry.1 Ry.2 = some r) := ⟨by rw [← hRy, ← HYE.out]; exact HE.out⟩
        clear hF hlt hi HF hk HLN hRy HE
        go_wp2_with fail
        obtain ⟨wo, rfl⟩ : ∃ wo : World, wo = wr := ⟨_, rfl⟩
        go_loopg [46] bc.length (fun kq vi wr => ∃ (i : Nat) (vy vz : Value) (y z : List Bool), vi = .int .i64 i ∧ kq + i = bc.length ∧ Aside0 (partsL (bc.drop i) y z = Ry) ∧ Aside0 (Three w wr gx vx x gy vy y gz vz z) ∧ Aside0 (Below w.heap.size w wr) ∧ Aside0 (y.length ≤ 5001 ∧ z.length ≤ 40040 + 1001 * i))
        case atStart => exact ⟨0, vy, vz, y, z, rfl, by omega, HRY, HT, HB, ⟨by rw [← HYE.out]; simp, by have := HZ0.out; omega⟩⟩
        case round =>
          clear HT HB HRY HF1 HRX
          obtain ⟨i, vy, vz, y, z, rfl, hk, HF, HT, HB, HLN⟩ := hrel
          by_cases hlt : i < bc.length
          · have hme : gk - 1 < gk := by omega
            have hF := HF.out
            rw [drop_get hlt] at hF
            simp only [partsL] at hF
            have hrd : rd_T28 bc (i : Int) = bc[i] := by simp [rd_T28, hlt]
            have hlI : (i : Int) < (bc.length : Int) := by omega
            have h0I : (0 : Int) ≤ (i : Int) := by omega
            obtain ⟨ad, rfl, ha0, ha1, ha2⟩ := at_T28 HRB.out (i : Int) h0I hlI
            replace ha0 := (HB.out.cell (World.block_lt_of_cell? w _ ha0)).trans ha0
            replace ha1 := (HB.out.cell (World.block_lt_of_cell? w _ ha1)).trans ha1
            replace ha2 := (HB.out.cell (World.block_lt_of_cell? w _ ha2)).trans ha2
            rw [hrd] at ha0 ha1 ha2
            have hin := HINB.out bc[i] (List.getElem_mem hlt)
            obtain ⟨act, hact⟩ : ∃ q, bc[i] = q := ⟨_, rfl⟩
            rw [hact] at hF ha0 ha1 ha2 hin
            clear hrd hact
            obtain ⟨a0, a1, a2⟩ := act
            simp only at hF ha0 ha1 ha2
            simp only [actIn, Bool.and_eq_true, decide_eq_true_eq] at hin
            have HOK := Aside0.mk hin
            have HF2 := Aside0.mk hF
            have hl1 := HB.out.size
            have HI := Aside0.mk hlt
            clear hF hin hlt HF
            rw [Int.toNat_natCast] at ha0 ha1 ha2
            have hbx := below_alloc (Below.refl wr.heap.size wr) (actO a0 a1 a2)
            have hbk := blk_new wr (actO a0 a1 a2)
            have HB3 := Aside0.mk (below_then HB.out HB.out.size hbx)
            have HT3 := Aside0.mk (HT.out.below hbx)
            have HBX := Aside0.mk hbx
            have HBK := Aside0.mk hbk
            clear hbx hbk
            by_cases h4 : a0 = 4
            · have hF := HF2.out
              rw [if_neg (by simp [h4])] at hF
              have HF3 := Aside0.mk hF
              have h4b : (a0 == 4) = true := by simp [h4]
              have h4c : (a0 != 4) = false := by simp [h4]
              clear hF h4
              go_wp2
              go_roundg (gk - 1)
              case rel => exact ⟨i + 1, vy, vz, y, z, by first | rfl | (congr 1), by omega, HF3, HT3, HB3, ⟨HLN.out.1, by have := HLN.out.2; omega⟩⟩
              case measure => exact hme
            · have h4b : (a0 == 4) = false := by simp [h4]
              have h4c : (a0 != 4) = true := by simp [h4]
              have HN4 := Aside0.mk h4
              clear h4
              go_wp2_with fail
              (with_reducible refine (wr_Len w _ gy vy y HT3.out.y).mono ?_)
              rintro e w4 ⟨rfl, rfl⟩
              by_cases h40 : y.length < 4000
              · have hF := HF2.out
                rw [if_pos ⟨HN4.out, h40⟩] at hF
                have HF3 := Aside0.mk hF
                have h40I : (y.length : Int) < 4000 := by omega
                have HL40 := Aside0.mk h40
                clear hF h40
                go_wp2_with fail
                (with_reducible refine (wr_do w _ gy vy y a0 a1 a2 HOK.out.1 HOK.out.2 HB3.out HT3.out.y (by have := HLN.out.1; omega)).mono ?_)
                rintro e w5 ⟨rfl, v5, hw5, hs5⟩
                have HT5 := Aside0.mk (HT3.out.stepY hs5 hw5)
                have HB5 := Aside0.mk hs5.below
                have hbk5 := (hs5.kept.2 _ (blk_lt HBK.out) (HT3.out.farY HBK.out (by decide) (by decide))).trans HBK.out
                obtain ⟨ga, hga⟩ : ∃ ga, wr.heap.size = ga := ⟨_, rfl⟩
                rw [hga] at hbk5 ⊢
                have hA0 := (blk_cell hbk5 0).trans rfl
                have hA1 := (blk_cell hbk5 1).trans rfl
                have hA2 := (blk_cell hbk5 2).trans rfl
                clear hw5 hs5 hbk5 hga HBK HBX HT3 HB3 ha0 ha1 ha2 hl1 HF2
                go_wp2_with fail
                (with_reducible refine (wr_do w _ gz vz z a0 a1 a2 HOK.out.1 HOK.out.2 HB5.out HT5.out.z (by have := HLN.out.2; have := HI.out; have := HNN.out; omega)).mono ?_)
                rintro e w6 ⟨rfl, v6, hw6, hs6⟩
                have HT6 := Aside0.mk (HT5.out.stepZ hs6 hw6)
                have HB6 := Aside0.mk hs6.below
                clear hw6 hs6 HT5 HB5 hA0 hA1 hA2
                go_wp2
                go_roundg (gk - 1)
                case rel => exact ⟨i + 1, v5, v6, doBits y a0 a1 a2, doBits z a0 a1 a2, by first | rfl | (congr 1), by omega, HF3, HT6, HB6, ⟨by have := doBits_len y a0 a1 a2; have := HL40.out; omega, by have := doBits_len z a0 a1 a2; have := HLN.out.2; omega⟩⟩
                case measure => exact hme
              · have hF := HF2.out
                rw [if_neg (fun h => h40 h.2)] at hF
                have HF3 := Aside0.mk hF
                have h40I : ¬ (y.length : Int) < 4000 := by omega
                clear hF h40
                go_wp2
                go_roundg (gk - 1)
                case rel => exact ⟨i + 1, vy, vz, y, z, by first | rfl | (congr 1), by omega, HF3, HT3, HB3, ⟨HLN.out.1, by have := HLN.out.2; omega⟩⟩
                case measure => exact hme

          · have hi : i = bc.length := by omega
            have hF := HF.out
            rw [hi, List.drop_length] at hF
            simp only [partsL] at hF
            have hlI : ¬ (i : Int) < (bc.length : Int) := by omega
            have hE := HE2.out
            rw [← hF] at hE
            simp only [partsEnd] at hE
            obtain ⟨sx, hsx, hE⟩ := Option.bind_eq_some_iff.mp hE
            obtain ⟨sy, hsy, hE⟩ := Option.bind_eq_some_iff.mp hE
            have hno : ¬ (sx.size < x.length ∨ sy.size < y.length ∨ 1000000 < sx.size ∨ 1000000 < sy.size ∨ z.length ≠ (sx.extract 0 x.length ++ sy.extract 0 y.length).size) := fun hn => by rw [if_pos hn] at hE; cases hE
            rw [if_neg hno] at hE
            have hsx2 : x.length ≤ sx.size := by omega
            have hsy2 : y.length ≤ sy.size := by omega
            have hux3 : (sx.extract 0 x.length).size ≤ 1000000 := by rw [ByteArray.size_extract]; omega
            have huy3 : (sy.extract 0 y.length).size ≤ 1000000 := by rw [ByteArray.size_extract]; omega
            have hzl : z.length = (sx.extract 0 x.length ++ sy.extract 0 y.length).size := by
              refine Decidable.byContradiction fun hn => hno ?_
              exact .inr (.inr (.inr (.inr hn)))
            obtain ⟨ux, hux⟩ : ∃ q, sx.extract 0 x.length = q := ⟨_, rfl⟩
            obtain ⟨uy, huy⟩ : ∃ q, sy.extract 0 y.length = q := ⟨_, rfl⟩
            rw [hux, huy] at hzl hE
            rw [hux] at hux3
            rw [huy] at huy3
            obtain ⟨bb, hbb, hE⟩ := Option.bind_eq_some_iff.mp hE
            cases hE
            have HS1 := Aside0.mk hsx
            have HS2 := Aside0.mk hsy
            have HBY := Aside0.mk hbb
            have HZL := Aside0.mk hzl
            have HLM : Aside0 (x.length ≤ 5001 ∧ y.length ≤ 5001 ∧ z.length ≤ 90000) := ⟨by have := HX0.out; have := HLN.out; have := HNN.out; omega⟩
            have hsz : (9223372036854775807 < ux.size + uy.size) = False := eq_false (by omega)
            have hsz2 : ux.size + uy.size ≤ 9223372036854775807 := by omega
            have hsx3 : (x.length : Int) ≤ (sx.size : Int) := by omega
            have hsy3 : (y.length : Int) ≤ (sy.size : Int) := by omega
            have HX := Aside0.mk HT.out.x
            have HY := Aside0.mk HT.out.y
            have HZ := Aside0.mk HT.out.z
            clear hF hlt hi HF HLN HX0 HE2 hno hsx hsy hbb hzl hux3 huy3 HT HZ0 hk
            go_upto_region 18 with fail
            go_cut [12] from 62 to 70 (fun v12 wx => v12 = .string (ux ++ uy) ∧ Aside0 (Below w.heap.size w wx) ∧ Aside0 (IsWr w wx gz vz z))
            case first =>
              refine start_ (n := 10) (S := fun w' => True) (ds := []) #[false, false, false, false, false, false, false, false, false, false] (by kernel_rfl) rfl rfl trivial (fun hHeld => ?_)
              refine with_tabW sackbutlaw01_PipeParts.tab18 sackbutlaw01_PipeParts.bits18 (fun HT_ HW_ => ?_)
              obtain ⟨wd, hwd⟩ : ∃ wd, wr.drew = wd := ⟨_, rfl⟩
              rw [hwd]
              have FBD : Aside0 (Below w.heap.size w wd) := ⟨by rw [← hwd]; exact below_drew HB.out⟩
              have HXD : Aside0 (IsWr w wd gx vx x) := ⟨by rw [← hwd]; exact isWr_below HX.out (below_drew (Below.refl wr.heap.size wr))⟩
              have HYD : Aside0 (IsWr w wd gy vy y) := ⟨by rw [← hwd]; exact isWr_below HY.out (below_drew (Below.refl wr.heap.size wr))⟩
              have HZD : Aside0 (IsWr w wd gz vz z) := ⟨by rw [← hwd]; exact isWr_below HZ.out (below_drew (Below.refl wr.heap.size wr))⟩
              clear hwd hHeld
              refine inv_at [0, 1, 2, 3, 4, 5, 6, 7, 8, 9] (fun a0_ b a w' => ∃ (A1 : Option Addr) (c1 : Nat) (A2 : Option Addr) (c2 : Nat) (m0_ : Value) (m4_ : Value), a = putSel a0_ b [(0, 62, m0_), (1, 63, .string sx), (2, 64, .int .i64 (x.length : Int)), (3, 65, .string ux), (4, 66, m4_), (5, 67, .string sy), (6, 68, .int .i64 (y.length : Int)), (7, 69, .string uy), (8, 70, .string (ux ++ uy)), (9, 12, .string (ux ++ uy))] ∧ (Below w.heap.size w w') ∧ (IsWr w w' gx vx x) ∧ (IsWr w w' gy vy y) ∧ (IsWr w w' gz vz z) ∧ (b 0 = true → Kd.C (Kd.int .u8) w' A1 (pack x).length (pack x) ∧ (pack x).length ≤ c1) ∧ (b 4 = true → Kd.C (Kd.int .u8) w' A2 (pack y).length (pack y) ∧ (pack y).length ≤ c2) ∧ (b 0 = true → (m0_ : Value) = .slice A1 (pack x).length c1) ∧ (b 4 = true → (m4_ : Value) = .slice A2 (pack y).length c2)) HT_.out HW_.out (by kernel_rfl) (by kernel_rfl) ?_ ?_ ?_
              · exact ⟨none, 0, none, 0, .bool false, .bool false, by simp only [putSel, Bool.false_eq_true, if_false], FBD.out, HXD.out, HYD.out, HZD.out, fun h_ => absurd h_ (by decide), fun h_ => absurd h_ (by decide), fun h_ => absurd h_ (by decide), fun h_ => absurd h_ (by decide)⟩
              · skip
                refine steps_cons ?_ ?_
                · rintro b a w' ⟨A1, c1, A2, c2, m0_, m4_, ha, Q_FB, Q_FX, Q_FY, Q_FZ, Q_O1, Q_O2, Q_X0_, Q_X4_⟩ hb_ hon hoff
                  refine ⟨_, rfl, fun K hK => ?_⟩
                  have e5 : a.tmps[5]? = some (.pointer (some ⟨gx, 0, none⟩)) := by rw [ha]; exact (putSel_off rfl).trans rfl
                  replace ha := Aside0.mk ha
                  have FB := Aside0.mk Q_FB
                  have FX := Aside0.mk Q_FX
                  have FY := Aside0.mk Q_FY
                  have FZ := Aside0.mk Q_FZ
                  refine goes_ Try.func18 (by kernel_rfl) rfl #[.pointer (some ⟨gx, 0, none⟩)] (by rfl) rfl rfl (by first | (simp only [List.map_toArray, List.map_cons, List.map_nil, Act.eval, Array.getD_eq_getD_getElem?, Option.getD_some, e5]; done) | (simp only [List.map_toArray, List.map_cons, List.map_nil, Act.eval, Array.getD_eq_getD_getElem?, Option.getD_some, e5]; rfl)) ?_
                  (with_reducible refine (wr_Bytes w w' gx vx x FX.out (by have := HLM.out; omega)).mono ?_)
                  rintro e w1_ ⟨v1_, rfl, ho_, hbl_⟩
                  obtain ⟨A_, c_, rfl, hle_, hC_⟩ := owns_reads ho_
                  refine ⟨_, rfl, ?_⟩
                  refine hK.out _ _ ⟨A_, c_, A2, c2, (.slice A_ (pack x).length c_), m4_, (by rw [ha.out]; exact putSel_upk 0 hb_ rfl rfl rfl), below_then FB.out FB.out.size hbl_, isWr_below FX.out hbl_, isWr_below FY.out hbl_, isWr_below FZ.out hbl_, fun _ => ⟨hC_, hle_⟩, fun h0_ => absurd ((hoff 4 (by kernel_rfl)).symm.trans h0_) (by decide), fun _ => rfl, fun h0_ => absurd ((hoff 4 (by kernel_rfl)).symm.trans h0_) (by decide)⟩
                refine steps_cons ?_ ?_
                · rintro b a w' ⟨A1, c1, A2, c2, m0_, m4_, ha, Q_FB, Q_FX, Q_FY, Q_FZ, Q_O1, Q_O2, Q_X0_, Q_X4_⟩ hb_ hon hoff
                  refine ⟨_, rfl, fun K hK => ?_⟩
                  have e62 : a.tmps[62]? = some (m0_) := by rw [ha]; exact putSel_on (e := (0, 62, m0_)) 0 rfl rfl (hon 0 (by kernel_rfl)) rfl
                  rw [Q_X0_ (hon 0 (by kernel_rfl))] at e62
                  replace ha := Aside0.mk ha
                  have FB := Aside0.mk Q_FB
                  have FX := Aside0.mk Q_FX
                  have FY := Aside0.mk Q_FY
                  have FZ := Aside0.mk Q_FZ
                  have O1 := Aside0.mk (Q_O1 (hon 0 (by kernel_rfl)))
                  refine goes_ Try.func20 (by kernel_rfl) rfl #[.slice A1 (pack x).length c1] (by rfl) rfl rfl (by first | (simp only [List.map_toArray, List.map_cons, List.map_nil, Act.eval, Array.getD_eq_getD_getElem?, Option.getD_some, e62]; done) | (simp only [List.map_toArray, List.map_cons, List.map_nil, Act.eval, Array.getD_eq_getD_getElem?, Option.getD_some, e62]; rfl)) ?_
                  (with_reducible refine (sackbutref01_Bits.calls k A1 c1 (pack x) sx w' O1.out.1 O1.out.2 HS1.out).mono ?_)
                  rintro e w1_ ⟨rfl, hbl_⟩
                  refine ⟨_, rfl, ?_⟩
                  refine hK.out _ _ ⟨A1, c1, A2, c2, m0_, m4_, (by rw [ha.out]; exact putSel_upk 1 hb_ rfl rfl rfl), below_then FB.out FB.out.size hbl_, isWr_below FX.out hbl_, isWr_below FY.out hbl_, isWr_below FZ.out hbl_, fun _ => ⟨Kd.C_below O1.out.1 hbl_, O1.out.2⟩, fun h0_ => absurd ((hoff 4 (by kernel_rfl)).symm.trans h0_) (by decide), Q_X0_, fun h0_ => absurd ((hoff 4 (by kernel_rfl)).symm.trans h0_) (by decide)⟩
                refine steps_cons ?_ ?_
                · rintro b a w' ⟨A1, c1, A2, c2, m0_, m4_, ha, Q_FB, Q_FX, Q_FY, Q_FZ, Q_O1, Q_O2, Q_X0_, Q_X4_⟩ hb_ hon hoff
                  refine ⟨_, rfl, fun K hK => ?_⟩
                  have e5 : a.tmps[5]? = some (.pointer (some ⟨gx, 0, none⟩)) := by rw [ha]; exact (putSel_off rfl).trans rfl
                  replace ha := Aside0.mk ha
                  have FB := Aside0.mk Q_FB
                  have FX := Aside0.mk Q_FX
                  have FY := Aside0.mk Q_FY
                  have FZ := Aside0.mk Q_FZ
                  have O1 := Aside0.mk (Q_O1 (hon 0 (by kernel_rfl)))
                  refine goes_ Try.func17 (by kernel_rfl) rfl #[.pointer (some ⟨gx, 0, none⟩)] (by rfl) rfl rfl (by first | (simp only [List.map_toArray, List.map_cons, List.map_nil, Act.eval, Array.getD_eq_getD_getElem?, Option.getD_some, e5]; done) | (simp only [List.map_toArray, List.map_cons, List.map_nil, Act.eval, Array.getD_eq_getD_getElem?, Option.getD_some, e5]; rfl)) ?_
                  (with_reducible refine (wr_Len w w' gx vx x FX.out).mono ?_)
                  rintro e w1_ ⟨rfl, rfl⟩
                  refine ⟨_, rfl, ?_⟩
                  refine hK.out _ _ ⟨A1, c1, A2, c2, m0_, m4_, (by rw [ha.out]; exact putSel_upk 2 hb_ rfl rfl rfl), Q_FB, Q_FX, Q_FY, Q_FZ, Q_O1, fun h0_ => absurd ((hoff 4 (by kernel_rfl)).symm.trans h0_) (by decide), Q_X0_, fun h0_ => absurd ((hoff 4 (by kernel_rfl)).symm.trans h0_) (by decide)⟩
                refine steps_cons ?_ ?_
                · rintro b a w' ⟨A1, c1, A2, c2, m0_, m4_, ha, Q_FB, Q_FX, Q_FY, Q_FZ, Q_O1, Q_O2, Q_X0_, Q_X4_⟩ hb_ hon hoff
                  refine ⟨_, rfl, fun K hK => ?_⟩
                  have e63 : a.tmps[63]? = some (.string sx) := by rw [ha]; exact putSel_on (e := (1, 63, .string sx)) 1 rfl rfl (hon 1 (by kernel_rfl)) rfl
                  have e64 : a.tmps[64]? = some (.int .i64 (x.length : Int)) := by rw [ha]; exact putSel_on (e := (2, 64, .int .i64 (x.length : Int))) 2 rfl rfl (hon 2 (by kernel_rfl)) rfl
                  replace ha := Aside0.mk ha
                  have FB := Aside0.mk Q_FB
                  have FX := Aside0.mk Q_FX
                  have FY := Aside0.mk Q_FY
                  have FZ := Aside0.mk Q_FZ
                  have O1 := Aside0.mk (Q_O1 (hon 0 (by kernel_rfl)))
                  refine value_ (w1 := w') (v := .string ux) (by rfl) rfl ?_ ?_
                  · go_simp
                    (try simp only [i64_w])
                    try rfl
                  refine hK.out _ _ ⟨A1, c1, A2, c2, m0_, m4_, (by rw [ha.out]; exact putSel_upk 3 hb_ rfl rfl rfl), Q_FB, Q_FX, Q_FY, Q_FZ, Q_O1, Q_O2, Q_X0_, Q_X4_⟩
                refine steps_cons ?_ ?_
                · rintro b a w' ⟨A1, c1, A2, c2, m0_, m4_, ha, Q_FB, Q_FX, Q_FY, Q_FZ, Q_O1, Q_O2, Q_X0_, Q_X4_⟩ hb_ hon hoff
                  refine ⟨_, rfl, fun K hK => ?_⟩
                  have e6 : a.tmps[6]? = some (.pointer (some ⟨gy, 0, none⟩)) := by rw [ha]; exact (putSel_off rfl).trans rfl
                  replace ha := Aside0.mk ha
                  have FB := Aside0.mk Q_FB
                  have FX := Aside0.mk Q_FX
                  have FY := Aside0.mk Q_FY
                  have FZ := Aside0.mk Q_FZ
                  have O1 := Aside0.mk (Q_O1 (hon 0 (by kernel_rfl)))
                  refine goes_ Try.func18 (by kernel_rfl) rfl #[.pointer (some ⟨gy, 0, none⟩)] (by rfl) rfl rfl (by first | (simp only [List.map_toArray, List.map_cons, List.map_nil, Act.eval, Array.getD_eq_getD_getElem?, Option.getD_some, e6]; done) | (simp only [List.map_toArray, List.map_cons, List.map_nil, Act.eval, Array.getD_eq_getD_getElem?, Option.getD_some, e6]; rfl)) ?_
                  (with_reducible refine (wr_Bytes w w' gy vy y FY.out (by have := HLM.out; omega)).mono ?_)
                  rintro e w1_ ⟨v1_, rfl, ho_, hbl_⟩
                  obtain ⟨A_, c_, rfl, hle_, hC_⟩ := owns_reads ho_
                  refine ⟨_, rfl, ?_⟩
                  refine hK.out _ _ ⟨A1, c1, A_, c_, m0_, (.slice A_ (pack y).length c_), (by rw [ha.out]; exact putSel_upk 4 hb_ rfl rfl rfl), below_then FB.out FB.out.size hbl_, isWr_below FX.out hbl_, isWr_below FY.out hbl_, isWr_below FZ.out hbl_, fun _ => ⟨Kd.C_below O1.out.1 hbl_, O1.out.2⟩, fun _ => ⟨hC_, hle_⟩, Q_X0_, fun _ => rfl⟩
                refine steps_cons ?_ ?_
                · rintro b a w' ⟨A1, c1, A2, c2, m0_, m4_, ha, Q_FB, Q_FX, Q_FY, Q_FZ, Q_O1, Q_O2, Q_X0_, Q_X4_⟩ hb_ hon hoff
                  refine ⟨_, rfl, fun K hK => ?_⟩
                  have e66 : a.tmps[66]? = some (m4_) := by rw [ha]; exact putSel_on (e := (4, 66, m4_)) 4 rfl rfl (hon 4 (by kernel_rfl)) rfl
                  rw [Q_X4_ (hon 4 (by kernel_rfl))] at e66
                  replace ha := Aside0.mk ha
                  have FB := Aside0.mk Q_FB
                  have FX := Aside0.mk Q_FX
                  have FY := Aside0.mk Q_FY
                  have FZ := Aside0.mk Q_FZ
                  have O1 := Aside0.mk (Q_O1 (hon 0 (by kernel_rfl)))
                  have O2 := Aside0.mk (Q_O2 (hon 4 (by kernel_rfl)))
                  refine goes_ Try.func20 (by kernel_rfl) rfl #[.slice A2 (pack y).length c2] (by rfl) rfl rfl (by first | (simp only [List.map_toArray, List.map_cons, List.map_nil, Act.eval, Array.getD_eq_getD_getElem?, Option.getD_some, e66]; done) | (simp only [List.map_toArray, List.map_cons, List.map_nil, Act.eval, Array.getD_eq_getD_getElem?, Option.getD_some, e66]; rfl)) ?_
                  (with_reducible refine (sackbutref01_Bits.calls k A2 c2 (pack y) sy w' O2.out.1 O2.out.2 HS2.out).mono ?_)
                  rintro e w1_ ⟨rfl, hbl_⟩
                  refine ⟨_, rfl, ?_⟩
                  refine hK.out _ _ ⟨A1, c1, A2, c2, m0_, m4_, (by rw [ha.out]; exact putSel_upk 5 hb_ rfl rfl rfl), below_then FB.out FB.out.size hbl_, isWr_below FX.out hbl_, isWr_below FY.out hbl_, isWr_below FZ.out hbl_, fun _ => ⟨Kd.C_below O1.out.1 hbl_, O1.out.2⟩, fun _ => ⟨Kd.C_below O2.out.1 hbl_, O2.out.2⟩, Q_X0_, Q_X4_⟩
                refine steps_cons ?_ ?_
                · rintro b a w' ⟨A1, c1, A2, c2, m0_, m4_, ha, Q_FB, Q_FX, Q_FY, Q_FZ, Q_O1, Q_O2, Q_X0_, Q_X4_⟩ hb_ hon hoff
                  refine ⟨_, rfl, fun K hK => ?_⟩
                  have e6 : a.tmps[6]? = some (.pointer (some ⟨gy, 0, none⟩)) := by rw [ha]; exact (putSel_off rfl).trans rfl
                  replace ha := Aside0.mk ha
                  have FB := Aside0.mk Q_FB
                  have FX := Aside0.mk Q_FX
                  have FY := Aside0.mk Q_FY
                  have FZ := Aside0.mk Q_FZ
                  have O1 := Aside0.mk (Q_O1 (hon 0 (by kernel_rfl)))
                  have O2 := Aside0.mk (Q_O2 (hon 4 (by kernel_rfl)))
                  refine goes_ Try.func17 (by kernel_rfl) rfl #[.pointer (some ⟨gy, 0, none⟩)] (by rfl) rfl rfl (by first | (simp only [List.map_toArray, List.map_cons, List.map_nil, Act.eval, Array.getD_eq_getD_getElem?, Option.getD_some, e6]; done) | (simp only [List.map_toArray, List.map_cons, List.map_nil, Act.eval, Array.getD_eq_getD_getElem?, Option.getD_some, e6]; rfl)) ?_
                  (with_reducible refine (wr_Len w w' gy vy y FY.out).mono ?_)
                  rintro e w1_ ⟨rfl, rfl⟩
                  refine ⟨_, rfl, ?_⟩
                  refine hK.out _ _ ⟨A1, c1, A2, c2, m0_, m4_, (by rw [ha.out]; exact putSel_upk 6 hb_ rfl rfl rfl), Q_FB, Q_FX, Q_FY, Q_FZ, Q_O1, Q_O2, Q_X0_, Q_X4_⟩
                refine steps_cons ?_ ?_
                · rintro b a w' ⟨A1, c1, A2, c2, m0_, m4_, ha, Q_FB, Q_FX, Q_FY, Q_FZ, Q_O1, Q_O2, Q_X0_, Q_X4_⟩ hb_ hon hoff
                  refine ⟨_, rfl, fun K hK => ?_⟩
                  have e67 : a.tmps[67]? = some (.string sy) := by rw [ha]; exact putSel_on (e := (5, 67, .string sy)) 5 rfl rfl (hon 5 (by kernel_rfl)) rfl
                  have e68 : a.tmps[68]? = some (.int .i64 (y.length : Int)) := by rw [ha]; exact putSel_on (e := (6, 68, .int .i64 (y.length : Int))) 6 rfl rfl (hon 6 (by kernel_rfl)) rfl
                  replace ha := Aside0.mk ha
                  have FB := Aside0.mk Q_FB
                  have FX := Aside0.mk Q_FX
                  have FY := Aside0.mk Q_FY
                  have FZ := Aside0.mk Q_FZ
                  have O1 := Aside0.mk (Q_O1 (hon 0 (by kernel_rfl)))
                  have O2 := Aside0.mk (Q_O2 (hon 4 (by kernel_rfl)))
                  refine value_ (w1 := w') (v := .string uy) (by rfl) rfl ?_ ?_
                  · go_simp
                    (try simp only [i64_w])
                    try rfl
                  refine hK.out _ _ ⟨A1, c1, A2, c2, m0_, m4_, (by rw [ha.out]; exact putSel_upk 7 hb_ rfl rfl rfl), Q_FB, Q_FX, Q_FY, Q_FZ, Q_O1, Q_O2, Q_X0_, Q_X4_⟩
                refine steps_cons ?_ ?_
                · rintro b a w' ⟨A1, c1, A2, c2, m0_, m4_, ha, Q_FB, Q_FX, Q_FY, Q_FZ, Q_O1, Q_O2, Q_X0_, Q_X4_⟩ hb_ hon hoff
                  refine ⟨_, rfl, fun K hK => ?_⟩
                  have e65 : a.tmps[65]? = some (.string ux) := by rw [ha]; exact putSel_on (e := (3, 65, .string ux)) 3 rfl rfl (hon 3 (by kernel_rfl)) rfl
                  have e69 : a.tmps[69]? = some (.string uy) := by rw [ha]; exact putSel_on (e := (7, 69, .string uy)) 7 rfl rfl (hon 7 (by kernel_rfl)) rfl
                  replace ha := Aside0.mk ha
                  have FB := Aside0.mk Q_FB
                  have FX := Aside0.mk Q_FX
                  have FY := Aside0.mk Q_FY
                  have FZ := Aside0.mk Q_FZ
                  have O1 := Aside0.mk (Q_O1 (hon 0 (by kernel_rfl)))
                  have O2 := Aside0.mk (Q_O2 (hon 4 (by kernel_rfl)))
                  refine value_ (w1 := w') (v := .string (ux ++ uy)) (by rfl) rfl ?_ ?_
                  · go_simp
                    (try simp only [i64_w])
                    try rfl
                  refine hK.out _ _ ⟨A1, c1, A2, c2, m0_, m4_, (by rw [ha.out]; exact putSel_upk 8 hb_ rfl rfl rfl), Q_FB, Q_FX, Q_FY, Q_FZ, Q_O1, Q_O2, Q_X0_, Q_X4_⟩
                refine steps_cons ?_ ?_
                · rintro b a w' ⟨A1, c1, A2, c2, m0_, m4_, ha, Q_FB, Q_FX, Q_FY, Q_FZ, Q_O1, Q_O2, Q_X0_, Q_X4_⟩ hb_ hon hoff
                  refine ⟨_, rfl, fun K hK => ?_⟩
                  have e70 : a.tmps[70]? = some (.string (ux ++ uy)) := by rw [ha]; exact putSel_on (e := (8, 70, .string (ux ++ uy))) 8 rfl rfl (hon 8 (by kernel_rfl)) rfl
                  replace ha := Aside0.mk ha
                  have FB := Aside0.mk Q_FB
                  have FX := Aside0.mk Q_FX
                  have FY := Aside0.mk Q_FY
                  have FZ := Aside0.mk Q_FZ
                  have O1 := Aside0.mk (Q_O1 (hon 0 (by kernel_rfl)))
                  have O2 := Aside0.mk (Q_O2 (hon 4 (by kernel_rfl)))
                  refine value_ (w1 := w') (v := .string (ux ++ uy)) (by rfl) rfl ?_ ?_
                  · go_simp
                    (try simp only [i64_w])
                    try rfl
                  refine hK.out _ _ ⟨A1, c1, A2, c2, m0_, m4_, (by rw [ha.out]; exact putSel_upk 9 hb_ rfl rfl rfl), Q_FB, Q_FX, Q_FY, Q_FZ, Q_O1, Q_O2, Q_X0_, Q_X4_⟩
                exact steps_nil
              · rintro b a w' hall ⟨A1, c1, A2, c2, m0_, m4_, ha, Q_FB, Q_FX, Q_FY, Q_FZ, Q_O1, Q_O2, Q_X0_, Q_X4_⟩
                have hb0_ := hall 0 (by kernel_rfl)
                have hb1_ := hall 1 (by kernel_rfl)
                have hb2_ := hall 2 (by kernel_rfl)
                have hb3_ := hall 3 (by kernel_rfl)
                have hb4_ := hall 4 (by kernel_rfl)
                have hb5_ := hall 5 (by kernel_rfl)
                have hb6_ := hall 6 (by kernel_rfl)
                have hb7_ := hall 7 (by kernel_rfl)
                have hb8_ := hall 8 (by kernel_rfl)
                have hb9_ := hall 9 (by kernel_rfl)
                subst ha
                obtain rfl := Q_X0_ hb0_
                obtain rfl := Q_X4_ hb4_
                simp only [putSel, hb0_, hb1_, hb2_, hb3_, hb4_, hb5_, hb6_, hb7_, hb8_, hb9_, if_true, Act.put, List.setIfInBounds_toArray, List.set_cons_zero, List.set_cons_succ]
                have FB := Aside0.mk Q_FB
                clear Q_FB
                have FX := Aside0.mk Q_FX
                clear Q_FX
                have FY := Aside0.mk Q_FY
                clear Q_FY
                have FZ := Aside0.mk Q_FZ
                clear Q_FZ
                have O1 := Aside0.mk (Q_O1 hb0_)
                clear Q_O1
                have O2 := Aside0.mk (Q_O2 hb4_)
                clear Q_O2
                clear hall hb0_ hb1_ hb2_ hb3_ hb4_ hb5_ hb6_ hb7_ hb8_ hb9_
                have HBF := Aside0.mk FB
                have HZF := Aside0.mk FZ
                go_wp2_with fail
                go_meet
                case rel => exact ⟨rfl, HBF.out, HZF.out⟩
            case rest =>
              obtain ⟨rfl, HBQ, HZQ⟩ := hcut
              obtain ⟨wq, rfl⟩ : ∃ wq : World, wq = wc := ⟨_, rfl⟩
              obtain ⟨S, hS⟩ : ∃ S, ux ++ uy = S := ⟨_, rfl⟩
              rw [hS] at HBY HZL ⊢
              have heq : ((z.length : Int) == (S.size : Int)) = true := by rw [HZL.out]; simp
              clear hS hsz hsz2 hux huy hsx2 hsy2 hsx3 hsy3
              go_wp2_with fail
              refine start_ (n := 13) (S := fun w' => True) (ds := []) #[false, false, false, false, false, false, false, false, false, false, false, false, false] (by kernel_rfl) rfl rfl trivial (fun hHeld => ?_)
              refine with_tabW sackbutlaw01_PipeParts.tab19 sackbutlaw01_PipeParts.bits19 (fun HT_ HW_ => ?_)
              obtain ⟨wd, hwd⟩ : ∃ wd, wq.drew = wd := ⟨_, rfl⟩
              rw [hwd]
              have FBD : Aside0 (Below w.heap.size w wd) := ⟨by rw [← hwd]; exact below_drew HBQ.out⟩
              have HZD : Aside0 (IsWr w wd gz vz z) := ⟨by rw [← hwd]; exact isWr_below HZQ.out (below_drew (Below.refl wq.heap.size wq))⟩
              clear hwd hHeld
              refine inv_at [0, 1, 2, 3, 4, 5, 6, 7, 8, 9, 10, 11, 12] (fun a0_ b a w' => ∃ (vb : Value) (vr : Value), a = putSel a0_ b [(0, 71, .int .i64 (z.length : Int)), (1, 72, .string S), (2, 73, .int .i64 (S.size : Int)), (3, 74, .bool true), (4, 75, .bool true), (5, 76, vb), (6, 77, .string (strOfNums (pack z))), (7, 78, .string S), (8, 79, vr), (9, 80, .string (strOfNums bb)), (10, 81, .bool ((strOfNums (pack z)).toList == (strOfNums bb).toList)), (11, 82, .bool ((strOfNums (pack z)).toList == (strOfNums bb).toList)), (12, 4, .bool ((strOfNums (pack z)).toList == (strOfNums bb).toList))] ∧ (Below w.heap.size w w') ∧ (IsWr w w' gz vz z) ∧ (b 5 = true → w'.ownsRow w.heap.size 5 1 vb (pack z).length (nums .u8 (pack z))) ∧ (b 8 = true → Kd.R (Kd.int .u8) 5 w' w.heap.size (fun _ => True) vr bb)) HT_.out HW_.out (by kernel_rfl) (by kernel_rfl) ?_ ?_ ?_
              · exact ⟨.bool false, .bool false, by simp only [putSel, Bool.false_eq_true, if_false], FBD.out, HZD.out, fun h_ => absurd h_ (by decide), fun h_ => absurd h_ (by decide)⟩
              · skip
                refine steps_cons ?_ ?_
                · rintro b a w' ⟨vb, vr, ha, Q_FB, Q_FZ, Q_O1, Q_O2⟩ hb_ hon hoff
                  refine ⟨_, rfl, fun K hK => ?_⟩
                  have e7 : a.tmps[7]? = some (.pointer (some ⟨gz, 0, none⟩)) := by rw [ha]; exact (putSel_off rfl).trans rfl
                  replace ha := Aside0.mk ha
                  have FB := Aside0.mk Q_FB
                  have FZ := Aside0.mk Q_FZ
                  refine goes_ Try.func17 (by kernel_rfl) rfl #[.pointer (some ⟨gz, 0, none⟩)] (by rfl) rfl rfl (by first | (simp only [List.map_toArray, List.map_cons, List.map_nil, Act.eval, Array.getD_eq_getD_getElem?, Option.getD_some, e7]; done) | (simp only [List.map_toArray, List.map_cons, List.map_nil, Act.eval, Array.getD_eq_getD_getElem?, Option.getD_some, e7]; rfl)) ?_
                  (with_reducible refine (wr_Len w w' gz vz z FZ.out).mono ?_)
                  rintro e w1_ ⟨rfl, rfl⟩
                  refine ⟨_, rfl, ?_⟩
                  refine hK.out _ _ ⟨vb, vr, (by rw [ha.out]; exact putSel_upk 0 hb_ rfl rfl rfl), Q_FB, Q_FZ, fun h0_ => absurd ((hoff 5 (by kernel_rfl)).symm.trans h0_) (by decide), fun h0_ => absurd ((hoff 8 (by kernel_rfl)).symm.trans h0_) (by decide)⟩
                refine steps_cons ?_ ?_
                · rintro b a w' ⟨vb, vr, ha, Q_FB, Q_FZ, Q_O1, Q_O2⟩ hb_ hon hoff
                  refine ⟨_, rfl, fun K hK => ?_⟩
                  have e12 : a.tmps[12]? = some (.string S) := by rw [ha]; exact (putSel_off rfl).trans rfl
                  replace ha := Aside0.mk ha
                  have FB := Aside0.mk Q_FB
                  have FZ := Aside0.mk Q_FZ
                  refine value_ (w1 := w') (v := .string S) (by rfl) rfl ?_ ?_
                  · go_simp
                    (try simp only [i64_w])
                    try rfl
                  refine hK.out _ _ ⟨vb, vr, (by rw [ha.out]; exact putSel_upk 1 hb_ rfl rfl rfl), Q_FB, Q_FZ, fun h0_ => absurd ((hoff 5 (by kernel_rfl)).symm.trans h0_) (by decide), fun h0_ => absurd ((hoff 8 (by kernel_rfl)).symm.trans h0_) (by decide)⟩
                refine steps_cons ?_ ?_
                · rintro b a w' ⟨vb, vr, ha, Q_FB, Q_FZ, Q_O1, Q_O2⟩ hb_ hon hoff
                  refine ⟨_, rfl, fun K hK => ?_⟩
                  have e72 : a.tmps[72]? = some (.string S) := by rw [ha]; exact putSel_on (e := (1, 72, .string S)) 1 rfl rfl (hon 1 (by kernel_rfl)) rfl
                  replace ha := Aside0.mk ha
                  have FB := Aside0.mk Q_FB
                  have FZ := Aside0.mk Q_FZ
                  refine value_ (w1 := w') (v := .int .i64 (S.size : Int)) (by rfl) rfl ?_ ?_
                  · go_simp
                    (try simp only [i64_w])
                    try rfl
                  refine hK.out _ _ ⟨vb, vr, (by rw [ha.out]; exact putSel_upk 2 hb_ rfl rfl rfl), Q_FB, Q_FZ, fun h0_ => absurd ((hoff 5 (by kernel_rfl)).symm.trans h0_) (by decide), fun h0_ => absurd ((hoff 8 (by kernel_rfl)).symm.trans h0_) (by decide)⟩
                refine steps_cons ?_ ?_
                · rintro b a w' ⟨vb, vr, ha, Q_FB, Q_FZ, Q_O1, Q_O2⟩ hb_ hon hoff
                  refine ⟨_, rfl, fun K hK => ?_⟩
                  have e71 : a.tmps[71]? = some (.int .i64 (z.length : Int)) := by rw [ha]; exact putSel_on (e := (0, 71, .int .i64 (z.length : Int))) 0 rfl rfl (hon 0 (by kernel_rfl)) rfl
                  have e73 : a.tmps[73]? = some (.int .i64 (S.size : Int)) := by rw [ha]; exact putSel_on (e := (2, 73, .int .i64 (S.size : Int))) 2 rfl rfl (hon 2 (by kernel_rfl)) rfl
                  replace ha := Aside0.mk ha
                  have FB := Aside0.mk Q_FB
                  have FZ := Aside0.mk Q_FZ
                  refine value_ (w1 := w') (v := .bool true) (by rfl) rfl ?_ ?_
                  · go_simp
                    (try simp only [i64_w])
                    try rfl
                  refine hK.out _ _ ⟨vb, vr, (by rw [ha.out]; exact putSel_upk 3 hb_ rfl rfl rfl), Q_FB, Q_FZ, fun h0_ => absurd ((hoff 5 (by kernel_rfl)).symm.trans h0_) (by decide), fun h0_ => absurd ((hoff 8 (by kernel_rfl)).symm.trans h0_) (by decide)⟩
                refine steps_cons ?_ ?_
                · rintro b a w' ⟨vb, vr, ha, Q_FB, Q_FZ, Q_O1, Q_O2⟩ hb_ hon hoff
                  refine ⟨_, rfl, fun K hK => ?_⟩
                  have e74 : a.tmps[74]? = some (.bool true) := by rw [ha]; exact putSel_on (e := (3, 74, .bool true)) 3 rfl rfl (hon 3 (by kernel_rfl)) rfl
                  replace ha := Aside0.mk ha
                  have FB := Aside0.mk Q_FB
                  have FZ := Aside0.mk Q_FZ
                  refine value_ (w1 := w') (v := .bool true) (by rfl) rfl ?_ ?_
                  · go_simp
                    (try simp only [i64_w])
                    try rfl
                  refine hK.out _ _ ⟨vb, vr, (by rw [ha.out]; exact putSel_upk 4 hb_ rfl rfl rfl), Q_FB, Q_FZ, fun h0_ => absurd ((hoff 5 (by kernel_rfl)).symm.trans h0_) (by decide), fun h0_ => absurd ((hoff 8 (by kernel_rfl)).symm.trans h0_) (by decide)⟩
                refine steps_cons ?_ ?_
                · rintro b a w' ⟨vb, vr, ha, Q_FB, Q_FZ, Q_O1, Q_O2⟩ hb_ hon hoff
                  refine ⟨_, rfl, fun K hK => ?_⟩
                  have e7 : a.tmps[7]? = some (.pointer (some ⟨gz, 0, none⟩)) := by rw [ha]; exact (putSel_off rfl).trans rfl
                  have e75 : a.tmps[75]? = some (.bool true) := by rw [ha]; exact putSel_on (e := (4, 75, .bool true)) 4 rfl rfl (hon 4 (by kernel_rfl)) rfl
                  replace ha := Aside0.mk ha
                  have FB := Aside0.mk Q_FB
                  have FZ := Aside0.mk Q_FZ
                  refine goes_ Try.func18 (by kernel_rfl) rfl #[.pointer (some ⟨gz, 0, none⟩)] (wanted_on rfl rfl rfl (e75.trans (by first | rfl | (simp [*]; done)))) rfl rfl (by first | (simp only [List.map_toArray, List.map_cons, List.map_nil, Act.eval, Array.getD_eq_getD_getElem?, Option.getD_some, e7, e75]; done) | (simp only [List.map_toArray, List.map_cons, List.map_nil, Act.eval, Array.getD_eq_getD_getElem?, Option.getD_some, e7, e75]; rfl)) ?_
                  (with_reducible refine (wr_Bytes w w' gz vz z FZ.out (by have := HLM.out; omega)).mono ?_)
                  rintro e w1_ ⟨v1_, rfl, ho_, hbl_⟩
                  refine ⟨_, rfl, ?_⟩
                  refine hK.out _ _ ⟨v1_, vr, (by rw [ha.out]; exact putSel_upk 5 hb_ rfl rfl rfl), below_then FB.out FB.out.size hbl_, isWr_below FZ.out hbl_, fun _ => own_weaken ho_ FB.out.size, fun h0_ => absurd ((hoff 8 (by kernel_rfl)).symm.trans h0_) (by decide)⟩
                refine steps_cons ?_ ?_
                · rintro b a w' ⟨vb, vr, ha, Q_FB, Q_FZ, Q_O1, Q_O2⟩ hb_ hon hoff
                  refine ⟨_, rfl, fun K hK => ?_⟩
                  have e76 : a.tmps[76]? = some (vb) := by rw [ha]; exact putSel_on (e := (5, 76, vb)) 5 rfl rfl (hon 5 (by kernel_rfl)) rfl
                  have e75 : a.tmps[75]? = some (.bool true) := by rw [ha]; exact putSel_on (e := (4, 75, .bool true)) 4 rfl rfl (hon 4 (by kernel_rfl)) rfl
                  replace ha := Aside0.mk ha
                  have FB := Aside0.mk Q_FB
                  have FZ := Aside0.mk Q_FZ
                  have O1 := Aside0.mk (Q_O1 (hon 5 (by kernel_rfl)))
                  have hcv_ := own_string (P := Try.prog) Try.underlying24 Try.underlying5 Try.underlying9 O1.out
                  refine value_ (w1 := w') (v := .string (strOfNums (pack z))) (wanted_on rfl rfl rfl (e75.trans (by first | rfl | (simp [*]; done)))) rfl ?_ ?_
                  · go_simp
                    (try simp only [i64_w])
                    try rfl
                  refine hK.out _ _ ⟨vb, vr, (by rw [ha.out]; exact putSel_upk 6 hb_ rfl rfl rfl), Q_FB, Q_FZ, Q_O1, Q_O2⟩
                refine steps_cons ?_ ?_
                · rintro b a w' ⟨vb, vr, ha, Q_FB, Q_FZ, Q_O1, Q_O2⟩ hb_ hon hoff
                  refine ⟨_, rfl, fun K hK => ?_⟩
                  have e12 : a.tmps[12]? = some (.string S) := by rw [ha]; exact (putSel_off rfl).trans rfl
                  have e75 : a.tmps[75]? = some (.bool true) := by rw [ha]; exact putSel_on (e := (4, 75, .bool true)) 4 rfl rfl (hon 4 (by kernel_rfl)) rfl
                  replace ha := Aside0.mk ha
                  have FB := Aside0.mk Q_FB
                  have FZ := Aside0.mk Q_FZ
                  refine value_ (w1 := w') (v := .string S) (wanted_on rfl rfl rfl (e75.trans (by first | rfl | (simp [*]; done)))) rfl ?_ ?_
                  · go_simp
                    (try simp only [i64_w])
                    try rfl
                  refine hK.out _ _ ⟨vb, vr, (by rw [ha.out]; exact putSel_upk 7 hb_ rfl rfl rfl), Q_FB, Q_FZ, Q_O1, fun h0_ => absurd ((hoff 8 (by kernel_rfl)).symm.trans h0_) (by decide)⟩
                refine steps_cons ?_ ?_
                · rintro b a w' ⟨vb, vr, ha, Q_FB, Q_FZ, Q_O1, Q_O2⟩ hb_ hon hoff
                  refine ⟨_, rfl, fun K hK => ?_⟩
                  have e78 : a.tmps[78]? = some (.string S) := by rw [ha]; exact putSel_on (e := (7, 78, .string S)) 7 rfl rfl (hon 7 (by kernel_rfl)) rfl
                  have e75 : a.tmps[75]? = some (.bool true) := by rw [ha]; exact putSel_on (e := (4, 75, .bool true)) 4 rfl rfl (hon 4 (by kernel_rfl)) rfl
                  replace ha := Aside0.mk ha
                  have FB := Aside0.mk Q_FB
                  have FZ := Aside0.mk Q_FZ
                  have O1 := Aside0.mk (Q_O1 (hon 5 (by kernel_rfl)))
                  refine goes_ Try.func19 (by kernel_rfl) rfl #[.string S] (wanted_on rfl rfl rfl (e75.trans (by first | rfl | (simp [*]; done)))) rfl rfl (by first | (simp only [List.map_toArray, List.map_cons, List.map_nil, Act.eval, Array.getD_eq_getD_getElem?, Option.getD_some, e78, e75]; done) | (simp only [List.map_toArray, List.map_cons, List.map_nil, Act.eval, Array.getD_eq_getD_getElem?, Option.getD_some, e78, e75]; rfl)) ?_
                  (with_reducible refine (sackbutref01_Bytes.calls k S bb w' HBY.out).mono ?_)
                  rintro e w1_ ⟨v1_, rfl, hr_, hbl_⟩
                  refine ⟨_, rfl, ?_⟩
                  refine hK.out _ _ ⟨vb, v1_, (by rw [ha.out]; exact putSel_upk 8 hb_ rfl rfl rfl), below_then FB.out FB.out.size hbl_, isWr_below FZ.out hbl_, fun _ => own_move O1.out (fun k_ hk_ => hbl_.block k_ (own_lt O1.out k_ hk_)), fun _ => Kd.R_lower hr_ FB.out.size⟩
                refine steps_cons ?_ ?_
                · rintro b a w' ⟨vb, vr, ha, Q_FB, Q_FZ, Q_O1, Q_O2⟩ hb_ hon hoff
                  refine ⟨_, rfl, fun K hK => ?_⟩
                  have e79 : a.tmps[79]? = some (vr) := by rw [ha]; exact putSel_on (e := (8, 79, vr)) 8 rfl rfl (hon 8 (by kernel_rfl)) rfl
                  have e75 : a.tmps[75]? = some (.bool true) := by rw [ha]; exact putSel_on (e := (4, 75, .bool true)) 4 rfl rfl (hon 4 (by kernel_rfl)) rfl
                  replace ha := Aside0.mk ha
                  have FB := Aside0.mk Q_FB
                  have FZ := Aside0.mk Q_FZ
                  have O1 := Aside0.mk (Q_O1 (hon 5 (by kernel_rfl)))
                  have O2 := Aside0.mk (Q_O2 (hon 8 (by kernel_rfl)))
                  have hcv_ := own_string (P := Try.prog) Try.underlying24 Try.underlying5 Try.underlying9 (Kd.own_of_R O2.out)
                  refine value_ (w1 := w') (v := .string (strOfNums bb)) (wanted_on rfl rfl rfl (e75.trans (by first | rfl | (simp [*]; done)))) rfl ?_ ?_
                  · go_simp
                    (try simp only [i64_w])
                    try rfl
                  refine hK.out _ _ ⟨vb, vr, (by rw [ha.out]; exact putSel_upk 9 hb_ rfl rfl rfl), Q_FB, Q_FZ, Q_O1, Q_O2⟩
                refine steps_cons ?_ ?_
                · rintro b a w' ⟨vb, vr, ha, Q_FB, Q_FZ, Q_O1, Q_O2⟩ hb_ hon hoff
                  refine ⟨_, rfl, fun K hK => ?_⟩
                  have e77 : a.tmps[77]? = some (.string (strOfNums (pack z))) := by rw [ha]; exact putSel_on (e := (6, 77, .string (strOfNums (pack z)))) 6 rfl rfl (hon 6 (by kernel_rfl)) rfl
                  have e80 : a.tmps[80]? = some (.string (strOfNums bb)) := by rw [ha]; exact putSel_on (e := (9, 80, .string (strOfNums bb))) 9 rfl rfl (hon 9 (by kernel_rfl)) rfl
                  have e75 : a.tmps[75]? = some (.bool true) := by rw [ha]; exact putSel_on (e := (4, 75, .bool true)) 4 rfl rfl (hon 4 (by kernel_rfl)) rfl
                  replace ha := Aside0.mk ha
                  have FB := Aside0.mk Q_FB
                  have FZ := Aside0.mk Q_FZ
                  have O1 := Aside0.mk (Q_O1 (hon 5 (by kernel_rfl)))
                  have O2 := Aside0.mk (Q_O2 (hon 8 (by kernel_rfl)))
                  refine value_ (w1 := w') (v := .bool ((strOfNums (pack z)).toList == (strOfNums bb).toList)) (wanted_on rfl rfl rfl (e75.trans (by first | rfl | (simp [*]; done)))) rfl ?_ ?_
                  · go_simp
                    (try simp only [i64_w])
                    try rfl
                  refine hK.out _ _ ⟨vb, vr, (by rw [ha.out]; exact putSel_upk 10 hb_ rfl rfl rfl), Q_FB, Q_FZ, Q_O1, Q_O2⟩
                refine steps_cons ?_ ?_
                · rintro b a w' ⟨vb, vr, ha, Q_FB, Q_FZ, Q_O1, Q_O2⟩ hb_ hon hoff
                  refine ⟨_, rfl, fun K hK => ?_⟩
                  have e75 : a.tmps[75]? = some (.bool true) := by rw [ha]; exact putSel_on (e := (4, 75, .bool true)) 4 rfl rfl (hon 4 (by kernel_rfl)) rfl
                  have e81 : a.tmps[81]? = some (.bool ((strOfNums (pack z)).toList == (strOfNums bb).toList)) := by rw [ha]; exact putSel_on (e := (10, 81, .bool ((strOfNums (pack z)).toList == (strOfNums bb).toList))) 10 rfl rfl (hon 10 (by kernel_rfl)) rfl
                  replace ha := Aside0.mk ha
                  have FB := Aside0.mk Q_FB
                  have FZ := Aside0.mk Q_FZ
                  have O1 := Aside0.mk (Q_O1 (hon 5 (by kernel_rfl)))
                  have O2 := Aside0.mk (Q_O2 (hon 8 (by kernel_rfl)))
                  refine value_ (w1 := w') (v := .bool ((strOfNums (pack z)).toList == (strOfNums bb).toList)) (by rfl) rfl ?_ ?_
                  · go_simp
                    (try simp only [i64_w])
                    try rfl
                  refine hK.out _ _ ⟨vb, vr, (by rw [ha.out]; exact putSel_upk 11 hb_ rfl rfl rfl), Q_FB, Q_FZ, Q_O1, Q_O2⟩
                refine steps_cons ?_ ?_
                · rintro b a w' ⟨vb, vr, ha, Q_FB, Q_FZ, Q_O1, Q_O2⟩ hb_ hon hoff
                  refine ⟨_, rfl, fun K hK => ?_⟩
                  have e82 : a.tmps[82]? = some (.bool ((strOfNums (pack z)).toList == (strOfNums bb).toList)) := by rw [ha]; exact putSel_on (e := (11, 82, .bool ((strOfNums (pack z)).toList == (strOfNums bb).toList))) 11 rfl rfl (hon 11 (by kernel_rfl)) rfl
                  replace ha := Aside0.mk ha
                  have FB := Aside0.mk Q_FB
                  have FZ := Aside0.mk Q_FZ
                  have O1 := Aside0.mk (Q_O1 (hon 5 (by kernel_rfl)))
                  have O2 := Aside0.mk (Q_O2 (hon 8 (by kernel_rfl)))
                  refine value_ (w1 := w') (v := .bool ((strOfNums (pack z)).toList == (strOfNums bb).toList)) (by rfl) rfl ?_ ?_
                  · go_simp
                    (try simp only [i64_w])
                    try rfl
                  refine hK.out _ _ ⟨vb, vr, (by rw [ha.out]; exact putSel_upk 12 hb_ rfl rfl rfl), Q_FB, Q_FZ, Q_O1, Q_O2⟩
                exact steps_nil
              · rintro b a w' hall ⟨vb, vr, ha, Q_FB, Q_FZ, Q_O1, Q_O2⟩
                have hb0_ := hall 0 (by kernel_rfl)
                have hb1_ := hall 1 (by kernel_rfl)
                have hb2_ := hall 2 (by kernel_rfl)
                have hb3_ := hall 3 (by kernel_rfl)
                have hb4_ := hall 4 (by kernel_rfl)
                have hb5_ := hall 5 (by kernel_rfl)
                have hb6_ := hall 6 (by kernel_rfl)
                have hb7_ := hall 7 (by kernel_rfl)
                have hb8_ := hall 8 (by kernel_rfl)
                have hb9_ := hall 9 (by kernel_rfl)
                have hb10_ := hall 10 (by kernel_rfl)
                have hb11_ := hall 11 (by kernel_rfl)
                have hb12_ := hall 12 (by kernel_rfl)
                subst ha
                simp only [putSel, hb0_, hb1_, hb2_, hb3_, hb4_, hb5_, hb6_, hb7_, hb8_, hb9_, hb10_, hb11_, hb12_, if_true, Act.put, List.setIfInBounds_toArray, List.set_cons_zero, List.set_cons_succ]
                have FB := Aside0.mk Q_FB
                clear Q_FB
                have FZ := Aside0.mk Q_FZ
                clear Q_FZ
                have O1 := Aside0.mk (Q_O1 hb5_)
                clear Q_O1
                have O2 := Aside0.mk (Q_O2 hb8_)
                clear Q_O2
                clear hall hb0_ hb1_ hb2_ hb3_ hb4_ hb5_ hb6_ hb7_ hb8_ hb9_ hb10_ hb11_ hb12_
                have HBF := FB
                go_wp2
                go_ret
                exact ⟨rfl, HBF.out⟩
end Go.Proofs.Ytgglnmpjajnkaaa.P
