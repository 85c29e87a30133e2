/- The law PipePuts, walked: what it answers. -/
import Derived.Test.YtgglnmpjajnkaaaPx0
import Derived.Test.YtgglnmpjajnkaaaHDo
import Derived.Test.YtgglnmpjajnkaaaHAwake1
import Derived.Test.YtgglnmpjajnkaaaPx3
import Derived.Test.YtgglnmpjajnkaaaPx1
import Derived.Sort.LoopGhostIn
import Derived.Deep.DeepCutAuto
namespace Go.Proofs.Ytgglnmpjajnkaaa.P
open Go Go.RowKit Go.Proofs.YtgglnmpjajnkaaaW.PrintWords Go.Proofs.YtgglnmpjajnkaaaW.PrintLast Go.Proofs.YtgglnmpjajnkaaaW.PrintMore
set_option linter.unusedVariables false
set_option linter.unusedSimpArgs false

def actIn (a : S28) : Bool := decide (-9223372036854775808 ≤ a.f1) && decide (a.f1 ≤ 9223372036854775807)
def putsL (k : Nat) : List S28 → ByteArray → List Bool → Option Bool
  | [], s, l => if 900000 < l.length then none else (sackbutref01_Bytes.f k s).bind fun bb => some ((strOfNums (pack l)).toList == (strOfNums bb).toList)
  | a :: r, s, l => if actIn a = false ∨ 900000 < l.length then none else (sackbutlaw01_put.f k s a.f0 a.f1 a.f2).bind fun p =>
      if 8000 < p.1.size then some true else if doOk a.f0 a.f1 a.f2 = p.2 ∧ (doBits l a.f0 a.f1 a.f2).length = p.1.size then putsL k r p.1 (doBits l a.f0 a.f1 a.f2) else none
theorem putsL_mono (k : Nat) : ∀ (ac : List S28) (s : ByteArray) (l : List Bool), LeO (putsL k ac s l) (putsL (k + 1) ac s l) := by
  intro ac
  induction ac with
  | nil =>
    intro s l
    simp only [putsL]
    split
    · exact LeO.refl _
    · exact LeO.bind (sackbutref01_Bytes.mono _ _) (fun _ => LeO.refl _)
  | cons a ac ih =>
    intro s l
    simp only [putsL]
    split
    · exact LeO.refl _
    · refine LeO.bind (sackbutlaw01_put.mono _ _ _ _ _) (fun p => ?_)
      split
      · exact LeO.refl _
      · split
        · exact ih _ _
        · exact LeO.refl _
def sackbutlaw01_PipePuts.f (k : Nat) (ac : List S28) : Option Bool := if 60 < ac.length then some true else putsL k ac ⟨#[]⟩ []
theorem sackbutlaw01_PipePuts.mono (ac : List S28) (k : Nat) : LeO (sackbutlaw01_PipePuts.f k ac) (sackbutlaw01_PipePuts.f (k + 1) ac) := by
  unfold sackbutlaw01_PipePuts.f
  split
  · exact LeO.refl _
  · exact putsL_mono k ac _ _
theorem drop_get {α : Type} {l : List α} {i : Nat} (h : i < l.length) : l.drop i = l[i] :: l.drop (i + 1) := (List.getElem_cons_drop h).symm
abbrev actO (a x n : Int) : Obj := .cells #[.int .i64 a, .int .i64 x, .int .i64 n] 28
def sackbutlaw01_PipePuts.T15 : Bool × List (List Nat × List Nat) := (true, [([], []), ([0], [0]), ([], []), ([2, 0], [2]), ([3], [3]), ([1, 4], [1, 4]), ([5, 3, 0, 1, 2, 3, 4, 5], [5])])
def sackbutlaw01_PipePuts.B15 : List Nat := [0, 1, 0, 5, 13, 31, 63]
theorem sackbutlaw01_PipePuts.tab15 : rtab .any (opsOf Try.f3 15) = sackbutlaw01_PipePuts.T15 := by kernel_rfl
theorem sackbutlaw01_PipePuts.bits15 : waitsOk sackbutlaw01_PipePuts.T15.2 sackbutlaw01_PipePuts.B15 = true := by kernel_rfl
set_option maxHeartbeats 8000000 in
set_option maxRecDepth 100000 in
theorem sackbutlaw01_PipePuts.calls (k : Nat) (A0 : Option Addr) (c0 : Nat) (ac : List S28) (r : Bool) (w : World) (hr0 : Kd.C k28 w A0 ac.length ac) (hc0 : ac.length ≤ c0) (h : sackbutlaw01_PipePuts.f k ac = some r) :
    Calls Try.prog 3 #[.slice A0 ac.length c0] w fun e w' => e = .returned (.bool r) ∧ Below w.heap.size w w' := by
  have HR := Aside0.mk hr0
  have hu := Try.underlying28
  have hu2 := Try.underlying26
  by_cases hq : 60 < ac.length
  · unfold sackbutlaw01_PipePuts.f at h
    rw [if_pos hq] at h
    cases h
    have hqI : (60 : Int) < (ac.length : Int) := by omega
    clear hr0 hc0
    go_enter Try.func3, Try.ntmps3
    go_wp2_with fail
    (with_reducible refine (sackbutlaw01_awake.calls true _ rfl).mono ?_)
    rintro e w1 ⟨rfl, hb1⟩
    have HB1 := Aside0.mk hb1
    clear hb1
    go_wp2_with fail
    (with_reducible refine (sackbutlaw01_awake.calls true _ rfl).mono ?_)
    rintro e w2 ⟨rfl, hb2⟩
    have HB2 := Aside0.mk (below_then HB1.out HB1.out.size hb2)
    clear hb2
    go_wp2
    go_ret
    exact ⟨rfl, HB2.out⟩
  · have hqI : (ac.length : Int) ≤ 60 := by omega
    unfold sackbutlaw01_PipePuts.f at h
    rw [if_neg hq] at h
    have HF := Aside0.mk h
    have HN := Aside0.mk hq
    clear hr0 h hq hc0
    go_enter Try.func3, Try.ntmps3
    go_wp2_with fail
    (with_reducible refine (sackbutlaw01_awake.calls true _ rfl).mono ?_)
    rintro e w1 ⟨rfl, hb1⟩
    have HB1 := Aside0.mk hb1
    clear hb1
    go_wp2_with fail
    have hw0 := isWr_new w w1 HB1.out
    have hbw := below_alloc HB1.out (.cells #[.slice none 0 0, .int .i64 0] 26)
    obtain ⟨gw, hgw⟩ : ∃ gw, w1.heap.size = gw := ⟨_, rfl⟩
    rw [hgw] at hw0 ⊢
    generalize w1.alloc (.cells #[.slice none 0 0, .int .i64 0] 26) = w2 at hw0 hbw ⊢
    have HW0 := Aside0.mk hw0
    have HB0 := Aside0.mk hbw
    clear hw0 hbw hgw HB1
    go_loopg [4, 19] ac.length (fun kq v4 v19 wr => ∃ (i : Nat) (s : ByteArray) (v : Value) (l : List Bool), v4 = .string s ∧ v19 = .int .i64 i ∧ kq + i = ac.length ∧ Aside0 (putsL k (ac.drop i) s l = some r) ∧ Aside0 (IsWr w wr gw v l) ∧ Aside0 (Below w.heap.size w wr))
    case atStart => exact ⟨0, ⟨#[]⟩, _, [], rfl, rfl, by omega, HF, HW0, HB0⟩
    case round =>
      clear HF HW0 HB0
      obtain ⟨i, s, v, l, rfl, rfl, hk, HF, HW, HB⟩ := hrel
      by_cases hlt : i < ac.length
      · have hme : gk - 1 < gk := by omega
        have hF := HF.out
        rw [drop_get hlt] at hF
        simp only [putsL] at hF
        have hrd : rd_T28 ac (i : Int) = ac[i] := by simp [rd_T28, hlt]
        have hlI : (i : Int) < (ac.length : Int) := by omega
        have h0I : (0 : Int) ≤ (i : Int) := by omega
        obtain ⟨ad, rfl, ha0, ha1, ha2⟩ := at_T28 HR.out (i : Int) h0I hlI
        replace ha0 := (HB.out.cell (World.block_lt_of_cell? w _ ha0)).trans ha0
        replace ha1 := (HB.out.cell (World.block_lt_of_cell? w _ ha1)).trans ha1
        replace ha2 := (HB.out.cell (World.block_lt_of_cell? w _ ha2)).trans ha2
        rw [hrd] at ha0 ha1 ha2
        obtain ⟨act, hact⟩ : ∃ x, ac[i] = x := ⟨_, rfl⟩
        rw [hact] at hF ha0 ha1 ha2
        clear hrd hact
        obtain ⟨a0, a1, a2⟩ := act
        simp only at hF ha0 ha1 ha2
        have hok : ¬ (actIn ⟨a0, a1, a2⟩ = false ∨ 900000 < l.length) := fun hn => by rw [if_pos hn] at hF; cases hF
        rw [if_neg hok] at hF
        obtain ⟨⟨p1, p2⟩, hp, hF⟩ := Option.bind_eq_some_iff.mp hF
        have hin : actIn ⟨a0, a1, a2⟩ = true := by simpa using (not_or.mp hok).1
        have hll : l.length ≤ 900000 := by have := (not_or.mp hok).2; omega
        simp only [actIn, Bool.and_eq_true, decide_eq_true_eq] at hin
        have HOK := Aside0.mk hin
        have HLL := Aside0.mk hll
        have HP := Aside0.mk hp
        have HF2 := Aside0.mk hF
        have hl1 := HB.out.size
        clear hok hp hF hin hll hlt HF
        rw [Int.toNat_natCast] at ha0 ha1 ha2
        go_wp2_with fail
        have hbx := below_alloc (Below.refl wr.heap.size wr) (actO a0 a1 a2)
        have hbk := blk_new wr (actO a0 a1 a2)
        (with_reducible refine (sackbutlaw01_put.calls k s a0 a1 a2 p1 p2 _ HP.out).mono ?_)
        rintro e w3 ⟨rfl, hb3⟩
        have hbx3 := below_then hbx hbx.size hb3
        have hbk3 := blk_below hbk hb3
        have HB3 := Aside0.mk (below_then HB.out HB.out.size hbx3)
        have HW3 := Aside0.mk (isWr_below HW.out hbx3)
        obtain ⟨ga, hga⟩ : ∃ ga, wr.heap.size = ga := ⟨_, rfl⟩
        rw [hga] at hbk3 ⊢
        have hA0 := (blk_cell hbk3 0).trans rfl
        have hA1 := (blk_cell hbk3 1).trans rfl
        have hA2 := (blk_cell hbk3 2).trans rfl
        clear hbx hbk hb3 hbx3 hbk3 hga HP HB HW ha0 ha1 ha2 hl1
        by_cases h8 : 8000 < p1.size
        · have hF := HF2.out
          rw [if_pos h8] at hF
          cases hF
          have h8I : (8000 : Int) < (p1.size : Int) := by omega
          clear HF2 h8
          go_wp2
          go_ret
          exact ⟨rfl, HB3.out⟩
        · have hF := HF2.out
          rw [if_neg h8] at hF
          have hdo : doOk a0 a1 a2 = p2 ∧ (doBits l a0 a1 a2).length = p1.size := by
            refine Decidable.byContradiction fun hn => ?_
            rw [if_neg hn] at hF
            cases hF
          rw [if_pos hdo] at hF
          obtain ⟨hd1, hd2⟩ := hdo
          have hcall := wr_do w w3 gw v l a0 a1 a2 HOK.out.1 HOK.out.2 HB3.out HW3.out (by have := HLL.out; omega)
          obtain ⟨L, hL⟩ : ∃ L, doBits l a0 a1 a2 = L := ⟨_, rfl⟩
          rw [hL, hd1] at hcall
          rw [hL] at hF hd2
          have HCALL := Aside0.mk hcall
          have HF3 := Aside0.mk hF
          have HD2 := Aside0.mk hd2
          have h8I : ¬ (8000 : Int) < (p1.size : Int) := by omega
          have h8J : (p1.size : Int) ≤ 8000 := by omega
          clear hcall hF hd1 hd2 hL HF2 h8 HOK
          go_wp2_with fail
          (with_reducible refine (HCALL.out).mono ?_)
          rintro e w4 ⟨rfl, v4, hw4, hs4⟩
          have HW4 := Aside0.mk hw4
          have HB4 := Aside0.mk hs4.below
          clear hw4 hs4 HCALL
          go_wp2_with fail
          (with_reducible refine (wr_Len w w4 gw v4 L HW4.out).mono ?_)
          rintro e w5 ⟨rfl, rfl⟩
          have hlb : ((L.length : Int) != (p1.size : Int)) = false := by rw [HD2.out]; simp
          have hlc : (L.length : Int) = (p1.size : Int) := by rw [HD2.out]
          clear hlc
          go_wp2
          go_roundg (gk - 1)
          case rel => exact ⟨i + 1, p1, v4, L, rfl, by first | rfl | (congr 1), by omega, HF3, HW4, HB4⟩
          case measure => exact hme
      · have hi : i = ac.length := by omega
        have hF := HF.out
        rw [hi, List.drop_length] at hF
        simp only [putsL] at hF
        have hln : ¬ 900000 < l.length := fun hn => by rw [if_pos hn] at hF; cases hF
        rw [if_neg hln] at hF
        obtain ⟨bb, hby, hF⟩ := Option.bind_eq_some_iff.mp hF
        cases hF
        have HBY := Aside0.mk hby
        have HLM := Aside0.mk (show l.length ≤ 900000 by omega)
        have hlI : ¬ (i : Int) < (ac.length : Int) := by omega
        clear hby hln hlt hi HF
        go_wp2_with fail
        refine start_ (n := 7) (S := fun w' => True) (ds := []) #[false, false, false, false, false, false, false] (by kernel_rfl) rfl rfl trivial (fun hHeld => ?_)
        refine with_tabW sackbutlaw01_PipePuts.tab15 sackbutlaw01_PipePuts.bits15 (fun HT_ HW_ => ?_)
        obtain ⟨wd, hwd⟩ : ∃ wd, wr.drew = wd := ⟨_, rfl⟩
        rw [hwd]
        have HBD : Aside0 (Below w.heap.size w wd) := ⟨by rw [← hwd]; exact below_drew HB.out⟩
        have HWD : Aside0 (IsWr w wd gw v l) := ⟨by rw [← hwd]; exact isWr_below HW.out (below_drew (Below.refl wr.heap.size wr))⟩
        clear hwd hHeld
        refine inv_at [0, 1, 2, 3, 4, 5, 6] (fun a0_ b a w' => ∃ (vb : Value) (vr : Value), a = putSel a0_ b [(0, 44, vb), (1, 45, .string (strOfNums (pack l))), (2, 46, .string s), (3, 47, vr), (4, 48, .string (strOfNums bb)), (5, 49, .bool ((strOfNums (pack l)).toList == (strOfNums bb).toList)), (6, 2, .bool ((strOfNums (pack l)).toList == (strOfNums bb).toList))] ∧ (Below w.heap.size w w') ∧ (IsWr w w' gw v l) ∧ (b 0 = true → w'.ownsRow w.heap.size 5 1 vb (pack l).length (nums .u8 (pack l))) ∧ (b 3 = true → Kd.R (Kd.int .u8) 5 w' w.heap.size (fun _ => True) vr bb)) HT_.out HW_.out (by kernel_rfl) (by kernel_rfl) ?_ ?_ ?_
        · exact ⟨.bool false, .bool false, by simp only [putSel, Bool.false_eq_true, if_false], HBD.out, HWD.out, fun h_ => absurd h_ (by decide), fun h_ => absurd h_ (by decide)⟩
        · skip
          refine steps_cons ?_ ?_
          · rintro b a w' ⟨vb, vr, ha, Q_FB, Q_FW, Q_O1, Q_O2⟩ hb_ hon hoff
            refine ⟨_, rfl, fun K hK => ?_⟩
            have e3 : a.tmps[3]? = some (.pointer (some ⟨gw, 0, none⟩)) := by rw [ha]; exact (putSel_off rfl).trans rfl
            replace ha := Aside0.mk ha
            have FB := Aside0.mk Q_FB
            have FW := Aside0.mk Q_FW
            refine goes_ Try.func18 (by kernel_rfl) rfl #[.pointer (some ⟨gw, 0, none⟩)] (by rfl) rfl rfl (by first | (simp only [List.map_toArray, List.map_cons, List.map_nil, Act.eval, Array.getD_eq_getD_getElem?, Option.getD_some, e3]; done) | (simp only [List.map_toArray, List.map_cons, List.map_nil, Act.eval, Array.getD_eq_getD_getElem?, Option.getD_some, e3]; rfl)) ?_
            (with_reducible refine (wr_Bytes w w' gw v l FW.out (by have := HLM.out; omega)).mono ?_)
            rintro e w1_ ⟨v1_, rfl, ho_, hbl_⟩
            refine ⟨_, rfl, ?_⟩
            refine hK.out _ _ ⟨v1_, vr, (by rw [ha.out]; exact putSel_upk 0 hb_ rfl rfl rfl), below_then FB.out FB.out.size hbl_, isWr_below FW.out hbl_, fun _ => own_weaken ho_ FB.out.size, fun h0_ => absurd ((hoff 3 (by kernel_rfl)).symm.trans h0_) (by decide)⟩
          refine steps_cons ?_ ?_
          · rintro b a w' ⟨vb, vr, ha, Q_FB, Q_FW, Q_O1, Q_O2⟩ hb_ hon hoff
            refine ⟨_, rfl, fun K hK => ?_⟩
            have e44 : a.tmps[44]? = some (vb) := by rw [ha]; exact putSel_on (e := (0, 44, vb)) 0 rfl rfl (hon 0 (by kernel_rfl)) rfl
            replace ha := Aside0.mk ha
            have FB := Aside0.mk Q_FB
            have FW := Aside0.mk Q_FW
            have O1 := Aside0.mk (Q_O1 (hon 0 (by kernel_rfl)))
            have hcv_ := own_string (P := Try.prog) Try.underlying24 Try.underlying5 Try.underlying9 O1.out
            refine value_ (w1 := w') (v := .string (strOfNums (pack l))) (by rfl) rfl ?_ ?_
            · go_simp
              (try simp only [i64_w])
              try rfl
            refine hK.out _ _ ⟨vb, vr, (by rw [ha.out]; exact putSel_upk 1 hb_ rfl rfl rfl), Q_FB, Q_FW, Q_O1, Q_O2⟩
          refine steps_cons ?_ ?_
          · rintro b a w' ⟨vb, vr, ha, Q_FB, Q_FW, Q_O1, Q_O2⟩ hb_ hon hoff
            refine ⟨_, rfl, fun K hK => ?_⟩
            have e4 : a.tmps[4]? = some (.string s) := by rw [ha]; exact (putSel_off rfl).trans rfl
            replace ha := Aside0.mk ha
            have FB := Aside0.mk Q_FB
            have FW := Aside0.mk Q_FW
            refine value_ (w1 := w') (v := .string s) (by rfl) rfl ?_ ?_
            · go_simp
              (try simp only [i64_w])
              try rfl
            refine hK.out _ _ ⟨vb, vr, (by rw [ha.out]; exact putSel_upk 2 hb_ rfl rfl rfl), Q_FB, Q_FW, Q_O1, fun h0_ => absurd ((hoff 3 (by kernel_rfl)).symm.trans h0_) (by decide)⟩
          refine steps_cons ?_ ?_
          · rintro b a w' ⟨vb, vr, ha, Q_FB, Q_FW, Q_O1, Q_O2⟩ hb_ hon hoff
            refine ⟨_, rfl, fun K hK => ?_⟩
            have e46 : a.tmps[46]? = some (.string s) := by rw [ha]; exact putSel_on (e := (2, 46, .string s)) 2 rfl rfl (hon 2 (by kernel_rfl)) rfl
            replace ha := Aside0.mk ha
            have FB := Aside0.mk Q_FB
            have FW := Aside0.mk Q_FW
            have O1 := Aside0.mk (Q_O1 (hon 0 (by kernel_rfl)))
            refine goes_ Try.func19 (by kernel_rfl) rfl #[.string s] (by rfl) rfl rfl (by first | (simp only [List.map_toArray, List.map_cons, List.map_nil, Act.eval, Array.getD_eq_getD_getElem?, Option.getD_some, e46]; done) | (simp only [List.map_toArray, List.map_cons, List.map_nil, Act.eval, Array.getD_eq_getD_getElem?, Option.getD_some, e46]; rfl)) ?_
            (with_reducible refine (sackbutref01_Bytes.calls k s bb w' HBY.out).mono ?_)
            rintro e w1_ ⟨v1_, rfl, hr_, hbl_⟩
            refine ⟨_, rfl, ?_⟩
            refine hK.out _ _ ⟨vb, v1_, (by rw [ha.out]; exact putSel_upk 3 hb_ rfl rfl rfl), below_then FB.out FB.out.size hbl_, isWr_below FW.out hbl_, fun _ => own_move O1.out (fun k_ hk_ => hbl_.block k_ (own_lt O1.out k_ hk_)), fun _ => Kd.R_lower hr_ FB.out.size⟩
          refine steps_cons ?_ ?_
          · rintro b a w' ⟨vb, vr, ha, Q_FB, Q_FW, Q_O1, Q_O2⟩ hb_ hon hoff
            refine ⟨_, rfl, fun K hK => ?_⟩
            have e47 : a.tmps[47]? = some (vr) := by rw [ha]; exact putSel_on (e := (3, 47, vr)) 3 rfl rfl (hon 3 (by kernel_rfl)) rfl
            replace ha := Aside0.mk ha
            have FB := Aside0.mk Q_FB
            have FW := Aside0.mk Q_FW
            have O1 := Aside0.mk (Q_O1 (hon 0 (by kernel_rfl)))
            have O2 := Aside0.mk (Q_O2 (hon 3 (by kernel_rfl)))
            have hcv_ := own_string (P := Try.prog) Try.underlying24 Try.underlying5 Try.underlying9 (Kd.own_of_R O2.out)
            refine value_ (w1 := w') (v := .string (strOfNums bb)) (by rfl) rfl ?_ ?_
            · go_simp
              (try simp only [i64_w])
              try rfl
            refine hK.out _ _ ⟨vb, vr, (by rw [ha.out]; exact putSel_upk 4 hb_ rfl rfl rfl), Q_FB, Q_FW, Q_O1, Q_O2⟩
          refine steps_cons ?_ ?_
          · rintro b a w' ⟨vb, vr, ha, Q_FB, Q_FW, Q_O1, Q_O2⟩ hb_ hon hoff
            refine ⟨_, rfl, fun K hK => ?_⟩
            have e45 : a.tmps[45]? = some (.string (strOfNums (pack l))) := by rw [ha]; exact putSel_on (e := (1, 45, .string (strOfNums (pack l)))) 1 rfl rfl (hon 1 (by kernel_rfl)) rfl
            have e48 : a.tmps[48]? = some (.string (strOfNums bb)) := by rw [ha]; exact putSel_on (e := (4, 48, .string (strOfNums bb))) 4 rfl rfl (hon 4 (by kernel_rfl)) rfl
            replace ha := Aside0.mk ha
            have FB := Aside0.mk Q_FB
            have FW := Aside0.mk Q_FW
            have O1 := Aside0.mk (Q_O1 (hon 0 (by kernel_rfl)))
            have O2 := Aside0.mk (Q_O2 (hon 3 (by kernel_rfl)))
            refine value_ (w1 := w') (v := .bool ((strOfNums (pack l)).toList == (strOfNums bb).toList)) (by rfl) rfl ?_ ?_
            · go_simp
              (try simp only [i64_w])
              try rfl
            refine hK.out _ _ ⟨vb, vr, (by rw [ha.out]; exact putSel_upk 5 hb_ rfl rfl rfl), Q_FB, Q_FW, Q_O1, Q_O2⟩
          refine steps_cons ?_ ?_
          · rintro b a w' ⟨vb, vr, ha, Q_FB, Q_FW, Q_O1, Q_O2⟩ hb_ hon hoff
            refine ⟨_, rfl, fun K hK => ?_⟩
            have e49 : a.tmps[49]? = some (.bool ((strOfNums (pack l)).toList == (strOfNums bb).toList)) := by rw [ha]; exact putSel_on (e := (5, 49, .bool ((strOfNums (pack l)).toList == (strOfNums bb).toList))) 5 rfl rfl (hon 5 (by kernel_rfl)) rfl
            replace ha := Aside0.mk ha
            have FB := Aside0.mk Q_FB
            have FW := Aside0.mk Q_FW
            have O1 := Aside0.mk (Q_O1 (hon 0 (by kernel_rfl)))
            have O2 := Aside0.mk (Q_O2 (hon 3 (by kernel_rfl)))
            refine value_ (w1 := w') (v := .bool ((strOfNums (pack l)).toList == (strOfNums bb).toList)) (by rfl) rfl ?_ ?_
            · go_simp
              (try simp only [i64_w])
              try rfl
            refine hK.out _ _ ⟨vb, vr, (by rw [ha.out]; exact putSel_upk 6 hb_ rfl rfl rfl), Q_FB, Q_FW, Q_O1, Q_O2⟩
          exact steps_nil
        · rintro b a w' hall ⟨vb, vr, ha, Q_FB, Q_FW, Q_O1, Q_O2⟩
          have hb0_ := hall 0 (by kernel_rfl)
          have hb1_ := hall 1 (by kernel_rfl)
          have hb2_ := hall 2 (by kernel_rfl)
          have hb3_ := hall 3 (by kernel_rfl)
          have hb4_ := hall 4 (by kernel_rfl)
          have hb5_ := hall 5 (by kernel_rfl)
          have hb6_ := hall 6 (by kernel_rfl)
          subst ha
          simp only [putSel, hb0_, hb1_, hb2_, hb3_, hb4_, hb5_, hb6_, if_true, Act.put, List.setIfInBounds_toArray, List.set_cons_zero, List.set_cons_succ]
          have FB := Aside0.mk Q_FB
          clear Q_FB
          have FW := Aside0.mk Q_FW
          clear Q_FW
          have O1 := Aside0.mk (Q_O1 hb0_)
          clear Q_O1
          have O2 := Aside0.mk (Q_O2 hb3_)
          clear Q_O2
          clear hall hb0_ hb1_ hb2_ hb3_ hb4_ hb5_ hb6_
          have HBF := FB
          go_wp2
          go_ret
          exact ⟨rfl, HBF.out⟩
end Go.Proofs.Ytgglnmpjajnkaaa.P
