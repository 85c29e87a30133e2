/- The law TreePuts, walked. -/
import Derived.Test.YtlebgjcpidpgnaaPx0
import Derived.Test.YtlebgjcpidpgnaaHTPut
import Derived.Test.YtlebgjcpidpgnaaHTTake
import Derived.Test.YtlebgjcpidpgnaaHTRead
import Derived.Test.YtlebgjcpidpgnaaPx3
import Derived.Test.YtlebgjcpidpgnaaPx4
import Derived.Test.YtlebgjcpidpgnaaPx1
import Derived.Test.YtlebgjcpidpgnaaPx2
import Derived.Test.YtlebgjcpidpgnaaUSame
import Derived.Test.YtlebgjcpidpgnaaUTPut
import Derived.Deep.RegionWith
import Derived.Deep.DeepCutAuto
namespace Go.Proofs.Ytlebgjcpidpgnaa.P
open Go.RowKit Go.Proofs.YtlebgjcpidpgnaaW.PrintWords Go.Proofs.YtlebgjcpidpgnaaW.PrintLast Go.Proofs.YtlebgjcpidpgnaaW.PrintMore Go.Proofs.Ytlebgjcpidpgnaa.Pure
set_option linter.unusedVariables false
set_option linter.unusedSimpArgs false

theorem awakePA : sackbutlaw09_awake.f 120 = some true := by kernel_rfl
def sackbutlaw09_TreePuts.f (t : ByteArray) (z : Int) (more : List Int) : Option Bool := if more.all (fun x => decide (0 ≤ x) && decide (x ≤ 255)) = true then some true else none
theorem all8 {more : List Int} (h : more.all (fun x => decide (0 ≤ x) && decide (x ≤ 255)) = true) : Bytes8 more := by
  intro x hx
  have := List.all_eq_true.mp h x hx
  simpa using this

set_option maxHeartbeats 8000000 in
set_option maxRecDepth 100000 in
theorem puts_long (t : ByteArray) (z : Int) (A : Option Addr) (c : Nat) (more : List Int) (w : World) (h : 200 < t.size) :
    Calls Try.prog 13 #[.string t, .int .i64 z, .slice A more.length c] w fun e w' => e = .returned (.bool true) ∧ Below w.heap.size w w' := by
  have hd : decide ((200 : Int) < (t.size : Int)) = true := by simp; omega
  clear h
  go_enter Try.func13, Try.ntmps13
  go_wp2_with fail
  (with_reducible refine (sackbutlaw09_awake.calls 120 true _ awakePA).mono ?_)
  rintro e w1 ⟨rfl, hb1⟩
  have HB1 := Aside0.mk hb1
  clear hb1
  go_wp2_with fail
  (with_reducible refine (sackbutlaw09_awake.calls 120 true _ awakePA).mono ?_)
  rintro e w2 ⟨rfl, hb2⟩
  have HB2 := Aside0.mk (below_then HB1.out HB1.out.size hb2)
  clear hb2
  go_wp2
  go_ret
  exact ⟨rfl, HB2.out⟩
set_option maxHeartbeats 8000000 in
set_option maxRecDepth 100000 in
theorem puts_more (t : ByteArray) (z : Int) (A : Option Addr) (c : Nat) (more : List Int) (w : World) (h0 : t.size ≤ 200) (h : 20 < more.length) :
    Calls Try.prog 13 #[.string t, .int .i64 z, .slice A more.length c] w fun e w' => e = .returned (.bool true) ∧ Below w.heap.size w w' := by
  have hd0 : decide ((200 : Int) < (t.size : Int)) = false := by simp; omega
  have hd : decide ((20 : Int) < (more.length : Int)) = true := by simp; omega
  clear h h0
  go_enter Try.func13, Try.ntmps13
  go_wp2_with fail
  (with_reducible refine (sackbutlaw09_awake.calls 120 true _ awakePA).mono ?_)
  rintro e w1 ⟨rfl, hb1⟩
  have HB1 := Aside0.mk hb1
  clear hb1
  go_wp2_with fail
  (with_reducible refine (sackbutlaw09_awake.calls 120 true _ awakePA).mono ?_)
  rintro e w2 ⟨rfl, hb2⟩
  have HB2 := Aside0.mk (below_then HB1.out HB1.out.size hb2)
  clear hb2
  go_wp2
  go_ret
  exact ⟨rfl, HB2.out⟩
set_option maxHeartbeats 8000000 in
set_option maxRecDepth 100000 in
/-- No tree: nothing is put. -/
theorem puts_no (t : ByteArray) (z : Int) (A : Option Addr) (c : Nat) (more : List Int) (r1 : List Int) (r2 : Int) (w : World) (h0 : t.size ≤ 200) (h1 : more.length ≤ 20) (hl : tree_Leaves.f t z = some (r1, r2)) (hr : r2 ≠ 0) :
    Calls Try.prog 13 #[.string t, .int .i64 z, .slice A more.length c] w fun e w' => e = .returned (.bool true) ∧ Below w.heap.size w w' := by
  have hd0 : decide ((200 : Int) < (t.size : Int)) = false := by simp; omega
  have hd : decide ((20 : Int) < (more.length : Int)) = false := by simp; omega
  have HL := Aside0.mk hl
  have HR := Aside0.mk hr
  have HRL : Aside0 (sackbutref09_Leaves.f 100 t z = some (r1, r2)) := ⟨by rw [rleaves_okP t z (by omega)]; exact hl⟩
  have hrb : (r2 == 0) = false := by simp [hr]
  have hrn : (r2 != 0) = true := by simp [hr]
  clear h0 h1 hl hr
  go_enter Try.func13, Try.ntmps13
  go_wp2_with fail
  (with_reducible refine (sackbutlaw09_awake.calls 120 true _ awakePA).mono ?_)
  rintro e w1 ⟨rfl, hb1⟩
  have HB1 := Aside0.mk hb1
  clear hb1
  go_wp2_with fail
  (with_reducible refine (sackbutref09_Leaves.calls 100 t z r1 r2 _ HRL.out).mono ?_)
  rintro e w2 ⟨v2, rfl, _, hb2⟩
  have HB2 := Aside0.mk (below_then HB1.out HB1.out.size hb2)
  have HW2 := Aside0.mk (isWr_new w w2 HB2.out)
  have HB3 := Aside0.mk (below_alloc HB2.out (.cells #[.slice none 0 0, .int .i64 0] 76))
  clear hb2
  go_wp2_with fail
  (with_reducible refine (wr_treeNo w _ _ _ _ t z r1 r2 HB3.out HW2.out HL.out HR.out).mono ?_)
  rintro e w3 ⟨rfl, v3, hi3, hs3⟩
  have HI3 := Aside0.mk hi3
  have HB4 := Aside0.mk hs3.below
  clear hi3 hs3
  go_wp2_with fail
  (with_reducible refine (wr_Len w _ _ _ _ HI3.out).mono ?_)
  rintro e w4 ⟨rfl, rfl⟩
  go_wp2
  go_ret
  exact ⟨rfl, HB4.out⟩
theorem own_keep {w0 w w' : World} {g e size n base : Nat} {u : Value} {xs : List Value} {b : List Int} {p q : Int} (h : w.ownsRow base e size u n xs) (s : KeepBut w w' g none) (hr : IsS109 w0 w g b p q) (h1 : e ≠ 109) : w'.ownsRow base e size u n xs := by
  obtain ⟨A, c, hb, _⟩ := hr
  refine own_move h fun k hk => s.2 k (own_lt h k hk) ?_ (by simp)
  rintro rfl
  exact own_ne h hb h1 hk.symm
theorem owns_readsI {w : World} {base : Nat} {v : Value} {l : List Int} (h : w.ownsRow base 3 1 v l.length (nums .i64 l)) : ∃ A c, v = .slice A l.length c ∧ l.length ≤ c ∧ Kd.C (Kd.int .i64) w A l.length l := by
  obtain ⟨A, c, rfl, hr⟩ := own_reads h
  exact ⟨A, c, rfl, own_le h, Kd.C_of_reads (d := (0 : Int)) (h1 := fun _ => rfl) hr⟩
theorem own_step {w0 w w' : World} {g e size n base : Nat} {v v' u : Value} {l : List Bool} {xs : List Value} (h : w.ownsRow base e size u n xs) (s : WrStep w0 w w' g v v') (hw : IsWr w0 w g v l) (h1 : e ≠ 76) (h2 : e ≠ 5) : w'.ownsRow base e size u n xs := by
  refine own_move h fun k hk => s.kept.2 k (own_lt h k hk) ?_
  obtain ⟨ds, hd⟩ := own_block h k hk
  rintro (rfl | hv)
  · exact own_ne h hw.1 h1 hk.symm
  · obtain ⟨ds2, hd2⟩ := own_block hw.2.2 k hv.symm
    rw [hd] at hd2
    injection hd2 with hd2
    injection hd2 with _ he _
    exact h2 he
set_option maxHeartbeats 8000000 in
set_option maxRecDepth 100000 in
/-- A tree: it is put, and taken as it was. -/
theorem puts_yes (cs : List Bool) (z : Int) (A : Option Addr) (c : Nat) (more l : List Int) (p q : Int) (w : World) (h0 : cs.length ≤ 200) (h1 : more.length ≤ 20) (hll : l.length ≤ 16) (hA : Kd.C (Kd.int .u8) w A more.length more) (hc : more.length ≤ c) (hl : tree_Leaves.f (txt cs) z = some (l, 0))
    (ht : tree_Take.f (putB cs more) 0 0 z = some (txt cs, l, p, 0)) (ha : pipe_Reader_Align.f 100 (putB cs more) p 0 = some (q, 0)) (hq : pipe_Reader_Left.f (putB cs more) q 0 = some (8 * (more.length : Int), q, 0)) :
    Calls Try.prog 13 #[.string (txt cs), .int .i64 z, .slice A more.length c] w fun e w' => e = .returned (.bool true) ∧ Below w.heap.size w w' := by
  have hsz := txt_size cs
  have hd0 : decide ((200 : Int) < (cs.length : Int)) = false := by simp; omega
  have hd : decide ((20 : Int) < (more.length : Int)) = false := by simp; omega
  have HL := Aside0.mk hl
  have HT := Aside0.mk ht
  have HAL := Aside0.mk ha
  have HQ := Aside0.mk hq
  have HAA := Aside0.mk hA
  have HCC := Aside0.mk hc
  have HLL := Aside0.mk hll
  have HLC := Aside0.mk h0
  have HLM := Aside0.mk h1
  have HRL : Aside0 (sackbutref09_Leaves.f 100 (txt cs) z = some (l, 0)) := ⟨by rw [rleaves_okP _ z (by omega)]; exact hl⟩
  have HCH : Aside0 (∀ i : Nat, i < cs.length → bt (txt cs) i = if cs.getD i false = true then 49 else 48) := ⟨fun i hi => txt_bt hi⟩
  have HY := Aside0.mk (bytes_ok (l := cs) (by omega) (k := 300) (by omega))
  have HSM := Aside0.mk (same_ok l l (by omega) (k := 100) (by omega))
  have HPL := Aside0.mk (show (pack cs).length ≤ 26 by rw [pack_length]; omega)
  clear hl ht ha hq hA hc hll h0 h1
  generalize txt cs = t at *
  go_enter Try.func13, Try.ntmps13
  go_wp2_with fail
  (with_reducible refine (sackbutlaw09_awake.calls 120 true _ awakePA).mono ?_)
  rintro e w1 ⟨rfl, hb1⟩
  have HB1 := Aside0.mk hb1
  clear hb1
  go_wp2_with fail
  (with_reducible refine (sackbutref09_Leaves.calls 100 t z l 0 _ HRL.out).mono ?_)
  rintro e w2 ⟨v2, rfl, hr2, hb2⟩
  have HB2 := Aside0.mk (below_then HB1.out HB1.out.size hb2)
  have HR2 := Aside0.mk (Kd.R_lower hr2 (below_size HB1.out))
  have HW2 := Aside0.mk (isWr_new w w2 HB2.out)
  have HB3 := Aside0.mk (below_alloc HB2.out (.cells #[.slice none 0 0, .int .i64 0] 76))
  have HR3 := Aside0.mk (Kd.R_below HR2.out (below_alloc (Below.refl w2.heap.size w2) (.cells #[.slice none 0 0, .int .i64 0] 76)))
  clear hb2 hr2 HR2
  go_wp2_with fail
  (with_reducible refine (wr_treePut w _ _ _ [] cs t z l HB3.out HW2.out HL.out hsz HCH.out (by simp) (by have := HLC.out; omega)).mono ?_)
  rintro e w3 ⟨rfl, v3, hi3, hs3⟩
  have HI3 := Aside0.mk hi3
  have HB4 := Aside0.mk hs3.below
  have HO3 := Aside0.mk (own_step (Kd.own_of_R HR3.out) hs3 HW2.out (by decide) (by decide))
  clear hi3 hs3 HR3
  have HCS := Aside0.mk (fun (W : World) (b n : Nat) (v : Value) (h : W.ownsRow b 5 1 v n (nums .u8 (pack cs))) => own_string (P := Try.prog) Try.underlying58 Try.underlying5 Try.underlying9 h)
  go_upto_region 9 with fail
  go_cut [53] from 42 to 53 (fun v53 wc => v53 = .bool false ∧ Aside0 (IsWr w wc w2.heap.size v3 cs) ∧ Aside0 (Below w.heap.size w wc) ∧ Aside0 (wc.ownsRow w.heap.size 3 1 v2 l.length (nums .i64 l)))
  case first =>
    have HId : Aside0 (IsWr w w3.drew w2.heap.size v3 cs) := ⟨HI3.out⟩
    have HBd : Aside0 (Below w.heap.size w w3.drew) := ⟨below_drew1 HB4.out⟩
    have HOd : Aside0 (w3.drew.ownsRow w.heap.size 3 1 v2 l.length (nums .i64 l)) := ⟨HO3.out⟩
    clear HB3 HB4 HI3 HO3 HW2
    go_region_with (first
      | (go_at_call 41; refine (wr_Len w _ _ _ _ HId.out).mono ?_; rintro e w5 ⟨rfl, rfl⟩)
      | (go_at_call 42; refine (wr_Bytes w _ _ _ _ HId.out (by have := HLC.out; omega)).mono ?_; rintro e w9 ⟨v9, rfl, ho9, hb9⟩; have hcv9 := HCS.out _ _ _ _ ho9; (try have hcv10' := HCS.out _ _ _ _ (own_below HO10.out hb9)); have HO9 := Aside0.mk ho9; replace HBd := Aside0.mk (below_then HBd.out HBd.out.size hb9); replace HOd := Aside0.mk (own_below HOd.out hb9); replace HId := Aside0.mk (isWr_below HId.out hb9); clear ho9 hb9)
      | (go_at_call 43; refine (sackbutref01_Bytes.calls 300 t (pack cs) _ HY.out).mono ?_; rintro e w10 ⟨v10, rfl, hr10, hb10⟩; have hcv10 := HCS.out _ _ _ _ (Kd.own_of_R hr10); (try have hcv9' := HCS.out _ _ _ _ (own_below HO9.out hb10)); have HO10 := Aside0.mk (Kd.own_of_R hr10); replace HBd := Aside0.mk (below_then HBd.out HBd.out.size hb10); replace HOd := Aside0.mk (own_below HOd.out hb10); replace HId := Aside0.mk (isWr_below HId.out hb10); clear hr10 hb10))
    all_goals (go_wp2_with fail; go_meet; exact ⟨by first | rfl | (simp; done), HId, HBd, HOd⟩)
  case rest =>
    obtain ⟨rfl, HI5, HB5, HO5⟩ := hcut
    clear HB3 HB4 HI3 HO3 HW2 HCS HY
    go_wp2_with fail
    (with_reducible refine (wr_Align w wc _ _ _ HB5.out HI5.out (by have := HLC.out; omega)).mono ?_)
    rintro e w6 ⟨rfl, v6, hi6, hs6⟩
    have HI6 := Aside0.mk hi6
    have HB6 := Aside0.mk hs6.below
    have HO6 := Aside0.mk (own_step HO5.out hs6 HI5.out (by decide) (by decide))
    clear hi6 hs6 HI5 HB5 HO5
    go_wp2_with fail
    (with_reducible refine (wr_Bytes w w6 _ _ _ HI6.out (by rw [alignB_length]; have := HLC.out; omega)).mono ?_)
    rintro e w7 ⟨v7, rfl, ho7, hb7⟩
    rw [pack_align] at ho7
    have HB7 := Aside0.mk (below_then HB6.out HB6.out.size hb7)
    have HO7 := Aside0.mk (own_below HO6.out hb7)
    have HA7 := Aside0.mk (Kd.reads_of_C (enc := Value.int .u8) (d := (0 : Int)) (h1 := fun _ => rfl) (Kd.C_below HAA.out HB7.out))
    obtain ⟨A7, c7, rfl⟩ := own_slice ho7
    have HOB := Aside0.mk ho7
    have HBB := Aside0.mk hb7
    have hsz7 := hb7.size
    clear ho7 hb7 HI6 HO6
    go_wp2_with (at_builtin; refine print_append_row (w0 := w6) w6.heap.size rfl _ _ 58 5 .u8 1 rfl Try.underlying58 wr_info (by decide) (.slice A7 (pack cs).length c7) (pack cs) more A more.length c rfl rfl HOB.out HA7.out HBB.out hsz7 ?c1 ?_)
    case c1 => have := HPL.out; have := HLM.out; omega
    intro v8 w8 hown8 hB8 hgr8 _
    have HB8 := Aside0.mk (below_then HB6.out HB6.out.size hB8)
    have HO8 := Aside0.mk (own_move (w1 := w8) HO7.out fun k hk => hgr8.block k (own_lt HO7.out k hk) (by
      intro e
      obtain ⟨ds, hd⟩ := own_block HO7.out k hk
      obtain ⟨ds2, hd2⟩ := own_block HOB.out k e.symm
      rw [hd] at hd2
      injection hd2 with hd2
      injection hd2 with _ he _
      revert he
      decide))
    have hpl : (pack cs).length + more.length = (pack cs ++ more).length := (List.length_append ..).symm
    rw [hpl] at hown8
    obtain ⟨B, hBe⟩ : ∃ B, putB cs more = B := ⟨_, rfl⟩
    have hBe2 : pack cs ++ more = B := hBe
    rw [hBe2] at hown8
    rw [hBe] at HT HAL HQ
    clear hBe hBe2 hpl
    obtain ⟨A8, c8, rfl, hle8, hC8⟩ := owns_reads hown8
    have HC8 := Aside0.mk hC8
    have HL8 := Aside0.mk hle8
    clear hown8 hB8 hgr8 hC8 hle8 HO7 HOB HBB HB7 HA7 hsz7 HB6
    go_wp2_with fail
    (with_reducible refine (pipe_Open.calls A8 c8 B B 0 0 w8 _ (Below.refl _ _) HC8.out HL8.out rfl).mono ?_)
    rintro e w9 ⟨g9, rfl, hr9, hb9, hbb9⟩
    have HR9 := Aside0.mk hr9
    have HBR9 := Aside0.mk hb9
    have HO9 := Aside0.mk (own_below HO8.out hbb9)
    clear hr9 hb9 hbb9 HO8 HC8 HL8
    go_wp2_with fail
    (with_reducible refine (tree_Take.calls g9 B 0 0 z t l p 0 w8 w9 HR9.out HBR9.out HT.out).mono ?_)
    rintro e w10 ⟨v10, rfl, ho10, hr10, hb10, hk10⟩
    have HR10 := Aside0.mk hr10
    have HBR10 := Aside0.mk hb10
    have HO10 := Aside0.mk (own_keep HO9.out hk10 HR9.out (by decide))
    have HM10 := Aside0.mk (Kd.own_of_R ho10)
    clear ho10 hr10 hb10 hk10 HR9 HBR9 HO9
    go_wp2_with fail
    (with_reducible refine (pipe_Reader_Align.calls 100 g9 B p 0 q 0 w8 w10 HR10.out HBR10.out HAL.out).mono ?_)
    rintro e w11 ⟨rfl, hr11, hb11, hk11⟩
    have HR11 := Aside0.mk hr11
    have HBR11 := Aside0.mk hb11
    have HO11 := Aside0.mk (own_keep HO10.out hk11 HR10.out (by decide))
    have HM11 := Aside0.mk (own_keep HM10.out hk11 HR10.out (by decide))
    clear hr11 hb11 hk11 HR10 HBR10 HO10 HM10
    go_wp2_with fail
    (with_reducible refine (pipe_Reader_Fail.calls g9 B q 0 0 q 0 w8 w11 HR11.out HBR11.out rfl).mono ?_)
    rintro e w12 ⟨rfl, hr12, hb12, hk12⟩
    have HR12 := Aside0.mk hr12
    have HBR12 := Aside0.mk hb12
    have HO12 := own_keep HO11.out hk12 HR11.out (by decide)
    have HM12 := own_keep HM11.out hk12 HR11.out (by decide)
    obtain ⟨Am, cm, rfl, hlm, hCm⟩ := owns_readsI HM12
    obtain ⟨Al, cl, rfl, hlx, hCl⟩ := owns_readsI HO12
    have HCM := Aside0.mk hCm
    have HCL := Aside0.mk hCl
    have HLX := Aside0.mk hlm
    have HLY := Aside0.mk hlx
    clear hr12 hb12 hk12 HR11 HBR11 HO11 HM11 HO12 HM12 hCm hCl hlm hlx
    go_wp2_with fail
    (with_reducible refine (sackbutref01_Same.calls 100 Am cm l Al cl l _ _ HCM.out HLX.out HCL.out HLY.out HSM.out).mono ?_)
    rintro e w13 ⟨rfl, hd13⟩
    have HR13 := Aside0.mk (HR12.out.below hd13.below)
    have HBR13 := Aside0.mk (below_then HBR12.out HBR12.out.size hd13.below)
    clear hd13 HR12 HBR12
    go_wp2_with fail
    (with_reducible refine (pipe_Reader_Left.calls g9 B q 0 (8 * (more.length : Int)) q 0 w8 w13 HR13.out HBR13.out HQ.out).mono ?_)
    rintro e w14 ⟨rfl, hr14, hb14, hk14⟩
    have HBR14 := Aside0.mk hb14
    clear hr14 hb14 hk14
    have hm20 : (more.length : Int) ≤ 20 := by have := HLM.out; omega
    go_wp2
    go_ret
    exact ⟨by first | rfl | (simp; done), HB8.out.trans (HBR14.out.mono HB8.out.size)⟩
theorem sackbutlaw09_TreePuts.calls (a0 : ByteArray) (a1 : Int) (A2 : Option Addr) (c2 : Nat) (l2 : List Int) (r : Bool) (w : World) (hr2 : Kd.C (Kd.int .u8) w A2 l2.length l2) (hc2 : l2.length ≤ c2) (h : sackbutlaw09_TreePuts.f a0 a1 l2 = some r) :
    Calls Try.prog 13 #[.string a0, .int .i64 a1, .slice A2 l2.length c2] w fun e w' => e = .returned (.bool r) ∧ Below w.heap.size w w' := by
  unfold sackbutlaw09_TreePuts.f at h
  by_cases ha : l2.all (fun x => decide (0 ≤ x) && decide (x ≤ 255)) = true
  case neg => rw [if_neg ha] at h; cases h
  rw [if_pos ha] at h
  cases h
  have h8 := all8 ha
  by_cases h0 : 200 < a0.size
  · exact puts_long a0 a1 A2 c2 l2 w h0
  by_cases h1 : 20 < l2.length
  · exact puts_more a0 a1 A2 c2 l2 w (by omega) h1
  by_cases hz : a1 < 1 ∨ 1024 < a1
  · exact puts_no a0 a1 A2 c2 l2 [] 1 w (by omega) (by omega) (by unfold tree_Leaves.f; rw [if_pos hz]) (by omega)
  · rcases leaves_ok a0 (z := a1) (by omega) (by omega) with ⟨τ, e1, e2⟩ | ⟨_, e2⟩
    · obtain ⟨cs, rfl, he, hk⟩ := tree_text e1
      have hcl : cs.length ≤ 200 := by rw [txt_size] at h0; omega
      have hll := leavesT_length _ _ _ hk
      obtain ⟨p, q, ht, hal, hq⟩ := put_taken h8 (by omega) hcl (by omega) (by omega) he hk
      exact puts_yes cs a1 A2 c2 l2 (leavesT a1 τ) p q w hcl (by omega) hll hr2 hc2 e2 ht hal hq
    · exact puts_no a0 a1 A2 c2 l2 [] 10 w (by omega) (by omega) e2 (by omega)
end Go.Proofs.Ytlebgjcpidpgnaa.P
