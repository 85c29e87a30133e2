/- The law SlideWhole, walked. -/
import Derived.Test.YteoncgijnkfhfaaKePx0
import Derived.Test.YteoncgijnkfhfaaKeHSPut
import Derived.Test.YteoncgijnkfhfaaKeHSBest
import Derived.Test.YteoncgijnkfhfaaKeHSAwake
import Derived.Test.YteoncgijnkfhfaaKeHLen
import Derived.Test.YteoncgijnkfhfaaKePx5
import Derived.Test.YteoncgijnkfhfaaKePx7
import Derived.Test.YteoncgijnkfhfaaKePx3
import Derived.Test.YteoncgijnkfhfaaKePx1
import Derived.Test.YteoncgijnkfhfaaKeUTools
import Derived.Test.YteoncgijnkfhfaaKeUSlide
import Derived.Test.YteoncgijnkfhfaaKeURiceCodeZ
namespace Go.Proofs.Yteoncgijnkfhfaa.P
open Go.RowKit Go.Proofs.YteoncgijnkfhfaaW.PrintWords Go.Proofs.YteoncgijnkfhfaaW.PrintLast Go.Proofs.YteoncgijnkfhfaaW.PrintMore Go.Proofs.Yteoncgijnkfhfaa.Pure
set_option linter.unusedVariables false
set_option linter.unusedSimpArgs false

def sackbutlaw03_SlideWhole.f (l more : List Int) : Option Bool := if more.all (fun x => decide (0 ≤ x) && decide (x ≤ 255)) = true then some true else none
theorem all8W {more : List Int} (h : more.all (fun x => decide (0 ≤ x) && decide (x ≤ 255)) = true) : Bytes8 more := by
  intro x hx
  have := List.all_eq_true.mp h x hx
  simpa using this
set_option maxHeartbeats 8000000 in
set_option maxRecDepth 100000 in
theorem whole_long (A0 : Option Addr) (c0 : Nat) (l : List Int) (A1 : Option Addr) (c1 : Nat) (more : List Int) (w : World) (h : 64 < l.length) :
    Calls Try.prog 8 #[.slice A0 l.length c0, .slice A1 more.length c1] w fun e w' => e = .returned (.bool true) ∧ Below w.heap.size w w' := by
  have hd : decide ((64 : Int) < (l.length : Int)) = true := by simp; omega
  clear h
  go_enter Try.func8, Try.ntmps8
  go_wp2_with fail
  (with_reducible refine (sackbutlaw03_awake.calls true _ rfl).mono ?_)
  rintro e w1 ⟨rfl, hb1⟩
  have HB1 := Aside0.mk hb1
  clear hb1
  go_wp2_with fail
  (with_reducible refine (sackbutlaw03_awake.calls true _ rfl).mono ?_)
  rintro e w2 ⟨rfl, hb2⟩
  have HB2 := Aside0.mk (below_then HB1.out HB1.out.size hb2)
  clear hb2
  go_wp2
  go_ret
  exact ⟨rfl, HB2.out⟩
set_option maxHeartbeats 8000000 in
set_option maxRecDepth 100000 in
theorem whole_bad (A0 : Option Addr) (c0 : Nat) (l : List Int) (A1 : Option Addr) (c1 : Nat) (more : List Int) (w : World) (hr : Kd.C (Kd.int .i64) w A0 l.length l) (hc : l.length ≤ c0) (h : l.length ≤ 64) (hz : listZ l = false) :
    Calls Try.prog 8 #[.slice A0 l.length c0, .slice A1 more.length c1] w fun e w' => e = .returned (.bool true) ∧ Below w.heap.size w w' := by
  have hd : decide ((64 : Int) < (l.length : Int)) = false := by simp; omega
  have hrl := refList_ok (k := 5000) (l := l) (by omega) (by omega)
  rw [hz] at hrl
  have HRL := Aside0.mk hrl
  have HR := Aside0.mk hr
  have HC := Aside0.mk hc
  clear h hz hrl hr hc
  go_enter Try.func8, Try.ntmps8
  go_wp2_with fail
  (with_reducible refine (sackbutlaw03_awake.calls true _ rfl).mono ?_)
  rintro e w1 ⟨rfl, hb1⟩
  have HB1 := Aside0.mk hb1
  clear hb1
  go_wp2_with fail
  (with_reducible refine (sackbutref03_List.calls 5000 A0 c0 l false _ (Kd.C_below HR.out HB1.out) HC.out HRL.out).mono ?_)
  rintro e w2 ⟨rfl, hd2⟩
  have HB2 := Aside0.mk (below_then HB1.out HB1.out.size hd2.below)
  clear hd2
  go_wp2_with fail
  (with_reducible refine (sackbutlaw03_awake.calls true _ rfl).mono ?_)
  rintro e w3 ⟨rfl, hb3⟩
  have HB3 := Aside0.mk (below_then HB2.out HB2.out.size hb3)
  clear hb3
  go_wp2
  go_ret
  exact ⟨rfl, HB3.out⟩
set_option maxHeartbeats 8000000 in
set_option maxRecDepth 100000 in
theorem whole_more (A0 : Option Addr) (c0 : Nat) (l : List Int) (A1 : Option Addr) (c1 : Nat) (more : List Int) (w : World) (hr : Kd.C (Kd.int .i64) w A0 l.length l) (hc : l.length ≤ c0) (h : l.length ≤ 64) (hz : listZ l = true) (hm : 50 < more.length) :
    Calls Try.prog 8 #[.slice A0 l.length c0, .slice A1 more.length c1] w fun e w' => e = .returned (.bool true) ∧ Below w.heap.size w w' := by
  have hd : decide ((64 : Int) < (l.length : Int)) = false := by simp; omega
  have hdm : decide ((50 : Int) < (more.length : Int)) = true := by simp; omega
  have hrl := refList_ok (k := 5000) (l := l) (by omega) (by omega)
  rw [hz] at hrl
  have HRL := Aside0.mk hrl
  have HR := Aside0.mk hr
  have HC := Aside0.mk hc
  clear h hz hrl hr hc hm
  go_enter Try.func8, Try.ntmps8
  go_wp2_with fail
  (with_reducible refine (sackbutlaw03_awake.calls true _ rfl).mono ?_)
  rintro e w1 ⟨rfl, hb1⟩
  have HB1 := Aside0.mk hb1
  clear hb1
  go_wp2_with fail
  (with_reducible refine (sackbutref03_List.calls 5000 A0 c0 l true _ (Kd.C_below HR.out HB1.out) HC.out HRL.out).mono ?_)
  rintro e w2 ⟨rfl, hd2⟩
  have HB2 := Aside0.mk (below_then HB1.out HB1.out.size hd2.below)
  clear hd2
  go_wp2_with fail
  (with_reducible refine (sackbutlaw03_awake.calls true _ rfl).mono ?_)
  rintro e w3 ⟨rfl, hb3⟩
  have HB3 := Aside0.mk (below_then HB2.out HB2.out.size hb3)
  clear hb3
  go_wp2
  go_ret
  exact ⟨rfl, HB3.out⟩
theorem own_keepW {w0 w w' : World} {g e size n base : Nat} {u : Value} {xs : List Value} {b : List Int} {p q : Int} (h : w.ownsRow base e size u n xs) (s : KeepBut w w' g none) (hr : IsS74 w0 w g b p q) (h1 : e ≠ 74) : w'.ownsRow base e size u n xs := by
  obtain ⟨A, c, hb, _⟩ := hr
  refine own_move h fun k hk => s.2 k (own_lt h k hk) ?_ (by simp)
  rintro rfl
  exact own_ne h hb h1 hk.symm
theorem blk_keepW {w0 w w' : World} {g k t : Nat} {cs : Array Value} {b : List Int} {p q : Int} (h : w.heap[k]? = some (.cells cs t (0, 0))) (s : KeepBut w w' g none) (hr : IsS74 w0 w g b p q) (h1 : t ≠ 74) : w'.heap[k]? = some (.cells cs t (0, 0)) := by
  obtain ⟨A, c, hb, _⟩ := hr
  exact (s.2 k (blk_lt h) (fun e => blk_ne h hb h1 e) (by simp)).trans h
theorem owns_readsW {w : World} {base : Nat} {v : Value} {l : List Int} (h : w.ownsRow base 3 1 v l.length (nums .i64 l)) : ∃ A c, v = .slice A l.length c ∧ l.length ≤ c ∧ Kd.C (Kd.int .i64) w A l.length l := by
  obtain ⟨A, c, rfl, hr⟩ := own_reads h
  exact ⟨A, c, rfl, own_le h, Kd.C_of_reads (d := (0 : Int)) (h1 := fun _ => rfl) hr⟩
theorem owns_reads8 {w : World} {base : Nat} {v : Value} {l : List Int} (h : w.ownsRow base 5 1 v l.length (nums .u8 l)) : ∃ A c, v = .slice A l.length c ∧ l.length ≤ c ∧ Kd.C (Kd.int .u8) w A l.length l := by
  obtain ⟨A, c, rfl, hr⟩ := own_reads h
  exact ⟨A, c, rfl, own_le h, Kd.C_of_reads (d := (0 : Int)) (h1 := fun _ => rfl) hr⟩
theorem own_stepW {w0 w w' : World} {g e size n base : Nat} {v v' u : Value} {l : List Bool} {xs : List Value} (h : w.ownsRow base e size u n xs) (s : WrStep w0 w w' g v v') (hw : IsWr w0 w g v l) (h1 : e ≠ 56) (h2 : e ≠ 5) : w'.ownsRow base e size u n xs := by
  refine own_move h fun k hk => s.kept.2 k (own_lt h k hk) ?_
  obtain ⟨ds, hd⟩ := own_blockP h k hk
  rintro (rfl | hv)
  · exact own_ne h hw.1 h1 hk.symm
  · obtain ⟨ds2, hd2⟩ := own_blockP hw.2.2 k hv.symm
    rw [hd] at hd2
    injection hd2 with hd2
    injection hd2 with _ he _
    exact h2 he
set_option maxHeartbeats 8000000 in
set_option maxRecDepth 100000 in
theorem whole_main (A : Addr) (c0 : Nat) (l : List Int) (A1 : Option Addr) (c1 : Nat) (more : List Int) (P n p q : Int) (ks : List Int) (cs : List Bool) (w : World) (hr : Kd.C (Kd.int .i64) w (some A) l.length l) (hc : l.length ≤ c0) (h : l.length ≤ 64) (hz : listZ l = true) (hm : more.length ≤ 50)
    (hr1 : Kd.C (Kd.int .u8) w A1 more.length more) (hc1 : more.length ≤ c1) (hbest : slide_Best.f 5000 l = some (P, ks, n)) (hgd : goodP P ks l = true) (hcs : bitsOf P 2 ++ slideBits ks l (l.length / 2 ^ P.toNat) ks.length = cs) (hcn : (cs.length : Int) = n) (hcl : cs.length ≤ 6000)
    (htake : slide_Take.f 200000 (putS cs more) 0 0 l.length = some (l, P, ks, p, 0)) (hal : pipe_Reader_Align.f 100 (putS cs more) p 0 = some (q, 0)) (hleft : pipe_Reader_Left.f (putS cs more) q 0 = some (8 * (more.length : Int), q, 0)) (hsm : sackbutref01_Same.f 5000 l l = some true) (hsk : sackbutref03_Same.f 5000 P ks P ks = some true) :
    Calls Try.prog 8 #[.slice (some A) l.length c0, .slice A1 more.length c1] w fun e w' => e = .returned (.bool true) ∧ Below w.heap.size w w' := by
  subst hcn
  have hd : decide ((64 : Int) < (l.length : Int)) = false := by simp; omega
  have hdm : decide ((50 : Int) < (more.length : Int)) = false := by simp; omega
  have hrl := refList_ok (k := 5000) (l := l) (by omega) (by omega)
  rw [hz] at hrl
  have HRL := Aside0.mk hrl
  have HR := Aside0.mk hr
  have HC := Aside0.mk hc
  have HR1 := Aside0.mk hr1
  have HC1 := Aside0.mk hc1
  have HBEST := Aside0.mk hbest
  have HGD := Aside0.mk hgd
  have HCS := Aside0.mk hcs
  have HCL := Aside0.mk hcl
  have HT := Aside0.mk htake
  have HAL := Aside0.mk hal
  have HQ := Aside0.mk hleft
  have HSM := Aside0.mk hsm
  have HSK := Aside0.mk hsk
  have HM := Aside0.mk hm
  have hl1 : 1 ≤ l.length := ((listZ_iff (l := l)).mp hz).2.1
  have HAB : Aside0 (A.block < w.heap.size) := ⟨by
    obtain ⟨ad, he, hcell⟩ := Kd.at_int hr 0 (by omega) (by omega)
    obtain rfl : A = ad := by injection he
    have := World.block_lt_of_cell? w _ hcell
    rwa [addBS] at this⟩
  clear hl1 h hz hrl hr hc hm hr1 hc1 hbest hgd hcs hcl htake hal hleft hsm hsk
  go_enter Try.func8, Try.ntmps8
  go_wp2_with fail
  (with_reducible refine (sackbutlaw03_awake.calls true _ rfl).mono ?_)
  rintro e w1 ⟨rfl, hb1⟩
  have HB1 := Aside0.mk hb1
  clear hb1
  go_wp2_with fail
  (with_reducible refine (sackbutref03_List.calls 5000 (some A) c0 l true _ (Kd.C_below HR.out HB1.out) HC.out HRL.out).mono ?_)
  rintro e w2 ⟨rfl, hd2⟩
  have HB2 := Aside0.mk (below_then HB1.out HB1.out.size hd2.below)
  clear hd2 HB1
  go_wp2_with fail
  (with_reducible refine (slide_Best.calls 5000 (some A) c0 l P ks (cs.length : Int) w2 (Kd.C_below HR.out HB2.out) HC.out HBEST.out).mono ?_)
  rintro e w3 ⟨v3, rfl, hr3, hb3⟩
  have ho3 := Kd.own_of_R hr3
  obtain ⟨Ak, ck, rfl, hck, hCk⟩ := owns_readsW ho3
  have HB3 := Aside0.mk (below_then HB2.out HB2.out.size hb3)
  have HO3 := Aside0.mk (own_weaken ho3 HB2.out.size)
  have HCK := Aside0.mk hck
  clear hr3 hb3 ho3 hCk hck HB2
  go_upto_region 5 with fail
  have hX4 := blk_alloc (blk_new w3 (.cells #[.int .i64 P, .slice Ak ks.length ck] 24)) (.cells #[.slice none 0 0, .int .i64 0] 56)
  have hB3 := below_alloc HB3.out (.cells #[.int .i64 P, .slice Ak ks.length ck] 24)
  have hW4 := isWr_new w (w3.alloc (.cells #[.int .i64 P, .slice Ak ks.length ck] 24)) hB3
  have hB4 := below_alloc hB3 (.cells #[.slice none 0 0, .int .i64 0] 56)
  have hO4 := (HO3.out.alloc (.cells #[.int .i64 P, .slice Ak ks.length ck] 24)).alloc (.cells #[.slice none 0 0, .int .i64 0] 56)
  rw [World.size_alloc] at hW4
  have hsz : w.heap.size ≤ w3.heap.size := HB3.out.size
  generalize (w3.alloc (.cells #[.int .i64 P, .slice Ak ks.length ck] 24)).alloc (.cells #[.slice none 0 0, .int .i64 0] 56) = w4 at hX4 hW4 hB4 hO4 ⊢
  obtain ⟨b5, hb5⟩ : ∃ q, w3.heap.size = q := ⟨_, rfl⟩
  obtain ⟨g, hg⟩ : ∃ q, b5 + 1 = q := ⟨_, rfl⟩
  rw [hb5] at hX4 hW4 ⊢
  rw [hg] at hW4 ⊢
  have hgl : w.heap.size < g := by omega
  have hput := wr_slidePut w w4 g (.slice none 0 0) [] A c0 l P Ak ck ks hB4 hW4 (by simp) (Kd.C_below HR.out hB4) HC.out (by
      obtain ⟨A', c', he, _, hC⟩ := owns_readsW hO4
      cases he
      exact hC) HCK.out HGD.out ⟨by have := HAB.out; omega, by simp [Value.ownBlock]⟩ (fun ad he => by
      subst he
      exact ⟨fun e => own_ne hO4 hW4.1 (by decide) (by rw [← e]; rfl), by simp [Value.ownBlock]⟩)
  rw [List.nil_append, HCS.out] at hput
  have HPUT := Aside0.mk hput
  have HX4 := Aside0.mk hX4
  have HW4 := Aside0.mk hW4
  have HO4 := Aside0.mk hO4
  have hx5a := (blk_cell HX4.out 0).trans rfl
  have hx5b := (blk_cell HX4.out 1).trans rfl
  clear hX4 hW4 hB4 hO4 hput hB3 hsz hb5 hg hgl HO3 HB3
  go_wp2_with fail
  (with_reducible refine HPUT.out.mono ?_)
  rintro e w5 ⟨rfl, v5, hi5, hs5⟩
  have HI5 := Aside0.mk hi5
  have HB5 := Aside0.mk hs5.below
  have HX5 := Aside0.mk (wr_keep hs5 HW4.out HX4.out (by decide) (by decide))
  have HO5 := Aside0.mk (own_stepW HO4.out hs5 HW4.out (by decide) (by decide))
  clear hi5 hs5 hx5a hx5b HPUT HX4 HW4 HO4
  go_wp2_with fail
  (with_reducible refine (wr_Len w _ _ _ _ HI5.out).mono ?_)
  rintro e w6 ⟨rfl, rfl⟩
  go_wp2_with fail
  (with_reducible refine (wr_Align w w5 _ _ _ HB5.out HI5.out (by have := HCL.out; omega)).mono ?_)
  rintro e w6 ⟨rfl, v6, hi6, hs6⟩
  have HI6 := Aside0.mk hi6
  have HB6 := Aside0.mk hs6.below
  have HX6 := Aside0.mk (wr_keep hs6 HI5.out HX5.out (by decide) (by decide))
  have HO6 := Aside0.mk (own_stepW HO5.out hs6 HI5.out (by decide) (by decide))
  clear hi6 hs6 HI5 HB5 HX5 HO5
  go_wp2_with fail
  (with_reducible refine (wr_Bytes w w6 _ _ _ HI6.out (by rw [alignB_length]; have := HCL.out; omega)).mono ?_)
  rintro e w7 ⟨v7, rfl, ho7, hb7⟩
  rw [pack_align] at ho7
  have HB7 := Aside0.mk (below_then HB6.out HB6.out.size hb7)
  have HO7 := Aside0.mk (own_below HO6.out hb7)
  have HX7 := Aside0.mk (blk_below HX6.out hb7)
  have HA7 := Aside0.mk (Kd.reads_of_C (enc := Value.int .u8) (d := (0 : Int)) (h1 := fun _ => rfl) (Kd.C_below HR1.out HB7.out))
  have HPL := Aside0.mk (show (pack cs).length ≤ 1000 by rw [pack_length]; have := HCL.out; omega)
  obtain ⟨A7, c7, rfl⟩ := own_slice ho7
  have HOB := Aside0.mk ho7
  have HBB := Aside0.mk hb7
  have hsz7 := hb7.size
  clear ho7 hb7 HI6 HO6 HX6
  go_wp2_with (at_builtin; refine print_append_row (w0 := w6) w6.heap.size rfl _ _ 38 5 .u8 1 rfl Try.underlying38 wr_info (by decide) (.slice A7 (pack cs).length c7) (pack cs) more A1 more.length c1 rfl rfl HOB.out HA7.out HBB.out hsz7 ?c1 ?_)
  case c1 => have := HPL.out; have := HM.out; omega
  intro v8 w8 hown8 hB8 hgr8 _
  have HB8 := Aside0.mk (below_then HB6.out HB6.out.size hB8)
  have HO8 := Aside0.mk (own_move (w1 := w8) HO7.out fun k hk => hgr8.block k (own_lt HO7.out k hk) (by
    intro e
    obtain ⟨ds, hd⟩ := own_blockP HO7.out k hk
    obtain ⟨ds2, hd2⟩ := own_blockP HOB.out k e.symm
    rw [hd] at hd2
    injection hd2 with hd2
    injection hd2 with _ he _
    revert he
    decide))
  have HX8 := Aside0.mk ((hgr8.block _ (blk_lt HX7.out) (own_ne HOB.out HX7.out (by decide))).trans HX7.out)
  have hpl : (pack cs).length + more.length = (pack cs ++ more).length := (List.length_append ..).symm
  rw [hpl] at hown8
  obtain ⟨B, hBe⟩ : ∃ B, putS cs more = B := ⟨_, rfl⟩
  have hBe2 : pack cs ++ more = B := hBe
  rw [hBe2] at hown8
  rw [hBe] at HT HAL HQ
  clear hBe hBe2 hpl
  obtain ⟨A8, c8, rfl, hle8, hC8⟩ := owns_reads8 hown8
  have HC8 := Aside0.mk hC8
  have HL8 := Aside0.mk hle8
  clear hown8 hB8 hgr8 hC8 hle8 HO7 HOB HBB HB7 HA7 hsz7 HB6 HX7
  go_wp2_with fail
  (with_reducible refine (pipe_Open.calls A8 c8 B B 0 0 w8 _ (Below.refl _ _) HC8.out HL8.out rfl).mono ?_)
  rintro e w9 ⟨g9, rfl, hr9, hb9, hbb9⟩
  have HR9 := Aside0.mk hr9
  have HBR9 := Aside0.mk hb9
  have HO9 := Aside0.mk (own_below HO8.out hbb9)
  have HX9 := Aside0.mk (blk_below HX8.out hbb9)
  clear hr9 hb9 hbb9 HO8 HC8 HL8 HX8
  go_wp2_with fail
  (with_reducible refine (slide_Take.calls 200000 g9 B 0 0 (l.length : Int) l P ks p 0 w8 w9 HR9.out HBR9.out HT.out).mono ?_)
  rintro e w10 ⟨v10, v11, rfl, hra, hrb, hr10, hb10, hk10⟩
  have HO10 := own_keepW HO9.out hk10 HR9.out (by decide)
  have HX10 := blk_keepW HX9.out hk10 HR9.out (by decide)
  have hM10 := Kd.own_of_R hra
  have hN10 := Kd.own_of_R hrb
  obtain ⟨Am, cm, rfl⟩ := own_slice hM10
  obtain ⟨An, cn, rfl⟩ := own_slice hN10
  have HR11 := Aside0.mk (hr10.alloc (.cells #[.int .i64 P, .slice An ks.length cn] 24))
  have HBR11 := Aside0.mk (below_alloc hb10 (.cells #[.int .i64 P, .slice An ks.length cn] 24))
  have HO11 := Aside0.mk (HO10.alloc (.cells #[.int .i64 P, .slice An ks.length cn] 24))
  have HM11 := Aside0.mk (hM10.alloc (.cells #[.int .i64 P, .slice An ks.length cn] 24))
  have HN11 := Aside0.mk (hN10.alloc (.cells #[.int .i64 P, .slice An ks.length cn] 24))
  have HX11 := Aside0.mk (blk_alloc HX10 (.cells #[.int .i64 P, .slice An ks.length cn] 24))
  have HY11 := Aside0.mk (blk_new w10 (.cells #[.int .i64 P, .slice An ks.length cn] 24))
  clear hra hrb hr10 hb10 hk10 HR9 HBR9 HO9 HX9 HO10 HX10 hM10 hN10
  go_wp2_with fail
  generalize w10.alloc (.cells #[.int .i64 P, .slice An ks.length cn] 24) = w11 at HR11 HBR11 HO11 HM11 HN11 HX11 HY11 ⊢
  obtain ⟨b10, hb10⟩ : ∃ q, w10.heap.size = q := ⟨_, rfl⟩
  rw [hb10] at HY11 ⊢
  clear hb10
  (with_reducible refine (pipe_Reader_Align.calls 100 g9 B p 0 q 0 w8 w11 HR11.out HBR11.out HAL.out).mono ?_)
  rintro e w12 ⟨rfl, hr12, hb12, hk12⟩
  have HR12 := Aside0.mk hr12
  have HBR12 := Aside0.mk hb12
  have HO12 := Aside0.mk (own_keepW HO11.out hk12 HR11.out (by decide))
  have HM12 := Aside0.mk (own_keepW HM11.out hk12 HR11.out (by decide))
  have HN12 := Aside0.mk (own_keepW HN11.out hk12 HR11.out (by decide))
  have HX12 := Aside0.mk (blk_keepW HX11.out hk12 HR11.out (by decide))
  have HY12 := Aside0.mk (blk_keepW HY11.out hk12 HR11.out (by decide))
  clear hr12 hb12 hk12 HR11 HBR11 HO11 HM11 HN11 HX11 HY11
  go_wp2_with fail
  (with_reducible refine (pipe_Reader_Fail.calls g9 B q 0 0 q 0 w8 w12 HR12.out HBR12.out rfl).mono ?_)
  rintro e w13 ⟨rfl, hr13, hb13, hk13⟩
  have HR13 := Aside0.mk hr13
  have HBR13 := Aside0.mk hb13
  have HO13 := Aside0.mk (own_keepW HO12.out hk13 HR12.out (by decide))
  have HM13 := Aside0.mk (own_keepW HM12.out hk13 HR12.out (by decide))
  have HN13 := Aside0.mk (own_keepW HN12.out hk13 HR12.out (by decide))
  have HX13 := Aside0.mk (blk_keepW HX12.out hk13 HR12.out (by decide))
  have HY13 := Aside0.mk (blk_keepW HY12.out hk13 HR12.out (by decide))
  clear hr13 hb13 hk13 HR12 HBR12 HO12 HM12 HN12 HX12 HY12
  go_wp2_with fail
  (with_reducible refine (pipe_Reader_Left.calls g9 B q 0 (8 * (more.length : Int)) q 0 w8 w13 HR13.out HBR13.out HQ.out).mono ?_)
  rintro e w14 ⟨rfl, hr14, hb14, hk14⟩
  have HBR14 := Aside0.mk hb14
  have hO14 := own_keepW HO13.out hk14 HR13.out (by decide)
  have hM14 := own_keepW HM13.out hk14 HR13.out (by decide)
  have hN14 := own_keepW HN13.out hk14 HR13.out (by decide)
  have HX14 := Aside0.mk (blk_keepW HX13.out hk14 HR13.out (by decide))
  have HY14 := Aside0.mk (blk_keepW HY13.out hk14 HR13.out (by decide))
  have HCm : Aside0 (Kd.C (Kd.int .i64) w14 Am l.length l ∧ l.length ≤ cm) := ⟨by
    obtain ⟨A', c', he, h1, h2⟩ := owns_readsW hM14
    cases he
    exact ⟨h2, h1⟩⟩
  have HCn : Aside0 (Kd.C (Kd.int .i64) w14 An ks.length ks ∧ ks.length ≤ cn) := ⟨by
    obtain ⟨A', c', he, h1, h2⟩ := owns_readsW hN14
    cases he
    exact ⟨h2, h1⟩⟩
  have HCk : Aside0 (Kd.C (Kd.int .i64) w14 Ak ks.length ks ∧ ks.length ≤ ck) := ⟨by
    obtain ⟨A', c', he, h1, h2⟩ := owns_readsW hO14
    cases he
    exact ⟨h2, h1⟩⟩
  have HBL := Aside0.mk (HB8.out.trans (HBR14.out.mono HB8.out.size))
  have hm50 : (more.length : Int) ≤ 50 := by have := HM.out; omega
  clear hr14 hb14 hk14 HR13 HBR13 HO13 HM13 HN13 HX13 HY13 hO14 hM14 hN14
  go_wp2_with fail
  (with_reducible refine (sackbutref01_Same.calls 5000 Am cm l (some A) c0 l true _ HCm.out.1 HCm.out.2 (Kd.C_below HR.out HBL.out) HC.out HSM.out).mono ?_)
  rintro e w15 ⟨rfl, hd15⟩
  have hb15 := hd15.below
  have HX15 := Aside0.mk (blk_below HX14.out hb15)
  have HY15 := Aside0.mk (blk_below HY14.out hb15)
  have HCn15 := Aside0.mk (Kd.C_below HCn.out.1 hb15)
  have HCk15 := Aside0.mk (Kd.C_below HCk.out.1 hb15)
  have HBL15 := Aside0.mk (below_then HBL.out HBL.out.size hb15)
  have hx5a := (blk_cell HX15.out 0).trans rfl
  have hx5b := (blk_cell HX15.out 1).trans rfl
  have hy5a := (blk_cell HY15.out 0).trans rfl
  have hy5b := (blk_cell HY15.out 1).trans rfl
  clear hd15 hb15 HX14 HY14 HBL
  go_wp2_with fail
  (with_reducible refine (sackbutref03_Same.calls 5000 P An cn ks P Ak ck ks true _ HCn15.out HCn.out.2 HCk15.out HCk.out.2 HSK.out).mono ?_)
  rintro e w16 ⟨rfl, hb16⟩
  have HBL16 := Aside0.mk (below_then HBL15.out HBL15.out.size hb16)
  clear hb16
  go_wp2
  go_ret
  exact ⟨by first | rfl | (simp; done), HBL16.out⟩
theorem sackbutlaw03_SlideWhole.calls (A0 : Option Addr) (c0 : Nat) (l0 : List Int) (A1 : Option Addr) (c1 : Nat) (l1 : List Int) (r : Bool) (w : World) (hr0 : Kd.C (Kd.int .i64) w A0 l0.length l0) (hc0 : l0.length ≤ c0) (hr1 : Kd.C (Kd.int .u8) w A1 l1.length l1) (hc1 : l1.length ≤ c1) (h : sackbutlaw03_SlideWhole.f l0 l1 = some r) :
    Calls Try.prog 8 #[.slice A0 l0.length c0, .slice A1 l1.length c1] w fun e w' => e = .returned (.bool r) ∧ Below w.heap.size w w' := by
  unfold sackbutlaw03_SlideWhole.f at h
  by_cases ha : l1.all (fun x => decide (0 ≤ x) && decide (x ≤ 255)) = true
  case neg => rw [if_neg ha] at h; cases h
  rw [if_pos ha] at h
  cases h
  have h8 := all8W ha
  by_cases h64 : 64 < l0.length
  · exact whole_long A0 c0 l0 A1 c1 l1 w h64
  cases hz : listZ l0 with
  | false => exact whole_bad A0 c0 l0 A1 c1 l1 w hr0 hc0 (by omega) hz
  | true =>
    by_cases h50 : 50 < l1.length
    · exact whole_more A0 c0 l0 A1 c1 l1 w hr0 hc0 (by omega) hz h50
    obtain ⟨hl, hn0, hn1⟩ := listZ_iff.mp hz
    have hw : wholeZ l0.length ((0 : Nat) : Int) = true := whole_iff.mpr ⟨by omega, hn0, hn1, by simp [Nat.mod_one]⟩
    obtain ⟨Q, hq, hwq, _⟩ := bestZ_spec hw
    obtain ⟨hq3, _, _, hdq⟩ := whole_iff.mp hwq
    have h8q := pow_le8 hq3
    have hkl := kz_length l0 (l0.length / 2 ^ Q) (2 ^ Q)
    have hkr := kz_range (l := l0) (sz := l0.length / 2 ^ Q) (n := 2 ^ Q)
    have hbest := slide_Best_ok hl hw (k := 5000) (by omega)
    rw [hq] at hbest
    have hbd := (sumZ_bound hl hkr (n := 2 ^ Q) (by omega) (Nat.mul_div_le _ _) (2 ^ Q) (Nat.le_refl _)).2
    have hcost := slideBits_cost (sz := l0.length / 2 ^ Q) hl hkr (n := 2 ^ Q) (by omega) (2 ^ Q) (Nat.le_refl _)
    rw [size_mul hdq] at hbd
    unfold PZ at hbest
    obtain ⟨ks, hks⟩ : ∃ ks, kz l0 (l0.length / 2 ^ Q) (2 ^ Q) = ks := ⟨_, rfl⟩
    rw [hks] at hbest hkl hkr hbd hcost
    have hcsl : ((bitsS Q ks l0).length : Int) = sumZ l0 ks (l0.length / 2 ^ Q) (2 ^ Q) := by
      unfold bitsS
      rw [List.length_append, bitsOf_length, hkl, ← hcost]
      omega
    have hcl : (bitsS Q ks l0).length ≤ 6000 := by omega
    have hgd : goodP (Q : Int) ks l0 = true := by
      unfold goodP goodZ
      simp only [Bool.and_eq_true, Bool.not_eq_true', List.any_eq_false, decide_eq_true_eq]
      refine ⟨⟨hwq, by rw [hkl, Int.toNat_natCast]; simp, fun x hx => ?_⟩, fun x hx => ?_⟩
      · have := hkr x hx
        unfold outZ
        simp
        omega
      · have := hl x hx
        unfold farZ
        simp
        omega
    obtain ⟨A, rfl, _⟩ := Kd.at_int hr0 0 (by omega) (by omega)
    have hal := putS_align (cs := bitsS Q ks l0) h8 (by omega) hcl
    exact whole_main A c0 l0 A1 c1 l1 (Q : Int) _ _ _ ks (bitsS Q ks l0) w hr0 hc0 (by omega) hz (by omega) hr1 hc1 hbest hgd (by rw [Int.toNat_natCast]; rfl) hcsl hcl (putS_taken hl hkr hwq hkl h8 (by omega) hcl) hal.1 hal.2
      (by rw [same_ok _ _ (by omega) (by omega), decide_eq_true rfl]) (by unfold sackbutref03_Same.f; rw [if_pos rfl, same_ok _ _ (by omega) (by omega), bs, decide_eq_true rfl])
end Go.Proofs.Yteoncgijnkfhfaa.P
