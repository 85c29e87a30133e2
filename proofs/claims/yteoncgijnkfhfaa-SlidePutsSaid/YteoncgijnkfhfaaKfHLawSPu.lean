/- The law SlidePuts, walked. -/
import Derived.Test.YteoncgijnkfhfaaKfPx0
import Derived.Test.YteoncgijnkfhfaaKfHSPut
import Derived.Test.YteoncgijnkfhfaaKfHSPutNo
import Derived.Test.YteoncgijnkfhfaaKfHSBits
import Derived.Test.YteoncgijnkfhfaaKfHSAwake
import Derived.Test.YteoncgijnkfhfaaKfHSGood
import Derived.Test.YteoncgijnkfhfaaKfHLen
import Derived.Test.YteoncgijnkfhfaaKfHEnd
import Derived.Test.YteoncgijnkfhfaaKfPx5
import Derived.Test.YteoncgijnkfhfaaKfPx9
import Derived.Test.YteoncgijnkfhfaaKfPx8
import Derived.Test.YteoncgijnkfhfaaKfPx3
import Derived.Test.YteoncgijnkfhfaaKfPx2
import Derived.Test.YteoncgijnkfhfaaKfPx1
import Derived.Test.YteoncgijnkfhfaaKfUTools
import Derived.Test.YteoncgijnkfhfaaKfURiceCodeZ
import Derived.Test.YteoncgijnkfhfaaKfUBitsP
import Derived.Shelf.Abstract
namespace Go.Proofs.Yteoncgijnkfhfaa.P
open Go.RowKit Go.Proofs.YteoncgijnkfhfaaW.PrintWords Go.Proofs.YteoncgijnkfhfaaW.PrintLast Go.Proofs.YteoncgijnkfhfaaW.PrintMore Go.Proofs.Yteoncgijnkfhfaa.Pure
set_option linter.unusedVariables false
set_option linter.unusedSimpArgs false

def sackbutlaw03_SlidePuts.T6 : Bool × List (List Nat × List Nat) := (true, [([], []), ([], []), ([0, 1], [0, 1]), ([], []), ([2, 3], [2, 3]), ([4, 2], [4]), ([5], [5]), ([5], [5]), ([6, 7, 5, 5], [5, 6, 7]), ([5], [5]), ([9, 5], [5, 9]), ([8, 10, 5], [5, 8, 10]), ([5, 11], [5, 11]), ([12, 8], [12]), ([13, 13], [13]), ([13], [13]), ([15, 13], [13, 15]), ([14, 16, 13], [13, 14, 16]), ([13, 17], [13, 17]), ([18, 14], [18]), ([19], [19]), ([20, 19], [19, 20]), ([19], [19]), ([21, 22, 19, 19], [19, 21, 22]), ([19], [19]), ([24, 19], [19, 24]), ([19], [19]), ([25, 26, 23, 19], [19, 25, 26]), ([23, 27, 19], [19, 23, 27]), ([19, 28], [19, 28])])
def sackbutlaw03_SlidePuts.B6 : List Nat := [0, 0, 3, 0, 15, 31, 63, 63, 255, 63, 575, 2047, 4095, 8191, 16383, 16383, 49151, 131071, 262143, 524287, 1048575, 2097151, 1048575, 8388607, 1048575, 17825791, 1048575, 134217727, 268435455, 536870911]
theorem sackbutlaw03_SlidePuts.tab6 : rtab .any (opsOf Try.f7 6) = sackbutlaw03_SlidePuts.T6 := by kernel_rfl
theorem sackbutlaw03_SlidePuts.bits6 : waitsOk sackbutlaw03_SlidePuts.T6.2 sackbutlaw03_SlidePuts.B6 = true := by kernel_rfl
def sackbutlaw03_SlidePuts.T11 : Bool × List (List Nat × List Nat) := (true, [([], []), ([0], [0]), ([1], [1]), ([2, 2], [2]), ([3, 2], [2, 3]), ([2], [2]), ([5, 3, 2], [2, 5]), ([6, 2], [2, 6]), ([4, 7, 2], [2, 4, 7]), ([2, 8], [2, 8])])
def sackbutlaw03_SlidePuts.B11 : List Nat := [0, 1, 3, 7, 15, 7, 47, 111, 255, 511]
theorem sackbutlaw03_SlidePuts.tab11 : rtab .any (opsOf Try.f7 11) = sackbutlaw03_SlidePuts.T11 := by kernel_rfl
theorem sackbutlaw03_SlidePuts.bits11 : waitsOk sackbutlaw03_SlidePuts.T11.2 sackbutlaw03_SlidePuts.B11 = true := by kernel_rfl
theorem spu_int : (Try.prog.info? 3).map (fun i => (i.zero, i.size, i.bytes)) = some (some (.int .i64 0), 1, 8) := by kernel_rfl
theorem own_keepW {w0 w w' : World} {g e size n base : Nat} {u : Value} {xs : List Value} {b : List Int} {p q : Int} (h : w.ownsRow base e size u n xs) (s : KeepBut w w' g none) (hr : IsS74 w0 w g b p q) (h1 : e ≠ 74) : w'.ownsRow base e size u n xs := by
  obtain ⟨A, c, hb, _⟩ := hr
  refine own_move h fun k hk => s.2 k (own_lt h k hk) ?_ (by simp)
  rintro rfl
  exact own_ne h hb h1 hk.symm
theorem blk_keepW {w0 w w' : World} {g k t : Nat} {cs : Array Value} {b : List Int} {p q : Int} (h : w.heap[k]? = some (.cells cs t (0, 0))) (s : KeepBut w w' g none) (hr : IsS74 w0 w g b p q) (h1 : t ≠ 74) : w'.heap[k]? = some (.cells cs t (0, 0)) := by
  obtain ⟨A, c, hb, _⟩ := hr
  exact (s.2 k (blk_lt h) (fun e => blk_ne h hb h1 e) (by simp)).trans h
theorem owns_readsW {w : World} {base : Nat} {v : Value} {l : List Int} (h : w.ownsRow base 3 1 v l.length (nums .i64 l)) : ∃ A c, v = .slice A l.length c ∧ l.length ≤ c ∧ Kd.C (Kd.int .i64) w A l.length l := by
  obtain ⟨A, c, rfl, hr⟩ := own_reads h
  exact ⟨A, c, rfl, own_le h, Kd.C_of_reads (d := (0 : Int)) (h1 := fun _ => rfl) hr⟩
theorem owns_reads8 {w : World} {base : Nat} {v : Value} {l : List Int} (h : w.ownsRow base 5 1 v l.length (nums .u8 l)) : ∃ A c, v = .slice A l.length c ∧ l.length ≤ c ∧ Kd.C (Kd.int .u8) w A l.length l := by
  obtain ⟨A, c, rfl, hr⟩ := own_reads h
  exact ⟨A, c, rfl, own_le h, Kd.C_of_reads (d := (0 : Int)) (h1 := fun _ => rfl) hr⟩
theorem own_stepW {w0 w w' : World} {g e size n base : Nat} {v v' u : Value} {l : List Bool} {xs : List Value} (h : w.ownsRow base e size u n xs) (s : WrStep w0 w w' g v v') (hw : IsWr w0 w g v l) (h1 : e ≠ 56) (h2 : e ≠ 5) : w'.ownsRow base e size u n xs := by
  refine own_move h fun k hk => s.kept.2 k (own_lt h k hk) ?_
  obtain ⟨ds, hd⟩ := own_blockP h k hk
  rintro (rfl | hv)
  · exact own_ne h hw.1 h1 hk.symm
  · obtain ⟨ds2, hd2⟩ := own_blockP hw.2.2 k hv.symm
    rw [hd] at hd2
    injection hd2 with hd2
    injection hd2 with _ he _
    exact h2 he
def sackbutlaw03_SlidePuts.f (l : List Int) (p : Int) (ks : List Int) : Option Bool := some true
set_option maxHeartbeats 8000000 in
set_option maxRecDepth 100000 in
theorem spu_long (A0 : Option Addr) (c0 : Nat) (ls : List Int) (pp : Int) (Ak : Option Addr) (ck : Nat) (ks : List Int) (w : World) (hr : Kd.C (Kd.int .i64) w A0 ls.length ls) (hc : ls.length ≤ c0) (hrk : Kd.C (Kd.int .i64) w Ak ks.length ks) (hck : ks.length ≤ ck) (h : ¬ (ls.length ≤ 64 ∧ ks.length ≤ 12)) :
    Calls Try.prog 7 #[.slice A0 ls.length c0, .agg #[.int .i64 pp, .slice Ak ks.length ck]] w fun e w' => e = .returned (.bool true) ∧ Below w.heap.size w w' := by
  have hfew := few_ok ls ks pp
  rw [decide_eq_false h] at hfew
  have HFEW := Aside0.mk hfew
  have HR := Aside0.mk hr
  have HRK := Aside0.mk hrk
  have HC := Aside0.mk (And.intro hc hck)
  have HX1 := Aside0.mk (blk_new w (.cells #[.int .i64 pp, .slice Ak ks.length ck] 24))
  have HB1 := Aside0.mk (below_alloc (Below.refl w.heap.size w) (.cells #[.int .i64 pp, .slice Ak ks.length ck] 24))
  clear hfew hr hrk hc hck h
  go_enter Try.func7, Try.ntmps7
  go_wp2_with fail
  (with_reducible refine (sackbutlaw03_awake.calls true _ rfl).mono ?_)
  rintro e w2 ⟨rfl, hb2⟩
  have HB2 := Aside0.mk (below_then HB1.out HB1.out.size hb2)
  have hx := blk_below HX1.out hb2
  have hx3a := (blk_cell hx 0).trans rfl
  have hx3b := (blk_cell hx 1).trans rfl
  clear hb2 hx
  go_wp2_with fail
  (with_reducible refine (sackbutlaw03_few.calls A0 c0 ls pp Ak ck ks false _ (Kd.C_below HR.out HB2.out) HC.out.1 (Kd.C_below HRK.out HB2.out) HC.out.2 HFEW.out).mono ?_)
  rintro e w3 ⟨rfl, hb3⟩
  have HB3 := Aside0.mk (below_then HB2.out HB2.out.size hb3)
  clear hb3
  go_wp2_with fail
  (with_reducible refine (sackbutlaw03_awake.calls true _ rfl).mono ?_)
  rintro e w4 ⟨rfl, hb4⟩
  have HB4 := Aside0.mk (below_then HB3.out HB3.out.size hb4)
  clear hb4
  go_wp2
  go_ret
  exact ⟨rfl, HB4.out⟩
set_option maxHeartbeats 8000000 in
set_option maxRecDepth 100000 in
theorem spu_any (A0 : Option Addr) (c0 : Nat) (ls : List Int) (pp : Int) (Ak : Option Addr) (ck : Nat) (ks : List Int) (cs : List Bool) (tx : ByteArray) (ok gv : Bool) (w : World) (hr : Kd.C (Kd.int .i64) w A0 ls.length ls) (hc : ls.length ≤ c0) (hrk : Kd.C (Kd.int .i64) w Ak ks.length ks) (hck : ks.length ≤ ck) (h64 : ls.length ≤ 64) (h12 : ks.length ≤ 12)
    (hput : sackbutref03_Put.f 5000 ls pp ks = some (tx, ok)) (htx : tx.size = cs.length) (hbits : slide_Bits.f 5000 ls pp ks = some (cs.length : Int)) (hcl : cs.length ≤ 6000) (hgv : slide_Good.f ls.length pp ks = some gv) (hrg : sackbutref03_Good.f 5000 ls.length pp ks = some gv)
    (hPUT : ∀ (g : Nat) (A5 : Option Addr) (c5 : Nat) (W : World), Below w.heap.size w W → IsWr w W g (.slice none 0 0) [] → W.ownsRow w.heap.size 3 1 (.slice A5 ls.length c5) ls.length (nums .i64 ls) → Calls Try.prog 27 #[.pointer (some ⟨g, 0, none⟩), .slice A5 ls.length c5, .agg #[.int .i64 pp, .slice Ak ks.length ck]] W (WrPost w W g (.slice none 0 0) cs (.bool ok)))
    (hyes : ok = true → tx = txt cs ∧ ∃ q, slide_Take.f 200000 (pack cs) 0 0 ls.length = some (ls, pp, ks, q, 0) ∧ pipe_Reader_End.f 200 (pack cs) q 0 = some (0, q, 0)) :
    Calls Try.prog 7 #[.slice A0 ls.length c0, .agg #[.int .i64 pp, .slice Ak ks.length ck]] w fun e w' => e = .returned (.bool true) ∧ Below w.heap.size w w' := by
  have hfew := few_ok ls ks pp
  rw [decide_eq_true ⟨h64, h12⟩] at hfew
  have HFEW := Aside0.mk hfew
  have HR := Aside0.mk hr
  have HRK := Aside0.mk hrk
  have HC := Aside0.mk (And.intro hc hck)
  have HPU := Aside0.mk hput
  have HNE : Aside0 (((cs.length : Int) != (tx.size : Int)) = false) := ⟨by rw [htx]; simp⟩
  have HBITS := Aside0.mk hbits
  have HCL := Aside0.mk hcl
  have HGV := Aside0.mk hgv
  have HRG := Aside0.mk hrg
  have HPT := Aside0.mk hPUT
  have HYES := Aside0.mk hyes
  have HLL := Aside0.mk (And.intro h64 h12)
  have HSM := Aside0.mk (show sackbutref01_Same.f 5000 ls ls = some true by rw [same_ok _ _ (by omega) (by omega), decide_eq_true rfl])
  have HSK := Aside0.mk (show sackbutref03_Same.f 5000 pp ks pp ks = some true by unfold sackbutref03_Same.f; rw [if_pos rfl, same_ok _ _ (by omega) (by omega), bs, decide_eq_true rfl])
  have HX1 := Aside0.mk (blk_new w (.cells #[.int .i64 pp, .slice Ak ks.length ck] 24))
  have HB1 := Aside0.mk (below_alloc (Below.refl w.heap.size w) (.cells #[.int .i64 pp, .slice Ak ks.length ck] 24))
  clear hfew hr hrk hc hck h64 h12 hput htx hbits hcl hgv hrg hPUT hyes
  go_enter Try.func7, Try.ntmps7
  go_wp2_with fail
  generalize w.alloc (.cells #[.int .i64 pp, .slice Ak ks.length ck] 24) = w1 at HX1 HB1 ⊢
  obtain ⟨b3, hb3⟩ : ∃ q, w.heap.size = q := ⟨_, rfl⟩
  replace HX1 : Aside0 (w1.heap[b3]? = some (.cells #[.int .i64 pp, .slice Ak ks.length ck] 24 (0, 0))) := ⟨by rw [← hb3]; exact HX1.out⟩
  rw [hb3]
  have HBB3 := Aside0.mk hb3
  clear hb3
  (with_reducible refine (sackbutlaw03_awake.calls true _ rfl).mono ?_)
  rintro e w2 ⟨rfl, hb2⟩
  have HB2 := Aside0.mk (below_then HB1.out HB1.out.size hb2)
  have HX2 := Aside0.mk (blk_below HX1.out hb2)
  have hx3a := (blk_cell HX2.out 0).trans rfl
  have hx3b := (blk_cell HX2.out 1).trans rfl
  clear hb2 HX1 HB1
  go_wp2_with fail
  (with_reducible refine (sackbutlaw03_few.calls A0 c0 ls pp Ak ck ks true _ (Kd.C_below HR.out HB2.out) HC.out.1 (Kd.C_below HRK.out HB2.out) HC.out.2 HFEW.out).mono ?_)
  rintro e w3 ⟨rfl, hb3⟩
  have HB3 := Aside0.mk (below_then HB2.out HB2.out.size hb3)
  have HX3 := Aside0.mk (blk_below HX2.out hb3)
  clear hb3 HX2 HB2 hx3a hx3b
  go_wp2_with (at_builtin; refine print_append_row (w0 := w3) (W := w3.alloc (.cells #[] 3)) w3.heap.size rfl _ _ 22 3 .i64 8 rfl Try.underlying22 spu_int (by decide) (.slice (some ⟨w3.heap.size, 0, none⟩) 0 0) [] ls A0 ls.length c0 rfl rfl ?c1 ?c2 ?c3 ?c4 ?c5 ?_)
  case c1 => exact World.ownsRow_made w3 #[] 0 (Nat.le_refl _) (by unfold maxLen; omega) rfl
  case c2 => exact (Kd.reads_of_C (d := (0 : Int)) (Kd.C_below HR.out HB3.out)).below ((Below.refl _ _).alloc (Nat.le_refl _) _)
  case c3 => exact (Below.refl _ _).alloc (Nat.le_refl _) _
  case c4 => simp
  case c5 => have := HLL.out.1; simp; omega
  intro v4 w4 hown hB4 _ _
  have hown' : w4.ownsRow w3.heap.size 3 1 v4 ls.length (nums .i64 ls)   := by first | exact hown | simpa using hown
  obtain ⟨A5, c5, rfl⟩ := own_slice hown'
  have HO4 := Aside0.mk (own_weaken hown' HB3.out.size)
  have HX4 := Aside0.mk (blk_below HX3.out hB4)
  have HB4 := Aside0.mk (below_then HB3.out HB3.out.size hB4)
  have hx3a := (blk_cell HX4.out 0).trans rfl
  have hx3b := (blk_cell HX4.out 1).trans rfl
  clear hown hB4 hown' HX3 HB3
  go_wp2_with fail
  (with_reducible refine (sackbutref03_Put.calls 5000 A0 c0 ls pp Ak ck ks tx ok _ (Kd.C_below HR.out HB4.out) HC.out.1 (Kd.C_below HRK.out HB4.out) HC.out.2 HPU.out).mono ?_)
  rintro e w5 ⟨rfl, hb5⟩
  have HB5 := Aside0.mk (below_then HB4.out HB4.out.size hb5)
  have HB6 := Aside0.mk (below_alloc HB5.out (.cells #[.slice none 0 0, .int .i64 0] 56))
  have HX6 := Aside0.mk (blk_alloc (blk_below HX4.out hb5) (.cells #[.slice none 0 0, .int .i64 0] 56))
  have HO6 := Aside0.mk ((own_below HO4.out hb5).alloc (.cells #[.slice none 0 0, .int .i64 0] 56))
  have HW6 := Aside0.mk (isWr_new w w5 HB5.out)
  clear hb5 hx3a hx3b HX4 HO4 HB4 HB5
  go_upto_region 6 with fail
  generalize w5.alloc (.cells #[.slice none 0 0, .int .i64 0] 56) = w6 at HB6 HX6 HO6 HW6 ⊢
  obtain ⟨g, hg⟩ : ∃ q, w5.heap.size = q := ⟨_, rfl⟩
  rw [hg] at HW6 ⊢
  clear hg
  have HPUT := Aside0.mk (HPT.out g A5 c5)
  clear HPT
  refine start_ (n := 30) (S := fun w' => True) (ds := []) #[false, false, false, false, false, false, false, false, false, false, false, false, false, false, false, false, false, false, false, false, false, false, false, false, false, false, false, false, false, false] (by kernel_rfl) rfl rfl trivial (fun hHeld => ?_)
  refine with_tabW sackbutlaw03_SlidePuts.tab6 sackbutlaw03_SlidePuts.bits6 (fun HT_ HW_ => ?_)
  obtain ⟨wd, hwd⟩ : ∃ wd, w6.drew = wd := ⟨_, rfl⟩
  rw [hwd]
  have FBD : Aside0 (Below w.heap.size w wd) := ⟨by rw [← hwd]; exact below_drew1 HB6.out⟩
  have X3D : Aside0 (wd.heap[b3]? = some (.cells #[.int .i64 pp, .slice Ak ks.length ck] 24 (0, 0))) := ⟨by rw [← hwd]; exact HX6.out⟩
  have OWD : Aside0 (wd.ownsRow w.heap.size 3 1 (.slice A5 ls.length c5) ls.length (nums .i64 ls)) := ⟨by rw [← hwd]; exact own_below HO6.out (below_drew1 (Below.refl w6.heap.size w6))⟩
  have WAD : Aside0 (IsWr w wd g (.slice none 0 0) []) := ⟨by rw [← hwd]; exact isWr_below HW6.out (below_drew1 (Below.refl w6.heap.size w6))⟩
  clear hwd hHeld
  refine inv_at [0, 1, 2, 3, 4, 5, 6, 7, 8, 9, 10, 11, 12, 13, 14, 15, 16, 17, 18, 19, 20, 21, 22, 23, 24, 25, 26, 27, 28, 29] (fun a0_ b a w' => ∃ (vw : Value), a = putSel a0_ b [(0, 30, .slice A5 ls.length c5), (1, 31, .agg #[.int .i64 pp, .slice Ak ks.length ck]), (2, 32, .bool ok), (3, 33, .bool ok), (4, 34, .bool false), (5, 35, .bool false), (6, 36, .slice A0 ls.length c0), (7, 37, .agg #[.int .i64 pp, .slice Ak ks.length ck]), (8, 38, .int .i64 (cs.length : Int)), (9, 39, .string tx), (10, 40, .int .i64 (tx.size : Int)), (11, 41, .bool false), (12, 42, .bool false), (13, 43, .bool false), (14, 44, .int .i64 (cs.length : Int)), (15, 45, .string tx), (16, 46, .int .i64 (tx.size : Int)), (17, 47, .bool false), (18, 48, .bool false), (19, 49, .bool false), (20, 50, .slice A0 ls.length c0), (21, 51, .int .i64 (ls.length : Int)), (22, 52, .agg #[.int .i64 pp, .slice Ak ks.length ck]), (23, 53, .bool gv), (24, 54, .slice A0 ls.length c0), (25, 55, .int .i64 (ls.length : Int)), (26, 56, .agg #[.int .i64 pp, .slice Ak ks.length ck]), (27, 57, .bool gv), (28, 58, .bool false), (29, 59, .bool false)] ∧ (Below w.heap.size w w') ∧ (w'.heap[b3]? = some (.cells #[.int .i64 pp, .slice Ak ks.length ck] 24 (0, 0))) ∧ (w'.ownsRow w.heap.size 3 1 (.slice A5 ls.length c5) ls.length (nums .i64 ls)) ∧ (b 2 = false → IsWr w w' g (.slice none 0 0) []) ∧ (b 2 = true → IsWr w w' g vw cs)) HT_.out HW_.out (by kernel_rfl) (by kernel_rfl) ?_ ?_ ?_
  · exact ⟨.bool false, by simp only [putSel, Bool.false_eq_true, if_false], FBD.out, X3D.out, OWD.out, fun _ => WAD.out, fun h_ => absurd h_ (by decide)⟩
  · skip
    refine steps_cons ?_ ?_
    · rintro b a w' ⟨vw, ha, Q_FB, Q_X3, Q_OW, Q_WA, Q_WB⟩ hb_ hon hoff
      refine ⟨_, rfl, fun K hK => ?_⟩
      have e5 : a.tmps[5]? = some (.slice A5 ls.length c5) := by rw [ha]; exact (putSel_off rfl).trans rfl
      replace ha := Aside0.mk ha
      have FB := Aside0.mk Q_FB
      have X3 := Aside0.mk Q_X3
      have OW := Aside0.mk Q_OW
      have WA := Aside0.mk (Q_WA (hoff 2 (by kernel_rfl)))
      refine value_ (w1 := w') (v := .slice A5 ls.length c5) (by rfl) rfl ?_ ?_
      · go_simp
        (try simp only [i64_w])
        try rfl
      refine hK.out _ _ ⟨vw, (by rw [ha.out]; exact putSel_upk 0 hb_ rfl rfl rfl), Q_FB, Q_X3, Q_OW, Q_WA, fun h0_ => absurd ((hoff 2 (by kernel_rfl)).symm.trans h0_) (by decide)⟩
    refine steps_cons ?_ ?_
    · rintro b a w' ⟨vw, ha, Q_FB, Q_X3, Q_OW, Q_WA, Q_WB⟩ hb_ hon hoff
      refine ⟨_, rfl, fun K hK => ?_⟩
      have e3 : a.tmps[3]? = some (.pointer (some ⟨b3, 0, none⟩)) := by rw [ha]; exact (putSel_off rfl).trans rfl
      replace ha := Aside0.mk ha
      have FB := Aside0.mk Q_FB
      have X3 := Aside0.mk Q_X3
      have OW := Aside0.mk Q_OW
      have WA := Aside0.mk (Q_WA (hoff 2 (by kernel_rfl)))
      have q8_ : w'.cell? ⟨b3, 0, none⟩ = some (.int .i64 pp) := (blk_cell X3.out 0).trans rfl
      have q9_ : w'.cell? ⟨b3, 1, none⟩ = some (.slice Ak ks.length ck) := (blk_cell X3.out 1).trans rfl
      refine value_ (w1 := w') (v := .agg #[.int .i64 pp, .slice Ak ks.length ck]) (by rfl) rfl ?_ ?_
      · go_simp
        (try simp only [i64_w])
        try rfl
      refine hK.out _ _ ⟨vw, (by rw [ha.out]; exact putSel_upk 1 hb_ rfl rfl rfl), Q_FB, Q_X3, Q_OW, Q_WA, fun h0_ => absurd ((hoff 2 (by kernel_rfl)).symm.trans h0_) (by decide)⟩
    refine steps_cons ?_ ?_
    · rintro b a w' ⟨vw, ha, Q_FB, Q_X3, Q_OW, Q_WA, Q_WB⟩ hb_ hon hoff
      refine ⟨_, rfl, fun K hK => ?_⟩
      have e8 : a.tmps[8]? = some (.pointer (some ⟨g, 0, none⟩)) := by rw [ha]; exact (putSel_off rfl).trans rfl
      have e30 : a.tmps[30]? = some (.slice A5 ls.length c5) := by rw [ha]; exact putSel_on (e := (0, 30, .slice A5 ls.length c5)) 0 rfl rfl (hon 0 (by kernel_rfl)) rfl
      have e31 : a.tmps[31]? = some (.agg #[.int .i64 pp, .slice Ak ks.length ck]) := by rw [ha]; exact putSel_on (e := (1, 31, .agg #[.int .i64 pp, .slice Ak ks.length ck])) 1 rfl rfl (hon 1 (by kernel_rfl)) rfl
      replace ha := Aside0.mk ha
      have FB := Aside0.mk Q_FB
      have X3 := Aside0.mk Q_X3
      have OW := Aside0.mk Q_OW
      have WA := Aside0.mk (Q_WA hb_)
      refine goes_ Try.func27 (by kernel_rfl) rfl #[.pointer (some ⟨g, 0, none⟩), .slice A5 ls.length c5, .agg #[.int .i64 pp, .slice Ak ks.length ck]] (by rfl) rfl rfl (by first | (simp only [List.map_toArray, List.map_cons, List.map_nil, Act.eval, Array.getD_eq_getD_getElem?, Option.getD_some, e8, e30, e31]; done) | (simp only [List.map_toArray, List.map_cons, List.map_nil, Act.eval, Array.getD_eq_getD_getElem?, Option.getD_some, e8, e30, e31]; rfl)) ?_
      (with_reducible refine (HPUT.out w' FB.out WA.out OW.out).mono ?_)
      rintro e w1_ ⟨rfl, v1_, hi_, hs_⟩
      refine ⟨_, rfl, ?_⟩
      refine hK.out _ _ ⟨v1_, (by rw [ha.out]; exact putSel_upk 2 hb_ rfl rfl rfl), hs_.below, wr_keep hs_ WA.out X3.out (by decide) (by decide), own_stepW OW.out hs_ WA.out (by decide) (by decide), fun h0_ => absurd ((up_self b 2).symm.trans h0_) (by decide), fun _ => hi_⟩
    refine steps_cons ?_ ?_
    · rintro b a w' ⟨vw, ha, Q_FB, Q_X3, Q_OW, Q_WA, Q_WB⟩ hb_ hon hoff
      refine ⟨_, rfl, fun K hK => ?_⟩
      have e7 : a.tmps[7]? = some (.bool ok) := by rw [ha]; exact (putSel_off rfl).trans rfl
      replace ha := Aside0.mk ha
      have FB := Aside0.mk Q_FB
      have X3 := Aside0.mk Q_X3
      have OW := Aside0.mk Q_OW
      refine value_ (w1 := w') (v := .bool ok) (by rfl) rfl ?_ ?_
      · go_simp
        (try simp only [i64_w])
        try rfl
      refine hK.out _ _ ⟨vw, (by rw [ha.out]; exact putSel_upk 3 hb_ rfl rfl rfl), Q_FB, Q_X3, Q_OW, Q_WA, Q_WB⟩
    refine steps_cons ?_ ?_
    · rintro b a w' ⟨vw, ha, Q_FB, Q_X3, Q_OW, Q_WA, Q_WB⟩ hb_ hon hoff
      refine ⟨_, rfl, fun K hK => ?_⟩
      have e32 : a.tmps[32]? = some (.bool ok) := by rw [ha]; exact putSel_on (e := (2, 32, .bool ok)) 2 rfl rfl (hon 2 (by kernel_rfl)) rfl
      have e33 : a.tmps[33]? = some (.bool ok) := by rw [ha]; exact putSel_on (e := (3, 33, .bool ok)) 3 rfl rfl (hon 3 (by kernel_rfl)) rfl
      replace ha := Aside0.mk ha
      have FB := Aside0.mk Q_FB
      have X3 := Aside0.mk Q_X3
      have OW := Aside0.mk Q_OW
      have WB := Aside0.mk (Q_WB (hon 2 (by kernel_rfl)))
      refine value_ (w1 := w') (v := .bool false) (by rfl) rfl ?_ ?_
      · go_simp
        (try simp only [i64_w])
        try rfl
      refine hK.out _ _ ⟨vw, (by rw [ha.out]; exact putSel_upk 4 hb_ rfl rfl rfl), Q_FB, Q_X3, Q_OW, fun h0_ => absurd ((hon 2 (by kernel_rfl)).symm.trans h0_) (by decide), Q_WB⟩
    refine steps_cons ?_ ?_
    · rintro b a w' ⟨vw, ha, Q_FB, Q_X3, Q_OW, Q_WA, Q_WB⟩ hb_ hon hoff
      refine ⟨_, rfl, fun K hK => ?_⟩
      have e34 : a.tmps[34]? = some (.bool false) := by rw [ha]; exact putSel_on (e := (4, 34, .bool false)) 4 rfl rfl (hon 4 (by kernel_rfl)) rfl
      replace ha := Aside0.mk ha
      have FB := Aside0.mk Q_FB
      have X3 := Aside0.mk Q_X3
      have OW := Aside0.mk Q_OW
      have WB := Aside0.mk (Q_WB (hon 2 (by kernel_rfl)))
      refine value_ (w1 := w') (v := .bool false) (by rfl) rfl ?_ ?_
      · go_simp
        (try simp only [i64_w])
        try rfl
      refine hK.out _ _ ⟨vw, (by rw [ha.out]; exact putSel_upk 5 hb_ rfl rfl rfl), Q_FB, Q_X3, Q_OW, fun h0_ => absurd ((hon 2 (by kernel_rfl)).symm.trans h0_) (by decide), Q_WB⟩
    refine steps_cons ?_ ?_
    · rintro b a w' ⟨vw, ha, Q_FB, Q_X3, Q_OW, Q_WA, Q_WB⟩ hb_ hon hoff
      refine ⟨_, rfl, fun K hK => ?_⟩
      have e0 : a.tmps[0]? = some (.slice A0 ls.length c0) := by rw [ha]; exact (putSel_off rfl).trans rfl
      have e35 : a.tmps[35]? = some (.bool false) := by rw [ha]; exact putSel_on (e := (5, 35, .bool false)) 5 rfl rfl (hon 5 (by kernel_rfl)) rfl
      replace ha := Aside0.mk ha
      have FB := Aside0.mk Q_FB
      have X3 := Aside0.mk Q_X3
      have OW := Aside0.mk Q_OW
      have WB := Aside0.mk (Q_WB (hon 2 (by kernel_rfl)))
      refine value_ (w1 := w') (v := .slice A0 ls.length c0) (wanted_on rfl rfl rfl (e35.trans (by first | rfl | (simp [*]; done)))) rfl ?_ ?_
      · go_simp
        (try simp only [i64_w])
        try rfl
      refine hK.out _ _ ⟨vw, (by rw [ha.out]; exact putSel_upk 6 hb_ rfl rfl rfl), Q_FB, Q_X3, Q_OW, fun h0_ => absurd ((hon 2 (by kernel_rfl)).symm.trans h0_) (by decide), Q_WB⟩
    refine steps_cons ?_ ?_
    · rintro b a w' ⟨vw, ha, Q_FB, Q_X3, Q_OW, Q_WA, Q_WB⟩ hb_ hon hoff
      refine ⟨_, rfl, fun K hK => ?_⟩
      have e3 : a.tmps[3]? = some (.pointer (some ⟨b3, 0, none⟩)) := by rw [ha]; exact (putSel_off rfl).trans rfl
      have e35 : a.tmps[35]? = some (.bool false) := by rw [ha]; exact putSel_on (e := (5, 35, .bool false)) 5 rfl rfl (hon 5 (by kernel_rfl)) rfl
      replace ha := Aside0.mk ha
      have FB := Aside0.mk Q_FB
      have X3 := Aside0.mk Q_X3
      have OW := Aside0.mk Q_OW
      have WB := Aside0.mk (Q_WB (hon 2 (by kernel_rfl)))
      have q8_ : w'.cell? ⟨b3, 0, none⟩ = some (.int .i64 pp) := (blk_cell X3.out 0).trans rfl
      have q9_ : w'.cell? ⟨b3, 1, none⟩ = some (.slice Ak ks.length ck) := (blk_cell X3.out 1).trans rfl
      refine value_ (w1 := w') (v := .agg #[.int .i64 pp, .slice Ak ks.length ck]) (wanted_on rfl rfl rfl (e35.trans (by first | rfl | (simp [*]; done)))) rfl ?_ ?_
      · go_simp
        (try simp only [i64_w])
        try rfl
      refine hK.out _ _ ⟨vw, (by rw [ha.out]; exact putSel_upk 7 hb_ rfl rfl rfl), Q_FB, Q_X3, Q_OW, fun h0_ => absurd ((hon 2 (by kernel_rfl)).symm.trans h0_) (by decide), Q_WB⟩
    refine steps_cons ?_ ?_
    · rintro b a w' ⟨vw, ha, Q_FB, Q_X3, Q_OW, Q_WA, Q_WB⟩ hb_ hon hoff
      refine ⟨_, rfl, fun K hK => ?_⟩
      have e36 : a.tmps[36]? = some (.slice A0 ls.length c0) := by rw [ha]; exact putSel_on (e := (6, 36, .slice A0 ls.length c0)) 6 rfl rfl (hon 6 (by kernel_rfl)) rfl
      have e37 : a.tmps[37]? = some (.agg #[.int .i64 pp, .slice Ak ks.length ck]) := by rw [ha]; exact putSel_on (e := (7, 37, .agg #[.int .i64 pp, .slice Ak ks.length ck])) 7 rfl rfl (hon 7 (by kernel_rfl)) rfl
      have e35 : a.tmps[35]? = some (.bool false) := by rw [ha]; exact putSel_on (e := (5, 35, .bool false)) 5 rfl rfl (hon 5 (by kernel_rfl)) rfl
      replace ha := Aside0.mk ha
      have FB := Aside0.mk Q_FB
      have X3 := Aside0.mk Q_X3
      have OW := Aside0.mk Q_OW
      have WB := Aside0.mk (Q_WB (hon 2 (by kernel_rfl)))
      refine goes_ Try.func16 (by kernel_rfl) rfl #[.slice A0 ls.length c0, .agg #[.int .i64 pp, .slice Ak ks.length ck]] (wanted_on rfl rfl rfl (e35.trans (by first | rfl | (simp [*]; done)))) rfl rfl (by first | (simp only [List.map_toArray, List.map_cons, List.map_nil, Act.eval, Array.getD_eq_getD_getElem?, Option.getD_some, e36, e37, e35]; done) | (simp only [List.map_toArray, List.map_cons, List.map_nil, Act.eval, Array.getD_eq_getD_getElem?, Option.getD_some, e36, e37, e35]; rfl)) ?_
      (with_reducible refine (slide_Bits.calls 5000 A0 c0 ls pp Ak ck ks (cs.length : Int) w' (Kd.C_below HR.out FB.out) HC.out.1 (Kd.C_below HRK.out FB.out) HC.out.2 HBITS.out).mono ?_)
      rintro e w1_ ⟨rfl, hbl_⟩
      refine ⟨_, rfl, ?_⟩
      refine hK.out _ _ ⟨vw, (by rw [ha.out]; exact putSel_upk 8 hb_ rfl rfl rfl), below_then FB.out FB.out.size hbl_, blk_below X3.out hbl_, own_below OW.out hbl_, fun h0_ => absurd ((hon 2 (by kernel_rfl)).symm.trans h0_) (by decide), fun _ => isWr_below WB.out hbl_⟩
    refine steps_cons ?_ ?_
    · rintro b a w' ⟨vw, ha, Q_FB, Q_X3, Q_OW, Q_WA, Q_WB⟩ hb_ hon hoff
      refine ⟨_, rfl, fun K hK => ?_⟩
      have e6 : a.tmps[6]? = some (.string tx) := by rw [ha]; exact (putSel_off rfl).trans rfl
      have e35 : a.tmps[35]? = some (.bool false) := by rw [ha]; exact putSel_on (e := (5, 35, .bool false)) 5 rfl rfl (hon 5 (by kernel_rfl)) rfl
      replace ha := Aside0.mk ha
      have FB := Aside0.mk Q_FB
      have X3 := Aside0.mk Q_X3
      have OW := Aside0.mk Q_OW
      have WB := Aside0.mk (Q_WB (hon 2 (by kernel_rfl)))
      refine value_ (w1 := w') (v := .string tx) (wanted_on rfl rfl rfl (e35.trans (by first | rfl | (simp [*]; done)))) rfl ?_ ?_
      · go_simp
        (try simp only [i64_w])
        try rfl
      refine hK.out _ _ ⟨vw, (by rw [ha.out]; exact putSel_upk 9 hb_ rfl rfl rfl), Q_FB, Q_X3, Q_OW, fun h0_ => absurd ((hon 2 (by kernel_rfl)).symm.trans h0_) (by decide), Q_WB⟩
    refine steps_cons ?_ ?_
    · rintro b a w' ⟨vw, ha, Q_FB, Q_X3, Q_OW, Q_WA, Q_WB⟩ hb_ hon hoff
      refine ⟨_, rfl, fun K hK => ?_⟩
      have e39 : a.tmps[39]? = some (.string tx) := by rw [ha]; exact putSel_on (e := (9, 39, .string tx)) 9 rfl rfl (hon 9 (by kernel_rfl)) rfl
      have e35 : a.tmps[35]? = some (.bool false) := by rw [ha]; exact putSel_on (e := (5, 35, .bool false)) 5 rfl rfl (hon 5 (by kernel_rfl)) rfl
      replace ha := Aside0.mk ha
      have FB := Aside0.mk Q_FB
      have X3 := Aside0.mk Q_X3
      have OW := Aside0.mk Q_OW
      have WB := Aside0.mk (Q_WB (hon 2 (by kernel_rfl)))
      refine value_ (w1 := w') (v := .int .i64 (tx.size : Int)) (wanted_on rfl rfl rfl (e35.trans (by first | rfl | (simp [*]; done)))) rfl ?_ ?_
      · go_simp
        (try simp only [i64_w])
        try rfl
      refine hK.out _ _ ⟨vw, (by rw [ha.out]; exact putSel_upk 10 hb_ rfl rfl rfl), Q_FB, Q_X3, Q_OW, fun h0_ => absurd ((hon 2 (by kernel_rfl)).symm.trans h0_) (by decide), Q_WB⟩
    refine steps_cons ?_ ?_
    · rintro b a w' ⟨vw, ha, Q_FB, Q_X3, Q_OW, Q_WA, Q_WB⟩ hb_ hon hoff
      refine ⟨_, rfl, fun K hK => ?_⟩
      have e38 : a.tmps[38]? = some (.int .i64 (cs.length : Int)) := by rw [ha]; exact putSel_on (e := (8, 38, .int .i64 (cs.length : Int))) 8 rfl rfl (hon 8 (by kernel_rfl)) rfl
      have e40 : a.tmps[40]? = some (.int .i64 (tx.size : Int)) := by rw [ha]; exact putSel_on (e := (10, 40, .int .i64 (tx.size : Int))) 10 rfl rfl (hon 10 (by kernel_rfl)) rfl
      have e35 : a.tmps[35]? = some (.bool false) := by rw [ha]; exact putSel_on (e := (5, 35, .bool false)) 5 rfl rfl (hon 5 (by kernel_rfl)) rfl
      replace ha := Aside0.mk ha
      have FB := Aside0.mk Q_FB
      have X3 := Aside0.mk Q_X3
      have OW := Aside0.mk Q_OW
      have WB := Aside0.mk (Q_WB (hon 2 (by kernel_rfl)))
      have q_ := HNE.out
      refine value_ (w1 := w') (v := .bool false) (wanted_on rfl rfl rfl (e35.trans (by first | rfl | (simp [*]; done)))) rfl ?_ ?_
      · go_simp
        (try simp only [i64_w])
        try rfl
      refine hK.out _ _ ⟨vw, (by rw [ha.out]; exact putSel_upk 11 hb_ rfl rfl rfl), Q_FB, Q_X3, Q_OW, fun h0_ => absurd ((hon 2 (by kernel_rfl)).symm.trans h0_) (by decide), Q_WB⟩
    refine steps_cons ?_ ?_
    · rintro b a w' ⟨vw, ha, Q_FB, Q_X3, Q_OW, Q_WA, Q_WB⟩ hb_ hon hoff
      refine ⟨_, rfl, fun K hK => ?_⟩
      have e35 : a.tmps[35]? = some (.bool false) := by rw [ha]; exact putSel_on (e := (5, 35, .bool false)) 5 rfl rfl (hon 5 (by kernel_rfl)) rfl
      have e41 : a.tmps[41]? = some (.bool false) := by rw [ha]; exact putSel_on (e := (11, 41, .bool false)) 11 rfl rfl (hon 11 (by kernel_rfl)) rfl
      replace ha := Aside0.mk ha
      have FB := Aside0.mk Q_FB
      have X3 := Aside0.mk Q_X3
      have OW := Aside0.mk Q_OW
      have WB := Aside0.mk (Q_WB (hon 2 (by kernel_rfl)))
      refine value_ (w1 := w') (v := .bool false) (by rfl) rfl ?_ ?_
      · go_simp
        (try simp only [i64_w])
        try rfl
      refine hK.out _ _ ⟨vw, (by rw [ha.out]; exact putSel_upk 12 hb_ rfl rfl rfl), Q_FB, Q_X3, Q_OW, fun h0_ => absurd ((hon 2 (by kernel_rfl)).symm.trans h0_) (by decide), Q_WB⟩
    refine steps_cons ?_ ?_
    · rintro b a w' ⟨vw, ha, Q_FB, Q_X3, Q_OW, Q_WA, Q_WB⟩ hb_ hon hoff
      refine ⟨_, rfl, fun K hK => ?_⟩
      have e42 : a.tmps[42]? = some (.bool false) := by rw [ha]; exact putSel_on (e := (12, 42, .bool false)) 12 rfl rfl (hon 12 (by kernel_rfl)) rfl
      replace ha := Aside0.mk ha
      have FB := Aside0.mk Q_FB
      have X3 := Aside0.mk Q_X3
      have OW := Aside0.mk Q_OW
      have WB := Aside0.mk (Q_WB (hon 2 (by kernel_rfl)))
      refine value_ (w1 := w') (v := .bool false) (by rfl) rfl ?_ ?_
      · go_simp
        (try simp only [i64_w])
        try rfl
      refine hK.out _ _ ⟨vw, (by rw [ha.out]; exact putSel_upk 13 hb_ rfl rfl rfl), Q_FB, Q_X3, Q_OW, fun h0_ => absurd ((hon 2 (by kernel_rfl)).symm.trans h0_) (by decide), Q_WB⟩
    refine steps_cons ?_ ?_
    · rintro b a w' ⟨vw, ha, Q_FB, Q_X3, Q_OW, Q_WA, Q_WB⟩ hb_ hon hoff
      refine ⟨_, rfl, fun K hK => ?_⟩
      have e8 : a.tmps[8]? = some (.pointer (some ⟨g, 0, none⟩)) := by rw [ha]; exact (putSel_off rfl).trans rfl
      have e43 : a.tmps[43]? = some (.bool false) := by rw [ha]; exact putSel_on (e := (13, 43, .bool false)) 13 rfl rfl (hon 13 (by kernel_rfl)) rfl
      replace ha := Aside0.mk ha
      have FB := Aside0.mk Q_FB
      have X3 := Aside0.mk Q_X3
      have OW := Aside0.mk Q_OW
      have WB := Aside0.mk (Q_WB (hon 2 (by kernel_rfl)))
      refine goes_ Try.func28 (by kernel_rfl) rfl #[.pointer (some ⟨g, 0, none⟩)] (wanted_on rfl rfl rfl (e43.trans (by first | rfl | (simp [*]; done)))) rfl rfl (by first | (simp only [List.map_toArray, List.map_cons, List.map_nil, Act.eval, Array.getD_eq_getD_getElem?, Option.getD_some, e8, e43]; done) | (simp only [List.map_toArray, List.map_cons, List.map_nil, Act.eval, Array.getD_eq_getD_getElem?, Option.getD_some, e8, e43]; rfl)) ?_
      (with_reducible refine (wr_Len w w' g vw cs WB.out).mono ?_)
      rintro e w1_ ⟨rfl, rfl⟩
      refine ⟨_, rfl, ?_⟩
      refine hK.out _ _ ⟨vw, (by rw [ha.out]; exact putSel_upk 14 hb_ rfl rfl rfl), Q_FB, Q_X3, Q_OW, fun h0_ => absurd ((hon 2 (by kernel_rfl)).symm.trans h0_) (by decide), Q_WB⟩
    refine steps_cons ?_ ?_
    · rintro b a w' ⟨vw, ha, Q_FB, Q_X3, Q_OW, Q_WA, Q_WB⟩ hb_ hon hoff
      refine ⟨_, rfl, fun K hK => ?_⟩
      have e6 : a.tmps[6]? = some (.string tx) := by rw [ha]; exact (putSel_off rfl).trans rfl
      have e43 : a.tmps[43]? = some (.bool false) := by rw [ha]; exact putSel_on (e := (13, 43, .bool false)) 13 rfl rfl (hon 13 (by kernel_rfl)) rfl
      replace ha := Aside0.mk ha
      have FB := Aside0.mk Q_FB
      have X3 := Aside0.mk Q_X3
      have OW := Aside0.mk Q_OW
      have WB := Aside0.mk (Q_WB (hon 2 (by kernel_rfl)))
      refine value_ (w1 := w') (v := .string tx) (wanted_on rfl rfl rfl (e43.trans (by first | rfl | (simp [*]; done)))) rfl ?_ ?_
      · go_simp
        (try simp only [i64_w])
        try rfl
      refine hK.out _ _ ⟨vw, (by rw [ha.out]; exact putSel_upk 15 hb_ rfl rfl rfl), Q_FB, Q_X3, Q_OW, fun h0_ => absurd ((hon 2 (by kernel_rfl)).symm.trans h0_) (by decide), Q_WB⟩
    refine steps_cons ?_ ?_
    · rintro b a w' ⟨vw, ha, Q_FB, Q_X3, Q_OW, Q_WA, Q_WB⟩ hb_ hon hoff
      refine ⟨_, rfl, fun K hK => ?_⟩
      have e45 : a.tmps[45]? = some (.string tx) := by rw [ha]; exact putSel_on (e := (15, 45, .string tx)) 15 rfl rfl (hon 15 (by kernel_rfl)) rfl
      have e43 : a.tmps[43]? = some (.bool false) := by rw [ha]; exact putSel_on (e := (13, 43, .bool false)) 13 rfl rfl (hon 13 (by kernel_rfl)) rfl
      replace ha := Aside0.mk ha
      have FB := Aside0.mk Q_FB
      have X3 := Aside0.mk Q_X3
      have OW := Aside0.mk Q_OW
      have WB := Aside0.mk (Q_WB (hon 2 (by kernel_rfl)))
      refine value_ (w1 := w') (v := .int .i64 (tx.size : Int)) (wanted_on rfl rfl rfl (e43.trans (by first | rfl | (simp [*]; done)))) rfl ?_ ?_
      · go_simp
        (try simp only [i64_w])
        try rfl
      refine hK.out _ _ ⟨vw, (by rw [ha.out]; exact putSel_upk 16 hb_ rfl rfl rfl), Q_FB, Q_X3, Q_OW, fun h0_ => absurd ((hon 2 (by kernel_rfl)).symm.trans h0_) (by decide), Q_WB⟩
    refine steps_cons ?_ ?_
    · rintro b a w' ⟨vw, ha, Q_FB, Q_X3, Q_OW, Q_WA, Q_WB⟩ hb_ hon hoff
      refine ⟨_, rfl, fun K hK => ?_⟩
      have e44 : a.tmps[44]? = some (.int .i64 (cs.length : Int)) := by rw [ha]; exact putSel_on (e := (14, 44, .int .i64 (cs.length : Int))) 14 rfl rfl (hon 14 (by kernel_rfl)) rfl
      have e46 : a.tmps[46]? = some (.int .i64 (tx.size : Int)) := by rw [ha]; exact putSel_on (e := (16, 46, .int .i64 (tx.size : Int))) 16 rfl rfl (hon 16 (by kernel_rfl)) rfl
      have e43 : a.tmps[43]? = some (.bool false) := by rw [ha]; exact putSel_on (e := (13, 43, .bool false)) 13 rfl rfl (hon 13 (by kernel_rfl)) rfl
      replace ha := Aside0.mk ha
      have FB := Aside0.mk Q_FB
      have X3 := Aside0.mk Q_X3
      have OW := Aside0.mk Q_OW
      have WB := Aside0.mk (Q_WB (hon 2 (by kernel_rfl)))
      have q_ := HNE.out
      refine value_ (w1 := w') (v := .bool false) (wanted_on rfl rfl rfl (e43.trans (by first | rfl | (simp [*]; done)))) rfl ?_ ?_
      · go_simp
        (try simp only [i64_w])
        try rfl
      refine hK.out _ _ ⟨vw, (by rw [ha.out]; exact putSel_upk 17 hb_ rfl rfl rfl), Q_FB, Q_X3, Q_OW, fun h0_ => absurd ((hon 2 (by kernel_rfl)).symm.trans h0_) (by decide), Q_WB⟩
    refine steps_cons ?_ ?_
    · rintro b a w' ⟨vw, ha, Q_FB, Q_X3, Q_OW, Q_WA, Q_WB⟩ hb_ hon hoff
      refine ⟨_, rfl, fun K hK => ?_⟩
      have e43 : a.tmps[43]? = some (.bool false) := by rw [ha]; exact putSel_on (e := (13, 43, .bool false)) 13 rfl rfl (hon 13 (by kernel_rfl)) rfl
      have e47 : a.tmps[47]? = some (.bool false) := by rw [ha]; exact putSel_on (e := (17, 47, .bool false)) 17 rfl rfl (hon 17 (by kernel_rfl)) rfl
      replace ha := Aside0.mk ha
      have FB := Aside0.mk Q_FB
      have X3 := Aside0.mk Q_X3
      have OW := Aside0.mk Q_OW
      have WB := Aside0.mk (Q_WB (hon 2 (by kernel_rfl)))
      refine value_ (w1 := w') (v := .bool false) (by rfl) rfl ?_ ?_
      · go_simp
        (try simp only [i64_w])
        try rfl
      refine hK.out _ _ ⟨vw, (by rw [ha.out]; exact putSel_upk 18 hb_ rfl rfl rfl), Q_FB, Q_X3, Q_OW, fun h0_ => absurd ((hon 2 (by kernel_rfl)).symm.trans h0_) (by decide), Q_WB⟩
    refine steps_cons ?_ ?_
    · rintro b a w' ⟨vw, ha, Q_FB, Q_X3, Q_OW, Q_WA, Q_WB⟩ hb_ hon hoff
      refine ⟨_, rfl, fun K hK => ?_⟩
      have e48 : a.tmps[48]? = some (.bool false) := by rw [ha]; exact putSel_on (e := (18, 48, .bool false)) 18 rfl rfl (hon 18 (by kernel_rfl)) rfl
      replace ha := Aside0.mk ha
      have FB := Aside0.mk Q_FB
      have X3 := Aside0.mk Q_X3
      have OW := Aside0.mk Q_OW
      have WB := Aside0.mk (Q_WB (hon 2 (by kernel_rfl)))
      refine value_ (w1 := w') (v := .bool false) (by rfl) rfl ?_ ?_
      · go_simp
        (try simp only [i64_w])
        try rfl
      refine hK.out _ _ ⟨vw, (by rw [ha.out]; exact putSel_upk 19 hb_ rfl rfl rfl), Q_FB, Q_X3, Q_OW, fun h0_ => absurd ((hon 2 (by kernel_rfl)).symm.trans h0_) (by decide), Q_WB⟩
    refine steps_cons ?_ ?_
    · rintro b a w' ⟨vw, ha, Q_FB, Q_X3, Q_OW, Q_WA, Q_WB⟩ hb_ hon hoff
      refine ⟨_, rfl, fun K hK => ?_⟩
      have e0 : a.tmps[0]? = some (.slice A0 ls.length c0) := by rw [ha]; exact (putSel_off rfl).trans rfl
      have e49 : a.tmps[49]? = some (.bool false) := by rw [ha]; exact putSel_on (e := (19, 49, .bool false)) 19 rfl rfl (hon 19 (by kernel_rfl)) rfl
      replace ha := Aside0.mk ha
      have FB := Aside0.mk Q_FB
      have X3 := Aside0.mk Q_X3
      have OW := Aside0.mk Q_OW
      have WB := Aside0.mk (Q_WB (hon 2 (by kernel_rfl)))
      refine value_ (w1 := w') (v := .slice A0 ls.length c0) (wanted_on rfl rfl rfl (e49.trans (by first | rfl | (simp [*]; done)))) rfl ?_ ?_
      · go_simp
        (try simp only [i64_w])
        try rfl
      refine hK.out _ _ ⟨vw, (by rw [ha.out]; exact putSel_upk 20 hb_ rfl rfl rfl), Q_FB, Q_X3, Q_OW, fun h0_ => absurd ((hon 2 (by kernel_rfl)).symm.trans h0_) (by decide), Q_WB⟩
    refine steps_cons ?_ ?_
    · rintro b a w' ⟨vw, ha, Q_FB, Q_X3, Q_OW, Q_WA, Q_WB⟩ hb_ hon hoff
      refine ⟨_, rfl, fun K hK => ?_⟩
      have e50 : a.tmps[50]? = some (.slice A0 ls.length c0) := by rw [ha]; exact putSel_on (e := (20, 50, .slice A0 ls.length c0)) 20 rfl rfl (hon 20 (by kernel_rfl)) rfl
      have e49 : a.tmps[49]? = some (.bool false) := by rw [ha]; exact putSel_on (e := (19, 49, .bool false)) 19 rfl rfl (hon 19 (by kernel_rfl)) rfl
      replace ha := Aside0.mk ha
      have FB := Aside0.mk Q_FB
      have X3 := Aside0.mk Q_X3
      have OW := Aside0.mk Q_OW
      have WB := Aside0.mk (Q_WB (hon 2 (by kernel_rfl)))
      refine value_ (w1 := w') (v := .int .i64 (ls.length : Int)) (wanted_on rfl rfl rfl (e49.trans (by first | rfl | (simp [*]; done)))) rfl ?_ ?_
      · go_simp
        (try simp only [i64_w])
        try rfl
      refine hK.out _ _ ⟨vw, (by rw [ha.out]; exact putSel_upk 21 hb_ rfl rfl rfl), Q_FB, Q_X3, Q_OW, fun h0_ => absurd ((hon 2 (by kernel_rfl)).symm.trans h0_) (by decide), Q_WB⟩
    refine steps_cons ?_ ?_
    · rintro b a w' ⟨vw, ha, Q_FB, Q_X3, Q_OW, Q_WA, Q_WB⟩ hb_ hon hoff
      refine ⟨_, rfl, fun K hK => ?_⟩
      have e3 : a.tmps[3]? = some (.pointer (some ⟨b3, 0, none⟩)) := by rw [ha]; exact (putSel_off rfl).trans rfl
      have e49 : a.tmps[49]? = some (.bool false) := by rw [ha]; exact putSel_on (e := (19, 49, .bool false)) 19 rfl rfl (hon 19 (by kernel_rfl)) rfl
      replace ha := Aside0.mk ha
      have FB := Aside0.mk Q_FB
      have X3 := Aside0.mk Q_X3
      have OW := Aside0.mk Q_OW
      have WB := Aside0.mk (Q_WB (hon 2 (by kernel_rfl)))
      have q8_ : w'.cell? ⟨b3, 0, none⟩ = some (.int .i64 pp) := (blk_cell X3.out 0).trans rfl
      have q9_ : w'.cell? ⟨b3, 1, none⟩ = some (.slice Ak ks.length ck) := (blk_cell X3.out 1).trans rfl
      refine value_ (w1 := w') (v := .agg #[.int .i64 pp, .slice Ak ks.length ck]) (wanted_on rfl rfl rfl (e49.trans (by first | rfl | (simp [*]; done)))) rfl ?_ ?_
      · go_simp
        (try simp only [i64_w])
        try rfl
      refine hK.out _ _ ⟨vw, (by rw [ha.out]; exact putSel_upk 22 hb_ rfl rfl rfl), Q_FB, Q_X3, Q_OW, fun h0_ => absurd ((hon 2 (by kernel_rfl)).symm.trans h0_) (by decide), Q_WB⟩
    refine steps_cons ?_ ?_
    · rintro b a w' ⟨vw, ha, Q_FB, Q_X3, Q_OW, Q_WA, Q_WB⟩ hb_ hon hoff
      refine ⟨_, rfl, fun K hK => ?_⟩
      have e51 : a.tmps[51]? = some (.int .i64 (ls.length : Int)) := by rw [ha]; exact putSel_on (e := (21, 51, .int .i64 (ls.length : Int))) 21 rfl rfl (hon 21 (by kernel_rfl)) rfl
      have e52 : a.tmps[52]? = some (.agg #[.int .i64 pp, .slice Ak ks.length ck]) := by rw [ha]; exact putSel_on (e := (22, 52, .agg #[.int .i64 pp, .slice Ak ks.length ck])) 22 rfl rfl (hon 22 (by kernel_rfl)) rfl
      have e49 : a.tmps[49]? = some (.bool false) := by rw [ha]; exact putSel_on (e := (19, 49, .bool false)) 19 rfl rfl (hon 19 (by kernel_rfl)) rfl
      replace ha := Aside0.mk ha
      have FB := Aside0.mk Q_FB
      have X3 := Aside0.mk Q_X3
      have OW := Aside0.mk Q_OW
      have WB := Aside0.mk (Q_WB (hon 2 (by kernel_rfl)))
      refine goes_ Try.func18 (by kernel_rfl) rfl #[.int .i64 (ls.length : Int), .agg #[.int .i64 pp, .slice Ak ks.length ck]] (wanted_on rfl rfl rfl (e49.trans (by first | rfl | (simp [*]; done)))) rfl rfl (by first | (simp only [List.map_toArray, List.map_cons, List.map_nil, Act.eval, Array.getD_eq_getD_getElem?, Option.getD_some, e51, e52, e49]; done) | (simp only [List.map_toArray, List.map_cons, List.map_nil, Act.eval, Array.getD_eq_getD_getElem?, Option.getD_some, e51, e52, e49]; rfl)) ?_
      (with_reducible refine (slide_Good.calls (ls.length : Int) pp Ak ck ks gv w' (Kd.C_below HRK.out FB.out) HC.out.2 HGV.out).mono ?_)
      rintro e w1_ ⟨rfl, hbl_⟩
      refine ⟨_, rfl, ?_⟩
      refine hK.out _ _ ⟨vw, (by rw [ha.out]; exact putSel_upk 23 hb_ rfl rfl rfl), below_then FB.out FB.out.size hbl_, blk_below X3.out hbl_, own_below OW.out hbl_, fun h0_ => absurd ((hon 2 (by kernel_rfl)).symm.trans h0_) (by decide), fun _ => isWr_below WB.out hbl_⟩
    refine steps_cons ?_ ?_
    · rintro b a w' ⟨vw, ha, Q_FB, Q_X3, Q_OW, Q_WA, Q_WB⟩ hb_ hon hoff
      refine ⟨_, rfl, fun K hK => ?_⟩
      have e0 : a.tmps[0]? = some (.slice A0 ls.length c0) := by rw [ha]; exact (putSel_off rfl).trans rfl
      have e49 : a.tmps[49]? = some (.bool false) := by rw [ha]; exact putSel_on (e := (19, 49, .bool false)) 19 rfl rfl (hon 19 (by kernel_rfl)) rfl
      replace ha := Aside0.mk ha
      have FB := Aside0.mk Q_FB
      have X3 := Aside0.mk Q_X3
      have OW := Aside0.mk Q_OW
      have WB := Aside0.mk (Q_WB (hon 2 (by kernel_rfl)))
      refine value_ (w1 := w') (v := .slice A0 ls.length c0) (wanted_on rfl rfl rfl (e49.trans (by first | rfl | (simp [*]; done)))) rfl ?_ ?_
      · go_simp
        (try simp only [i64_w])
        try rfl
      refine hK.out _ _ ⟨vw, (by rw [ha.out]; exact putSel_upk 24 hb_ rfl rfl rfl), Q_FB, Q_X3, Q_OW, fun h0_ => absurd ((hon 2 (by kernel_rfl)).symm.trans h0_) (by decide), Q_WB⟩
    refine steps_cons ?_ ?_
    · rintro b a w' ⟨vw, ha, Q_FB, Q_X3, Q_OW, Q_WA, Q_WB⟩ hb_ hon hoff
      refine ⟨_, rfl, fun K hK => ?_⟩
      have e54 : a.tmps[54]? = some (.slice A0 ls.length c0) := by rw [ha]; exact putSel_on (e := (24, 54, .slice A0 ls.length c0)) 24 rfl rfl (hon 24 (by kernel_rfl)) rfl
      have e49 : a.tmps[49]? = some (.bool false) := by rw [ha]; exact putSel_on (e := (19, 49, .bool false)) 19 rfl rfl (hon 19 (by kernel_rfl)) rfl
      replace ha := Aside0.mk ha
      have FB := Aside0.mk Q_FB
      have X3 := Aside0.mk Q_X3
      have OW := Aside0.mk Q_OW
      have WB := Aside0.mk (Q_WB (hon 2 (by kernel_rfl)))
      refine value_ (w1 := w') (v := .int .i64 (ls.length : Int)) (wanted_on rfl rfl rfl (e49.trans (by first | rfl | (simp [*]; done)))) rfl ?_ ?_
      · go_simp
        (try simp only [i64_w])
        try rfl
      refine hK.out _ _ ⟨vw, (by rw [ha.out]; exact putSel_upk 25 hb_ rfl rfl rfl), Q_FB, Q_X3, Q_OW, fun h0_ => absurd ((hon 2 (by kernel_rfl)).symm.trans h0_) (by decide), Q_WB⟩
    refine steps_cons ?_ ?_
    · rintro b a w' ⟨vw, ha, Q_FB, Q_X3, Q_OW, Q_WA, Q_WB⟩ hb_ hon hoff
      refine ⟨_, rfl, fun K hK => ?_⟩
      have e3 : a.tmps[3]? = some (.pointer (some ⟨b3, 0, none⟩)) := by rw [ha]; exact (putSel_off rfl).trans rfl
      have e49 : a.tmps[49]? = some (.bool false) := by rw [ha]; exact putSel_on (e := (19, 49, .bool false)) 19 rfl rfl (hon 19 (by kernel_rfl)) rfl
      replace ha := Aside0.mk ha
      have FB := Aside0.mk Q_FB
      have X3 := Aside0.mk Q_X3
      have OW := Aside0.mk Q_OW
      have WB := Aside0.mk (Q_WB (hon 2 (by kernel_rfl)))
      have q8_ : w'.cell? ⟨b3, 0, none⟩ = some (.int .i64 pp) := (blk_cell X3.out 0).trans rfl
      have q9_ : w'.cell? ⟨b3, 1, none⟩ = some (.slice Ak ks.length ck) := (blk_cell X3.out 1).trans rfl
      refine value_ (w1 := w') (v := .agg #[.int .i64 pp, .slice Ak ks.length ck]) (wanted_on rfl rfl rfl (e49.trans (by first | rfl | (simp [*]; done)))) rfl ?_ ?_
      · go_simp
        (try simp only [i64_w])
        try rfl
      refine hK.out _ _ ⟨vw, (by rw [ha.out]; exact putSel_upk 26 hb_ rfl rfl rfl), Q_FB, Q_X3, Q_OW, fun h0_ => absurd ((hon 2 (by kernel_rfl)).symm.trans h0_) (by decide), Q_WB⟩
    refine steps_cons ?_ ?_
    · rintro b a w' ⟨vw, ha, Q_FB, Q_X3, Q_OW, Q_WA, Q_WB⟩ hb_ hon hoff
      refine ⟨_, rfl, fun K hK => ?_⟩
      have e55 : a.tmps[55]? = some (.int .i64 (ls.length : Int)) := by rw [ha]; exact putSel_on (e := (25, 55, .int .i64 (ls.length : Int))) 25 rfl rfl (hon 25 (by kernel_rfl)) rfl
      have e56 : a.tmps[56]? = some (.agg #[.int .i64 pp, .slice Ak ks.length ck]) := by rw [ha]; exact putSel_on (e := (26, 56, .agg #[.int .i64 pp, .slice Ak ks.length ck])) 26 rfl rfl (hon 26 (by kernel_rfl)) rfl
      have e49 : a.tmps[49]? = some (.bool false) := by rw [ha]; exact putSel_on (e := (19, 49, .bool false)) 19 rfl rfl (hon 19 (by kernel_rfl)) rfl
      replace ha := Aside0.mk ha
      have FB := Aside0.mk Q_FB
      have X3 := Aside0.mk Q_X3
      have OW := Aside0.mk Q_OW
      have WB := Aside0.mk (Q_WB (hon 2 (by kernel_rfl)))
      refine goes_ Try.func17 (by kernel_rfl) rfl #[.int .i64 (ls.length : Int), .agg #[.int .i64 pp, .slice Ak ks.length ck]] (wanted_on rfl rfl rfl (e49.trans (by first | rfl | (simp [*]; done)))) rfl rfl (by first | (simp only [List.map_toArray, List.map_cons, List.map_nil, Act.eval, Array.getD_eq_getD_getElem?, Option.getD_some, e55, e56, e49]; done) | (simp only [List.map_toArray, List.map_cons, List.map_nil, Act.eval, Array.getD_eq_getD_getElem?, Option.getD_some, e55, e56, e49]; rfl)) ?_
      (with_reducible refine (sackbutref03_Good.calls 5000 (ls.length : Int) pp Ak ck ks gv w' (Kd.C_below HRK.out FB.out) HC.out.2 HRG.out).mono ?_)
      rintro e w1_ ⟨rfl, hbl_⟩
      refine ⟨_, rfl, ?_⟩
      refine hK.out _ _ ⟨vw, (by rw [ha.out]; exact putSel_upk 27 hb_ rfl rfl rfl), below_then FB.out FB.out.size hbl_, blk_below X3.out hbl_, own_below OW.out hbl_, fun h0_ => absurd ((hon 2 (by kernel_rfl)).symm.trans h0_) (by decide), fun _ => isWr_below WB.out hbl_⟩
    refine steps_cons ?_ ?_
    · rintro b a w' ⟨vw, ha, Q_FB, Q_X3, Q_OW, Q_WA, Q_WB⟩ hb_ hon hoff
      refine ⟨_, rfl, fun K hK => ?_⟩
      have e53 : a.tmps[53]? = some (.bool gv) := by rw [ha]; exact putSel_on (e := (23, 53, .bool gv)) 23 rfl rfl (hon 23 (by kernel_rfl)) rfl
      have e57 : a.tmps[57]? = some (.bool gv) := by rw [ha]; exact putSel_on (e := (27, 57, .bool gv)) 27 rfl rfl (hon 27 (by kernel_rfl)) rfl
      have e49 : a.tmps[49]? = some (.bool false) := by rw [ha]; exact putSel_on (e := (19, 49, .bool false)) 19 rfl rfl (hon 19 (by kernel_rfl)) rfl
      replace ha := Aside0.mk ha
      have FB := Aside0.mk Q_FB
      have X3 := Aside0.mk Q_X3
      have OW := Aside0.mk Q_OW
      have WB := Aside0.mk (Q_WB (hon 2 (by kernel_rfl)))
      refine value_ (w1 := w') (v := .bool false) (wanted_on rfl rfl rfl (e49.trans (by first | rfl | (simp [*]; done)))) rfl ?_ ?_
      · go_simp
        (try simp only [i64_w])
        try rfl
      refine hK.out _ _ ⟨vw, (by rw [ha.out]; exact putSel_upk 28 hb_ rfl rfl rfl), Q_FB, Q_X3, Q_OW, fun h0_ => absurd ((hon 2 (by kernel_rfl)).symm.trans h0_) (by decide), Q_WB⟩
    refine steps_cons ?_ ?_
    · rintro b a w' ⟨vw, ha, Q_FB, Q_X3, Q_OW, Q_WA, Q_WB⟩ hb_ hon hoff
      refine ⟨_, rfl, fun K hK => ?_⟩
      have e49 : a.tmps[49]? = some (.bool false) := by rw [ha]; exact putSel_on (e := (19, 49, .bool false)) 19 rfl rfl (hon 19 (by kernel_rfl)) rfl
      have e58 : a.tmps[58]? = some (.bool false) := by rw [ha]; exact putSel_on (e := (28, 58, .bool false)) 28 rfl rfl (hon 28 (by kernel_rfl)) rfl
      replace ha := Aside0.mk ha
      have FB := Aside0.mk Q_FB
      have X3 := Aside0.mk Q_X3
      have OW := Aside0.mk Q_OW
      have WB := Aside0.mk (Q_WB (hon 2 (by kernel_rfl)))
      refine value_ (w1 := w') (v := .bool false) (by rfl) rfl ?_ ?_
      · go_simp
        (try simp only [i64_w])
        try rfl
      refine hK.out _ _ ⟨vw, (by rw [ha.out]; exact putSel_upk 29 hb_ rfl rfl rfl), Q_FB, Q_X3, Q_OW, fun h0_ => absurd ((hon 2 (by kernel_rfl)).symm.trans h0_) (by decide), Q_WB⟩
    exact steps_nil
  · rintro b a w' hall ⟨vw, ha, Q_FB, Q_X3, Q_OW, Q_WA, Q_WB⟩
    have hb0_ := hall 0 (by kernel_rfl)
    have hb1_ := hall 1 (by kernel_rfl)
    have hb2_ := hall 2 (by kernel_rfl)
    have hb3_ := hall 3 (by kernel_rfl)
    have hb4_ := hall 4 (by kernel_rfl)
    have hb5_ := hall 5 (by kernel_rfl)
    have hb6_ := hall 6 (by kernel_rfl)
    have hb7_ := hall 7 (by kernel_rfl)
    have hb8_ := hall 8 (by kernel_rfl)
    have hb9_ := hall 9 (by kernel_rfl)
    have hb10_ := hall 10 (by kernel_rfl)
    have hb11_ := hall 11 (by kernel_rfl)
    have hb12_ := hall 12 (by kernel_rfl)
    have hb13_ := hall 13 (by kernel_rfl)
    have hb14_ := hall 14 (by kernel_rfl)
    have hb15_ := hall 15 (by kernel_rfl)
    have hb16_ := hall 16 (by kernel_rfl)
    have hb17_ := hall 17 (by kernel_rfl)
    have hb18_ := hall 18 (by kernel_rfl)
    have hb19_ := hall 19 (by kernel_rfl)
    have hb20_ := hall 20 (by kernel_rfl)
    have hb21_ := hall 21 (by kernel_rfl)
    have hb22_ := hall 22 (by kernel_rfl)
    have hb23_ := hall 23 (by kernel_rfl)
    have hb24_ := hall 24 (by kernel_rfl)
    have hb25_ := hall 25 (by kernel_rfl)
    have hb26_ := hall 26 (by kernel_rfl)
    have hb27_ := hall 27 (by kernel_rfl)
    have hb28_ := hall 28 (by kernel_rfl)
    have hb29_ := hall 29 (by kernel_rfl)
    subst ha
    simp only [putSel, hb0_, hb1_, hb2_, hb3_, hb4_, hb5_, hb6_, hb7_, hb8_, hb9_, hb10_, hb11_, hb12_, hb13_, hb14_, hb15_, hb16_, hb17_, hb18_, hb19_, hb20_, hb21_, hb22_, hb23_, hb24_, hb25_, hb26_, hb27_, hb28_, hb29_, if_true, Act.put, List.setIfInBounds_toArray, List.set_cons_zero, List.set_cons_succ]
    have FB := Aside0.mk Q_FB
    clear Q_FB
    have X3 := Aside0.mk Q_X3
    clear Q_X3
    have OW := Aside0.mk Q_OW
    clear Q_OW
    clear Q_WA
    have WB := Aside0.mk (Q_WB hb2_)
    clear Q_WB
    clear hall hb0_ hb1_ hb2_ hb3_ hb4_ hb5_ hb6_ hb7_ hb8_ hb9_ hb10_ hb11_ hb12_ hb13_ hb14_ hb15_ hb16_ hb17_ hb18_ hb19_ hb20_ hb21_ hb22_ hb23_ hb24_ hb25_ hb26_ hb27_ hb28_ hb29_
    clear HX6 HO6 HW6 HB6
    have HB7 := FB
    have HX7 := X3
    have HO7 := OW
    have HW7 := WB
    clear FB X3 OW WB
    cases ok with
    | false =>
      go_wp2
      go_ret
      exact ⟨rfl, HB7.out⟩
    | true =>
      obtain ⟨rfl, q, htk, hen⟩ := HYES.out rfl
      have HTK := Aside0.mk htk
      have HEN := Aside0.mk hen
      have HBY := Aside0.mk (bytes_ok (l := cs) (by have := HCL.out; omega) (k := 9000) (by have := HCL.out; omega))
      clear htk hen
      generalize txt cs = tx at *
      go_wp2_with fail
      (with_reducible refine (wr_Bytes w _ _ _ _ HW7.out (by have := HCL.out; omega)).mono ?_)
      rintro e w8 ⟨v8, rfl, ho8, hb8⟩
      obtain ⟨A8, c8, rfl, hle8, hC8⟩ := owns_reads8 ho8
      have HC8 := Aside0.mk hC8
      have HL8 := Aside0.mk hle8
      have HB8 := Aside0.mk (below_then HB7.out HB7.out.size hb8)
      have HX8 := Aside0.mk (blk_below HX7.out hb8)
      have HO8 := Aside0.mk (own_below HO7.out hb8)
      have HW8 := Aside0.mk (isWr_below HW7.out hb8)
      clear ho8 hb8 hC8 hle8 HB7 HX7 HO7 HW7
      go_wp2_with fail
      (with_reducible refine (pipe_Open.calls A8 c8 (pack cs) (pack cs) 0 0 w8 _ (Below.refl _ _) HC8.out HL8.out rfl).mono ?_)
      rintro e w9 ⟨g9, rfl, hr9, hb9, hbb9⟩
      have HR9 := Aside0.mk hr9
      have HBR9 := Aside0.mk hb9
      have HB9 := Aside0.mk (below_then HB8.out HB8.out.size hbb9)
      have HX9 := Aside0.mk (blk_below HX8.out hbb9)
      have HO9 := Aside0.mk (own_below HO8.out hbb9)
      have HW9 := Aside0.mk (isWr_below HW8.out hbb9)
      clear hr9 hb9 hbb9 HC8 HL8 HX8 HO8 HW8
      go_upto_region 11 with fail
      refine start_ (n := 10) (S := fun w' => True) (ds := []) #[false, false, false, false, false, false, false, false, false, false] (by kernel_rfl) rfl rfl trivial (fun hHeld => ?_)
      refine with_tabW sackbutlaw03_SlidePuts.tab11 sackbutlaw03_SlidePuts.bits11 (fun HT_ HW_ => ?_)
      obtain ⟨wd, hwd⟩ : ∃ wd, w9.drew = wd := ⟨_, rfl⟩
      rw [hwd]
      have FBD : Aside0 (Below w.heap.size w wd) := ⟨by rw [← hwd]; exact below_drew1 HB9.out⟩
      have X3D : Aside0 (wd.heap[b3]? = some (.cells #[.int .i64 pp, .slice Ak ks.length ck] 24 (0, 0))) := ⟨by rw [← hwd]; exact HX9.out⟩
      have OWD : Aside0 (wd.ownsRow w.heap.size 3 1 (.slice A5 ls.length c5) ls.length (nums .i64 ls)) := ⟨by rw [← hwd]; exact own_below HO9.out (below_drew1 (Below.refl w9.heap.size w9))⟩
      have WBD : Aside0 (IsWr w wd g vw cs) := ⟨by rw [← hwd]; exact isWr_below HW9.out (below_drew1 (Below.refl w9.heap.size w9))⟩
      have RDD : Aside0 (IsS74 w8 wd g9 (pack cs) 0 0) := ⟨by rw [← hwd]; exact HR9.out.below (below_drew1 (Below.refl w9.heap.size w9))⟩
      have RBD : Aside0 (Below w8.heap.size w8 wd) := ⟨by rw [← hwd]; exact below_drew1 HBR9.out⟩
      clear hwd hHeld
      refine inv_at [0, 1, 2, 3, 4, 5, 6, 7, 8, 9] (fun a0_ b a w' => ∃ (vb : Value) (vr : Value), a = putSel a0_ b [(0, 64, .pointer (some ⟨g9, 0, none⟩)), (1, 65, .bool false), (2, 66, .bool false), (3, 67, vb), (4, 68, .string (strOfNums (pack cs))), (5, 69, .string tx), (6, 70, vr), (7, 71, .string (strOfNums (pack cs))), (8, 72, .bool false), (9, 73, .bool false)] ∧ (Below w.heap.size w w') ∧ (w'.heap[b3]? = some (.cells #[.int .i64 pp, .slice Ak ks.length ck] 24 (0, 0))) ∧ (w'.ownsRow w.heap.size 3 1 (.slice A5 ls.length c5) ls.length (nums .i64 ls)) ∧ (IsWr w w' g vw cs) ∧ (IsS74 w8 w' g9 (pack cs) 0 0) ∧ (Below w8.heap.size w8 w') ∧ (b 3 = true → w'.ownsRow w.heap.size 5 1 vb (pack cs).length (nums .u8 (pack cs))) ∧ (b 6 = true → Kd.R (Kd.int .u8) 5 w' w.heap.size (fun _ => True) vr (pack cs))) HT_.out HW_.out (by kernel_rfl) (by kernel_rfl) ?_ ?_ ?_
      · exact ⟨.bool false, .bool false, by simp only [putSel, Bool.false_eq_true, if_false], FBD.out, X3D.out, OWD.out, WBD.out, RDD.out, RBD.out, fun h_ => absurd h_ (by decide), fun h_ => absurd h_ (by decide)⟩
      · skip
        refine steps_cons ?_ ?_
        · rintro b a w' ⟨vb, vr, ha, Q_FB, Q_X3, Q_OW, Q_WB, Q_RD, Q_RB, Q_O1, Q_O2⟩ hb_ hon hoff
          refine ⟨_, rfl, fun K hK => ?_⟩
          have e9 : a.tmps[9]? = some (.pointer (some ⟨g9, 0, none⟩)) := by rw [ha]; exact (putSel_off rfl).trans rfl
          replace ha := Aside0.mk ha
          have FB := Aside0.mk Q_FB
          have X3 := Aside0.mk Q_X3
          have OW := Aside0.mk Q_OW
          have WB := Aside0.mk Q_WB
          have RD := Aside0.mk Q_RD
          have RB := Aside0.mk Q_RB
          refine value_ (w1 := w') (v := .pointer (some ⟨g9, 0, none⟩)) (by rfl) rfl ?_ ?_
          · go_simp
            (try simp only [i64_w])
            try rfl
          refine hK.out _ _ ⟨vb, vr, (by rw [ha.out]; exact putSel_upk 0 hb_ rfl rfl rfl), Q_FB, Q_X3, Q_OW, Q_WB, Q_RD, Q_RB, fun h0_ => absurd ((hoff 3 (by kernel_rfl)).symm.trans h0_) (by decide), fun h0_ => absurd ((hoff 6 (by kernel_rfl)).symm.trans h0_) (by decide)⟩
        refine steps_cons ?_ ?_
        · rintro b a w' ⟨vb, vr, ha, Q_FB, Q_X3, Q_OW, Q_WB, Q_RD, Q_RB, Q_O1, Q_O2⟩ hb_ hon hoff
          refine ⟨_, rfl, fun K hK => ?_⟩
          have e64 : a.tmps[64]? = some (.pointer (some ⟨g9, 0, none⟩)) := by rw [ha]; exact putSel_on (e := (0, 64, .pointer (some ⟨g9, 0, none⟩))) 0 rfl rfl (hon 0 (by kernel_rfl)) rfl
          replace ha := Aside0.mk ha
          have FB := Aside0.mk Q_FB
          have X3 := Aside0.mk Q_X3
          have OW := Aside0.mk Q_OW
          have WB := Aside0.mk Q_WB
          have RD := Aside0.mk Q_RD
          have RB := Aside0.mk Q_RB
          refine value_ (w1 := w') (v := .bool false) (by rfl) rfl ?_ ?_
          · go_simp
            (try simp only [i64_w])
            try rfl
          refine hK.out _ _ ⟨vb, vr, (by rw [ha.out]; exact putSel_upk 1 hb_ rfl rfl rfl), Q_FB, Q_X3, Q_OW, Q_WB, Q_RD, Q_RB, fun h0_ => absurd ((hoff 3 (by kernel_rfl)).symm.trans h0_) (by decide), fun h0_ => absurd ((hoff 6 (by kernel_rfl)).symm.trans h0_) (by decide)⟩
        refine steps_cons ?_ ?_
        · rintro b a w' ⟨vb, vr, ha, Q_FB, Q_X3, Q_OW, Q_WB, Q_RD, Q_RB, Q_O1, Q_O2⟩ hb_ hon hoff
          refine ⟨_, rfl, fun K hK => ?_⟩
          have e65 : a.tmps[65]? = some (.bool false) := by rw [ha]; exact putSel_on (e := (1, 65, .bool false)) 1 rfl rfl (hon 1 (by kernel_rfl)) rfl
          replace ha := Aside0.mk ha
          have FB := Aside0.mk Q_FB
          have X3 := Aside0.mk Q_X3
          have OW := Aside0.mk Q_OW
          have WB := Aside0.mk Q_WB
          have RD := Aside0.mk Q_RD
          have RB := Aside0.mk Q_RB
          refine value_ (w1 := w') (v := .bool false) (by rfl) rfl ?_ ?_
          · go_simp
            (try simp only [i64_w])
            try rfl
          refine hK.out _ _ ⟨vb, vr, (by rw [ha.out]; exact putSel_upk 2 hb_ rfl rfl rfl), Q_FB, Q_X3, Q_OW, Q_WB, Q_RD, Q_RB, fun h0_ => absurd ((hoff 3 (by kernel_rfl)).symm.trans h0_) (by decide), fun h0_ => absurd ((hoff 6 (by kernel_rfl)).symm.trans h0_) (by decide)⟩
        refine steps_cons ?_ ?_
        · rintro b a w' ⟨vb, vr, ha, Q_FB, Q_X3, Q_OW, Q_WB, Q_RD, Q_RB, Q_O1, Q_O2⟩ hb_ hon hoff
          refine ⟨_, rfl, fun K hK => ?_⟩
          have e8 : a.tmps[8]? = some (.pointer (some ⟨g, 0, none⟩)) := by rw [ha]; exact (putSel_off rfl).trans rfl
          have e66 : a.tmps[66]? = some (.bool false) := by rw [ha]; exact putSel_on (e := (2, 66, .bool false)) 2 rfl rfl (hon 2 (by kernel_rfl)) rfl
          replace ha := Aside0.mk ha
          have FB := Aside0.mk Q_FB
          have X3 := Aside0.mk Q_X3
          have OW := Aside0.mk Q_OW
          have WB := Aside0.mk Q_WB
          have RD := Aside0.mk Q_RD
          have RB := Aside0.mk Q_RB
          refine goes_ Try.func29 (by kernel_rfl) rfl #[.pointer (some ⟨g, 0, none⟩)] (wanted_on rfl rfl rfl (e66.trans (by first | rfl | (simp [*]; done)))) rfl rfl (by first | (simp only [List.map_toArray, List.map_cons, List.map_nil, Act.eval, Array.getD_eq_getD_getElem?, Option.getD_some, e8, e66]; done) | (simp only [List.map_toArray, List.map_cons, List.map_nil, Act.eval, Array.getD_eq_getD_getElem?, Option.getD_some, e8, e66]; rfl)) ?_
          (with_reducible refine (wr_Bytes w w' g vw cs WB.out (by have := HCL.out; omega)).mono ?_)
          rintro e w1_ ⟨v1_, rfl, ho_, hbl_⟩
          refine ⟨_, rfl, ?_⟩
          refine hK.out _ _ ⟨v1_, vr, (by rw [ha.out]; exact putSel_upk 3 hb_ rfl rfl rfl), below_then FB.out FB.out.size hbl_, blk_below X3.out hbl_, own_below OW.out hbl_, isWr_below WB.out hbl_, RD.out.below hbl_, below_then RB.out RB.out.size hbl_, fun _ => own_weaken ho_ FB.out.size, fun h0_ => absurd ((hoff 6 (by kernel_rfl)).symm.trans h0_) (by decide)⟩
        refine steps_cons ?_ ?_
        · rintro b a w' ⟨vb, vr, ha, Q_FB, Q_X3, Q_OW, Q_WB, Q_RD, Q_RB, Q_O1, Q_O2⟩ hb_ hon hoff
          refine ⟨_, rfl, fun K hK => ?_⟩
          have e67 : a.tmps[67]? = some (vb) := by rw [ha]; exact putSel_on (e := (3, 67, vb)) 3 rfl rfl (hon 3 (by kernel_rfl)) rfl
          have e66 : a.tmps[66]? = some (.bool false) := by rw [ha]; exact putSel_on (e := (2, 66, .bool false)) 2 rfl rfl (hon 2 (by kernel_rfl)) rfl
          replace ha := Aside0.mk ha
          have FB := Aside0.mk Q_FB
          have X3 := Aside0.mk Q_X3
          have OW := Aside0.mk Q_OW
          have WB := Aside0.mk Q_WB
          have RD := Aside0.mk Q_RD
          have RB := Aside0.mk Q_RB
          have O1 := Aside0.mk (Q_O1 (hon 3 (by kernel_rfl)))
          have hcv_ := own_string (P := Try.prog) Try.underlying38 Try.underlying5 Try.underlying9 O1.out
          refine value_ (w1 := w') (v := .string (strOfNums (pack cs))) (wanted_on rfl rfl rfl (e66.trans (by first | rfl | (simp [*]; done)))) rfl ?_ ?_
          · go_simp
            (try simp only [i64_w])
            try rfl
          refine hK.out _ _ ⟨vb, vr, (by rw [ha.out]; exact putSel_upk 4 hb_ rfl rfl rfl), Q_FB, Q_X3, Q_OW, Q_WB, Q_RD, Q_RB, Q_O1, Q_O2⟩
        refine steps_cons ?_ ?_
        · rintro b a w' ⟨vb, vr, ha, Q_FB, Q_X3, Q_OW, Q_WB, Q_RD, Q_RB, Q_O1, Q_O2⟩ hb_ hon hoff
          refine ⟨_, rfl, fun K hK => ?_⟩
          have e6 : a.tmps[6]? = some (.string tx) := by rw [ha]; exact (putSel_off rfl).trans rfl
          have e66 : a.tmps[66]? = some (.bool false) := by rw [ha]; exact putSel_on (e := (2, 66, .bool false)) 2 rfl rfl (hon 2 (by kernel_rfl)) rfl
          replace ha := Aside0.mk ha
          have FB := Aside0.mk Q_FB
          have X3 := Aside0.mk Q_X3
          have OW := Aside0.mk Q_OW
          have WB := Aside0.mk Q_WB
          have RD := Aside0.mk Q_RD
          have RB := Aside0.mk Q_RB
          refine value_ (w1 := w') (v := .string tx) (wanted_on rfl rfl rfl (e66.trans (by first | rfl | (simp [*]; done)))) rfl ?_ ?_
          · go_simp
            (try simp only [i64_w])
            try rfl
          refine hK.out _ _ ⟨vb, vr, (by rw [ha.out]; exact putSel_upk 5 hb_ rfl rfl rfl), Q_FB, Q_X3, Q_OW, Q_WB, Q_RD, Q_RB, Q_O1, fun h0_ => absurd ((hoff 6 (by kernel_rfl)).symm.trans h0_) (by decide)⟩
        refine steps_cons ?_ ?_
        · rintro b a w' ⟨vb, vr, ha, Q_FB, Q_X3, Q_OW, Q_WB, Q_RD, Q_RB, Q_O1, Q_O2⟩ hb_ hon hoff
          refine ⟨_, rfl, fun K hK => ?_⟩
          have e69 : a.tmps[69]? = some (.string tx) := by rw [ha]; exact putSel_on (e := (5, 69, .string tx)) 5 rfl rfl (hon 5 (by kernel_rfl)) rfl
          have e66 : a.tmps[66]? = some (.bool false) := by rw [ha]; exact putSel_on (e := (2, 66, .bool false)) 2 rfl rfl (hon 2 (by kernel_rfl)) rfl
          replace ha := Aside0.mk ha
          have FB := Aside0.mk Q_FB
          have X3 := Aside0.mk Q_X3
          have OW := Aside0.mk Q_OW
          have WB := Aside0.mk Q_WB
          have RD := Aside0.mk Q_RD
          have RB := Aside0.mk Q_RB
          have O1 := Aside0.mk (Q_O1 (hon 3 (by kernel_rfl)))
          refine goes_ Try.func30 (by kernel_rfl) rfl #[.string tx] (wanted_on rfl rfl rfl (e66.trans (by first | rfl | (simp [*]; done)))) rfl rfl (by first | (simp only [List.map_toArray, List.map_cons, List.map_nil, Act.eval, Array.getD_eq_getD_getElem?, Option.getD_some, e69, e66]; done) | (simp only [List.map_toArray, List.map_cons, List.map_nil, Act.eval, Array.getD_eq_getD_getElem?, Option.getD_some, e69, e66]; rfl)) ?_
          (with_reducible refine (sackbutref01_Bytes.calls 9000 tx (pack cs) w' HBY.out).mono ?_)
          rintro e w1_ ⟨v1_, rfl, hr_, hbl_⟩
          refine ⟨_, rfl, ?_⟩
          refine hK.out _ _ ⟨vb, v1_, (by rw [ha.out]; exact putSel_upk 6 hb_ rfl rfl rfl), below_then FB.out FB.out.size hbl_, blk_below X3.out hbl_, own_below OW.out hbl_, isWr_below WB.out hbl_, RD.out.below hbl_, below_then RB.out RB.out.size hbl_, fun _ => own_below O1.out hbl_, fun _ => Kd.R_lower hr_ FB.out.size⟩
        refine steps_cons ?_ ?_
        · rintro b a w' ⟨vb, vr, ha, Q_FB, Q_X3, Q_OW, Q_WB, Q_RD, Q_RB, Q_O1, Q_O2⟩ hb_ hon hoff
          refine ⟨_, rfl, fun K hK => ?_⟩
          have e70 : a.tmps[70]? = some (vr) := by rw [ha]; exact putSel_on (e := (6, 70, vr)) 6 rfl rfl (hon 6 (by kernel_rfl)) rfl
          have e66 : a.tmps[66]? = some (.bool false) := by rw [ha]; exact putSel_on (e := (2, 66, .bool false)) 2 rfl rfl (hon 2 (by kernel_rfl)) rfl
          replace ha := Aside0.mk ha
          have FB := Aside0.mk Q_FB
          have X3 := Aside0.mk Q_X3
          have OW := Aside0.mk Q_OW
          have WB := Aside0.mk Q_WB
          have RD := Aside0.mk Q_RD
          have RB := Aside0.mk Q_RB
          have O1 := Aside0.mk (Q_O1 (hon 3 (by kernel_rfl)))
          have O2 := Aside0.mk (Q_O2 (hon 6 (by kernel_rfl)))
          have hcv_ := own_string (P := Try.prog) Try.underlying38 Try.underlying5 Try.underlying9 (Kd.own_of_R O2.out)
          refine value_ (w1 := w') (v := .string (strOfNums (pack cs))) (wanted_on rfl rfl rfl (e66.trans (by first | rfl | (simp [*]; done)))) rfl ?_ ?_
          · go_simp
            (try simp only [i64_w])
            try rfl
          refine hK.out _ _ ⟨vb, vr, (by rw [ha.out]; exact putSel_upk 7 hb_ rfl rfl rfl), Q_FB, Q_X3, Q_OW, Q_WB, Q_RD, Q_RB, Q_O1, Q_O2⟩
        refine steps_cons ?_ ?_
        · rintro b a w' ⟨vb, vr, ha, Q_FB, Q_X3, Q_OW, Q_WB, Q_RD, Q_RB, Q_O1, Q_O2⟩ hb_ hon hoff
          refine ⟨_, rfl, fun K hK => ?_⟩
          have e68 : a.tmps[68]? = some (.string (strOfNums (pack cs))) := by rw [ha]; exact putSel_on (e := (4, 68, .string (strOfNums (pack cs)))) 4 rfl rfl (hon 4 (by kernel_rfl)) rfl
          have e71 : a.tmps[71]? = some (.string (strOfNums (pack cs))) := by rw [ha]; exact putSel_on (e := (7, 71, .string (strOfNums (pack cs)))) 7 rfl rfl (hon 7 (by kernel_rfl)) rfl
          have e66 : a.tmps[66]? = some (.bool false) := by rw [ha]; exact putSel_on (e := (2, 66, .bool false)) 2 rfl rfl (hon 2 (by kernel_rfl)) rfl
          replace ha := Aside0.mk ha
          have FB := Aside0.mk Q_FB
          have X3 := Aside0.mk Q_X3
          have OW := Aside0.mk Q_OW
          have WB := Aside0.mk Q_WB
          have RD := Aside0.mk Q_RD
          have RB := Aside0.mk Q_RB
          have O1 := Aside0.mk (Q_O1 (hon 3 (by kernel_rfl)))
          have O2 := Aside0.mk (Q_O2 (hon 6 (by kernel_rfl)))
          refine value_ (w1 := w') (v := .bool false) (wanted_on rfl rfl rfl (e66.trans (by first | rfl | (simp [*]; done)))) rfl ?_ ?_
          · go_simp
            (try simp only [i64_w])
            try rfl
          refine hK.out _ _ ⟨vb, vr, (by rw [ha.out]; exact putSel_upk 8 hb_ rfl rfl rfl), Q_FB, Q_X3, Q_OW, Q_WB, Q_RD, Q_RB, Q_O1, Q_O2⟩
        refine steps_cons ?_ ?_
        · rintro b a w' ⟨vb, vr, ha, Q_FB, Q_X3, Q_OW, Q_WB, Q_RD, Q_RB, Q_O1, Q_O2⟩ hb_ hon hoff
          refine ⟨_, rfl, fun K hK => ?_⟩
          have e66 : a.tmps[66]? = some (.bool false) := by rw [ha]; exact putSel_on (e := (2, 66, .bool false)) 2 rfl rfl (hon 2 (by kernel_rfl)) rfl
          have e72 : a.tmps[72]? = some (.bool false) := by rw [ha]; exact putSel_on (e := (8, 72, .bool false)) 8 rfl rfl (hon 8 (by kernel_rfl)) rfl
          replace ha := Aside0.mk ha
          have FB := Aside0.mk Q_FB
          have X3 := Aside0.mk Q_X3
          have OW := Aside0.mk Q_OW
          have WB := Aside0.mk Q_WB
          have RD := Aside0.mk Q_RD
          have RB := Aside0.mk Q_RB
          have O1 := Aside0.mk (Q_O1 (hon 3 (by kernel_rfl)))
          have O2 := Aside0.mk (Q_O2 (hon 6 (by kernel_rfl)))
          refine value_ (w1 := w') (v := .bool false) (by rfl) rfl ?_ ?_
          · go_simp
            (try simp only [i64_w])
            try rfl
          refine hK.out _ _ ⟨vb, vr, (by rw [ha.out]; exact putSel_upk 9 hb_ rfl rfl rfl), Q_FB, Q_X3, Q_OW, Q_WB, Q_RD, Q_RB, Q_O1, Q_O2⟩
        exact steps_nil
      · rintro b a w' hall ⟨vb, vr, ha, Q_FB, Q_X3, Q_OW, Q_WB, Q_RD, Q_RB, Q_O1, Q_O2⟩
        have hb0_ := hall 0 (by kernel_rfl)
        have hb1_ := hall 1 (by kernel_rfl)
        have hb2_ := hall 2 (by kernel_rfl)
        have hb3_ := hall 3 (by kernel_rfl)
        have hb4_ := hall 4 (by kernel_rfl)
        have hb5_ := hall 5 (by kernel_rfl)
        have hb6_ := hall 6 (by kernel_rfl)
        have hb7_ := hall 7 (by kernel_rfl)
        have hb8_ := hall 8 (by kernel_rfl)
        have hb9_ := hall 9 (by kernel_rfl)
        subst ha
        simp only [putSel, hb0_, hb1_, hb2_, hb3_, hb4_, hb5_, hb6_, hb7_, hb8_, hb9_, if_true, Act.put, List.setIfInBounds_toArray, List.set_cons_zero, List.set_cons_succ]
        have FB := Aside0.mk Q_FB
        clear Q_FB
        have X3 := Aside0.mk Q_X3
        clear Q_X3
        have OW := Aside0.mk Q_OW
        clear Q_OW
        have WB := Aside0.mk Q_WB
        clear Q_WB
        have RD := Aside0.mk Q_RD
        clear Q_RD
        have RB := Aside0.mk Q_RB
        clear Q_RB
        have O1 := Aside0.mk (Q_O1 hb3_)
        clear Q_O1
        have O2 := Aside0.mk (Q_O2 hb6_)
        clear Q_O2
        clear hall hb0_ hb1_ hb2_ hb3_ hb4_ hb5_ hb6_ hb7_ hb8_ hb9_
        clear HW9 HR9 HBR9 HB9 HX9 HO9
        obtain ⟨w11, hw11⟩ : ∃ q : World, q = w' := ⟨_, rfl⟩
        rw [← hw11] at FB X3 OW WB RD RB ⊢
        clear hw11 O1 O2
        have HRD := RD
        have HRB := RB
        have HOW := OW
        have HX11 := X3
        clear RD RB OW X3 WB
        go_wp2_with fail
        (with_reducible refine (slide_Take.calls 200000 g9 (pack cs) 0 0 (ls.length : Int) ls pp ks q 0 w8 w11 HRD.out HRB.out HTK.out).mono ?_)
        rintro e w12 ⟨v12, v13, rfl, hra, hrb, hr12, hb12, hk12⟩
        have HO12 := own_keepW HOW.out hk12 HRD.out (by decide)
        have HX12 := blk_keepW HX11.out hk12 HRD.out (by decide)
        have hM12 := Kd.own_of_R hra
        have hN12 := Kd.own_of_R hrb
        obtain ⟨Am, cm, rfl⟩ := own_slice hM12
        obtain ⟨An, cn, rfl⟩ := own_slice hN12
        have HR13 := Aside0.mk (hr12.alloc (.cells #[.int .i64 pp, .slice An ks.length cn] 24))
        have HBR13 := Aside0.mk (below_alloc hb12 (.cells #[.int .i64 pp, .slice An ks.length cn] 24))
        have HO13 := Aside0.mk (HO12.alloc (.cells #[.int .i64 pp, .slice An ks.length cn] 24))
        have HM13 := Aside0.mk (hM12.alloc (.cells #[.int .i64 pp, .slice An ks.length cn] 24))
        have HN13 := Aside0.mk (hN12.alloc (.cells #[.int .i64 pp, .slice An ks.length cn] 24))
        have HX13 := Aside0.mk (blk_alloc HX12 (.cells #[.int .i64 pp, .slice An ks.length cn] 24))
        have HY13 := Aside0.mk (blk_new w12 (.cells #[.int .i64 pp, .slice An ks.length cn] 24))
        clear hra hrb hr12 hb12 hk12 HRD HRB HOW HX11 HO12 HX12 hM12 hN12 FB
        go_wp2_with fail
        generalize w12.alloc (.cells #[.int .i64 pp, .slice An ks.length cn] 24) = w13 at HR13 HBR13 HO13 HM13 HN13 HX13 HY13 ⊢
        obtain ⟨b11, hb11⟩ : ∃ q, w12.heap.size = q := ⟨_, rfl⟩
        rw [hb11] at HY13 ⊢
        clear hb11
        (with_reducible refine (pipe_Reader_End.calls 200 g9 (pack cs) q 0 0 q 0 w8 w13 HR13.out HBR13.out HEN.out).mono ?_)
        rintro e w14 ⟨rfl, hr14, hb14, hk14⟩
        have hO14 := own_keepW HO13.out hk14 HR13.out (by decide)
        have hM14 := own_keepW HM13.out hk14 HR13.out (by decide)
        have hN14 := own_keepW HN13.out hk14 HR13.out (by decide)
        have HX14 := Aside0.mk (blk_keepW HX13.out hk14 HR13.out (by decide))
        have HY14 := Aside0.mk (blk_keepW HY13.out hk14 HR13.out (by decide))
        have HCo : Aside0 (Kd.C (Kd.int .i64) w14 A5 ls.length ls ∧ ls.length ≤ c5) := ⟨by
          obtain ⟨A', c', he, h1, h2⟩ := owns_readsW hO14
          cases he
          exact ⟨h2, h1⟩⟩
        have HCm : Aside0 (Kd.C (Kd.int .i64) w14 Am ls.length ls ∧ ls.length ≤ cm) := ⟨by
          obtain ⟨A', c', he, h1, h2⟩ := owns_readsW hM14
          cases he
          exact ⟨h2, h1⟩⟩
        have HCn : Aside0 (Kd.C (Kd.int .i64) w14 An ks.length ks ∧ ks.length ≤ cn) := ⟨by
          obtain ⟨A', c', he, h1, h2⟩ := owns_readsW hN14
          cases he
          exact ⟨h2, h1⟩⟩
        have HBL := Aside0.mk (HB8.out.trans (hb14.mono HB8.out.size))
        clear hr14 hb14 hk14 HR13 HBR13 HO13 HM13 HN13 HX13 HY13 hO14 hM14 hN14
        go_wp2_with fail
        (with_reducible refine (sackbutref01_Same.calls 5000 Am cm ls A0 c0 ls true _ HCm.out.1 HCm.out.2 (Kd.C_below HR.out HBL.out) HC.out.1 HSM.out).mono ?_)
        rintro e w15 ⟨rfl, hd15⟩
        have hb15 := hd15.below
        have HX15 := Aside0.mk (blk_below HX14.out hb15)
        have HY15 := Aside0.mk (blk_below HY14.out hb15)
        have HCn15 := Aside0.mk (Kd.C_below HCn.out.1 hb15)
        have HCo15 := Aside0.mk (Kd.C_below HCo.out.1 hb15)
        have HBL15 := Aside0.mk (below_then HBL.out HBL.out.size hb15)
        have hx5a := (blk_cell HX15.out 0).trans rfl
        have hx5b := (blk_cell HX15.out 1).trans rfl
        have hy5a := (blk_cell HY15.out 0).trans rfl
        have hy5b := (blk_cell HY15.out 1).trans rfl
        clear hd15 hb15 HX14 HY14 HBL
        go_wp2_with fail
        (with_reducible refine (sackbutref03_Same.calls 5000 pp An cn ks pp Ak ck ks true _ HCn15.out HCn.out.2 (Kd.C_below HRK.out HBL15.out) HC.out.2 HSK.out).mono ?_)
        rintro e w16 ⟨rfl, hb16⟩
        have HBL16 := Aside0.mk (below_then HBL15.out HBL15.out.size hb16)
        have HCo16 := Aside0.mk (Kd.C_below HCo15.out hb16)
        clear hb16 hx5a hx5b hy5a hy5b
        go_wp2_with fail
        (with_reducible refine (sackbutref01_Same.calls 5000 A5 c5 ls A0 c0 ls true _ HCo16.out HCo.out.2 (Kd.C_below HR.out HBL16.out) HC.out.1 HSM.out).mono ?_)
        rintro e w17 ⟨rfl, hd17⟩
        have HBL17 := Aside0.mk (below_then HBL16.out HBL16.out.size hd17.below)
        clear hd17
        go_wp2
        go_ret
        exact ⟨by first | rfl | (simp; done), HBL17.out⟩
theorem sackbutlaw03_SlidePuts.calls (A0 : Option Addr) (c0 : Nat) (l0 : List Int) (a1_0 : Int) (A1 : Option Addr) (c1 : Nat) (l1 : List Int) (r : Bool) (w : World) (hr0 : Kd.C (Kd.int .i64) w A0 l0.length l0) (hc0 : l0.length ≤ c0) (hr1 : Kd.C (Kd.int .i64) w A1 l1.length l1) (hc1 : l1.length ≤ c1) (h : sackbutlaw03_SlidePuts.f l0 a1_0 l1 = some r) :
    Calls Try.prog 7 #[.slice A0 l0.length c0, .agg #[.int .i64 a1_0, .slice A1 l1.length c1]] w fun e w' => e = .returned (.bool r) ∧ Below w.heap.size w w' := by
  cases h
  by_cases hfew : l0.length ≤ 64 ∧ l1.length ≤ 12
  case neg => exact spu_long A0 c0 l0 a1_0 A1 c1 l1 w hr0 hc0 hr1 hc1 hfew
  obtain ⟨h64, h12⟩ := hfew
  have hG : slide_Good.f (l0.length : Int) a1_0 l1 = some (goodZ l0.length a1_0 l1) := by unfold slide_Good.f; rw [if_pos (by omega)]
  have hRG := refGood_ok (n := l0.length) (p := a1_0) (ks := l1) (k := 5000) (by omega) (by omega) (by omega)
  cases hg : goodP a1_0 l1 l0 with
  | false =>
    refine spu_any A0 c0 l0 a1_0 A1 c1 l1 [] (⟨#[]⟩ : ByteArray) false _ w hr0 hc0 hr1 hc1 h64 h12 (refPut_no (by omega) (by omega) hg (by omega)) rfl ?_ (by simp) hG hRG ?_ (fun h => by cases h)
    · unfold slide_Bits.f
      rw [if_pos ⟨by omega, by omega⟩, hg]
      rfl
    · intro g A5 c5 W hB hW hO
      obtain ⟨A', c', he, h1, h2⟩ := owns_readsW hO
      cases he
      exact wr_slideNo w W g _ [] A5 c5 l0 a1_0 A1 c1 l1 hB hW h2 h1 (Kd.C_below hr1 hB) hc1 ⟨by omega, by omega⟩ hg
  | true =>
    obtain ⟨_, _, P, rfl, hw, hkl, hkr, hl⟩ := good_list hg
    obtain ⟨hP3, hn0, hn1, hd⟩ := whole_iff.mp hw
    have h8 := pow_le8 hP3
    have hbd := (sumZ_bound hl hkr (n := 2 ^ P) (by omega) (Nat.mul_div_le l0.length _) (2 ^ P) (Nat.le_refl _)).2
    have hcost := slideBits_cost (sz := l0.length / 2 ^ P) hl hkr (n := 2 ^ P) (by omega) (2 ^ P) (Nat.le_refl _)
    rw [size_mul hd] at hbd
    have hcsl : ((bitsS P l1 l0).length : Int) = sumZ l0 l1 (l0.length / 2 ^ P) (2 ^ P) := by
      unfold bitsS
      rw [List.length_append, bitsOf_length, hkl, ← hcost]
      omega
    have hcl : (bitsS P l1 l0).length ≤ 6000 := by omega
    refine spu_any A0 c0 l0 (P : Int) A1 c1 l1 (bitsS P l1 l0) (txt (bitsS P l1 l0)) true _ w hr0 hc0 hr1 hc1 h64 h12 (refPut_yes hl hkr hw hkl hg (by omega)) (txt_size _) ?_ hcl hG hRG ?_ (fun _ => ⟨rfl, ?_⟩)
    · rw [hcsl]
      exact slideBits_ok hl hkr hw hkl (by omega)
    · intro g A5 c5 W hB hW hO
      obtain ⟨A', c', he, h1, h2⟩ := owns_readsW hO
      cases he
      obtain ⟨A, rfl, _⟩ := Kd.at_int h2 0 (by omega) (by omega)
      have hp := wr_slidePut w W g (.slice none 0 0) [] A c5 l0 (P : Int) A1 c1 l1 hB hW (by simp) h2 h1 (Kd.C_below hr1 hB) hc1 hg ⟨fun e => own_ne hO hW.1 (by decide) (by rw [← e]; rfl), by simp [Value.ownBlock]⟩ (fun ad he => by
        subst he
        refine ⟨fun e => ?_, by simp [Value.ownBlock]⟩
        obtain ⟨ad', he', hcell⟩ := Kd.at_int hr1 0 (by omega) (by omega)
        obtain rfl : ad = ad' := by injection he'
        have := World.block_lt_of_cell? w _ hcell
        rw [addBS] at this
        have := hW.2.1
        omega)
      rw [List.nil_append, Int.toNat_natCast] at hp
      exact hp
    · have ht := putS_taken (more := []) hl hkr hw hkl (by intro x hx; cases hx) (by simp) hcl
      have hb : Bytes8 (pack (bitsS P l1 l0)) := pack_bytes8S _
      have hu := putS_unpack (bitsS P l1 l0) []
      unfold putS at ht hu
      rw [List.append_nil, show unpack ([] : List Int) = [] from rfl, List.append_nil] at ht hu
      refine ⟨_, ht, ?_⟩
      rw [end_ok hb (by rw [pack_length]; omega) (by rw [hu]; exact List.suffix_append _ _) 0 (by omega), end_pad]
end Go.Proofs.Yteoncgijnkfhfaa.P
