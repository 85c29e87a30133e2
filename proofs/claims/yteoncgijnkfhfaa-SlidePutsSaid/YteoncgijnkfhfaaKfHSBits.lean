/- The contract of layer 3's Bits. -/
import Derived.Test.YteoncgijnkfhfaaKfPx0
import Derived.Test.YteoncgijnkfhfaaKfHRangeS
import Derived.Test.YteoncgijnkfhfaaKfHSGood
import Derived.Test.YteoncgijnkfhfaaKfHSEach
import Derived.Test.YteoncgijnkfhfaaKfHSEach2
import Derived.Test.YteoncgijnkfhfaaKfHSPut
import Derived.Test.YteoncgijnkfhfaaKfPx1
import Derived.Sort.LoopGhostIn
import Derived.Stop.RegionWithIn
import Derived.Sort.CutIn
namespace Go.Proofs.Yteoncgijnkfhfaa.P
open Go Go.RowKit Go.Proofs.YteoncgijnkfhfaaW.PrintWords Go.Proofs.YteoncgijnkfhfaaW.PrintLast Go.Proofs.YteoncgijnkfhfaaW.PrintMore
set_option linter.unusedVariables false
set_option linter.unusedSimpArgs false

attribute [local go_sem] Oper.semAt_some

/-- Two bits and the first parts' bits. -/
def slideSum (k : Nat) (l ks : List Int) (sz : Nat) : Nat → Option Int
  | 0 => some 2
  | i + 1 => (slideSum k l ks sz i).bind fun s => (rice_Total.f k ((l.drop (i * sz)).take sz) (rd ks i)).bind fun t => some (wrap64 (s + wrap64 (5 + t)))
theorem slideSum_le {k : Nat} {l ks : List Int} {sz n : Nat} {s : Int} (h : slideSum k l ks sz n = some s) (m : Nat) (hm : m ≤ n) : ∃ s', slideSum k l ks sz m = some s' := by
  induction n generalizing s with
  | zero =>
    obtain rfl : m = 0 := by omega
    exact ⟨s, h⟩
  | succ n ih =>
    by_cases e : m = n + 1
    · subst e
      exact ⟨s, h⟩
    · rw [slideSum] at h
      obtain ⟨ys, h1, _⟩ := Option.bind_eq_some_iff.mp h
      exact ih h1 (by omega)
def slide_Bits.f (k : Nat) (l : List Int) (p : Int) (ks : List Int) : Option Int :=
  if ks.length ≤ 140737488355328 ∧ l.length ≤ 140737488355328 then (if goodP p ks l = true then slideSum k l ks (l.length / 2 ^ p.toNat) ks.length else some 0) else none
theorem part_C {w : World} {A : Addr} {c : Nat} {l : List Int} {lo sz : Nat} (h : Kd.C (Kd.int .i64) w (some A) l.length l) (hc : l.length ≤ c) (hs : lo + sz ≤ l.length) (h0 : 0 < sz) : Kd.C (Kd.int .i64) w (some (A.add lo)) ((l.drop lo).take sz).length ((l.drop lo).take sz) := by
  have h1 := Kd.C_drop h (m := lo) (by omega) hc
  rw [if_neg (by omega)] at h1
  have h2 := Kd.C_take h1 (m := sz) (by rw [List.length_drop]; omega)
  have : (Kd.int IntKind.i64).sz = 1 := rfl
  rw [this, Nat.mul_one] at h2
  exact h2
/-- What the loop over the parts keeps. -/
structure SumInv (w : World) (b3 b5 : Nat) (p : Int) (Ak : Option Addr) (nk ck : Nat) (s : Option Int) (W : World) : Prop where
  bel : Below w.heap.size w W
  x3 : W.heap[b3]? = some (.cells #[.int .i64 p, .slice Ak nk ck] 24 (0, 0))
  x5 : ∃ y, s = some y ∧ W.heap[b5]? = some (.cells #[.int .i64 y] 3 (0, 0))
theorem SumInv.kept {w : World} {b3 b5 : Nat} {p : Int} {Ak : Option Addr} {nk ck : Nat} {s : Option Int} {W W' : World} {B : Nat} (h : SumInv w b3 b5 p Ak nk ck s W) (hB : w.heap.size ≤ B) (hk : CellsKept B W W') : SumInv w b3 b5 p Ak nk ck s W' := by
  obtain ⟨hb, h3, y, hs, h5⟩ := h
  exact ⟨hb.trans (hk.1.mono hB), hk.2 _ _ h3 rfl, y, hs, hk.2 _ _ h5 rfl⟩
theorem sum_fin {w W w2 : World} {b3 b5 : Nat} {p : Int} {Ak : Option Addr} {nk ck : Nat} {s : Option Int} {s' : Int} (h : SumInv w b3 b5 p Ak nk ck s W) (hd : Below W.heap.size W w2) (h35 : b3 ≠ b5) (h3 : w.heap.size ≤ b5) :
    KeepsOthers W (w2.setCell ⟨b5, 0, none⟩ (.int .i64 s')) ∧ CellsButS (fun k _ => k = b5) w.heap.size W (w2.setCell ⟨b5, 0, none⟩ (.int .i64 s')) ∧ SumInv w b3 b5 p Ak nk ck (some s') (w2.setCell ⟨b5, 0, none⟩ (.int .i64 s')) := by
  obtain ⟨hb, hx3, y, hs, hx5⟩ := h
  have h5 := blk_put (blk_below hx5 hd) 0 (.int .i64 s') rfl
  have hoth : ∀ k o, k ≠ b5 → W.heap[k]? = some o → (w2.setCell ⟨b5, 0, none⟩ (.int .i64 s')).heap[k]? = some o := fun k o hk ho =>
    (Below.heap_setCell w2 ⟨b5, 0, none⟩ _ k hk).trans ((hd.block k (Array.getElem?_eq_some_iff.1 ho).1).trans ho)
  have hsz : (w2.setCell ⟨b5, 0, none⟩ (.int .i64 s')).heap.size = w2.heap.size := by simp [World.setCell]
  have hbw : Below w.heap.size W (w2.setCell ⟨b5, 0, none⟩ (.int .i64 s')) := (hd.mono hb.size).setCell (p := ⟨b5, 0, none⟩) h3 _
  refine ⟨⟨by rw [hsz]; exact hd.size, fun k o hk ho => hoth k o ?_ hk⟩, ⟨hbw, fun k o hT hk _ => hoth k o hT hk⟩, hb.trans hbw, hoth _ _ h35 hx3, s', rfl, h5⟩
  rintro rfl
  rw [hx5] at hk
  cases hk
  cases ho
theorem sumT_each {b5 Bm Bp Bl : Nat} (h : b5 ≠ Bm ∧ b5 ≠ Bp ∧ b5 ≠ Bl) : EachT (fun k _ => k = b5) Bm Bp Bl := ⟨fun _ e => h.1 e.symm, fun _ e => h.2.1 e.symm, fun _ e => h.2.2 e.symm⟩
set_option maxHeartbeats 8000000 in
set_option maxRecDepth 100000 in
theorem bits_good (k : Nat) (A : Addr) (c : Nat) (ls : List Int) (p : Int) (Ak : Option Addr) (ck : Nat) (ks : List Int) (r : Int) (w : World) (hr : Kd.C (Kd.int .i64) w (some A) ls.length ls) (hc : ls.length ≤ c) (hrk : Kd.C (Kd.int .i64) w Ak ks.length ks) (hck : ks.length ≤ ck) (hgd : goodP p ks ls = true) (hsum : slideSum k ls ks (ls.length / 2 ^ p.toNat) ks.length = some r) :
    Calls Try.prog 16 #[.slice (some A) ls.length c, .agg #[.int .i64 p, .slice Ak ks.length ck]] w fun e w' => e = .returned (.int .i64 r) ∧ Below w.heap.size w w' := by
  obtain ⟨P, hP, hP3, hkl, hn0, hn1, hdv⟩ : ∃ P : Nat, p = P ∧ P ≤ 3 ∧ ks.length = 2 ^ P ∧ 1 ≤ ls.length ∧ ls.length ≤ 1024 ∧ ls.length % 2 ^ P = 0 := by
    unfold goodP goodZ wholeZ at hgd
    simp only [Bool.and_eq_true, decide_eq_true_eq] at hgd
    obtain ⟨⟨⟨h1, h2, h3, h4, h5⟩, h6, _⟩, _⟩ := hgd
    refine ⟨p.toNat, by omega, by omega, ?_, by omega, by omega, ?_⟩
    · have : ((ks.length : Nat) : Int) = ((2 ^ p.toNat : Nat) : Int) := by rw [h6]; simp
      exact_mod_cast this
    · have : ((ls.length % 2 ^ p.toNat : Nat) : Int) = 0 := by rw [Int.natCast_emod]; simpa using h5
      exact_mod_cast this
  subst hP
  rw [Int.toNat_natCast] at hsum
  have HSUM := Aside0.mk hsum
  clear hsum
  refine (callsIn_wide (n := 4)).1 ?_
  refine callsIn_of_wp_marks Try.func16 rfl trivial ?_ rfl
  simp only [Try.ntmps16, List.size_toArray, List.length_cons, List.length_nil, Nat.reduceAdd, Nat.reduceSub, Array.replicate_succ, Array.replicate_zero, List.push_toArray, List.append_toArray, List.nil_append, List.cons_append]
  have HKL := Aside0.mk hkl
  have HDV := Aside0.mk (And.intro hn0 (And.intro hn1 (And.intro hdv hP3)))
  have HGD := Aside0.mk (show slide_Parts_good.f (P : Int) ks ls = some true by unfold slide_Parts_good.f; rw [if_pos ⟨by rw [hkl]; have := Nat.pow_le_pow_right (n := 2) (by omega) hP3; omega, by omega⟩, hgd])
  have HB2 := Aside0.mk (below_alloc (Below.refl w.heap.size w) (.cells #[.int .i64 (P : Int), .slice Ak ks.length ck] 24))
  have HX2 := Aside0.mk (blk_new w (.cells #[.int .i64 (P : Int), .slice Ak ks.length ck] 24))
  have HR := Aside0.mk hr
  have HRK := Aside0.mk hrk
  have HC := Aside0.mk (And.intro hc hck)
  clear hkl hn0 hn1 hdv hP3 hgd hr hrk hc hck
  gi_wp2_with fail
  generalize w.alloc (.cells #[.int .i64 (P : Int), .slice Ak ks.length ck] 24) = w2 at HB2 HX2 ⊢
  obtain ⟨b3, hb3⟩ : ∃ q, w.heap.size = q := ⟨_, rfl⟩
  have HSZ := Aside0.mk hb3
  rw [hb3] at HX2 ⊢
  clear hb3
  refine ⟨trivial, (callsIn_wide.2 (slide_Parts_good.calls (P : Int) Ak ck ks (some A) c ls true w2 (Kd.C_below HRK.out HB2.out) HC.out.2 (Kd.C_below HR.out HB2.out) HC.out.1 HGD.out)).mono ?_⟩
  rintro e w3 ⟨rfl, hb3⟩
  have HB3 := Aside0.mk (below_alloc (below_then HB2.out HB2.out.size hb3) (.cells #[.int .i64 2] 3))
  have HX3 := Aside0.mk (blk_alloc (blk_below HX2.out hb3) (.cells #[.int .i64 2] 3))
  have HX5 := Aside0.mk (blk_new w3 (.cells #[.int .i64 2] 3))
  have HS3 := Aside0.mk (show w.heap.size ≤ w3.heap.size from Nat.le_trans HB2.out.size hb3.size)
  clear hb3 HB2 HX2
  gi_upto_region 4 with fail
  generalize w3.alloc (.cells #[.int .i64 2] 3) = w4 at HB3 HX3 HX5 ⊢
  obtain ⟨b5, hb5⟩ : ∃ q, w3.heap.size = q := ⟨_, rfl⟩
  rw [hb5] at HX5 HS3 ⊢
  clear hb5
  have HNE := Aside0.mk (show b3 ≠ b5 by
    rintro rfl
    have h1 := HX3.out
    rw [HX5.out] at h1
    cases h1)
  have hc3 : w4.cell? ⟨b3, 0, none⟩ = some (.int .i64 (P : Int)) := (blk_cell HX3.out 0).trans rfl
  have hc4 : w4.cell? ⟨b3, 1, none⟩ = some (.slice Ak ks.length ck) := (blk_cell HX3.out 1).trans rfl
  have hmf : ∀ (fn : Fn) (first cap : Array Value) (w : World), (Instr.makeFunc fn first cap).run Try.prog w = .ok (.func fn first cap) w := fun _ _ _ _ => rfl
  gi_wp2_with fail
  refine ⟨trivial, (callsIn_wide.2 (each_calls (some A) ls.length c ks.length (.func (.func 43) #[.agg #[.int .i64 (P : Int), .slice Ak ks.length ck]] #[]) ⟨_, _, rfl⟩ w4)).mono ?_⟩
  rintro e w5 ⟨rfl, hw5⟩
  gi_wp2_with fail
  have HB5 := Aside0.mk (show Below w4.heap.size w4 w5 by rw [hw5]; exact below_alloc (below_alloc (below_alloc (Below.refl _ _) _) _) _)
  have HE5 := Aside0.mk (show EachB w5 (w4.heap.size + 1) (w4.heap.size + 1 + 1) w4.heap.size ks.length P Ak ks.length ck A ls.length c by
    rw [hw5]
    refine ⟨?_, ?_, blk_alloc (blk_alloc (blk_new _ _) _) _⟩
    · have := blk_alloc (blk_new (w4.alloc (.cells #[.slice (some A) ls.length c] 22)) (.cells #[.int .i64 (ks.length : Int)] 3)) (.cells #[.func (.func 43) #[.agg #[.int .i64 (P : Int), .slice Ak ks.length ck]] #[]] 72)
      rwa [World.size_alloc] at this
    · have := blk_new ((w4.alloc (.cells #[.slice (some A) ls.length c] 22)).alloc (.cells #[.int .i64 (ks.length : Int)] 3)) (.cells #[.func (.func 43) #[.agg #[.int .i64 (P : Int), .slice Ak ks.length ck]] #[]] 72)
      rwa [World.size_alloc, World.size_alloc] at this)
  have hsz5 : w5.heap.size = w4.heap.size + 3 := by rw [hw5]; simp
  rw [← hw5]
  clear hw5
  have hsw : b3 < w4.heap.size ∧ b5 < w4.heap.size := ⟨blk_lt HX3.out, blk_lt HX5.out⟩
  have hwb : w.heap.size ≤ b5 := HS3.out
  obtain ⟨sz, hsz⟩ : ∃ q, ls.length / 2 ^ P = q := ⟨_, rfl⟩
  have hmul : ks.length * sz ≤ ls.length := by rw [HKL.out, ← hsz]; exact Nat.mul_div_le _ _
  have hs0 : 0 < sz := by rw [← hsz]; exact Nat.div_pos (Nat.le_of_dvd (by have := HDV.out.1; omega) (Nat.dvd_of_mod_eq_zero HDV.out.2.2.1)) (Nat.pow_pos (by omega))
  have hk8 : ks.length ≤ 8 := by rw [HKL.out]; have := Nat.pow_le_pow_right (n := 2) (by omega) HDV.out.2.2.2; omega
  have HSM := Aside0.mk (show slideSum k ls ks sz ks.length = some r by rw [← hsz]; exact HSUM.out)
  clear HSUM
  refine rangeS (fun k _ => k = b5) rfl (by omega) (gf := 63) (lb := #[.pointer (some ⟨w4.heap.size + 1, 0, none⟩), .pointer (some ⟨w4.heap.size + 1 + 1, 0, none⟩), .pointer (some ⟨w4.heap.size, 0, none⟩)]) rfl trivial (enters_of Try.func63 (by kernel_rfl) rfl)
    (each_seqS (fun k _ => k = b5) _ (by omega) w5 (w4.heap.size + 1) (w4.heap.size + 1 + 1) w4.heap.size w.heap.size ks.length P Ak ks.length ck A ls.length c sz HE5.out (sumT_each (by omega)) HDV.out.2.2.2 hsz.symm (by have := HDV.out.2.1; omega) hmul (by omega) hs0 HC.out.1 (by omega)) (by omega) (fun _ => rfl)
    (fun pre W => SumInv w b3 b5 (P : Int) Ak ks.length ck (slideSum k ls ks sz pre.length) W)
    (fun s A B h hk => h.kept (by omega) hk)
    (fun pre x A B hm hk => hm)
    ⟨below_then HB3.out HB3.out.size HB5.out, blk_below HX3.out HB5.out, 2, rfl, blk_below HX5.out HB5.out⟩
    (fun i => { tmps := #[.slice (some A) ls.length c, .agg #[.int .i64 (P : Int), .slice Ak ks.length ck], undef, .pointer (some ⟨b3, 0, none⟩), .int .i64 0, .pointer (some ⟨b5, 0, none⟩), .int .i64 (i : Int), .slice (some (A.add (i * sz))) sz (c - i * sz), .agg #[.int .i64 (P : Int), .slice Ak ks.length ck], .slice (some A) ls.length c, .bool true, .bool false, .slice (some A) ls.length c, .pointer (some ⟨b3, 1, none⟩), .slice Ak ks.length ck, .int .i64 (ks.length : Int), .agg #[.int .i64 (P : Int), .slice Ak ks.length ck], .func (.func 43) #[.agg #[.int .i64 (P : Int), .slice Ak ks.length ck]] #[], .func (.func 63) #[] #[.pointer (some ⟨w4.heap.size + 1, 0, none⟩), .pointer (some ⟨w4.heap.size + 1 + 1, 0, none⟩), .pointer (some ⟨w4.heap.size, 0, none⟩)], .int .i64 (i : Int), .slice (some (A.add (i * sz))) sz (c - i * sz), undef, undef, undef, undef, undef, undef, undef, undef, undef, undef, undef], defers := [] }) ?assign ?body ?done
  case assign =>
    intro l x W K hK
    gi_wp2
    exact hK
  case body =>
    rintro lp pre i W hInv ⟨hpre, hlt⟩ hsW
    rw [← hpre] at hInv
    have HPRE := Aside0.mk hpre
    clear hpre
    obtain ⟨s', hs'⟩ := slideSum_le HSM.out (i + 1) (by omega)
    have HS1 := Aside0.mk hs'
    rw [slideSum] at hs'
    obtain ⟨y, hy, hs'⟩ := Option.bind_eq_some_iff.mp hs'
    obtain ⟨t, ht, hs'⟩ := Option.bind_eq_some_iff.mp hs'
    obtain rfl := Option.some.inj hs'
    clear hs'
    rw [hy] at hInv
    have HINV := Aside0.mk hInv
    obtain ⟨hbel, hx3, y', ey, hx5⟩ := hInv
    obtain rfl := Option.some.inj ey
    obtain ⟨ak, rfl, hka⟩ := Kd.at_int (Kd.C_below HRK.out hbel) (i : Int) (by omega) (by omega)
    rw [Int.toNat_natCast] at hka
    obtain ⟨kk, hkk⟩ : ∃ q, rd ks i = q := ⟨_, rfl⟩
    rw [hkk] at hka ht
    have hup : i * sz + sz ≤ ls.length := by
      have := Nat.mul_le_mul_right sz (show i + 1 ≤ ks.length by omega)
      rw [Nat.succ_mul] at this
      omega
    have hC := Kd.C_below (part_C (Kd.C_below HR.out hbel) HC.out.1 hup hs0) (below_drew1 (Below.refl W.heap.size W))
    obtain ⟨lo, hlo⟩ : ∃ q, i * sz = q := ⟨_, rfl⟩
    rw [hlo] at hC ht hup
    obtain ⟨part, hpt⟩ : ∃ q, (ls.drop lo).take sz = q := ⟨_, rfl⟩
    have hpl : part.length = sz := by rw [← hpt, List.length_take, List.length_drop]; omega
    rw [hpt] at hC ht
    have htot := rice_Total.calls k (some (A.add lo)) (c - lo) part kk t W.drew hC (by rw [hpl]; have := HC.out.1; omega) ht
    rw [hpl] at htot
    have HTOT := Aside0.mk htot
    rw [hlo]
    have HLO := Aside0.mk hlo
    have hka3 : W.drew.cell? (ak.add i) = some (.int .i64 kk) := hka
    have hd5 : W.drew.cell? ⟨b5, 0, none⟩ = some (.int .i64 y) := (blk_cell hx5 0).trans rfl
    have hf5 : W.drew.frozen? ⟨b5, 0, none⟩ = false := blk_frozen (w := W.drew) hx5 0
    have hd3 : W.drew.cell? ⟨b3, 1, none⟩ = some (.slice (some ak) ks.length ck) := (blk_cell hx3 1).trans rfl
    have hq1 : (0 ≤ (i : Int)) = True := eq_true (by omega)
    have hq2 : ((i : Int) < (ks.length : Int)) = True := eq_true (by omega)
    have hq3 : (i < ks.length) = True := eq_true hlt
    have HX5 := Aside0.mk hx5
    clear hka ht hkk hup hC hpt hpl htot hlo hx5 hx3 hbel hy ey
    gi_upto_region 7 with fail
    gi_region_with (refine ⟨trivial, ?_⟩; gi_at_call 44; refine (CallsIn.inRound lp (callsIn_wide.2 HTOT.out)).mono ?_; rintro e w6 ⟨rfl, hd6⟩; have HB6 := Aside0.mk (show Below W.heap.size W w6 from below_then (below_drew1 (Below.refl W.heap.size W)) (Nat.le_refl _) hd6.below); clear hd6; have q5 : w6.cell? ⟨b5, 0, none⟩ = some (.int .i64 y) := (blk_cell (blk_below HX5.out HB6.out) 0).trans rfl; have f5 : w6.frozen? ⟨b5, 0, none⟩ = false := blk_frozen (blk_below HX5.out HB6.out) 0)
    all_goals (obtain ⟨h1, h2, h3⟩ := sum_fin (s' := IntKind.i64.wrap (y + IntKind.i64.wrap (5 + t))) HINV.out HB6.out HNE.out hwb; refine ⟨rfl, h1, h2, ?_⟩; rw [List.length_append, List.length_singleton, ← HPRE.out, HS1.out]; simp only [i64_w] at h3 ⊢; exact h3)
  case done =>
    rintro D xs W hD hS hInv hK
    rw [hS, List.length_range, HSM.out] at hInv
    have HINV := Aside0.mk hInv
    have HKD := Aside0.mk hK
    have HD := Aside0.mk hD
    have hc9 : W.cell? ⟨b5, 0, none⟩ = some (.int .i64 r) := by
      obtain ⟨y, e, hx⟩ := hInv.x5
      obtain rfl := Option.some.inj e
      exact (blk_cell hx 0).trans rfl
    clear hInv hK hS hD
    gi_wp2
    refine ⟨by simp, .inl ⟨_, _, rfl, run_takeDeferred HKD.out, ?_⟩⟩
    have hk : CellsKept w5.heap.size W (W.putObj D (.deferred none)) := CellsKept.putObj _ HD.out HKD.out rfl
    have hI := HINV.out.kept (by omega) hk
    exact ⟨_, results_tmp rfl _ _ _, rfl, hI.bel⟩
theorem slide_Bits.calls (k : Nat) (A0 : Option Addr) (c0 : Nat) (l0 : List Int) (a1_0 : Int) (A1_1 : Option Addr) (c1_1 : Nat) (l1_1 : List Int) (r : Int) (w : World) (hr0 : Kd.C (Kd.int .i64) w A0 l0.length l0) (hc0 : l0.length ≤ c0) (hr1_1 : Kd.C (Kd.int .i64) w A1_1 l1_1.length l1_1) (hc1_1 : l1_1.length ≤ c1_1) (h : slide_Bits.f k l0 a1_0 l1_1 = some r) :
    Calls Try.prog 16 #[.slice A0 l0.length c0, .agg #[.int .i64 a1_0, .slice A1_1 l1_1.length c1_1]] w fun e w' => e = .returned (.int .i64 r) ∧ Below w.heap.size w w' := by
  unfold slide_Bits.f at h
  by_cases hl : l1_1.length ≤ 140737488355328 ∧ l0.length ≤ 140737488355328
  case neg => rw [if_neg hl] at h; cases h
  rw [if_pos hl] at h
  by_cases hg : goodP a1_0 l1_1 l0 = true
  · rw [if_pos hg] at h
    have hn : 0 < l0.length := by
      unfold goodP goodZ wholeZ at hg
      simp only [Bool.and_eq_true, decide_eq_true_eq] at hg
      obtain ⟨⟨⟨h1, _⟩, _⟩, _⟩ := hg
      omega
    obtain ⟨A, rfl, _⟩ := Kd.at_int hr0 0 (by omega) (by omega)
    exact bits_good k A c0 l0 a1_0 A1_1 c1_1 l1_1 r w hr0 hc0 hr1_1 hc1_1 hg h
  · rw [if_neg hg] at h
    obtain rfl := Option.some.inj h
    have HGD := Aside0.mk (show slide_Parts_good.f a1_0 l1_1 l0 = some false by
      unfold slide_Parts_good.f
      rw [if_pos hl]
      simpa using hg)
    have HB2 := Aside0.mk (below_alloc (Below.refl w.heap.size w) (.cells #[.int .i64 a1_0, .slice A1_1 l1_1.length c1_1] 24))
    have HX2 := Aside0.mk (blk_new w (.cells #[.int .i64 a1_0, .slice A1_1 l1_1.length c1_1] 24))
    have HR := Aside0.mk hr0
    have HRK := Aside0.mk hr1_1
    have HC := Aside0.mk (And.intro hc0 hc1_1)
    clear h hg hl hr0 hr1_1 hc0 hc1_1
    go_enter Try.func16, Try.ntmps16
    go_wp2_with fail
    (with_reducible refine (slide_Parts_good.calls a1_0 A1_1 c1_1 l1_1 A0 c0 l0 false _ (Kd.C_below HRK.out HB2.out) HC.out.2 (Kd.C_below HR.out HB2.out) HC.out.1 HGD.out).mono ?_)
    rintro e w3 ⟨rfl, hb3⟩
    have HB3 := Aside0.mk (below_then HB2.out HB2.out.size hb3)
    clear hb3 HB2 HX2
    go_wp2
    go_ret
    exact ⟨rfl, HB3.out⟩
end Go.Proofs.Yteoncgijnkfhfaa.P
