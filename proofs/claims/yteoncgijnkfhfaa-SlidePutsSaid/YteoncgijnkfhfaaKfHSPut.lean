/- The contract of layer 3's Put. -/
import Derived.Test.YteoncgijnkfhfaaKfPx0
import Derived.Test.YteoncgijnkfhfaaKfHRangeS
import Derived.Test.YteoncgijnkfhfaaKfHSGood
import Derived.Test.YteoncgijnkfhfaaKfHSEach
import Derived.Test.YteoncgijnkfhfaaKfHSEach2
import Derived.Test.YteoncgijnkfhfaaKfHRice
import Derived.Test.YteoncgijnkfhfaaKfHLen
import Derived.Sort.LoopGhostIn
import Derived.Stop.RegionWithIn
import Derived.Sort.CutIn
namespace Go.Proofs.Yteoncgijnkfhfaa.P
open Go Go.RowKit Go.Proofs.YteoncgijnkfhfaaW.PrintWords Go.Proofs.YteoncgijnkfhfaaW.PrintLast Go.Proofs.YteoncgijnkfhfaaW.PrintMore
set_option linter.unusedVariables false
set_option linter.unusedSimpArgs false

attribute [local go_sem] Oper.semAt_some

theorem each_calls (A : Option Addr) (n c many : Nat) (v : Value) (hv : ∃ f cs, v = .func f cs #[]) (w : World) : Calls Try.prog 42 #[.slice A n c, .int .i64 (many : Int), v] w fun e w' => e = .returned (.func (.func 63) #[] #[.pointer (some ⟨w.heap.size + 1, 0, none⟩), .pointer (some ⟨w.heap.size + 1 + 1, 0, none⟩), .pointer (some ⟨w.heap.size, 0, none⟩)]) ∧ w' = ((w.alloc (.cells #[.slice A n c] 22)).alloc (.cells #[.int .i64 (many : Int)] 3)).alloc (.cells #[v] 72) := by
  obtain ⟨f, cs, rfl⟩ := hv
  have hmf : ∀ (fn : Fn) (first cap : Array Value) (w : World), (Instr.makeFunc fn first cap).run Try.prog w = .ok (.func fn first cap) w := fun _ _ _ _ => rfl
  go_enter Try.func42, Try.ntmps42
  go_wp2
  go_ret
  exact ⟨rfl, rfl⟩
/-- The bits of a part's numbers. -/
def partBits (k : Int) (ls : List Int) : List Bool := ls.flatMap fun n => codeZ n k.toNat
/-- The bits of the first i parts. -/
def slideBits (ks ls : List Int) (sz : Nat) : Nat → List Bool
  | 0 => []
  | i + 1 => slideBits ks ls sz i ++ (bitsOf (rd ks i) 5 ++ partBits (rd ks i) ((ls.drop (i * sz)).take sz))
theorem own_blockP {w : World} {base e size n : Nat} {v : Value} {xs : List Value} (h : w.ownsRow base e size v n xs) : ∀ k, v.ownBlock = some k → ∃ cs, w.heap[k]? = some (.cells cs e (0, 0)) := by
  intro k hk
  rcases h.2 with ⟨rfl, _⟩ | ⟨gr, cap, cur, rfl, _, hh, _⟩
  · cases hk
  · have : gr = k := by simpa [Value.ownBlock] using hk
    subst this
    exact ⟨cur, hh⟩
theorem wr_keep {w0 w w' : World} {g b t : Nat} {v v' : Value} {l : List Bool} {cs : Array Value} (s : WrStep w0 w w' g v v') (hw : IsWr w0 w g v l) (hb : w.heap[b]? = some (.cells cs t (0, 0))) (h1 : t ≠ 56) (h2 : t ≠ 5) : w'.heap[b]? = some (.cells cs t (0, 0)) := by
  refine (s.kept.2 b (blk_lt hb) ?_).trans hb
  rintro (rfl | hv)
  · exact blk_ne hb hw.1 h1 rfl
  · exact own_ne hw.2.2 hb (Ne.symm h2) hv
theorem rd_memS {l : List Int} {i : Nat} (h : i < l.length) : rd l i ∈ l := by simp [rd, List.getD, h]
theorem take_rdS {l : List Int} {i : Nat} (h : i < l.length) : l.take (i + 1) = l.take i ++ [rd l i] := by
  rw [List.take_succ_eq_append_getElem h]
  simp [rd, List.getD, h]
def PutT (w0 : World) (g : Nat) (k : Nat) (o : Obj) : Prop := k = g ∨ ∃ cells, o = .cells cells 5 (0, 0)
theorem good_all {p : Int} {ks ls : List Int} (h : goodP p ks ls = true) : (∀ x ∈ ks, 0 ≤ x ∧ x ≤ 24) ∧ ∀ x ∈ ls, -8589934592 ≤ x ∧ x < 8589934592 := by
  unfold goodP goodZ at h
  simp only [Bool.and_eq_true, Bool.not_eq_true', List.any_eq_false] at h
  obtain ⟨⟨_, _, hk⟩, hl⟩ := h
  refine ⟨fun x hx => ?_, fun x hx => ?_⟩
  · have := hk x hx
    unfold outZ at this
    simp at this
    exact this
  · have := hl x hx
    unfold farZ at this
    simp at this
    exact this
theorem cell_wr {w0 w W : World} {g : Nat} {v v' : Value} {a : Addr} {x : Value} (h : w.cell? a = some x) (s : WrStep w0 w W g v v') (h1 : a.block ≠ g) (h2 : some a.block ≠ v.ownBlock) : W.cell? a = some x :=
  (World.cell?_of_block (s.kept.2 _ (World.block_lt_of_cell? w _ h) (by rintro (e | e); exact h1 e; exact h2 e))).trans h
theorem addBS (a : Addr) (i : Nat) : (a.add i).block = a.block := by unfold Addr.add; split <;> rfl
theorem addAddS (a : Addr) (i j : Nat) : (a.add i).add j = a.add (i + j) := by
  unfold Addr.add
  by_cases h1 : i = 0 <;> by_cases h2 : j = 0 <;> simp [h1, h2, Nat.add_assoc]
theorem isWr_ltP {w0 w : World} {g : Nat} {v : Value} {l : List Bool} (h : IsWr w0 w g v l) : g < w.heap.size := blk_lt h.1
theorem isWr_kept {w0 w w' : World} {g : Nat} {v : Value} {l : List Bool} {B : Nat} (h : IsWr w0 w g v l) (hk : CellsKept B w w') : IsWr w0 w' g v l := by
  refine ⟨hk.2 _ _ h.1 rfl, h.2.1, own_move h.2.2 fun k hk' => ?_⟩
  obtain ⟨cs, hc⟩ := own_blockP h.2.2 k hk'
  exact (hk.2 _ _ hc rfl).trans hc.symm
/-- What the loop over the parts keeps. -/
structure PutInv (w0 w : World) (g : Nat) (v : Value) (l : List Bool) (b3 b5 : Nat) (p : Int) (Ak : Option Addr) (nk ck : Nat) (W : World) : Prop where
  wr : ∃ v', IsWr w0 W g v' l ∧ WrStep w0 w W g v v'
  x3 : W.heap[b3]? = some (.cells #[.pointer (some ⟨g, 0, none⟩)] 58 (0, 0))
  x5 : W.heap[b5]? = some (.cells #[.int .i64 p, .slice Ak nk ck] 24 (0, 0))
theorem PutInv.kept {w0 w : World} {g : Nat} {v : Value} {l : List Bool} {b3 b5 : Nat} {p : Int} {Ak : Option Addr} {nk ck : Nat} {W W' : World} {B : Nat} (h : PutInv w0 w g v l b3 b5 p Ak nk ck W) (hB : w.heap.size ≤ B ∧ w0.heap.size ≤ B) (hk : CellsKept B W W') : PutInv w0 w g v l b3 b5 p Ak nk ck W' := by
  obtain ⟨⟨v', hi, hs⟩, h3, h5⟩ := h
  exact ⟨⟨v', isWr_kept hi hk, ⟨hs.below.trans (hk.1.mono hB.2), ⟨Nat.le_trans hs.kept.1 hk.1.size, fun i hlt hn => (hk.1.block i (by omega)).trans (hs.kept.2 i hlt hn)⟩, hs.own⟩⟩, hk.2 _ _ h3 rfl, hk.2 _ _ h5 rfl⟩
theorem PutInv.start {w0 w : World} {g : Nat} {v v4 : Value} {l : List Bool} {b3 b5 : Nat} {p : Int} {Ak : Option Addr} {nk ck : Nat} {w4 w5 : World} (hi : IsWr w0 w4 g v4 (l ++ bitsOf p 2)) (hs : WrStep w0 w w4 g v v4) (h3 : w4.heap[b3]? = some (.cells #[.pointer (some ⟨g, 0, none⟩)] 58 (0, 0))) (h5 : w4.heap[b5]? = some (.cells #[.int .i64 p, .slice Ak nk ck] 24 (0, 0))) (hb : Below w4.heap.size w4 w5) :
    PutInv w0 w g v (l ++ (bitsOf p 2 ++ [])) b3 b5 p Ak nk ck w5 := by
  rw [List.append_nil]
  exact ⟨⟨v4, isWr_below hi hb, hs.trans ⟨below_then hs.below hs.below.size hb, kept_belowL _ hb, .inl rfl⟩⟩, blk_below h3 hb, blk_below h5 hb⟩
theorem wr_others {w0 W W' : World} {g : Nat} {v v' : Value} {l : List Bool} (s : WrStep w0 W W' g v v') (hw : IsWr w0 W g v l) (hB : Below w0.heap.size w0 W) : KeepsOthers W W' ∧ CellsButS (PutT w0 g) w0.heap.size W W' := by
  have hblk : ∀ k o, W.heap[k]? = some o → ¬ PutT w0 g k o → W'.heap[k]? = some o := by
    intro k o hk hT
    refine (s.kept.2 k (Array.getElem?_eq_some_iff.1 hk).1 ?_).trans hk
    rintro (rfl | hv)
    · exact hT (.inl rfl)
    · obtain ⟨cs, hc⟩ := own_blockP hw.2.2 k hv.symm
      rw [hk] at hc
      cases hc
      exact hT (.inr ⟨cs, rfl⟩)
  refine ⟨⟨s.kept.1, fun k o hk ho => hblk k o hk ?_⟩, ⟨?_, fun k o hT hk _ => hblk k o hk hT⟩⟩
  · rintro (rfl | ⟨cs, rfl⟩)
    · rw [hw.1] at hk
      cases hk
      cases ho
    · cases ho
  · exact ⟨s.below.os.trans hB.os.symm, s.below.tape.trans hB.tape.symm, s.below.output.trans hB.output.symm, s.kept.1, fun k hk => (s.below.block k hk).trans (hB.block k hk).symm⟩
theorem putT_each {w0 : World} {g Bm Bp Bl : Nat} (h : g ≠ Bm ∧ g ≠ Bp ∧ g ≠ Bl) : EachT (PutT w0 g) Bm Bp Bl := by
  refine ⟨fun cs => ?_, fun cs => ?_, fun cs => ?_⟩ <;> rintro (e | ⟨_, e⟩)
  · omega
  · cases e
  · omega
  · cases e
  · omega
  · cases e
theorem put_five {k : Int} (h : 0 ≤ k ∧ k ≤ 24) : putOk k 5 = true := by
  unfold putOk
  simp
  have : (2 : Int) ^ Int.toNat 5 = 32 := rfl
  omega
theorem codeZ_len {n : Int} {k : Nat} (h0 : -8589934592 ≤ n) (h1 : n < 8589934592) (hk : k ≤ 24) : (codeZ n k).length ≤ 64 := by
  unfold codeZ
  split
  · rename_i h
    simp only [List.length_append, List.length_replicate, List.length_cons, List.length_nil, bitsOf_length]
    omega
  · simp only [List.length_append, List.length_replicate, List.length_cons, List.length_nil, bitsOf_length]
    omega
theorem partBits_length {ls : List Int} {k : Int} (hk : 0 ≤ k ∧ k ≤ 24) (h : ∀ x ∈ ls, -8589934592 ≤ x ∧ x < 8589934592) : (partBits k ls).length ≤ ls.length * 64 := by
  induction ls with
  | nil => simp [partBits]
  | cons x ls ih =>
    have := codeZ_len (h x (by simp)).1 (h x (by simp)).2 (show k.toNat ≤ 24 by omega)
    have := ih (fun y hy => h y (by simp [hy]))
    unfold partBits at this ⊢
    simp only [List.flatMap_cons, List.length_append, List.length_cons]
    omega
theorem slideBits_length {ks ls : List Int} (h : (∀ x ∈ ks, 0 ≤ x ∧ x ≤ 24) ∧ ∀ x ∈ ls, -8589934592 ≤ x ∧ x < 8589934592) (m sz : Nat) (hm : m ≤ ks.length) : ∀ i, i ≤ m → (slideBits ks ls sz i).length ≤ i * (5 + sz * 64) := by
  intro i
  induction i with
  | zero => intro _; simp [slideBits]
  | succ i ih =>
    intro hi
    have h1 := ih (by omega)
    have h2 := partBits_length (h.1 _ (rd_memS (show i < ks.length by omega))) (ls := (ls.drop (i * sz)).take sz) (fun x hx => h.2 x (List.mem_of_mem_drop (List.mem_of_mem_take hx)))
    have h3 : ((ls.drop (i * sz)).take sz).length ≤ sz := by rw [List.length_take]; omega
    have h4 := Nat.mul_le_mul_right 64 h3
    unfold slideBits
    simp only [List.length_append, bitsOf_length]
    rw [Nat.succ_mul]
    omega
set_option maxHeartbeats 8000000 in
set_option maxRecDepth 100000 in
theorem wr_slidePut (w0 w : World) (g : Nat) (v : Value) (l : List Bool) (A : Addr) (c : Nat) (ls : List Int) (p : Int) (Ak : Option Addr) (ck : Nat) (ks : List Int) (hB : Below w0.heap.size w0 w) (h : IsWr w0 w g v l) (hm : l.length ≤ 1000) (hr : Kd.C (Kd.int .i64) w (some A) ls.length ls) (hc : ls.length ≤ c) (hrk : Kd.C (Kd.int .i64) w Ak ks.length ks) (hck : ks.length ≤ ck) (hgd : goodP p ks ls = true) (hfa : A.block ≠ g ∧ some A.block ≠ v.ownBlock) (hfk : ∀ ad, Ak = some ad → ad.block ≠ g ∧ some ad.block ≠ v.ownBlock) :
    Calls Try.prog 27 #[.pointer (some ⟨g, 0, none⟩), .slice (some A) ls.length c, .agg #[.int .i64 p, .slice Ak ks.length ck]] w (WrPost w0 w g v (l ++ (bitsOf p 2 ++ slideBits ks ls (ls.length / 2 ^ p.toNat) ks.length)) (.bool true)) := by
  have HALL := Aside0.mk (good_all hgd)
  have HFA := Aside0.mk hfa
  have HFK := Aside0.mk hfk
  clear hfa hfk
  obtain ⟨P, hP, hP3, hkl, hn0, hn1, hdv⟩ : ∃ P : Nat, p = P ∧ P ≤ 3 ∧ ks.length = 2 ^ P ∧ 1 ≤ ls.length ∧ ls.length ≤ 1024 ∧ ls.length % 2 ^ P = 0 := by
    unfold goodP goodZ wholeZ at hgd
    simp only [Bool.and_eq_true, decide_eq_true_eq] at hgd
    obtain ⟨⟨⟨h1, h2, h3, h4, h5⟩, h6, _⟩, _⟩ := hgd
    refine ⟨p.toNat, by omega, by omega, ?_, by omega, by omega, ?_⟩
    · have : ((ks.length : Nat) : Int) = ((2 ^ p.toNat : Nat) : Int) := by rw [h6]; simp
      exact_mod_cast this
    · have : ((ls.length % 2 ^ p.toNat : Nat) : Int) = 0 := by rw [Int.natCast_emod]; simpa using h5
      exact_mod_cast this
  subst hP
  rw [Int.toNat_natCast]
  refine (callsIn_wide (n := 4)).1 ?_
  refine callsIn_of_wp_marks Try.func27 rfl trivial ?_ rfl
  simp only [Try.ntmps27, List.size_toArray, List.length_cons, List.length_nil, Nat.reduceAdd, Nat.reduceSub, Array.replicate_succ, Array.replicate_zero, List.push_toArray, List.append_toArray, List.nil_append, List.cons_append]
  have HKL := Aside0.mk hkl
  have HDV := Aside0.mk (And.intro hn0 (And.intro hn1 (And.intro hdv hP3)))
  have HGD := Aside0.mk (show slide_Parts_good.f (P : Int) ks ls = some true by unfold slide_Parts_good.f; rw [if_pos ⟨by rw [hkl]; have := Nat.pow_le_pow_right (n := 2) (by omega) hP3; omega, by omega⟩, hgd])
  have hb2 : Below w.heap.size w ((w.alloc (.cells #[.pointer (some ⟨g, 0, none⟩)] 58)).alloc (.cells #[.int .i64 (P : Int), .slice Ak ks.length ck] 24)) := below_alloc (below_alloc (Below.refl _ _) _) _
  have hx1 : ((w.alloc (.cells #[.pointer (some ⟨g, 0, none⟩)] 58)).alloc (.cells #[.int .i64 (P : Int), .slice Ak ks.length ck] 24)).heap[w.heap.size]? = some (.cells #[.pointer (some ⟨g, 0, none⟩)] 58 (0, 0)) := blk_alloc (blk_new _ _) _
  have hx2 : ((w.alloc (.cells #[.pointer (some ⟨g, 0, none⟩)] 58)).alloc (.cells #[.int .i64 (P : Int), .slice Ak ks.length ck] 24)).heap[w.heap.size + 1]? = some (.cells #[.int .i64 (P : Int), .slice Ak ks.length ck] 24 (0, 0)) := by
    have := blk_new (w.alloc (.cells #[.pointer (some ⟨g, 0, none⟩)] 58)) (.cells #[.int .i64 (P : Int), .slice Ak ks.length ck] 24)
    rwa [World.size_alloc] at this
  have HB2 := Aside0.mk hb2
  have HX1 := Aside0.mk hx1
  have HX2 := Aside0.mk hx2
  have HR := Aside0.mk hr
  have HRK := Aside0.mk hrk
  have HC := Aside0.mk (And.intro hc hck)
  have HW := Aside0.mk h
  have HB := Aside0.mk hB
  have HM := Aside0.mk hm
  clear hkl hn0 hn1 hdv hP3 hgd hb2 hx1 hx2 hr hrk hc hck h hB hm
  gi_wp2_with fail
  generalize ((w.alloc (.cells #[.pointer (some ⟨g, 0, none⟩)] 58)).alloc (.cells #[.int .i64 (P : Int), .slice Ak ks.length ck] 24)) = w2 at HB2 HX1 HX2 ⊢
  obtain ⟨b3, hb3⟩ : ∃ q, w.heap.size = q := ⟨_, rfl⟩
  have HSZ := Aside0.mk hb3
  rw [hb3] at HX1 HX2 ⊢
  obtain ⟨b5, hb5⟩ : ∃ q, b3 + 1 = q := ⟨_, rfl⟩
  have HSZ2 := Aside0.mk hb5
  rw [hb5] at HX2 ⊢
  clear hb3 hb5
  refine ⟨trivial, (callsIn_wide.2 (slide_Parts_good.calls (P : Int) Ak ck ks (some A) c ls true w2 (Kd.C_below HRK.out HB2.out) HC.out.2 (Kd.C_below HR.out HB2.out) HC.out.1 HGD.out)).mono ?_⟩
  rintro e w3 ⟨rfl, hb3⟩
  have HB3 := Aside0.mk (below_then HB2.out HB2.out.size hb3)
  have HX1b := Aside0.mk (blk_below HX1.out hb3)
  have HX2b := Aside0.mk (blk_below HX2.out hb3)
  have HW3 := Aside0.mk (isWr_below (isWr_below HW.out HB2.out) hb3)
  have HBw3 := Aside0.mk (below_then HB.out HB.out.size HB3.out)
  have hc1 : w3.cell? ⟨b3, 0, none⟩ = some (.pointer (some ⟨g, 0, none⟩)) := (blk_cell HX1b.out 0).trans rfl
  have hc2 : w3.cell? ⟨b5, 0, none⟩ = some (.int .i64 (P : Int)) := (blk_cell HX2b.out 0).trans rfl
  clear hb3 HX1 HX2 HB2
  gi_wp2_with fail
  have hu : IntKind.u64.wrap (P : Int) = (P : Int) := by rw [u64_wrap]; have := HDV.out.2.2.2; omega
  rw [hu]
  clear hu
  have hput := wr_Put w0 w3 g v l (P : Int) 2 (by omega) (by have := HDV.out.2.2.2; omega) HBw3.out HW3.out (by have := HM.out; omega)
  rw [show putOk (P : Int) 2 = true by have h3 := HDV.out.2.2.2; have h : P = 0 ∨ P = 1 ∨ P = 2 ∨ P = 3 := by omega
                                       rcases h with rfl | rfl | rfl | rfl <;> rfl, if_pos rfl] at hput
  have HPUT := Aside0.mk hput
  clear hput
  refine ⟨trivial, (callsIn_wide.2 HPUT.out).mono ?_⟩
  rintro e w4 ⟨rfl, v4, hi4, hs4⟩
  have HX1c := Aside0.mk (wr_keep hs4 HW3.out HX1b.out (by decide) (by decide))
  have HX2c := Aside0.mk (wr_keep hs4 HW3.out HX2b.out (by decide) (by decide))
  have HI4 := Aside0.mk (show IsWr w0 w4 g v4 (l ++ bitsOf (P : Int) 2) from hi4)
  have HS4 := Aside0.mk (WrStep.aheadL HB.out HB3.out hs4)
  have hc3 : w4.cell? ⟨b5, 0, none⟩ = some (.int .i64 (P : Int)) := (blk_cell HX2c.out 0).trans rfl
  have hc4 : w4.cell? ⟨b5, 1, none⟩ = some (.slice Ak ks.length ck) := (blk_cell HX2c.out 1).trans rfl
  clear hi4 hs4 hc1 hc2 HPUT HX1b HX2b HW3 HBw3
  have hmf : ∀ (fn : Fn) (first cap : Array Value) (w : World), (Instr.makeFunc fn first cap).run Try.prog w = .ok (.func fn first cap) w := fun _ _ _ _ => rfl
  gi_wp2_with fail
  refine ⟨trivial, (callsIn_wide.2 (each_calls (some A) ls.length c ks.length (.func (.func 43) #[.agg #[.int .i64 (P : Int), .slice Ak ks.length ck]] #[]) ⟨_, _, rfl⟩ w4)).mono ?_⟩
  rintro e w5 ⟨rfl, hw5⟩
  gi_wp2_with fail
  have HB5 := Aside0.mk (show Below w4.heap.size w4 w5 by rw [hw5]; exact below_alloc (below_alloc (below_alloc (Below.refl _ _) _) _) _)
  have HE5 := Aside0.mk (show EachB w5 (w4.heap.size + 1) (w4.heap.size + 1 + 1) w4.heap.size ks.length P Ak ks.length ck A ls.length c by
    rw [hw5]
    refine ⟨?_, ?_, blk_alloc (blk_alloc (blk_new _ _) _) _⟩
    · have := blk_alloc (blk_new (w4.alloc (.cells #[.slice (some A) ls.length c] 22)) (.cells #[.int .i64 (ks.length : Int)] 3)) (.cells #[.func (.func 43) #[.agg #[.int .i64 (P : Int), .slice Ak ks.length ck]] #[]] 72)
      rwa [World.size_alloc] at this
    · have := blk_new ((w4.alloc (.cells #[.slice (some A) ls.length c] 22)).alloc (.cells #[.int .i64 (ks.length : Int)] 3)) (.cells #[.func (.func 43) #[.agg #[.int .i64 (P : Int), .slice Ak ks.length ck]] #[]] 72)
      rwa [World.size_alloc, World.size_alloc] at this)
  have hsz5 : w5.heap.size = w4.heap.size + 3 := by rw [hw5]; simp
  rw [← hw5]
  clear hw5
  have hgw : g < w.heap.size := isWr_ltP HW.out
  have hsw : w.heap.size + 2 ≤ w4.heap.size := by have := HB3.out.size; have := HX2c.out; have := blk_lt HX2c.out; have := HSZ.out; have := HSZ2.out; omega
  obtain ⟨sz, hsz⟩ : ∃ q, ls.length / 2 ^ P = q := ⟨_, rfl⟩
  have hmul : ks.length * sz ≤ ls.length := by rw [HKL.out, ← hsz]; exact Nat.mul_div_le _ _
  have hs0 : 0 < sz := by rw [← hsz]; exact Nat.div_pos (Nat.le_of_dvd (by have := HDV.out.1; omega) (Nat.dvd_of_mod_eq_zero HDV.out.2.2.1)) (Nat.pow_pos (by omega))
  have hk8 : ks.length ≤ 8 := by rw [HKL.out]; have := Nat.pow_le_pow_right (n := 2) (by omega) HDV.out.2.2.2; omega
  refine rangeS (PutT w0 g) rfl (by omega) (gf := 63) (lb := #[.pointer (some ⟨w4.heap.size + 1, 0, none⟩), .pointer (some ⟨w4.heap.size + 1 + 1, 0, none⟩), .pointer (some ⟨w4.heap.size, 0, none⟩)]) rfl trivial (enters_of Try.func63 (by kernel_rfl) rfl)
    (each_seqS (PutT w0 g) _ (by omega) w5 (w4.heap.size + 1) (w4.heap.size + 1 + 1) w4.heap.size w0.heap.size ks.length P Ak ks.length ck A ls.length c sz HE5.out (putT_each (by omega)) HDV.out.2.2.2 hsz.symm (by have := HDV.out.2.1; omega) hmul (by omega) hs0 HC.out.1 (by have := HB.out.size; omega)) (by have := HB.out.size; omega) (fun _ => rfl)
    (fun pre W => PutInv w0 w g v (l ++ (bitsOf (P : Int) 2 ++ slideBits ks ls sz pre.length)) b3 b5 (P : Int) Ak ks.length ck W)
    (fun s A B h hk => h.kept (by have := HB.out.size; omega) hk)
    (fun pre x A B hm hk => hm)
    (PutInv.start HI4.out HS4.out HX1c.out HX2c.out HB5.out)
    (fun i => { tmps := #[.pointer (some ⟨g, 0, none⟩), .slice (some A) ls.length c, .agg #[.int .i64 (P : Int), .slice Ak ks.length ck], .pointer (some ⟨b3, 0, none⟩), undef, .pointer (some ⟨b5, 0, none⟩), .bool false, .int .i64 (i : Int), .slice (some (A.add (i * sz))) sz (c - i * sz), undef, undef, .agg #[.int .i64 (P : Int), .slice Ak ks.length ck], .slice (some A) ls.length c, .bool true, .bool false, .pointer (some ⟨g, 0, none⟩), .pointer (some ⟨b5, 0, none⟩), .int .i64 (P : Int), .int .u64 (P : Int), .bool true, .slice (some A) ls.length c, .pointer (some ⟨b5, 1, none⟩), .slice Ak ks.length ck, .int .i64 (ks.length : Int), .agg #[.int .i64 (P : Int), .slice Ak ks.length ck], .func (.func 43) #[.agg #[.int .i64 (P : Int), .slice Ak ks.length ck]] #[], .func (.func 63) #[] #[.pointer (some ⟨w4.heap.size + 1, 0, none⟩), .pointer (some ⟨w4.heap.size + 1 + 1, 0, none⟩), .pointer (some ⟨w4.heap.size, 0, none⟩)], .int .i64 (i : Int), .slice (some (A.add (i * sz))) sz (c - i * sz), undef, undef, undef, undef, undef, undef, undef, undef, undef, undef, undef, undef, undef, undef, undef, undef, undef, undef, undef, undef, undef, undef, undef], defers := [] }) ?assign ?body ?done
  case assign =>
    intro l x W K hK
    gi_wp2
    exact hK
  case body =>
    rintro lp pre i W hInv ⟨hpre, hlt⟩ hsW
    obtain ⟨⟨v', hi, hs⟩, hx3, hx5⟩ := hInv
    rw [← hpre] at hi
    have HPRE := Aside0.mk hpre
    clear hpre
    obtain ⟨ak, rfl, hka⟩ := Kd.at_int HRK.out (i : Int) (by omega) (by omega)
    rw [Int.toNat_natCast] at hka
    have hka2 : W.cell? (ak.add i) = some (.int .i64 (rd ks i)) := cell_wr hka hs (by rw [addBS]; exact (HFK.out ak rfl).1) (by rw [addBS]; exact (HFK.out ak rfl).2)
    obtain ⟨kk, hkk⟩ : ∃ q, rd ks i = q := ⟨_, rfl⟩
    have hkb : 0 ≤ kk ∧ kk ≤ 24 := by rw [← hkk]; exact HALL.out.1 _ (rd_memS (by omega))
    rw [hkk] at hka2
    have hka3 : W.drew.cell? (ak.add i) = some (.int .i64 kk) := hka2
    have hd3 : W.drew.cell? ⟨b3, 0, none⟩ = some (.pointer (some ⟨g, 0, none⟩)) := (blk_cell hx3 0).trans rfl
    have he3 : W.cell? ⟨b3, 0, none⟩ = some (.pointer (some ⟨g, 0, none⟩)) := (blk_cell hx3 0).trans rfl
    have he5 : W.cell? ⟨b5, 1, none⟩ = some (.slice (some ak) ks.length ck) := (blk_cell hx5 1).trans rfl
    have hd5 : W.drew.cell? ⟨b5, 1, none⟩ = some (.slice (some ak) ks.length ck) := (blk_cell hx5 1).trans rfl
    have hq1 : (0 ≤ (i : Int)) = True := eq_true (by omega)
    have hq2 : ((i : Int) < (ks.length : Int)) = True := eq_true (by omega)
    have hq3 : (i < ks.length) = True := eq_true hlt
    have HKK := Aside0.mk hkk
    have HKB := Aside0.mk hkb
    clear hka hkk hkb
    have HU := Aside0.mk (show IntKind.u64.wrap kk = kk by rw [u64_wrap]; have := HKB.out; omega)
    obtain ⟨L, hL⟩ : ∃ L, l ++ (bitsOf (P : Int) 2 ++ slideBits ks ls sz i) = L := ⟨_, rfl⟩
    rw [hL] at hi
    have hlen : L.length ≤ 70000 := by
      rw [← hL]
      have h1 := slideBits_length HALL.out ks.length sz (by omega) i (by omega)
      have h2 := HM.out
      have h3 := HDV.out.2.1
      simp only [List.length_append, bitsOf_length]
      have h4 : i * (5 + sz * 64) ≤ 8 * 5 + ks.length * sz * 64 := by
        have := Nat.mul_le_mul_right sz (show i ≤ ks.length by omega)
        rw [Nat.mul_add, ← Nat.mul_assoc]
        have h5 := Nat.mul_le_mul_right 64 this
        omega
      have h6 := Nat.mul_le_mul_right 64 hmul
      omega
    have HLEN := Aside0.mk hlen
    have hput := wr_Put w0 W.drew g v' L kk 5 HKB.out.1 (by have := HKB.out; omega) (below_drew1 hs.below) hi (by omega)
    rw [put_five HKB.out, if_pos rfl] at hput
    have HPUT := Aside0.mk hput
    have HI := Aside0.mk hi
    have HS := Aside0.mk hs
    have HX3 := Aside0.mk hx3
    have HX5 := Aside0.mk hx5
    have HL := Aside0.mk hL
    clear hput hi hs hx3 hx5 hL hlen
    dsimp only
    gi_upto_region 7 with fail
    gi_cut [] from 29 (fun wc => ∃ v6, Aside0 (IsWr w0 wc g v6 (L ++ bitsOf kk 5)) ∧ Aside0 (WrStep w0 W wc g v' v6))
    case first =>
      gi_region_with (refine ⟨trivial, ?_⟩; gi_at_call 55; rw [HU.out]; refine (CallsIn.inRound lp (callsIn_wide.2 HPUT.out)).mono ?_; rintro e w6 ⟨rfl, v6, hi6, hs6⟩; have HI6 := Aside0.mk hi6; have HS6 := Aside0.mk hs6; clear hi6 hs6)
      all_goals (gi_wp2_with fail; gi_meet; exact ⟨v6, ⟨HI6.out⟩, ⟨HS6.out.below, HS6.out.kept, HS6.out.own⟩⟩)
    case rest =>
      obtain ⟨v6, HI6, HS6⟩ := hcut
      clear HPUT hka2 hka3 hd3 hd5 he3 he5
      gi_wp2_with fail
      have hup : (i + 1) * sz ≤ ls.length := Nat.le_trans (Nat.mul_le_mul_right sz (by omega)) hmul
      obtain ⟨lo, hlo⟩ : ∃ q, i * sz = q := ⟨_, rfl⟩
      have hup2 : lo + sz ≤ ls.length := by rw [← hlo]; rw [Nat.succ_mul] at hup; exact hup
      obtain ⟨part, hpt⟩ : ∃ q, (ls.drop lo).take sz = q := ⟨_, rfl⟩
      have hpl : part.length = sz := by rw [← hpt, List.length_take, List.length_drop]; omega
      have hpe : ∀ j, j < sz → rd part j = rd ls ((lo + j : Nat) : Int) := by
        intro j hj
        rw [← hpt]
        simp [rd, List.getD, hj]
        rw [show ((lo : Int) + (j : Int)).toNat = lo + j by omega]
      have HPE := Aside0.mk (And.intro hup2 (And.intro hpl (And.intro hpe (And.intro hlo hpt))))
      rw [hlo]
      clear hup hup2 hpl hpe hpt hlo
      gi_loopg [10, 39] sz (fun kq v10 v39 wr => ∃ (j : Nat) (vj : Value), v39 = .int .i64 j ∧ kq + j = sz ∧ Aside0 (IsWr w0 wr g vj (L ++ bitsOf kk 5 ++ partBits kk (part.take j))) ∧ Aside0 (WrStep w0 W wr g v' vj))
      case atStart => exact ⟨0, v6, rfl, by omega, ⟨by rw [List.take_zero]; simp only [partBits, List.flatMap_nil, List.append_nil]; exact HI6.out⟩, HS6⟩
      case round =>
        obtain ⟨j, vj, rfl, hkj, HIj, HSj⟩ := hrel
        by_cases hj : j < sz
        · have hst := HS.out.trans HSj.out
          obtain ⟨A', hA', hca⟩ := Kd.at_int HR.out ((lo + j : Nat) : Int) (by omega) (by have := HPE.out.1; omega)
          obtain rfl : A = A' := by injection hA'
          rw [Int.toNat_natCast, ← HPE.out.2.2.1 j hj] at hca
          obtain ⟨y, hy⟩ : ∃ q, rd part j = q := ⟨_, rfl⟩
          rw [hy] at hca
          have hyb : -8589934592 ≤ y ∧ y < 8589934592 := by rw [← hy, HPE.out.2.2.1 j hj]; exact HALL.out.2 _ (rd_memS (by have := HPE.out.1; omega))
          have hcb : wr.cell? ((A.add lo).add j) = some (.int .i64 y) := by rw [addAddS]; exact cell_wr hca hst (by rw [addBS]; exact HFA.out.1) (by rw [addBS]; exact HFA.out.2)
          have hkw : wr.cell? (ak.add i) = some (.int .i64 kk) := by
            obtain ⟨ak', he, hk2⟩ := Kd.at_int HRK.out (i : Int) (by omega) (by omega)
            obtain rfl : ak = ak' := by injection he
            rw [Int.toNat_natCast, HKK.out] at hk2
            exact cell_wr hk2 hst (by rw [addBS]; exact (HFK.out ak rfl).1) (by rw [addBS]; exact (HFK.out ak rfl).2)
          have hz3 := wr_keep HSj.out HI.out HX3.out (by decide) (by decide)
          have hz5 := wr_keep HSj.out HI.out HX5.out (by decide) (by decide)
          have he3 : wr.cell? ⟨b3, 0, none⟩ = some (.pointer (some ⟨g, 0, none⟩)) := (blk_cell hz3 0).trans rfl
          have he5 : wr.cell? ⟨b5, 1, none⟩ = some (.slice (some ak) ks.length ck) := (blk_cell hz5 1).trans rfl
          have hf3 : wr.drew.cell? ⟨b3, 0, none⟩ = some (.pointer (some ⟨g, 0, none⟩)) := he3
          have hf5 : wr.drew.cell? ⟨b5, 1, none⟩ = some (.slice (some ak) ks.length ck) := he5
          have hkw2 : wr.drew.cell? (ak.add i) = some (.int .i64 kk) := hkw
          have hput := wr_ricePut w0 wr.drew g vj _ y kk (below_drew1 HSj.out.below) HIj.out (by
            have h1 := partBits_length HKB.out (ls := part.take j) (fun x hx => HALL.out.2 x (by have h2 := List.mem_of_mem_take hx; rw [← HPE.out.2.2.2.2] at h2; exact List.mem_of_mem_drop (List.mem_of_mem_take h2)))
            have h2 := HLEN.out
            have h3 : (part.take j).length ≤ 1024 := by rw [List.length_take]; have := HDV.out.2.1; have := HPE.out.1; omega
            have h4 := Nat.mul_le_mul_right 64 h3
            simp only [List.length_append, bitsOf_length]
            omega)
          have hmay : mayZ y kk = true := by unfold mayZ; simp; have := HKB.out; omega
          rw [hmay, if_pos rfl] at hput
          have HPUT := Aside0.mk hput
          have HPB := Aside0.mk (show partBits kk (part.take (j + 1)) = partBits kk (part.take j) ++ codeZ y kk.toNat by
            rw [take_rdS (by rw [HPE.out.2.1]; exact hj), hy]
            simp [partBits])
          have HJ := Aside0.mk (And.intro hj hkj)
          have hme : gk - 1 < gk := by omega
          have hdec : decide ((j : Int) < (sz : Int)) = true := decide_eq_true (by omega)
          have hdecn : decide (j < sz) = true := decide_eq_true hj
          have hp0 : (0 ≤ (j : Int)) = True := eq_true (by omega)
          have hp1 : ((j : Int) < (sz : Int)) = True := eq_true (by omega)
          have hp2 : (j < sz) = True := eq_true hj
          have HW1 := Aside0.mk (show wrap64 ((j : Int) + 1) = (j : Int) + 1 from w64E (by omega) (by have := HPE.out.1; have := HDV.out.2.1; omega))
          clear hst hca hyb hz3 hz5 hput hmay hj hkj hA' hy
          gi_upto_region 11 with fail
          gi_region_with (refine ⟨trivial, ?_⟩; gi_at_call 56; refine (CallsIn.inRound lp (callsIn_wide.2 HPUT.out)).mono ?_; rintro e w8 ⟨rfl, v8, hi8, hs8⟩; have HI8 := Aside0.mk hi8; have HS8 := Aside0.mk hs8; clear hi8 hs8)
          all_goals (gi_wp2_with fail; gi_roundg (gk - 1); (case rel => exact ⟨j + 1, v8, by first | rfl | (rw [HW1.out]; rfl), by have := HJ.out; omega, ⟨by rw [HPB.out, ← List.append_assoc]; exact HI8.out⟩, ⟨HSj.out.trans ⟨HS8.out.below, HS8.out.kept, HS8.out.own⟩⟩⟩); (case measure => exact hme))
        · obtain rfl : j = sz := by omega
          gi_wp2
          have hI := HIj.out
          rw [List.take_of_length_le (by rw [HPE.out.2.1]; exact Nat.le_refl _), ← HL.out] at hI
          obtain ⟨ho1, ho2⟩ := wr_others HSj.out HI.out HS.out.below
          refine ⟨trivial, ho1, ho2, ⟨vj, ?_, HS.out.trans HSj.out⟩, wr_keep HSj.out HI.out HX3.out (by decide) (by decide), wr_keep HSj.out HI.out HX5.out (by decide) (by decide)⟩
          rw [List.length_append, ← HPRE.out]
          show IsWr w0 _ g vj (l ++ (bitsOf (P : Int) 2 ++ (slideBits ks ls _ i ++ (bitsOf (rd ks i) 5 ++ partBits (rd ks i) ((ls.drop (i * _)).take _)))))
          rw [HKK.out, HPE.out.2.2.2.1, HPE.out.2.2.2.2]
          simp only [List.append_assoc] at hI ⊢
          exact hI
  case done =>
    rintro D xs W hD hS hInv hK
    rw [hS, List.length_range] at hInv
    have HINV := Aside0.mk hInv
    have HKD := Aside0.mk hK
    have HD := Aside0.mk hD
    clear hInv hK hS hD
    gi_wp2
    refine ⟨by simp, .inl ⟨_, _, rfl, run_takeDeferred HKD.out, ?_⟩⟩
    have hk : CellsKept w5.heap.size W (W.putObj D (.deferred none)) := CellsKept.putObj _ HD.out HKD.out rfl
    have hI := HINV.out.kept (by have := HB.out.size; have := HSZ.out; omega) hk
    obtain ⟨⟨v9, hi9, hs9⟩, _, _⟩ := hI
    refine ⟨_, results_tmp rfl _ _ _, rfl, v9, ?_, hs9⟩
    rw [hsz]
    exact hi9
end Go.Proofs.Yteoncgijnkfhfaa.P
