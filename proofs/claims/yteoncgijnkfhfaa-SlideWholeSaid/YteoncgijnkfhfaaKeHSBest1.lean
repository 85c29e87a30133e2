/- The contract of layer 3's best: the best parts of one P. -/
import Derived.Test.YteoncgijnkfhfaaKePx0
import Derived.Test.YteoncgijnkfhfaaKeHRangeS
import Derived.Test.YteoncgijnkfhfaaKeHSGood
import Derived.Test.YteoncgijnkfhfaaKeHSEach
import Derived.Test.YteoncgijnkfhfaaKeHSEach2
import Derived.Test.YteoncgijnkfhfaaKeHBest
import Derived.Sort.LoopGhostIn
import Derived.Stop.RegionWithIn
import Derived.Sort.CutIn
import Derived.Laws.ResultCell
import Derived.Maps.OwnIn
namespace Go.Proofs.Yteoncgijnkfhfaa.P
open Go Go.RowKit Go.Maps Go.Proofs.YteoncgijnkfhfaaW.PrintWords Go.Proofs.YteoncgijnkfhfaaW.PrintLast Go.Proofs.YteoncgijnkfhfaaW.PrintMore
set_option linter.unusedVariables false
set_option linter.unusedSimpArgs false

attribute [local go_sem] Oper.semAt_some

/-- The first parts' best parameters, and two bits and their bits. -/
def bestParts (k : Nat) (l : List Int) (sz : Nat) : Nat → Option (List Int × Int)
  | 0 => some ([], 2)
  | i + 1 => (bestParts k l sz i).bind fun x => (rice_Best.f k ((l.drop (i * sz)).take sz)).bind fun y => some (x.1 ++ [y.1], wrap64 (x.2 + wrap64 (5 + y.2)))
theorem bestParts_le {k : Nat} {l : List Int} {sz n : Nat} {s : List Int × Int} (h : bestParts k l sz n = some s) (m : Nat) (hm : m ≤ n) : ∃ s', bestParts k l sz m = some s' := by
  induction n generalizing s with
  | zero =>
    obtain rfl : m = 0 := by omega
    exact ⟨s, h⟩
  | succ n ih =>
    by_cases e : m = n + 1
    · subst e
      exact ⟨s, h⟩
    · rw [bestParts] at h
      obtain ⟨ys, h1, _⟩ := Option.bind_eq_some_iff.mp h
      exact ih h1 (by omega)
theorem bestParts_length {k : Nat} {l : List Int} {sz n : Nat} {s : List Int × Int} (h : bestParts k l sz n = some s) : s.1.length = n := by
  induction n generalizing s with
  | zero =>
    obtain rfl := Option.some.inj h
    rfl
  | succ n ih =>
    rw [bestParts] at h
    obtain ⟨x, h1, h⟩ := Option.bind_eq_some_iff.mp h
    obtain ⟨y, h2, h⟩ := Option.bind_eq_some_iff.mp h
    obtain rfl := Option.some.inj h
    simp [ih h1]
def slide_best.f (k : Nat) (l : List Int) (p : Int) : Option (Int × List Int × Int) :=
  if wholeZ l.length p = true then (bestParts k l (l.length / 2 ^ p.toNat) (2 ^ p.toNat)).bind fun x => some (p, x.1, x.2) else none
theorem each_callsB (A : Option Addr) (n c : Nat) (m : Int) (v : Value) (hv : ∃ f cs, v = .func f cs #[]) (w : World) : Calls Try.prog 42 #[.slice A n c, .int .i64 m, v] w fun e w' => e = .returned (.func (.func 63) #[] #[.pointer (some ⟨w.heap.size + 1, 0, none⟩), .pointer (some ⟨w.heap.size + 1 + 1, 0, none⟩), .pointer (some ⟨w.heap.size, 0, none⟩)]) ∧ w' = ((w.alloc (.cells #[.slice A n c] 22)).alloc (.cells #[.int .i64 m] 3)).alloc (.cells #[v] 72) := by
  obtain ⟨f, cs, rfl⟩ := hv
  have hmf : ∀ (fn : Fn) (first cap : Array Value) (w : World), (Instr.makeFunc fn first cap).run Try.prog w = .ok (.func fn first cap) w := fun _ _ _ _ => rfl
  go_enter Try.func42, Try.ntmps42
  go_wp2
  go_ret
  exact ⟨rfl, rfl⟩
theorem part_CB {w : World} {A : Addr} {c : Nat} {l : List Int} {lo sz : Nat} (h : Kd.C (Kd.int .i64) w (some A) l.length l) (hc : l.length ≤ c) (hs : lo + sz ≤ l.length) (h0 : 0 < sz) : Kd.C (Kd.int .i64) w (some (A.add lo)) ((l.drop lo).take sz).length ((l.drop lo).take sz) := by
  have h1 := Kd.C_drop h (m := lo) (by omega) hc
  rw [if_neg (by omega)] at h1
  have h2 := Kd.C_take h1 (m := sz) (by rw [List.length_drop]; omega)
  have : (Kd.int IntKind.i64).sz = 1 := rfl
  rw [this, Nat.mul_one] at h2
  exact h2
theorem bint_info : (Try.prog.info? 3).map (fun i => (i.zero, i.size, i.bytes)) = some (some (.int .i64 0), 1, 8) := by kernel_rfl
/-- What the loop writes: the parts, the sum, what it makes. -/
def BestT (b6 b7 N : Nat) (k : Nat) (_ : Obj) : Prop := k = b6 ∨ k = b7 ∨ N ≤ k
structure BestInv (w : World) (b4 b6 b7 N : Nat) (p : Int) (r : Option (List Int × Int)) (W : World) : Prop where
  bel : Below w.heap.size w W
  x4 : W.heap[b4]? = some (.cells #[.int .i64 0, .slice none 0 0] 24 (0, 0))
  ex : ∃ (v : Value) (ks : List Int) (s : Int), r = some (ks, s) ∧ W.heap[b6]? = some (.cells #[.int .i64 p, v] 24 (0, 0)) ∧ W.heap[b7]? = some (.cells #[.int .i64 s] 3 (0, 0)) ∧ W.ownsRow N 3 1 v ks.length (nums .i64 ks)
theorem own_keptB {w w' : World} {base B n : Nat} {v : Value} {xs : List Value} (h : w.ownsRow base 3 1 v n xs) (hk : CellsKept B w w') : w'.ownsRow base 3 1 v n xs :=
  own_move h fun k hk' => by
    obtain ⟨cs, hc⟩ := own_typed h k hk'
    exact (hk.2 _ _ hc rfl).trans hc.symm
theorem BestInv.kept {w : World} {b4 b6 b7 N : Nat} {p : Int} {r : Option (List Int × Int)} {W W' : World} {B : Nat} (h : BestInv w b4 b6 b7 N p r W) (hB : w.heap.size ≤ B) (hk : CellsKept B W W') : BestInv w b4 b6 b7 N p r W' := by
  obtain ⟨hb, h4, v, ks, s, hr, h6, h7, ho⟩ := h
  exact ⟨hb.trans (hk.1.mono hB), hk.2 _ _ h4 rfl, v, ks, s, hr, hk.2 _ _ h6 rfl, hk.2 _ _ h7 rfl, own_keptB ho hk⟩
theorem bestT_each {b6 b7 N Bm Bp Bl : Nat} (h : Bm < N ∧ Bp < N ∧ Bl < N ∧ b6 ≠ Bm ∧ b6 ≠ Bp ∧ b6 ≠ Bl ∧ b7 ≠ Bm ∧ b7 ≠ Bp ∧ b7 ≠ Bl) : EachT (BestT b6 b7 N) Bm Bp Bl := by
  refine ⟨fun cs => ?_, fun cs => ?_, fun cs => ?_⟩ <;> rintro (e | e | e) <;> omega
/-- A part more. -/
theorem best_round {w W w6 w1 : World} {b4 b6 b7 N : Nat} {p b s s' : Int} {ks : List Int} {v v1 : Value} (hbel : Below w.heap.size w W) (h4 : W.heap[b4]? = some (.cells #[.int .i64 0, .slice none 0 0] 24 (0, 0)))
    (h6 : W.heap[b6]? = some (.cells #[.int .i64 p, v] 24 (0, 0))) (h7 : W.heap[b7]? = some (.cells #[.int .i64 s] 3 (0, 0))) (ho : W.ownsRow N 3 1 v ks.length (nums .i64 ks)) (hd : Below W.heap.size W w6)
    (hown : w1.ownsRow N 3 1 v1 (ks.length + 1) (nums .i64 ks ++ [.int .i64 b])) (hg : (w6.alloc (.cells #[.int .i64 b] 3)).grownBy w1 v.ownBlock)
    (hlt : w.heap.size ≤ b4 ∧ b4 < b6 ∧ b6 < b7 ∧ b7 < N ∧ N ≤ W.heap.size) :
    KeepsOthers W ((w1.setCell ⟨b6, 1, none⟩ v1).setCell ⟨b7, 0, none⟩ (.int .i64 s')) ∧ CellsButS (BestT b6 b7 N) w.heap.size W ((w1.setCell ⟨b6, 1, none⟩ v1).setCell ⟨b7, 0, none⟩ (.int .i64 s')) ∧ BestInv w b4 b6 b7 N p (some (ks ++ [b], s')) ((w1.setCell ⟨b6, 1, none⟩ v1).setCell ⟨b7, 0, none⟩ (.int .i64 s')) ∧ w1.heap[b6]? = some (.cells #[.int .i64 p, v] 24 (0, 0)) ∧ (w1.setCell ⟨b6, 1, none⟩ v1).heap[b7]? = some (.cells #[.int .i64 s] 3 (0, 0)) := by
  obtain ⟨l0, l1, l2, l3, l4⟩ := hlt
  have hvb : ∀ k, v.ownBlock = some k → N ≤ k ∧ k < W.heap.size ∧ ∃ cells, W.heap[k]? = some (.cells cells 3 (0, 0)) := fun k hk => ⟨own_base ho k hk, own_lt ho k hk, own_typed ho k hk⟩
  have hg6 : w6.grownBy w1 v.ownBlock := World.grownBy.trans (World.grownBy_alloc w6 _ _) hg
  have hst : ∀ k, k < W.heap.size → some k ≠ v.ownBlock → w1.heap[k]? = W.heap[k]? := fun k hk hn => (hg6.block k (Nat.lt_of_lt_of_le hk hd.size) hn).trans (hd.block k hk)
  have hne : ∀ k, k < N → some k ≠ v.ownBlock := fun k hk e => by have := (hvb k e.symm).1; omega
  have hsz : W.heap.size ≤ w1.heap.size := Nat.le_trans hd.size hg6.size
  have x4 : w1.heap[b4]? = some (.cells #[.int .i64 0, .slice none 0 0] 24 (0, 0)) := (hst b4 (by omega) (hne _ (by omega))).trans h4
  have x6 : w1.heap[b6]? = some (.cells #[.int .i64 p, v] 24 (0, 0)) := (hst b6 (by omega) (hne _ (by omega))).trans h6
  have x7 : w1.heap[b7]? = some (.cells #[.int .i64 s] 3 (0, 0)) := (hst b7 (by omega) (hne _ (by omega))).trans h7
  have y7 : (w1.setCell ⟨b6, 1, none⟩ v1).heap[b7]? = some (.cells #[.int .i64 s] 3 (0, 0)) := (Below.heap_setCell w1 ⟨b6, 1, none⟩ v1 b7 (by show b7 ≠ b6; omega)).trans x7
  have hoth : ∀ k, k ≠ b6 → k ≠ b7 → ((w1.setCell ⟨b6, 1, none⟩ v1).setCell ⟨b7, 0, none⟩ (.int .i64 s')).heap[k]? = w1.heap[k]? := fun k n6 n7 =>
    (Below.heap_setCell _ ⟨b7, 0, none⟩ _ k n7).trans (Below.heap_setCell w1 ⟨b6, 1, none⟩ v1 k n6)
  have hsz2 : ((w1.setCell ⟨b6, 1, none⟩ v1).setCell ⟨b7, 0, none⟩ (.int .i64 s')).heap.size = w1.heap.size := by simp [World.setCell]
  have hbW1 : Below w.heap.size W w1 := ⟨hg6.os.trans hd.os, hg6.tape.trans hd.tape, hg6.output.trans hd.output, hsz, fun k hk => hst k (by omega) (hne k (by omega))⟩
  have hbW : Below w.heap.size W ((w1.setCell ⟨b6, 1, none⟩ v1).setCell ⟨b7, 0, none⟩ (.int .i64 s')) :=
    (hbW1.setCell (p := ⟨b6, 1, none⟩) (by show w.heap.size ≤ b6; omega) _).setCell (p := ⟨b7, 0, none⟩) (by show w.heap.size ≤ b7; omega) _
  have hkeep : ∀ k o, k ≠ b6 → k ≠ b7 → some k ≠ v.ownBlock → W.heap[k]? = some o → ((w1.setCell ⟨b6, 1, none⟩ v1).setCell ⟨b7, 0, none⟩ (.int .i64 s')).heap[k]? = some o := fun k o n6 n7 nv hk =>
    (hoth k n6 n7).trans ((hst k (Array.getElem?_eq_some_iff.1 hk).1 nv).trans hk)
  refine ⟨⟨by rw [hsz2]; exact hsz, fun k o hk hc => hkeep k o ?_ ?_ ?_ hk⟩, ⟨hbW, fun k o hT hk hc => hkeep k o (fun e => hT (.inl e)) (fun e => hT (.inr (.inl e))) (fun e => hT (.inr (.inr (hvb k e.symm).1))) hk⟩, ⟨hbel.trans hbW, ?_, v1, ks ++ [b], s', rfl, ?_, ?_, ?_⟩, x6, y7⟩
  · rintro rfl
    rw [h6] at hk
    cases hk
    cases hc
  · rintro rfl
    rw [h7] at hk
    cases hk
    cases hc
  · intro e
    obtain ⟨_, _, cells, h⟩ := hvb k e.symm
    rw [h] at hk
    cases hk
    cases hc
  · exact (hoth b4 (by omega) (by omega)).trans x4
  · have := blk_put x6 1 v1 rfl
    exact (Below.heap_setCell _ ⟨b7, 0, none⟩ _ b6 (by show b6 ≠ b7; omega)).trans this
  · exact blk_put y7 0 (.int .i64 s') rfl
  · have e : nums .i64 (ks ++ [b]) = nums .i64 ks ++ [.int .i64 b] := by simp [nums]
    rw [e, List.length_append, List.length_singleton]
    refine own_move hown fun k hk => ?_
    have hk2 : N ≤ k := own_base hown k hk
    exact hoth k (by omega) (by omega)

theorem best_each (w4 : World) (A : Addr) (n c P : Nat) (hP : P ≤ 3) :
    Aside0 (Below w4.heap.size w4 (((w4.alloc (.cells #[.slice (some A) n c] 22)).alloc (.cells #[.int .i64 (IntKind.i64.wrap (2 ^ P))] 3)).alloc (.cells #[.func (.func 43) #[.agg #[.int .i64 (P : Int), .slice none 0 0]] #[]] 72)).drew)
      ∧ Aside0 (EachB (((w4.alloc (.cells #[.slice (some A) n c] 22)).alloc (.cells #[.int .i64 (IntKind.i64.wrap (2 ^ P))] 3)).alloc (.cells #[.func (.func 43) #[.agg #[.int .i64 (P : Int), .slice none 0 0]] #[]] 72)).drew (w4.heap.size + 1) (w4.heap.size + 1 + 1) w4.heap.size (2 ^ P) P none 0 0 A n c)
      ∧ Aside0 (w4.heap.size ≤ w4.heap.size + 1 ∧ w4.heap.size ≤ w4.heap.size + 1 + 1 ∧ w4.heap.size ≤ w4.heap.size) := by
  have e : IntKind.i64.wrap (2 ^ P) = ((2 ^ P : Nat) : Int) := by
    have h : P = 0 ∨ P = 1 ∨ P = 2 ∨ P = 3 := by omega
    rcases h with rfl | rfl | rfl | rfl <;> decide +kernel
  rw [e]
  refine ⟨⟨below_drew (below_alloc (below_alloc (below_alloc (Below.refl _ _) _) _) _)⟩, ⟨?_, ?_, ?_⟩, ⟨by omega⟩⟩
  · have := blk_alloc (blk_new (w4.alloc (.cells #[.slice (some A) n c] 22)) (.cells #[.int .i64 ((2 ^ P : Nat) : Int)] 3)) (.cells #[.func (.func 43) #[.agg #[.int .i64 (P : Int), .slice none 0 0]] #[]] 72)
    rw [World.size_alloc] at this
    exact blk_drew this
  · have := blk_new ((w4.alloc (.cells #[.slice (some A) n c] 22)).alloc (.cells #[.int .i64 ((2 ^ P : Nat) : Int)] 3)) (.cells #[.func (.func 43) #[.agg #[.int .i64 (P : Int), .slice none 0 0]] #[]] 72)
    rw [World.size_alloc, World.size_alloc] at this
    exact blk_drew this
  · exact blk_drew (blk_alloc (blk_alloc (blk_new _ _) _) _)
set_option maxHeartbeats 8000000 in
set_option maxRecDepth 100000 in
theorem slide_best.calls (k : Nat) (A0 : Option Addr) (c0 : Nat) (l0 : List Int) (a1 : Int) (r1 : Int) (r2 : List Int) (r3 : Int) (w : World) (hr0 : Kd.C (Kd.int .i64) w A0 l0.length l0) (hc0 : l0.length ≤ c0) (h : slide_best.f k l0 a1 = some (r1, r2, r3)) :
    Calls Try.prog 37 #[.slice A0 l0.length c0, .int .i64 a1] w fun e w' => ∃ v1_ : Value, e = .returned (.tuple #[.agg #[.int .i64 r1, v1_], .int .i64 r3]) ∧ Kd.R (Kd.int .i64) 3 w' w.heap.size (fun _ => True) v1_ r2 ∧ Below w.heap.size w w' := by
  unfold slide_best.f at h
  by_cases hwh : wholeZ l0.length a1 = true
  case neg => rw [if_neg hwh] at h; cases h
  rw [if_pos hwh] at h
  obtain ⟨x, hx, h⟩ := Option.bind_eq_some_iff.mp h
  obtain ⟨xs, s⟩ := x
  simp only [Option.some.injEq, Prod.mk.injEq] at h
  obtain ⟨rfl, rfl, rfl⟩ := h
  obtain ⟨P, rfl, hP3, hn0, hn1, hdv⟩ : ∃ P : Nat, a1 = P ∧ P ≤ 3 ∧ 1 ≤ l0.length ∧ l0.length ≤ 1024 ∧ l0.length % 2 ^ P = 0 := by
    unfold wholeZ at hwh
    simp only [Bool.and_eq_true, decide_eq_true_eq] at hwh
    obtain ⟨h1, h2, h3, h4, h5⟩ := hwh
    refine ⟨a1.toNat, by omega, by omega, by omega, by omega, ?_⟩
    have : ((l0.length % 2 ^ a1.toNat : Nat) : Int) = 0 := by rw [Int.natCast_emod]; simpa using h5
    exact_mod_cast this
  rw [Int.toNat_natCast] at hx
  obtain ⟨A, rfl, _⟩ := Kd.at_int hr0 0 (by omega) (by omega)
  refine (callsIn_wide (n := 4)).1 ?_
  refine callsIn_of_wp_marks Try.func37 rfl trivial ?_ rfl
  simp only [Try.ntmps37, List.size_toArray, List.length_cons, List.length_nil, Nat.reduceAdd, Nat.reduceSub, Array.replicate_succ, Array.replicate_zero, List.push_toArray, List.append_toArray, List.nil_append, List.cons_append]
  have HDV := Aside0.mk (And.intro hn0 (And.intro hn1 (And.intro hdv hP3)))
  have HX := Aside0.mk hx
  have HR := Aside0.mk hr0
  have HC := Aside0.mk hc0
  clear hwh hx hn0 hn1 hdv hP3 hr0 hc0
  gi_upto_region 2 with fail
  have hb4 := below_alloc (below_alloc (below_alloc (Below.refl w.heap.size w) (.cells #[.int .i64 0, .slice none 0 0] 24)) (.cells #[.int .i64 (P : Int), .slice none 0 0] 24)) (.cells #[.int .i64 2] 3)
  have hx4 := blk_alloc (blk_alloc (blk_new w (.cells #[.int .i64 0, .slice none 0 0] 24)) (.cells #[.int .i64 (P : Int), .slice none 0 0] 24)) (.cells #[.int .i64 2] 3)
  have hx6 := blk_alloc (blk_new (w.alloc (.cells #[.int .i64 0, .slice none 0 0] 24)) (.cells #[.int .i64 (P : Int), .slice none 0 0] 24)) (.cells #[.int .i64 2] 3)
  have hx7 := blk_new ((w.alloc (.cells #[.int .i64 0, .slice none 0 0] 24)).alloc (.cells #[.int .i64 (P : Int), .slice none 0 0] 24)) (.cells #[.int .i64 2] 3)
  have hsz4 : (((w.alloc (.cells #[.int .i64 0, .slice none 0 0] 24)).alloc (.cells #[.int .i64 (P : Int), .slice none 0 0] 24)).alloc (.cells #[.int .i64 2] 3)).heap.size = w.heap.size + 3 := by simp
  rw [World.size_alloc] at hx6 hx7
  rw [World.size_alloc] at hx7
  generalize ((w.alloc (.cells #[.int .i64 0, .slice none 0 0] 24)).alloc (.cells #[.int .i64 (P : Int), .slice none 0 0] 24)).alloc (.cells #[.int .i64 2] 3) = w4 at hb4 hx4 hx6 hx7 hsz4 ⊢
  obtain ⟨b4, hb4e⟩ : ∃ q, w.heap.size = q := ⟨_, rfl⟩
  obtain ⟨b6, hb6e⟩ : ∃ q, b4 + 1 = q := ⟨_, rfl⟩
  obtain ⟨b7, hb7e⟩ : ∃ q, b6 + 1 = q := ⟨_, rfl⟩
  have HSZ := Aside0.mk (And.intro hb4e (And.intro hb6e (And.intro hb7e hsz4)))
  rw [hb4e] at hx4 hx6 hx7
  rw [hb6e] at hx6 hx7
  rw [hb7e] at hx7
  rw [show w.heap.size + 1 = b6 by omega, hb4e, hb7e]
  have HB4 := Aside0.mk hb4
  have HX4 := Aside0.mk hx4
  have HX6 := Aside0.mk hx6
  have HX7 := Aside0.mk hx7
  have hd6 : w4.drew.cell? ⟨b6, 0, none⟩ = some (.int .i64 (P : Int)) := (blk_cell (w := w4.drew) hx6 0).trans rfl
  have hd6b : w4.drew.cell? ⟨b6, 1, none⟩ = some (.slice none 0 0) := (blk_cell (w := w4.drew) hx6 1).trans rfl
  have hmf : ∀ (fn : Fn) (first cap : Array Value) (w : World), (Instr.makeFunc fn first cap).run Try.prog w = .ok (.func fn first cap) w := fun _ _ _ _ => rfl
  have hP64 : (P : Int) ≤ 64 := by have := HDV.out.2.2.2; omega
  have hP0 : 0 ≤ (P : Int) := by omega
  clear hb4 hx4 hx6 hx7 hsz4 hb4e hb6e hb7e
  gi_cut [19] from 12 (fun v19 wc => ∃ Bm Bp Bl : Nat, v19 = .func (.func 63) #[] #[.pointer (some ⟨Bm, 0, none⟩), .pointer (some ⟨Bp, 0, none⟩), .pointer (some ⟨Bl, 0, none⟩)] ∧ Aside0 (Below w4.heap.size w4 wc) ∧ Aside0 (EachB wc Bm Bp Bl (2 ^ P) P none 0 0 A l0.length c0) ∧ Aside0 (w4.heap.size ≤ Bm ∧ w4.heap.size ≤ Bp ∧ w4.heap.size ≤ Bl))
  case first =>
    first | (gi_region_with (refine ⟨trivial, ?_⟩; gi_at_call 42; refine (callsIn_wide.2 (each_callsB _ _ _ _ _ ⟨_, _, rfl⟩ _)).mono ?_; rintro e w5 ⟨rfl, hw5⟩)) | fail
    all_goals (gi_wp2_with fail; gi_meet; exact ⟨_, _, _, rfl, best_each w4 A l0.length c0 P HDV.out.2.2.2⟩)
  case rest =>
    obtain ⟨Bm, Bp, Bl, rfl, HB5, HE5, HBN⟩ := hcut
    gi_wp2_with fail
    obtain ⟨sz, hsz⟩ : ∃ q, l0.length / 2 ^ P = q := ⟨_, rfl⟩
    obtain ⟨M, hM⟩ : ∃ q, 2 ^ P = q := ⟨_, rfl⟩
    have hmul : M * sz ≤ l0.length := by rw [← hM, ← hsz]; exact Nat.mul_div_le _ _
    have hs0 : 0 < sz := by rw [← hsz]; exact Nat.div_pos (Nat.le_of_dvd (by have := HDV.out.1; omega) (Nat.dvd_of_mod_eq_zero HDV.out.2.2.1)) (Nat.pow_pos (by omega))
    have hk8 : M ≤ 8 := by rw [← hM]; exact Nat.pow_le_pow_right (n := 2) (by omega) HDV.out.2.2.2
    have hHX := HX.out
    rw [hsz, hM] at hHX
    have HXX := Aside0.mk hHX
    have hHE := HE5.out
    rw [hM] at hHE
    have HE := Aside0.mk hHE
    have hln := HDV.out.2.1
    have hsize := HB5.out.size
    have hblt := HBN.out
    have hplt : Bm < wc.heap.size ∧ Bp < wc.heap.size ∧ Bl < wc.heap.size := ⟨blk_lt hHE.m, blk_lt hHE.f, blk_lt hHE.l⟩
    have hbe := HSZ.out
    clear HX hHX hHE HE5
    refine rangeS (BestT b6 b7 wc.heap.size) rfl (by omega) (gf := 63) (lb := #[.pointer (some ⟨Bm, 0, none⟩), .pointer (some ⟨Bp, 0, none⟩), .pointer (some ⟨Bl, 0, none⟩)]) rfl trivial (enters_of Try.func63 (by kernel_rfl) rfl)
      (each_seqS (BestT b6 b7 wc.heap.size) _ (by omega) wc Bm Bp Bl w.heap.size M P none 0 0 A l0.length c0 sz HE.out (bestT_each (by omega)) HDV.out.2.2.2 hsz.symm (by omega) hmul (by omega) hs0 HC.out (by omega)) (by omega) (fun _ => rfl)
      (fun pre W => BestInv w b4 b6 b7 wc.heap.size (P : Int) (bestParts k l0 sz pre.length) W)
      (fun s A B h hk => h.kept (by omega) hk)
      (fun pre x A B hm hk => hm)
      ⟨below_then HB4.out HB4.out.size HB5.out, blk_below HX4.out HB5.out, .slice none 0 0, [], 2, rfl, blk_below HX6.out HB5.out, blk_below HX7.out HB5.out, own_nil _ _ _ _⟩
      (fun i => { tmps := #[Value.slice (some A) l0.length c0, .int .i64 (P : Int), undef, undef, .pointer (some ⟨b4, 0, none⟩), .int .i64 0, .pointer (some ⟨b6, 0, none⟩), .pointer (some ⟨b7, 0, none⟩), undef, .slice (some (A.add (i * sz))) sz (c0 - i * sz), undef, undef, u12, u13, u14, u15, u16, u17, u18, .func (.func 63) #[] #[.pointer (some ⟨Bm, 0, none⟩), .pointer (some ⟨Bp, 0, none⟩), .pointer (some ⟨Bl, 0, none⟩)], .int .i64 (i : Int), .slice (some (A.add (i * sz))) sz (c0 - i * sz), u22, u23, u24, u25, u26, u27, u28, u29, u30, u31, u32, u33, u34, u35, u36, u37, u38], defers := [] }) ?assign ?body ?done
    case assign =>
      intro l x W K hK
      gi_wp2
      exact hK
    case body =>
      rintro lp pre i W hInv ⟨hpre, hlt⟩ hsW
      rw [← hpre] at hInv
      have HPRE := Aside0.mk hpre
      clear hpre
      obtain ⟨y', hy'⟩ := bestParts_le HXX.out (i + 1) (by omega)
      have HY := Aside0.mk hy'
      rw [bestParts] at hy'
      obtain ⟨⟨yk, ys⟩, hy, hy'⟩ := Option.bind_eq_some_iff.mp hy'
      obtain ⟨⟨tk, tc⟩, ht, hy'⟩ := Option.bind_eq_some_iff.mp hy'
      obtain rfl := Option.some.inj hy'
      clear hy'
      rw [hy] at hInv
      obtain ⟨hbel, hx4, v, ks, s1, ey, hx6, hx7, how⟩ := hInv
      obtain ⟨rfl, rfl⟩ : yk = ks ∧ ys = s1 := by
        have := Option.some.inj ey
        simpa using this
      have hkl := bestParts_length hy
      simp only at hkl
      have hup : i * sz + sz ≤ l0.length := by
        have := Nat.mul_le_mul_right sz (show i + 1 ≤ M by omega)
        rw [Nat.succ_mul] at this
        omega
      have hC := part_CB (Kd.C_below HR.out hbel) HC.out hup hs0
      obtain ⟨lo, hlo⟩ : ∃ q, i * sz = q := ⟨_, rfl⟩
      rw [hlo] at hC ht hup
      obtain ⟨part, hpt⟩ : ∃ q, (l0.drop lo).take sz = q := ⟨_, rfl⟩
      have hpl : part.length = sz := by rw [← hpt, List.length_take, List.length_drop]; omega
      rw [hpt] at hC ht
      have hbest := rice_Best.calls k (some (A.add lo)) (c0 - lo) part tk tc W hC (by rw [hpl]; have := HC.out; omega) ht
      rw [hpl] at hbest
      have HBST := Aside0.mk hbest
      rw [hlo]
      obtain ⟨Av, cv, rfl⟩ := own_slice how
      have HKL := Aside0.mk (show yk.length ≤ 8 by omega)
      have HOW := Aside0.mk how
      have HX4' := Aside0.mk hx4
      have HX6' := Aside0.mk hx6
      have HX7' := Aside0.mk hx7
      have HBEL := Aside0.mk hbel
      have HSW := Aside0.mk hsW
      have HNN := Aside0.mk hbe
      have HS5 := Aside0.mk hsize
      obtain ⟨i0, hi0, hz0, hz1, hz2⟩ := info_parts bint_info
      clear hbest hC hpt hpl hup hlo hkl how hx4 hx6 hx7 hbel ey ht hy hbe hsize hln hblt hplt hsW hmul hs0 hk8
      gi_upto_region 5 with fail
      refine ⟨trivial, (CallsIn.inRound lp (callsIn_wide.2 HBST.out)).mono ?_⟩
      rintro e w6 ⟨rfl, hb6⟩
      have HB6 := Aside0.mk hb6
      have hc6 : w6.cell? ⟨b6, 1, none⟩ = some (.slice Av yk.length cv) := (blk_cell (blk_below HX6'.out hb6) 1).trans rfl
      have HOW6 := Aside0.mk (own_move HOW.out (fun k_ hk_ => hb6.block k_ (own_lt HOW.out k_ hk_)))
      clear hb6 HBST
      have HONE : Aside0 (∀ u ∈ [Value.int .i64 tk], u.oneCell' = true) := ⟨by intro u hu; rw [List.mem_singleton.1 hu]; rfl⟩
      gi_wp2_with (gi_at_builtin; refine wpListIn_append_own_at _ rfl _ _ 22 rfl wc.heap.size 3 i0 (.int .i64 0) 1 8 Try.underlying22 hi0 hz0 hz1 hz2 rfl (by omega) (.slice Av yk.length cv) yk.length (nums .i64 yk) rfl (HOW6.out.alloc _) ⟨w6.heap.size, 0, none⟩ 1 1 [.int .i64 tk] rfl rfl ?c1 HONE.out ?c2 ?c3 ?c4 ?_)
      case c1 => exact World.news_of_block (cs := #[.int .i64 tk]) (t := 3) (fr := (0, 0)) (heap_alloc_new w6 _)
      case c2 => have := HKL.out; simp only [maxLen]; omega
      case c3 => have := HKL.out; omega
      case c4 => have := HB6.out.size; have := HSW.out; simp; omega
      intro v1 w1 hown1 hg _ _
      obtain ⟨A6, c6, rfl⟩ := own_slice hown1
      have hfin := best_round (s' := wrap64 (ys + wrap64 (5 + tc))) HBEL.out HX4'.out HX6'.out HX7'.out HOW.out HB6.out hown1 hg (by have := HNN.out; have := HS5.out; have := HSW.out; omega)
      have hf6 := blk_frozen hfin.2.2.2.1 1
      have hcc6 : w1.cell? ⟨b6, 1, none⟩ = some (.slice Av yk.length cv) := (blk_cell hfin.2.2.2.1 1).trans rfl
      have HFIN0 := Aside0.mk hfin
      clear hown1 hg hfin hc6 hi0 hz0 hz1 hz2
      gi_upto_region 6 with fail
      obtain ⟨w8, hw8⟩ : ∃ q, w1.setCell ⟨b6, 1, none⟩ (.slice A6 (yk.length + 1) c6) = q := ⟨_, rfl⟩
      have hfin := HFIN0.out
      rw [hw8] at hfin ⊢
      have hc7 : w8.cell? ⟨b7, 0, none⟩ = some (.int .i64 ys) := (blk_cell hfin.2.2.2.2 0).trans rfl
      have hf7 := blk_frozen hfin.2.2.2.2 0
      have HFIN := Aside0.mk hfin
      clear hfin hw8 hf6 HFIN0
      gi_wp2
      refine ⟨HFIN.out.1, HFIN.out.2.1, ?_⟩
      rw [← HPRE.out, HY.out]
      exact HFIN.out.2.2.1
    case done =>
      rintro D ds W hD hS hInv hK
      rw [hS, List.length_range, HXX.out] at hInv
      obtain ⟨hbel, hx4, v, ks, s1, ey, hx6, hx7, how⟩ := hInv
      obtain ⟨rfl, rfl⟩ : xs = ks ∧ s = s1 := by
        have := Option.some.inj ey
        simpa using this
      obtain ⟨Av, cv, rfl⟩ := own_slice how
      have hc6 : W.drew.cell? ⟨b6, 0, none⟩ = some (.int .i64 (P : Int)) := (blk_cell (w := W.drew) hx6 0).trans rfl
      have hc6b : W.drew.cell? ⟨b6, 1, none⟩ = some (.slice Av xs.length cv) := (blk_cell (w := W.drew) hx6 1).trans rfl
      have hc7 : W.drew.cell? ⟨b7, 0, none⟩ = some (.int .i64 s) := (blk_cell (w := W.drew) hx7 0).trans rfl
      have hf4 : W.drew.frozen? ⟨b4, 0, none⟩ = false := blk_frozen (w := W.drew) hx4 0
      have hf4b : W.drew.frozen? ⟨b4, 1, none⟩ = false := blk_frozen (w := W.drew) hx4 1
      have HX4' := Aside0.mk hx4
      have HBEL := Aside0.mk hbel
      have HOW := Aside0.mk how
      have HKD := Aside0.mk hK
      have HNN := Aside0.mk hbe
      have HS5 := Aside0.mk hsize
      have hc4 : W.drew.cell? ⟨b4, 0, none⟩ = some (.int .i64 0) := (blk_cell (w := W.drew) hx4 0).trans rfl
      have hc4b : W.drew.cell? ⟨b4, 1, none⟩ = some (.slice none 0 0) := (blk_cell (w := W.drew) hx4 1).trans rfl
      clear ey hx6 hx7 hx4 hbel how hK hbe hsize hln hblt hplt hmul hs0 hk8
      have hg4 : W.frozen? ⟨b4, 0, none⟩ = false := hf4
      have hg4b : W.frozen? ⟨b4, 1, none⟩ = false := hf4b
      have he4 : W.cell? ⟨b4, 0, none⟩ = some (.int .i64 0) := hc4
      have he4b : W.cell? ⟨b4, 1, none⟩ = some (.slice none 0 0) := hc4b
      have he6 : W.cell? ⟨b6, 0, none⟩ = some (.int .i64 (P : Int)) := hc6
      have he6b : W.cell? ⟨b6, 1, none⟩ = some (.slice Av xs.length cv) := hc6b
      have he7 : W.cell? ⟨b7, 0, none⟩ = some (.int .i64 s) := hc7
      clear hf4 hf4b hc4 hc4b hc6 hc6b hc7
      have hn47 : b4 ≠ b7 := by have := HNN.out; omega
      have hn74 : b7 ≠ b4 := fun e => hn47 e.symm
      have hn46 : b4 ≠ b6 := by have := HNN.out; omega
      have hn64 : b6 ≠ b4 := fun e => hn46 e.symm
      have hu24 := Try.underlying24
      gi_upto_region 7 with fail
      gi_region
      have hfin : ∃ W3, ((W.setCell ⟨b4, 0, none⟩ (.int .i64 (P : Int))).setCell ⟨b4, 1, none⟩ (.slice Av xs.length cv)).drew = W3 ∧ W3.heap[b4]? = some (.cells #[.int .i64 (P : Int), .slice Av xs.length cv] 24 (0, 0)) ∧ Below w.heap.size w W3 ∧ W3.heap[D]? = some (.deferred (some [])) ∧ W3.ownsRow wc.heap.size 3 1 (.slice Av xs.length cv) xs.length (nums .i64 xs) := by
        have hoth : ∀ k, k ≠ b4 → ((W.setCell ⟨b4, 0, none⟩ (.int .i64 (P : Int))).setCell ⟨b4, 1, none⟩ (.slice Av xs.length cv)).drew.heap[k]? = W.heap[k]? := fun k hk =>
          (Below.heap_setCell _ ⟨b4, 1, none⟩ _ k hk).trans (Below.heap_setCell W ⟨b4, 0, none⟩ _ k hk)
        have hwl : w.heap.size ≤ b4 := by have := HNN.out; omega
        refine ⟨_, rfl, ?_, below_drew1 ((HBEL.out.setCell (p := ⟨b4, 0, none⟩) hwl _).setCell (p := ⟨b4, 1, none⟩) hwl _), ?_, ?_⟩
        · exact blk_put (blk_put HX4'.out 0 (.int .i64 (P : Int)) rfl) 1 (.slice Av xs.length cv) rfl
        · exact (hoth D (by have := HNN.out; have := HS5.out; omega)).trans HKD.out
        · exact own_move HOW.out fun k hk => hoth k (by have := own_base HOW.out k hk; have := HNN.out; have := HS5.out; omega)
      obtain ⟨W3, hW3, hb3, hbl3, hkD, how3⟩ := hfin
      rw [hW3]
      clear hW3 he4 he4b he6 he6b he7 hg4 hg4b
      have HB3 := Aside0.mk hb3
      have HBL3 := Aside0.mk hbl3
      have HKD3 := Aside0.mk hkD
      have HOW3 := Aside0.mk how3
      clear hb3 hbl3 hkD how3
      gi_wp2
      refine ⟨by simp, .inl ⟨_, _, rfl, run_takeDeferred HKD3.out, ?_⟩⟩
      have hk : CellsKept w.heap.size W3 (W3.putObj D (.deferred none)) := CellsKept.putObj _ (by have := HNN.out; have := HS5.out; omega) HKD3.out rfl
      refine ⟨_, results_ct rfl _ _ b4 24 #[.int .i64 (P : Int), .slice Av xs.length cv] (0, 0) _ rfl (hk.2 _ _ HB3.out rfl) Try.underlying24 rfl (by kernel_rfl), _, rfl, ?_, HBL3.out.trans hk.1⟩
      exact Kd.R_of_own (own_weaken (own_keptB HOW3.out hk) (by have := HNN.out; have := HS5.out; omega)) (fun _ _ => trivial)
end Go.Proofs.Yteoncgijnkfhfaa.P
