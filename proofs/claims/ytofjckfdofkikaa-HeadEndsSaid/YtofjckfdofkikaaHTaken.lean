/- head.taken: nine numbers by a reader. -/
import Derived.Test.YtofjckfdofkikaaPx0
import Derived.Test.YtofjckfdofkikaaHHBytes
import Derived.Test.YtofjckfdofkikaaPx3
namespace Go.Proofs.Ytofjckfdofkikaa.P
open Go Go.RowKit Go.Proofs.YtofjckfdofkikaaW.PrintWords Go.Proofs.YtofjckfdofkikaaW.PrintLast Go.Proofs.YtofjckfdofkikaaW.PrintMore
set_option linter.unusedVariables false
set_option linter.unusedSimpArgs false

/-- How many bits each part has. -/
def fbits : Nat → Int
  | 0 => 3
  | 1 => 2
  | 2 => 1
  | 3 => 24
  | 4 => 6
  | 5 => 8
  | 6 => 21
  | 7 => 32
  | _ => 23
/-- Behind so many parts. -/
def takenF (k : Nat) (b : List Int) (p e : Int) : Nat → Option (List Int × Int × Int)
  | 0 => some ([], p, e)
  | i + 1 => (takenF k b p e i).bind fun t => (pipe_Reader_Take.f k b t.2.1 t.2.2 (fbits i)).bind fun r => some (t.1 ++ [wrap64 r.1], r.2.1, r.2.2)
theorem takenF_mono (k : Nat) (b : List Int) (p e : Int) : ∀ i, LeO (takenF k b p e i) (takenF (k + 1) b p e i)
  | 0 => LeO.refl _
  | i + 1 => LeO.bind (takenF_mono k b p e i) (fun _ => LeO.bind (pipe_Reader_Take.mono _ _ _ _ _) (fun _ => LeO.refl _))
theorem takenF_length {k : Nat} {b : List Int} {p e : Int} : ∀ (i : Nat) (t : List Int × Int × Int), takenF k b p e i = some t → t.1.length = i := by
  intro i
  induction i with
  | zero => intro t h; cases h; rfl
  | succ i ih =>
    intro t h
    rw [takenF] at h
    obtain ⟨u, h1, h⟩ := Option.bind_eq_some_iff.mp h
    obtain ⟨r, _, h⟩ := Option.bind_eq_some_iff.mp h
    cases h
    rw [List.length_append, ih u h1]
    rfl
theorem takenF_le {k : Nat} {b : List Int} {p e : Int} {n : Nat} {t : List Int × Int × Int} (h : takenF k b p e n = some t) (m : Nat) (hm : m ≤ n) : ∃ u, takenF k b p e m = some u := by
  induction n generalizing t with
  | zero =>
    obtain rfl : m = 0 := by omega
    exact ⟨t, h⟩
  | succ n ih =>
    by_cases e : m = n + 1
    · subst e
      exact ⟨t, h⟩
    · rw [takenF] at h
      obtain ⟨u, h1, _⟩ := Option.bind_eq_some_iff.mp h
      exact ih h1 (by omega)
def outA (l : List Int) : Array Value := (l.map (fun x => Value.int .i64 x) ++ List.replicate (9 - l.length) (Value.int .i64 0)).toArray
theorem outA_get {l : List Int} {i : Nat} (h : l.length = i) (hi : i < 9) : (outA l)[i]? = some (Value.int .i64 0) := by
  unfold outA
  obtain ⟨d, hd⟩ : ∃ d, 9 - l.length = d + 1 := ⟨8 - l.length, by omega⟩
  rw [hd, List.replicate_succ]
  simp [List.getElem?_append_right, h]
theorem outA_set {l : List Int} {i : Nat} (h : l.length = i) (hi : i < 9) (x : Int) : (outA l).setIfInBounds i (Value.int .i64 x) = outA (l ++ [x]) := by
  unfold outA
  obtain ⟨d, hd⟩ : ∃ d, 9 - l.length = d + 1 := ⟨8 - l.length, by omega⟩
  rw [hd, List.length_append, List.length_singleton, show 9 - (l.length + 1) = d by omega, List.replicate_succ, List.setIfInBounds_toArray]
  congr 1
  rw [List.set_append_right _ _ (by simp [h])]
  simp [h]

theorem keep_set9 {w W : World} {g b j : Nat} {v : Value} (h : KeepBut w W g none) (hb : w.heap.size ≤ b) : KeepBut w (W.setCell ⟨b, j, none⟩ v) g none :=
  ⟨Nat.le_trans h.1 (Nat.le_of_eq (by simp [World.setCell])), fun k hk hne hn => (Below.heap_setCell W ⟨b, j, none⟩ v k (by show k ≠ b; omega)).trans (h.2 k hk hne hn)⟩

set_option maxHeartbeats 8000000 in
set_option maxRecDepth 100000 in
theorem head_taken (k g : Nat) (b : List Int) (p e : Int) (x0 x1 x2 x3 x4 x5 x6 x7 : Int) (r : List Int) (p' e' : Int) (w0 w : World) (hI : IsS112 w0 w g b p e) (hB : Below w0.heap.size w0 w) (h : takenF k b p e 9 = some (r, p', e')) :
    Calls Try.prog 52 #[.pointer (some ⟨g, 0, none⟩), .agg (fieldsC x0 x1 x2 x3 x4 x5 x6 x7)] w fun z w' => z = .returned (.agg (outA r)) ∧ IsS112 w0 w' g b p' e' ∧ Below w0.heap.size w0 w' ∧ KeepBut w w' g none := by
  have HI := Aside0.mk hI
  have HB := Aside0.mk hB
  have HF := Aside0.mk h
  clear hI hB h
  have hu3 := Try.underlying76
  have hu9 := Try.underlying77
  have hu91 := Try.underlying91
  go_enter Try.func52, Try.ntmps52
  go_wp2
  have hB1 := below_alloc (below_alloc (below_alloc HB.out (.cells (fieldsC x0 x1 x2 x3 x4 x5 x6 x7) 77)) (.cells #[.int .i64 0, .int .i64 0, .int .i64 0, .int .i64 0, .int .i64 0, .int .i64 0, .int .i64 0, .int .i64 0, .int .i64 0] 91)) (.cells #[.int .i64 0, .int .i64 0, .int .i64 0, .int .i64 0, .int .i64 0, .int .i64 0, .int .i64 0, .int .i64 0, .int .i64 0] 91)
  have hI1 := ((HI.out.alloc (.cells (fieldsC x0 x1 x2 x3 x4 x5 x6 x7) 77)).alloc (.cells #[.int .i64 0, .int .i64 0, .int .i64 0, .int .i64 0, .int .i64 0, .int .i64 0, .int .i64 0, .int .i64 0, .int .i64 0] 91)).alloc (.cells #[.int .i64 0, .int .i64 0, .int .i64 0, .int .i64 0, .int .i64 0, .int .i64 0, .int .i64 0, .int .i64 0, .int .i64 0] 91)
  have hK1 := below_alloc (below_alloc (below_alloc (Below.refl w.heap.size w) (.cells (fieldsC x0 x1 x2 x3 x4 x5 x6 x7) 77)) (.cells #[.int .i64 0, .int .i64 0, .int .i64 0, .int .i64 0, .int .i64 0, .int .i64 0, .int .i64 0, .int .i64 0, .int .i64 0] 91)) (.cells #[.int .i64 0, .int .i64 0, .int .i64 0, .int .i64 0, .int .i64 0, .int .i64 0, .int .i64 0, .int .i64 0, .int .i64 0] 91)
  have hz1 : (w.alloc (.cells (fieldsC x0 x1 x2 x3 x4 x5 x6 x7) 77)).heap.size = w.heap.size + 1 := Array.size_push _
  have hR1 := blk_alloc (blk_new (w.alloc (.cells (fieldsC x0 x1 x2 x3 x4 x5 x6 x7) 77)) (.cells #[.int .i64 0, .int .i64 0, .int .i64 0, .int .i64 0, .int .i64 0, .int .i64 0, .int .i64 0, .int .i64 0, .int .i64 0] 91)) (.cells #[.int .i64 0, .int .i64 0, .int .i64 0, .int .i64 0, .int .i64 0, .int .i64 0, .int .i64 0, .int .i64 0, .int .i64 0] 91)
  generalize w.alloc (.cells (fieldsC x0 x1 x2 x3 x4 x5 x6 x7) 77) = wa at hB1 hI1 hK1 hz1 hR1 ⊢
  have hz2 : (wa.alloc (.cells #[.int .i64 0, .int .i64 0, .int .i64 0, .int .i64 0, .int .i64 0, .int .i64 0, .int .i64 0, .int .i64 0, .int .i64 0] 91)).heap.size = wa.heap.size + 1 := Array.size_push _
  have hO1 := blk_new (wa.alloc (.cells #[.int .i64 0, .int .i64 0, .int .i64 0, .int .i64 0, .int .i64 0, .int .i64 0, .int .i64 0, .int .i64 0, .int .i64 0] 91)) (.cells #[.int .i64 0, .int .i64 0, .int .i64 0, .int .i64 0, .int .i64 0, .int .i64 0, .int .i64 0, .int .i64 0, .int .i64 0] 91)
  rw [hz2] at hO1
  generalize (wa.alloc (.cells #[.int .i64 0, .int .i64 0, .int .i64 0, .int .i64 0, .int .i64 0, .int .i64 0, .int .i64 0, .int .i64 0, .int .i64 0] 91)).alloc (.cells #[.int .i64 0, .int .i64 0, .int .i64 0, .int .i64 0, .int .i64 0, .int .i64 0, .int .i64 0, .int .i64 0, .int .i64 0] 91) = w1 at hB1 hI1 hK1 hR1 hO1 ⊢
  rw [hz1] at hR1 hO1
  have HI1 := Aside0.mk hI1
  have HB1 := Aside0.mk hB1
  have HK1 := Aside0.mk hK1
  have HR1 := Aside0.mk hR1
  have HO1 : Aside0 (w1.heap[w.heap.size + 1 + 1]? = some (.cells (outA []) 91 (0, 0))) := ⟨hO1⟩
  have HGL := Aside0.mk HI.out.lt
  clear hI1 hB1 hK1 hR1 hO1 hz1 hz2 wa
  have ix0 : ∀ w, (Instr.index 77 (.agg #[.int .i64 x0, .int .i64 3, .int .i64 x1, .int .i64 2, .int .i64 x2, .int .i64 1, .int .i64 x3, .int .i64 24, .int .i64 x4, .int .i64 6, .int .i64 x5, .int .i64 8, .int .i64 x6, .int .i64 21, .int .i64 x7, .int .i64 32, .int .i64 0, .int .i64 23]) (.int .i64 0)).run Try.prog w = .ok (.agg #[.int .i64 x0, .int .i64 3]) w := fun _ => by kernel_rfl
  have ix1 : ∀ w, (Instr.index 77 (.agg #[.int .i64 x0, .int .i64 3, .int .i64 x1, .int .i64 2, .int .i64 x2, .int .i64 1, .int .i64 x3, .int .i64 24, .int .i64 x4, .int .i64 6, .int .i64 x5, .int .i64 8, .int .i64 x6, .int .i64 21, .int .i64 x7, .int .i64 32, .int .i64 0, .int .i64 23]) (.int .i64 1)).run Try.prog w = .ok (.agg #[.int .i64 x1, .int .i64 2]) w := fun _ => by kernel_rfl
  have ix2 : ∀ w, (Instr.index 77 (.agg #[.int .i64 x0, .int .i64 3, .int .i64 x1, .int .i64 2, .int .i64 x2, .int .i64 1, .int .i64 x3, .int .i64 24, .int .i64 x4, .int .i64 6, .int .i64 x5, .int .i64 8, .int .i64 x6, .int .i64 21, .int .i64 x7, .int .i64 32, .int .i64 0, .int .i64 23]) (.int .i64 2)).run Try.prog w = .ok (.agg #[.int .i64 x2, .int .i64 1]) w := fun _ => by kernel_rfl
  have ix3 : ∀ w, (Instr.index 77 (.agg #[.int .i64 x0, .int .i64 3, .int .i64 x1, .int .i64 2, .int .i64 x2, .int .i64 1, .int .i64 x3, .int .i64 24, .int .i64 x4, .int .i64 6, .int .i64 x5, .int .i64 8, .int .i64 x6, .int .i64 21, .int .i64 x7, .int .i64 32, .int .i64 0, .int .i64 23]) (.int .i64 3)).run Try.prog w = .ok (.agg #[.int .i64 x3, .int .i64 24]) w := fun _ => by kernel_rfl
  have ix4 : ∀ w, (Instr.index 77 (.agg #[.int .i64 x0, .int .i64 3, .int .i64 x1, .int .i64 2, .int .i64 x2, .int .i64 1, .int .i64 x3, .int .i64 24, .int .i64 x4, .int .i64 6, .int .i64 x5, .int .i64 8, .int .i64 x6, .int .i64 21, .int .i64 x7, .int .i64 32, .int .i64 0, .int .i64 23]) (.int .i64 4)).run Try.prog w = .ok (.agg #[.int .i64 x4, .int .i64 6]) w := fun _ => by kernel_rfl
  have ix5 : ∀ w, (Instr.index 77 (.agg #[.int .i64 x0, .int .i64 3, .int .i64 x1, .int .i64 2, .int .i64 x2, .int .i64 1, .int .i64 x3, .int .i64 24, .int .i64 x4, .int .i64 6, .int .i64 x5, .int .i64 8, .int .i64 x6, .int .i64 21, .int .i64 x7, .int .i64 32, .int .i64 0, .int .i64 23]) (.int .i64 5)).run Try.prog w = .ok (.agg #[.int .i64 x5, .int .i64 8]) w := fun _ => by kernel_rfl
  have ix6 : ∀ w, (Instr.index 77 (.agg #[.int .i64 x0, .int .i64 3, .int .i64 x1, .int .i64 2, .int .i64 x2, .int .i64 1, .int .i64 x3, .int .i64 24, .int .i64 x4, .int .i64 6, .int .i64 x5, .int .i64 8, .int .i64 x6, .int .i64 21, .int .i64 x7, .int .i64 32, .int .i64 0, .int .i64 23]) (.int .i64 6)).run Try.prog w = .ok (.agg #[.int .i64 x6, .int .i64 21]) w := fun _ => by kernel_rfl
  have ix7 : ∀ w, (Instr.index 77 (.agg #[.int .i64 x0, .int .i64 3, .int .i64 x1, .int .i64 2, .int .i64 x2, .int .i64 1, .int .i64 x3, .int .i64 24, .int .i64 x4, .int .i64 6, .int .i64 x5, .int .i64 8, .int .i64 x6, .int .i64 21, .int .i64 x7, .int .i64 32, .int .i64 0, .int .i64 23]) (.int .i64 7)).run Try.prog w = .ok (.agg #[.int .i64 x7, .int .i64 32]) w := fun _ => by kernel_rfl
  have ix8 : ∀ w, (Instr.index 77 (.agg #[.int .i64 x0, .int .i64 3, .int .i64 x1, .int .i64 2, .int .i64 x2, .int .i64 1, .int .i64 x3, .int .i64 24, .int .i64 x4, .int .i64 6, .int .i64 x5, .int .i64 8, .int .i64 x6, .int .i64 21, .int .i64 x7, .int .i64 32, .int .i64 0, .int .i64 23]) (.int .i64 8)).run Try.prog w = .ok (.agg #[.int .i64 0, .int .i64 23]) w := fun _ => by kernel_rfl
  go_loopg [6, 7, 9] 9 (fun kk v6 v7 v9 wr => ∃ (i : Nat) (l : List Int) (q d : Int), v9 = .int .i64 i ∧ kk + i = 9 ∧ Aside0 (takenF k b p e i = some (l, q, d)) ∧ Aside0 (IsS112 w0 wr g b q d) ∧ Aside0 (Below w0.heap.size w0 wr) ∧ Aside0 (KeepBut w wr g none) ∧ Aside0 (wr.heap[w.heap.size + 1]? = some (.cells #[.int .i64 0, .int .i64 0, .int .i64 0, .int .i64 0, .int .i64 0, .int .i64 0, .int .i64 0, .int .i64 0, .int .i64 0] 91 (0, 0))) ∧ Aside0 (wr.heap[w.heap.size + 1 + 1]? = some (.cells (outA l) 91 (0, 0))))
  case atStart => exact ⟨0, [], p, e, rfl, rfl, ⟨rfl⟩, HI1, HB1, ⟨⟨HK1.out.size, fun k hk _ _ => HK1.out.block k hk⟩⟩, HR1, HO1⟩
  case round =>
    clear HI1 HB1 HK1 HR1 HO1
    obtain ⟨i, l, q, d, rfl, hk, HT, HI1, HB1, HK1, HR1, HO1⟩ := hrel
    have hll := takenF_length _ _ HT.out
    by_cases hlt : i < 9
    · have hme : gk - 1 < gk := by omega
      have h9 : i = 0 ∨ i = 1 ∨ i = 2 ∨ i = 3 ∨ i = 4 ∨ i = 5 ∨ i = 6 ∨ i = 7 ∨ i = 8 := by omega
      obtain ⟨x, hix⟩ : ∃ x : Int, ∀ W, (Instr.index 77 (.agg #[.int .i64 x0, .int .i64 3, .int .i64 x1, .int .i64 2, .int .i64 x2, .int .i64 1, .int .i64 x3, .int .i64 24, .int .i64 x4, .int .i64 6, .int .i64 x5, .int .i64 8, .int .i64 x6, .int .i64 21, .int .i64 x7, .int .i64 32, .int .i64 0, .int .i64 23]) (.int .i64 (i : Int))).run Try.prog W = .ok (.agg #[.int .i64 x, .int .i64 (fbits i)]) W := by
        rcases h9 with rfl | rfl | rfl | rfl | rfl | rfl | rfl | rfl | rfl
        · exact ⟨_, ix0⟩
        · exact ⟨_, ix1⟩
        · exact ⟨_, ix2⟩
        · exact ⟨_, ix3⟩
        · exact ⟨_, ix4⟩
        · exact ⟨_, ix5⟩
        · exact ⟨_, ix6⟩
        · exact ⟨_, ix7⟩
        · exact ⟨_, ix8⟩
      clear h9 ix0 ix1 ix2 ix3 ix4 ix5 ix6 ix7 ix8
      obtain ⟨u, hu⟩ := takenF_le HF.out (i + 1) (by omega)
      rw [takenF, HT.out, Option.bind_some] at hu
      obtain ⟨⟨r1, r2, r3⟩, hr, hu⟩ := Option.bind_eq_some_iff.mp hu
      have HTN : Aside0 (takenF k b p e (i + 1) = some (l ++ [wrap64 r1], r2, r3)) := ⟨by rw [takenF, HT.out, Option.bind_some, hr]; rfl⟩
      have HRT := Aside0.mk hr
      obtain ⟨n, hn⟩ : ∃ n, fbits i = n := ⟨_, rfl⟩
      rw [hn] at hix HRT
      obtain ⟨y, hy⟩ : ∃ y, wrap64 r1 = y := ⟨_, rfl⟩
      rw [hy] at HTN
      have hw : IntKind.i64.wrap r1 = y := by rw [← hy, IntKind.wrap_i64]; unfold wrap64; omega
      have HW := Aside0.mk hw
      have HLL := Aside0.mk hll
      have HLT := Aside0.mk hlt
      clear hu hr hn hy hw hll
      go_wp2_with fail
      (with_reducible refine (pipe_Reader_Take.calls k g b q d n r1 r2 r3 w0 (wr.alloc (.cells #[.int .i64 x, .int .i64 n] 76)) (HI1.out.alloc _) (below_alloc HB1.out _) HRT.out).mono ?_)
      rintro e5 w5 ⟨rfl, hi2, hb2, hk2⟩
      have hne : w.heap.size + 1 + 1 ≠ g := by have := HGL.out; omega
      have hne1 : w.heap.size + 1 ≠ g := by have := HGL.out; omega
      have ho5 := (hk2.2 _ (blk_lt (blk_alloc HO1.out (.cells #[.int .i64 x, .int .i64 n] 76))) hne (by simp)).trans (blk_alloc HO1.out (.cells #[.int .i64 x, .int .i64 n] 76))
      have hr5 := (hk2.2 _ (blk_lt (blk_alloc HR1.out (.cells #[.int .i64 x, .int .i64 n] 76))) hne1 (by simp)).trans (blk_alloc HR1.out (.cells #[.int .i64 x, .int .i64 n] 76))
      have hco := (blk_cell ho5 i).trans (outA_get HLL.out HLT.out)
      have hfo := blk_frozen ho5 i
      have HO5 := Aside0.mk ho5
      have HR5 := Aside0.mk hr5
      have HI5 := Aside0.mk hi2
      have HB5 := Aside0.mk hb2
      have HK5 := Aside0.mk hk2
      have HNE := Aside0.mk hne
      have hpi0 : (0 ≤ (i : Int)) = True := eq_true (by omega)
      have hpi1 : ((i : Int) < 9) = True := eq_true (by omega)
      have hpi2 : (i < 9) = True := eq_true hlt
      have hw := HW.out
      clear ho5 hr5 hi2 hb2 hk2 hne hne1
      go_wp2
      go_roundg (gk - 1)
      case rel =>
        have hge : w0.heap.size ≤ w.heap.size + 1 + 1 := by have := HB.out.size; omega
        refine ⟨i + 1, l ++ [y], r2, r3, by first | rfl | (congr 1), by omega, HTN, ⟨HI5.out.far (p := ⟨w.heap.size + 1 + 1, i, none⟩) (fun h => HNE.out h.symm) _⟩, ⟨HB5.out.setCell (p := ⟨w.heap.size + 1 + 1, i, none⟩) hge _⟩, ⟨?_⟩, ⟨?_⟩, ⟨?_⟩⟩
        · refine ⟨Nat.le_trans (Nat.le_trans HK1.out.1 (by rw [show (wr.alloc (.cells #[.int .i64 x, .int .i64 n] 76)).heap.size = wr.heap.size + 1 from Array.size_push _] at *; exact Nat.le_succ _)) (Nat.le_trans HK5.out.1 (Nat.le_of_eq (by simp [World.setCell]))), fun k2 hk2 hne2 hn2 => ?_⟩
          have h1 := HK1.out.2 k2 hk2 hne2 hn2
          have hlt2 : k2 < wr.heap.size := Nat.lt_of_lt_of_le hk2 HK1.out.1
          have h2 := (below_alloc (Below.refl wr.heap.size wr) (.cells #[.int .i64 x, .int .i64 n] 76)).block k2 hlt2
          have h3 := HK5.out.2 k2 (Nat.lt_of_lt_of_le hlt2 (by rw [show (wr.alloc (.cells #[.int .i64 x, .int .i64 n] 76)).heap.size = wr.heap.size + 1 from Array.size_push _]; exact Nat.le_succ _)) hne2 hn2
          have h4 := Below.heap_setCell w5 ⟨w.heap.size + 1 + 1, i, none⟩ (.int .i64 y) k2 (by show k2 ≠ w.heap.size + 1 + 1; omega)
          exact h4.trans (h3.trans (h2.trans h1))
        · exact (Below.heap_setCell w5 ⟨w.heap.size + 1 + 1, i, none⟩ (.int .i64 y) (w.heap.size + 1) (by show w.heap.size + 1 ≠ w.heap.size + 1 + 1; omega)).trans HR5.out
        · exact blk_put HO5.out i _ (outA_set HLL.out HLT.out y)
      case measure => exact hme
    · have hi9 : i = 9 := by omega
      subst hi9
      have he : (l, q, d) = (r, p', e') := by have := HT.out; rw [HF.out] at this; exact (Option.some.inj this).symm
      injection he with e1 he
      injection he with e2 e3
      subst e1 e2 e3
      obtain ⟨y0, y1, y2, y3, y4, y5, y6, y7, y8, rfl⟩ : ∃ y0 y1 y2 y3 y4 y5 y6 y7 y8 : Int, l = [y0, y1, y2, y3, y4, y5, y6, y7, y8] := by
        match l, hll with
        | [y0, y1, y2, y3, y4, y5, y6, y7, y8], _ => exact ⟨_, _, _, _, _, _, _, _, _, rfl⟩
      have hcO := fun j => blk_cell HO1.out j
      have hc0 : wr.cell? ⟨w.heap.size + 1 + 1, 0, none⟩ = some (.int .i64 y0) := (hcO 0).trans rfl
      have hc1 : wr.cell? ⟨w.heap.size + 1 + 1, 1, none⟩ = some (.int .i64 y1) := (hcO 1).trans rfl
      have hc2 : wr.cell? ⟨w.heap.size + 1 + 1, 2, none⟩ = some (.int .i64 y2) := (hcO 2).trans rfl
      have hc3 : wr.cell? ⟨w.heap.size + 1 + 1, 3, none⟩ = some (.int .i64 y3) := (hcO 3).trans rfl
      have hc4 : wr.cell? ⟨w.heap.size + 1 + 1, 4, none⟩ = some (.int .i64 y4) := (hcO 4).trans rfl
      have hc5 : wr.cell? ⟨w.heap.size + 1 + 1, 5, none⟩ = some (.int .i64 y5) := (hcO 5).trans rfl
      have hc6 : wr.cell? ⟨w.heap.size + 1 + 1, 6, none⟩ = some (.int .i64 y6) := (hcO 6).trans rfl
      have hc7 : wr.cell? ⟨w.heap.size + 1 + 1, 7, none⟩ = some (.int .i64 y7) := (hcO 7).trans rfl
      have hc8 : wr.cell? ⟨w.heap.size + 1 + 1, 8, none⟩ = some (.int .i64 y8) := (hcO 8).trans rfl
      have hf0 := blk_frozen HR1.out 0
      have hd0 := (blk_cell HR1.out 0).trans rfl
      have hf1 := blk_frozen HR1.out 1
      have hd1 := (blk_cell HR1.out 1).trans rfl
      have hf2 := blk_frozen HR1.out 2
      have hd2 := (blk_cell HR1.out 2).trans rfl
      have hf3 := blk_frozen HR1.out 3
      have hd3 := (blk_cell HR1.out 3).trans rfl
      have hf4 := blk_frozen HR1.out 4
      have hd4 := (blk_cell HR1.out 4).trans rfl
      have hf5 := blk_frozen HR1.out 5
      have hd5 := (blk_cell HR1.out 5).trans rfl
      have hf6 := blk_frozen HR1.out 6
      have hd6 := (blk_cell HR1.out 6).trans rfl
      have hf7 := blk_frozen HR1.out 7
      have hd7 := (blk_cell HR1.out 7).trans rfl
      have hf8 := blk_frozen HR1.out 8
      have hd8 := (blk_cell HR1.out 8).trans rfl
      clear hcO ix0 ix1 ix2 ix3 ix4 ix5 ix6 ix7 ix8 hll
      have HGE := Aside0.mk (show w0.heap.size ≤ w.heap.size + 1 by have := HB.out.size; omega)
      have HGN := Aside0.mk (show g ≠ w.heap.size + 1 by have := HGL.out; omega)
      go_wp2
      have hbR := (blk_put (cs := #[Value.int .i64 y0, Value.int .i64 y1, Value.int .i64 y2, Value.int .i64 y3, Value.int .i64 y4, Value.int .i64 y5, Value.int .i64 y6, Value.int .i64 y7, Value.int .i64 0]) (blk_put (cs := #[Value.int .i64 y0, Value.int .i64 y1, Value.int .i64 y2, Value.int .i64 y3, Value.int .i64 y4, Value.int .i64 y5, Value.int .i64 y6, Value.int .i64 0, Value.int .i64 0]) (blk_put (cs := #[Value.int .i64 y0, Value.int .i64 y1, Value.int .i64 y2, Value.int .i64 y3, Value.int .i64 y4, Value.int .i64 y5, Value.int .i64 0, Value.int .i64 0, Value.int .i64 0]) (blk_put (cs := #[Value.int .i64 y0, Value.int .i64 y1, Value.int .i64 y2, Value.int .i64 y3, Value.int .i64 y4, Value.int .i64 0, Value.int .i64 0, Value.int .i64 0, Value.int .i64 0]) (blk_put (cs := #[Value.int .i64 y0, Value.int .i64 y1, Value.int .i64 y2, Value.int .i64 y3, Value.int .i64 0, Value.int .i64 0, Value.int .i64 0, Value.int .i64 0, Value.int .i64 0]) (blk_put (cs := #[Value.int .i64 y0, Value.int .i64 y1, Value.int .i64 y2, Value.int .i64 0, Value.int .i64 0, Value.int .i64 0, Value.int .i64 0, Value.int .i64 0, Value.int .i64 0]) (blk_put (cs := #[Value.int .i64 y0, Value.int .i64 y1, Value.int .i64 0, Value.int .i64 0, Value.int .i64 0, Value.int .i64 0, Value.int .i64 0, Value.int .i64 0, Value.int .i64 0]) (blk_put (cs := #[Value.int .i64 y0, Value.int .i64 0, Value.int .i64 0, Value.int .i64 0, Value.int .i64 0, Value.int .i64 0, Value.int .i64 0, Value.int .i64 0, Value.int .i64 0]) (blk_put (cs := #[Value.int .i64 0, Value.int .i64 0, Value.int .i64 0, Value.int .i64 0, Value.int .i64 0, Value.int .i64 0, Value.int .i64 0, Value.int .i64 0, Value.int .i64 0]) HR1.out 0 (.int .i64 y0) rfl) 1 (.int .i64 y1) rfl) 2 (.int .i64 y2) rfl) 3 (.int .i64 y3) rfl) 4 (.int .i64 y4) rfl) 5 (.int .i64 y5) rfl) 6 (.int .i64 y6) rfl) 7 (.int .i64 y7) rfl) 8 (.int .i64 y8) rfl)
      have hbB := (((((((((HB1.out.setCell (p := ⟨w.heap.size + 1, 0, none⟩) HGE.out (.int .i64 y0)).setCell (p := ⟨w.heap.size + 1, 1, none⟩) HGE.out (.int .i64 y1)).setCell (p := ⟨w.heap.size + 1, 2, none⟩) HGE.out (.int .i64 y2)).setCell (p := ⟨w.heap.size + 1, 3, none⟩) HGE.out (.int .i64 y3)).setCell (p := ⟨w.heap.size + 1, 4, none⟩) HGE.out (.int .i64 y4)).setCell (p := ⟨w.heap.size + 1, 5, none⟩) HGE.out (.int .i64 y5)).setCell (p := ⟨w.heap.size + 1, 6, none⟩) HGE.out (.int .i64 y6)).setCell (p := ⟨w.heap.size + 1, 7, none⟩) HGE.out (.int .i64 y7)).setCell (p := ⟨w.heap.size + 1, 8, none⟩) HGE.out (.int .i64 y8))
      have hbI := (((((((((HI1.out.far (p := ⟨w.heap.size + 1, 0, none⟩) HGN.out (.int .i64 y0)).far (p := ⟨w.heap.size + 1, 1, none⟩) HGN.out (.int .i64 y1)).far (p := ⟨w.heap.size + 1, 2, none⟩) HGN.out (.int .i64 y2)).far (p := ⟨w.heap.size + 1, 3, none⟩) HGN.out (.int .i64 y3)).far (p := ⟨w.heap.size + 1, 4, none⟩) HGN.out (.int .i64 y4)).far (p := ⟨w.heap.size + 1, 5, none⟩) HGN.out (.int .i64 y5)).far (p := ⟨w.heap.size + 1, 6, none⟩) HGN.out (.int .i64 y6)).far (p := ⟨w.heap.size + 1, 7, none⟩) HGN.out (.int .i64 y7)).far (p := ⟨w.heap.size + 1, 8, none⟩) HGN.out (.int .i64 y8))
      refine bodyPost_ret (results_cell_row rfl _ _ (w.heap.size + 1) 91 #[.int .i64 y0, .int .i64 y1, .int .i64 y2, .int .i64 y3, .int .i64 y4, .int .i64 y5, .int .i64 y6, .int .i64 y7, .int .i64 y8] (0, 0) _ rfl hbR Try.underlying91 rfl (by kernel_rfl)) rfl ?_
      refine ⟨rfl, hbI, hbB, ?_⟩
      clear hbR hbB hbI
      iterate 9 (refine keep_set9 ?_ (Nat.le_succ _))
      exact HK1.out
end Go.Proofs.Ytofjckfdofkikaa.P
