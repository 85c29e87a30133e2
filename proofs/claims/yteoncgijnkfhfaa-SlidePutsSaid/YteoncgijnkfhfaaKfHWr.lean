/- The contracts of the bit writer of layer 1: one bit. -/
import Derived.Test.YteoncgijnkfhfaaKfPx0
import Derived.Test.YteoncgijnkfhfaaKfHBits
import Derived.RegionTactic
import Derived.BigRegion
namespace Go.Proofs.Yteoncgijnkfhfaa.P
open Go.RowKit Go.Proofs.YteoncgijnkfhfaaW.PrintWords Go.Proofs.YteoncgijnkfhfaaW.PrintLast Go.Proofs.YteoncgijnkfhfaaW.PrintMore
set_option linter.unusedVariables false
set_option linter.unusedSimpArgs false

/-- A writer at block g of W, its bytes behind v: these bits. What it owns is new since w0. -/
def IsWr (w0 W : World) (g : Nat) (v : Value) (l : List Bool) : Prop :=
  W.heap[g]? = some (.cells #[v, .int .i64 l.length] 56 (0, 0)) ∧ w0.heap.size ≤ g ∧ W.ownsRow w0.heap.size 5 1 v (pack l).length (nums .u8 (pack l))
/-- What a call on a writer leaves: all else is as it was. -/
structure WrStep (w0 w w' : World) (g : Nat) (v v' : Value) : Prop where
  below : Below w0.heap.size w0 w'
  kept : Kept w w' (fun k => k = g ∨ some k = v.ownBlock)
  own : v'.ownBlock = v.ownBlock ∨ ∃ b, v'.ownBlock = some b ∧ w.heap.size ≤ b
theorem WrStep.refl {w0 w : World} {g : Nat} {v : Value} (h : Below w0.heap.size w0 w) : WrStep w0 w w g v v := ⟨h, Kept.refl _ _, .inl rfl⟩
theorem WrStep.trans {w0 w w1 w2 : World} {g : Nat} {v v1 v2 : Value} (h : WrStep w0 w w1 g v v1) (k : WrStep w0 w1 w2 g v1 v2) : WrStep w0 w w2 g v v2 := by
  refine ⟨k.below, h.kept.then_ k.kept ?_, ?_⟩
  · rintro i (rfl | hi)
    · exact .inl (.inl rfl)
    · rcases h.own with ho | ⟨b, ho, hb⟩
      · exact .inl (.inr (hi.trans ho))
      · rw [ho] at hi
        cases hi
        exact .inr hb
  · rcases k.own with hk | ⟨b, hk, hb⟩
    · rw [hk]
      exact h.own
    · exact .inr ⟨b, hk, Nat.le_trans h.kept.1 hb⟩

/-- Behind a call on a writer that answers x: it has these bits; all else is as it was. -/
def WrPost (w0 w : World) (g : Nat) (v : Value) (l' : List Bool) (x : Value) (e : Ending) (w' : World) : Prop := e = .returned x ∧ ∃ v', IsWr w0 w' g v' l' ∧ WrStep w0 w w' g v v'
theorem wr_info : (Try.prog.info? 5).map (fun i => (i.zero, i.size, i.bytes)) = some (some (.int .u8 0), 1, 1) := by kernel_rfl

theorem isWr_fin {w0 w1 : World} {g : Nat} {v : Value} {n : Nat} {l' : List Bool} (hb1 : w1.heap[g]? = some (.cells #[v, .int .i64 (n : Int)] 56 (0, 0))) (hg : w0.heap.size ≤ g)
    (ho : w1.ownsRow w0.heap.size 5 1 v (pack l').length (nums .u8 (pack l'))) (hl : l'.length = n + 1) : IsWr w0 (w1.setCell ⟨g, 1, none⟩ (.int .i64 ((n : Int) + 1))) g v l' := by
  have hne := own_ne ho hb1 (by decide)
  refine ⟨?_, hg, own_setCell ho hne _⟩
  rw [hl, Int.natCast_add]
  exact blk_set hb1 1 _
theorem wrStep_fin {w0 w w1 : World} {g : Nat} {v v' : Value} {p : Addr} {u : Value} (hp : p.block = g) (hg : w0.heap.size ≤ g) (hB1 : Below w0.heap.size w0 w1) (hk1 : Kept w w1 (fun k => k = g ∨ some k = v.ownBlock))
    (ho : v'.ownBlock = v.ownBlock ∨ ∃ b, v'.ownBlock = some b ∧ w.heap.size ≤ b) : WrStep w0 w (w1.setCell p u) g v v' :=
  ⟨hB1.setCell (by rw [hp]; exact hg) _, hk1.setCell (.inl (.inl hp)) _, ho⟩
theorem owns_split {w0 w : World} {v : Value} {bs : List Int} (h : w.ownsRow w0.heap.size 5 1 v bs.length (nums .u8 bs)) (hpos : 0 < bs.length) :
    ∃ r c cur, v = .slice (some ⟨r, 0, none⟩) bs.length c ∧ w0.heap.size ≤ r ∧ w.heap[r]? = some (.cells cur 5 (0, 0)) ∧ bs.length ≤ c ∧ c ≤ maxLen ∧ cur.size = c ∧ cur.toList.take bs.length = nums .u8 bs := by
  obtain ⟨_, ⟨_, h0⟩ | ⟨r, c, cur, h1, h2, h3, h4, h5, h6, h7⟩⟩ := h
  · omega
  · exact ⟨r, c, cur, h1, h2, h3, h4, h5, by omega, by rw [Nat.mul_one] at h7; exact h7⟩
theorem owns_cell {w0 w : World} {r c : Nat} {bs : List Int} (h : w.ownsRow w0.heap.size 5 1 (.slice (some ⟨r, 0, none⟩) bs.length c) bs.length (nums .u8 bs)) {i : Nat} {x : Int} (hi : bs[i]? = some x) :
    w.cell? ⟨r, i, none⟩ = some (.int .u8 x) ∧ w.frozen? ⟨r, i, none⟩ = false := by
  obtain ⟨hlt, hx⟩ := List.getElem?_eq_some_iff.mp hi
  have := own_at h (i : Int) (by omega) (by omega)
  rw [Int.toNat_natCast] at this
  refine ⟨?_, this.2⟩
  rw [this.1, rd]
  simp [List.getD, hx, hlt]
theorem owns_set {w0 w : World} {r c : Nat} {bs : List Int} (h : w.ownsRow w0.heap.size 5 1 (.slice (some ⟨r, 0, none⟩) bs.length c) bs.length (nums .u8 bs)) (i : Nat) (x : Int) :
    (w.setCell ⟨r, i, none⟩ (.int .u8 x)).ownsRow w0.heap.size 5 1 (.slice (some ⟨r, 0, none⟩) bs.length c) (bs.set i x).length (nums .u8 (bs.set i x)) := by
  have := (own_store h (i : Int) x).1
  rw [Int.toNat_natCast] at this
  rw [List.length_set]
  exact this
set_option maxHeartbeats 4000000 in
set_option maxRecDepth 100000 in
/-- A bit within a byte. -/
theorem wr_bit_in (w0 w : World) (g : Nat) (v : Value) (l : List Bool) (one : Bool) (hB : Below w0.heap.size w0 w) (h : IsWr w0 w g v l) (hm : l.length ≤ 1000000000) (h8 : l.length % 8 ≠ 0) :
    Calls Try.prog 72 #[.pointer (some ⟨g, 0, none⟩), .bool one] w (WrPost w0 w g v (l ++ [one]) (.tuple #[])) := by
  obtain ⟨hb, hg, ho⟩ := h
  have hc0 : w.cell? ⟨g, 0, none⟩ = some v := (blk_cell hb 0).trans rfl
  have hc1 : w.cell? ⟨g, 1, none⟩ = some (.int .i64 (l.length : Int)) := (blk_cell hb 1).trans rfl
  have hf0 : w.frozen? ⟨g, 0, none⟩ = false := blk_frozen hb 0
  have hf1 : w.frozen? ⟨g, 1, none⟩ = false := blk_frozen hb 1
  have hlen := pack_length l
  obtain ⟨r, c, cur, rfl, hr0, hrb, hle, hcap, hsz, htk⟩ := owns_split ho (by omega)
  have HO := Aside0.mk ho
  clear ho hsz htk
  have hgr : g ≠ r := fun e => own_ne HO.out hb (by decide) (by rw [e]; rfl)
  have t8 : ((l.length : Int) % 8 == 0) = false := by simp; omega
  cases one with
  | false =>
    go_enter Try.func72, Try.ntmps72
    go_wp2
    go_end0
    refine ⟨rfl, _, isWr_fin hb hg (by rw [pack_in0 l h8]; exact HO.out) (by simp), wrStep_fin rfl hg hB (Kept.refl _ _) (.inl rfl)⟩
  | true =>
    obtain ⟨hx, hfx⟩ := owns_cell HO.out (pack_get (show l.length / 8 < (l.length + 7) / 8 by omega))
    have hi0 : (l.length : Int) / 8 < ((pack l).length : Int) := by omega
    have hlt8 : (l.length : Int) % 8 < 8 := by omega
    have hset := pack_in l true h8
    rw [if_pos rfl] at hset
    have HS := Aside0.mk hset
    have HR := Aside0.mk (byteAt_range l (l.length / 8))
    have HL := Aside0.mk (byte_low l)
    clear hset
    generalize byteAt l (l.length / 8) = x at hx HS HR HL
    go_enter Try.func72, Try.ntmps72
    go_wp2
    go_region
    rw [or_byte HR.out.1 HR.out.2 (by omega) HL.out]
    have hb1 : ((w.setCell ⟨r, l.length / 8, none⟩ (.int .u8 (x + 2 ^ (7 - l.length % 8)))).drew).heap[g]? = some (.cells #[.slice (some ⟨r, 0, none⟩) (pack l).length c, .int .i64 l.length] 56 (0, 0)) := blk_far hb hgr _
    have ho1 : ((w.setCell ⟨r, l.length / 8, none⟩ (.int .u8 (x + 2 ^ (7 - l.length % 8)))).drew).ownsRow w0.heap.size 5 1 (.slice (some ⟨r, 0, none⟩) (pack l).length c) (pack (l ++ [true])).length (nums .u8 (pack (l ++ [true]))) := by rw [HS.out]; exact (owns_set HO.out _ _).drew
    have hB1 : Below w0.heap.size w0 ((w.setCell ⟨r, l.length / 8, none⟩ (.int .u8 (x + 2 ^ (7 - l.length % 8)))).drew) := below_drew (hB.setCell (p := ⟨r, l.length / 8, none⟩) hr0 _)
    have hk1 : Kept w ((w.setCell ⟨r, l.length / 8, none⟩ (.int .u8 (x + 2 ^ (7 - l.length % 8)))).drew) (fun k => k = g ∨ some k = (Value.slice (some ⟨r, 0, none⟩) (pack l).length c).ownBlock) := ((Kept.refl w _).setCell (p := ⟨r, l.length / 8, none⟩) (.inl (.inr rfl)) _).drew
    generalize (w.setCell ⟨r, l.length / 8, none⟩ (.int .u8 (x + 2 ^ (7 - l.length % 8)))).drew = w1 at ho1 hb1 hB1 hk1 ⊢
    have HO1 := Aside0.mk ho1
    clear ho1
    have hc1' : w1.cell? ⟨g, 1, none⟩ = some (.int .i64 (l.length : Int)) := (blk_cell hb1 1).trans rfl
    have hf1' : w1.frozen? ⟨g, 1, none⟩ = false := blk_frozen hb1 1
    go_wp2
    go_end0
    exact ⟨rfl, _, isWr_fin hb1 hg HO1.out (by simp), wrStep_fin rfl hg hB1 hk1 (.inl rfl)⟩

set_option maxHeartbeats 4000000 in
set_option maxRecDepth 100000 in
/-- A bit that begins a byte. -/
theorem wr_bit_new (w0 w : World) (g : Nat) (v : Value) (l : List Bool) (one : Bool) (hB : Below w0.heap.size w0 w) (h : IsWr w0 w g v l) (hm : l.length ≤ 1000000000) (h8 : l.length % 8 = 0) :
    Calls Try.prog 72 #[.pointer (some ⟨g, 0, none⟩), .bool one] w (WrPost w0 w g v (l ++ [one]) (.tuple #[])) := by
  obtain ⟨hb, hg, ho⟩ := h
  obtain ⟨i0, hi, hz0, hz1, hz2⟩ := info_parts wr_info
  have hc0 : w.cell? ⟨g, 0, none⟩ = some v := (blk_cell hb 0).trans rfl
  have hc1 : w.cell? ⟨g, 1, none⟩ = some (.int .i64 (l.length : Int)) := (blk_cell hb 1).trans rfl
  have hf0 : w.frozen? ⟨g, 0, none⟩ = false := blk_frozen hb 0
  have hf1 : w.frozen? ⟨g, 1, none⟩ = false := blk_frozen hb 1
  have HLEN := Aside0.mk (pack_length l)
  have hglt : g < w.heap.size := blk_lt hb
  have hbsz := hB.size
  obtain ⟨A, c, rfl⟩ := own_slice ho
  have HO := Aside0.mk ho
  clear ho
  have t8 : ((l.length : Int) % 8 == 0) = true := by simp; omega
  go_enter Try.func72, Try.ntmps72
  go_wp2_with (at_builtin; refine print_append_num (w0 := w0) w0.heap.size rfl _ _ 38 5 .u8 1 rfl Try.underlying38 wr_info (by decide) (.slice A (pack l).length c) (pack l) 0 rfl rfl HO.out hB hbsz ?c1 ?_)
  case c1 => have := HLEN.out; omega
  intro v' w1 hown1 hB1 hgrow hv1
  have hneA := own_ne HO.out hb (by decide)
  have hb1 := blk_grown hb hgrow hneA
  have hne1 := own_ne hown1 hb1 (by decide)
  have hk1 : Kept w w1 (fun k => k = g ∨ some k = (Value.slice A (pack l).length c).ownBlock) := Kept.of_grown hgrow (Kept.refl w _) (fun k hk => .inl (.inr hk.symm))
  clear hgrow hneA
  have hc0' : w1.cell? ⟨g, 0, none⟩ = some (.slice A (pack l).length c) := (blk_cell hb1 0).trans rfl
  have hf0' : w1.frozen? ⟨g, 0, none⟩ = false := blk_frozen hb1 0
  have hc1' : w1.cell? ⟨g, 1, none⟩ = some (.int .i64 (l.length : Int)) := (blk_cell hb1 1).trans rfl
  have hf1' : w1.frozen? ⟨g, 1, none⟩ = false := blk_frozen hb1 1
  have hown1 : w1.ownsRow w0.heap.size 5 1 v' (pack l ++ [0]).length (nums .u8 (pack l ++ [0])) := by rw [List.length_append]; exact hown1
  have hml : l.length / 8 < (pack l ++ [0]).length := by rw [List.length_append, HLEN.out]; simp; omega
  have hlast : (pack l ++ [0])[l.length / 8]? = some 0 := by
    have e : l.length / 8 = (pack l).length := by rw [HLEN.out]; omega
    rw [e]
    simp
  obtain ⟨r, c', cur, rfl, hr0, hrb, hle, hcap, hsz, htk⟩ := owns_split hown1 (by rw [List.length_append]; exact Nat.succ_pos _)
  have hpk := pack_new l one h8
  have hset : (pack l ++ [0]).set (l.length / 8) (0 + 2 ^ (7 - l.length % 8)) = pack l ++ [128] := by
    have e : l.length / 8 = (pack l).length := by rw [HLEN.out]; omega
    rw [e, h8]
    simp
  obtain ⟨bs, hbs⟩ : ∃ bs, bs = pack l ++ [0] := ⟨_, rfl⟩
  rw [← hbs] at hown1 hml hlast hset hle htk hne1
  clear hsz htk
  have hgr : g ≠ r := fun e => hne1 (by rw [e]; rfl)
  have hi0 : (l.length : Int) / 8 < (bs.length : Int) := by omega
  obtain ⟨hx, hfx⟩ := owns_cell hown1 hlast
  have HO1 := Aside0.mk hown1
  have HPK := Aside0.mk hpk
  have HSET := Aside0.mk hset
  have HBS := Aside0.mk hbs
  have HV := Aside0.mk hv1
  have HB1 := Aside0.mk hB1
  have HK1 := Aside0.mk hk1
  have HC0 := Aside0.mk hc0
  clear hown1 hpk hset hlast hv1 hB1 hk1 hc0
  rw [← hbs]
  clear hbs
  have hb2 := blk_set hb1 0 (.slice (some ⟨r, 0, none⟩) bs.length c')
  have HO2 := Aside0.mk (own_setCell (p := ⟨g, 0, none⟩) HO1.out hne1 (.slice (some ⟨r, 0, none⟩) bs.length c'))
  have HB2 := Aside0.mk (HB1.out.setCell (p := ⟨g, 0, none⟩) hg (.slice (some ⟨r, 0, none⟩) bs.length c'))
  have HK2 := Aside0.mk (HK1.out.setCell (p := ⟨g, 0, none⟩) (.inl (.inl rfl)) (.slice (some ⟨r, 0, none⟩) bs.length c'))
  have HB22 := Aside0.mk hb2
  clear hb2
  cases one with
  | false =>
    go_wp2
    go_end0
    refine ⟨rfl, _, isWr_fin (l' := l ++ [false]) HB22.out hg ?_ (by simp), wrStep_fin rfl hg HB2.out HK2.out HV.out⟩
    have e := HPK.out
    rw [if_neg (by simp), ← HBS.out] at e
    rw [e]
    exact HO2.out
  | true =>
    have hlt8 : (l.length : Int) % 8 < 8 := by omega
    go_wp2
    go_region
    rw [show Go.bits .or .u8 0 128 = 128 by decide +kernel]
    have HB3 := Aside0.mk (blk_drew (blk_far HB22.out (p := ⟨r, l.length / 8, none⟩) hgr (.int .u8 128)))
    have HO3 := Aside0.mk ((owns_set HO2.out (l.length / 8) 128).drew)
    have HBB3 := Aside0.mk (below_drew (HB2.out.setCell (p := ⟨r, l.length / 8, none⟩) hr0 (.int .u8 128)))
    have hrk : (fun k => k = g ∨ some k = (Value.slice A (pack l).length c).ownBlock) r ∨ w.heap.size ≤ r := by
      rcases HV.out with h | ⟨b, h, hb⟩
      · exact .inl (.inr h)
      · right
        have : r = b := Option.some.inj h
        omega
    have HK3 := Aside0.mk ((HK2.out.setCell (p := ⟨r, l.length / 8, none⟩) hrk (.int .u8 128)).drew)
    generalize ((w1.setCell ⟨g, 0, none⟩ (.slice (some ⟨r, 0, none⟩) bs.length c')).setCell ⟨r, l.length / 8, none⟩ (.int .u8 128)).drew = w2 at HB3 HO3 HBB3 HK3 ⊢
    have hc3 : w2.cell? ⟨g, 1, none⟩ = some (.int .i64 (l.length : Int)) := (blk_cell HB3.out 1).trans rfl
    have hf3 : w2.frozen? ⟨g, 1, none⟩ = false := blk_frozen HB3.out 1
    go_wp2
    go_end0
    refine ⟨rfl, _, isWr_fin (l' := l ++ [true]) HB3.out hg ?_ (by simp), wrStep_fin rfl hg HBB3.out HK3.out HV.out⟩
    have e := HPK.out
    have e2 := HSET.out
    rw [if_pos (by first | rfl | trivial), ← e2] at e
    rw [e]
    have e3 : (2 : Int) ^ (7 - l.length % 8) = 128 := by rw [h8]; rfl
    rw [e3, Int.zero_add]
    exact HO3.out

/-- 'bit': one bit more. -/
theorem wr_bit (w0 w : World) (g : Nat) (v : Value) (l : List Bool) (one : Bool) (hB : Below w0.heap.size w0 w) (h : IsWr w0 w g v l) (hm : l.length ≤ 1000000000) :
    Calls Try.prog 72 #[.pointer (some ⟨g, 0, none⟩), .bool one] w (WrPost w0 w g v (l ++ [one]) (.tuple #[])) := by
  by_cases h8 : l.length % 8 = 0
  · exact wr_bit_new w0 w g v l one hB h hm h8
  · exact wr_bit_in w0 w g v l one hB h hm h8
end Go.Proofs.Yteoncgijnkfhfaa.P
