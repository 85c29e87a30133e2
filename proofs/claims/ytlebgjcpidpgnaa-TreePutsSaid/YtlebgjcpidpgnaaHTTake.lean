/- The contract of layer 9's tree.Take: a walk by the bits that a reader has. -/
import Derived.Test.YtlebgjcpidpgnaaPx0
import Derived.Test.YtlebgjcpidpgnaaHTree
import Derived.Test.YtlebgjcpidpgnaaHWalk
import Derived.Test.YtlebgjcpidpgnaaHBld
import Derived.Test.YtlebgjcpidpgnaaHLeaves
import Derived.Test.YtlebgjcpidpgnaaPx1
import Derived.RegionTactic
import Derived.BigRegion
import Derived.Shelf.Abstract
import Derived.WalkSmall
import Derived.Deep.RegionWith
namespace Go.Proofs.Ytlebgjcpidpgnaa.P
open Go.RowKit Go.Proofs.YtlebgjcpidpgnaaW.PrintWords Go.Proofs.YtlebgjcpidpgnaaW.PrintLast Go.Proofs.YtlebgjcpidpgnaaW.PrintMore
set_option linter.unusedVariables false
set_option linter.unusedSimpArgs false

/-- A world's first n blocks. -/
def cutW (w : World) (n : Nat) : World := { w with heap := w.heap.extract 0 n }
theorem cutW_size {w : World} {n : Nat} (h : n ≤ w.heap.size) : (cutW w n).heap.size = n := by simp [cutW]; omega
theorem cutW_below {w : World} {n : Nat} (h : n ≤ w.heap.size) : Below (cutW w n).heap.size (cutW w n) w := by
  refine ⟨rfl, rfl, rfl, by rw [cutW_size h]; exact h, fun k hk => ?_⟩
  rw [cutW_size h] at hk
  simp only [cutW]
  rw [Array.getElem?_extract]
  rw [if_pos (by omega)]
  simp
theorem IsBd.base {w0 X W : World} {g T : Nat} {cs : Array Value} {l : List Int} (h : IsBd w0 W g T cs l) (e : X.heap.size = w0.heap.size) : IsBd X W g T cs l := by
  unfold IsBd at *
  rw [e]
  exact h
theorem IsSz.base {w0 X W : World} {g : Nat} {l : List Int} (h : IsSz w0 W g l) (e : X.heap.size = w0.heap.size) : IsSz X W g l := by
  unfold IsSz at *
  rw [e]
  exact h
theorem own_block {w : World} {base e size n : Nat} {v : Value} {xs : List Value} (h : w.ownsRow base e size v n xs) : ∀ k, v.ownBlock = some k → ∃ cs, w.heap[k]? = some (.cells cs e (0, 0)) := by
  intro k hk
  rcases h.2 with ⟨rfl, _⟩ | ⟨gr, cap, cur, rfl, _, hh, _⟩
  · cases hk
  · have : gr = k := by simpa [Value.ownBlock] using hk
    subst this
    exact ⟨cur, hh⟩
/-- All blocks of cells but g and the rows of whole numbers stay. -/
def KeepI (g : Nat) (w w' : World) : Prop := ∀ (b t : Nat) (cs : Array Value), t ≠ 3 → b ≠ g → w.heap[b]? = some (.cells cs t (0, 0)) → w'.heap[b]? = some (.cells cs t (0, 0))
theorem IsBd.keepI {w0 w w' : World} {g gs T : Nat} {cs : Array Value} {l : List Int} (h : IsBd w0 w g T cs l) (hk : KeepI gs w w') (hT : T ≠ 3) (hne : g ≠ gs) {ss : Array Value} (hs : w.heap[gs]? = some (.cells ss 88 (0, 0))) : IsBd w0 w' g T cs l := by
  obtain ⟨hg, hb, hT', hsz, hl, a, v, h1, ha, h2, hn, ho⟩ := h
  refine ⟨hg, hk _ _ _ hT hne hb, hT', hsz, hl, a, v, h1, ha, h2, hn, own_move ho fun k hk' => ?_⟩
  obtain ⟨ds, hd⟩ := own_block ho k hk'
  rw [hk _ _ _ (by decide) (blk_ne hd hs (by decide)) hd, hd]
theorem IsSz.keepO {w0 w w' : World} {g gt T : Nat} {cs : Array Value} {l : List Int} (h : IsSz w0 w g l) (hk : KeepO gt w w') (ht : w.heap[gt]? = some (.cells cs T (0, 0))) (hT : T ≠ 3) (hT2 : T ≠ 88) : IsSz w0 w' g l := by
  obtain ⟨hg, v, hb, ho⟩ := h
  refine ⟨hg, v, hk _ _ _ (by decide) (blk_ne hb ht hT2.symm) hb, own_move ho fun k hk' => ?_⟩
  obtain ⟨ds, hd⟩ := own_block ho k hk'
  rw [hk _ _ _ (by decide) (blk_ne hd ht hT.symm) hd, hd]
theorem IsBd.but {w0 w w' : World} {g gr T : Nat} {cs : Array Value} {l : List Int} (h : IsBd w0 w g T cs l) (hk : KeepBut w w' gr none) (hr : gr < w0.heap.size) : IsBd w0 w' g T cs l := by
  obtain ⟨hg, hb, hT', hsz, hl, a, v, h1, ha, h2, hn, ho⟩ := h
  refine ⟨hg, (hk.2 _ (blk_lt hb) (by omega) (by simp)).trans hb, hT', hsz, hl, a, v, h1, ha, h2, hn, own_move ho fun k hk' => ?_⟩
  have := ho.lt k hk'
  exact hk.2 _ this.2 (by omega) (by simp)
theorem IsSz.but {w0 w w' : World} {g gr : Nat} {l : List Int} (h : IsSz w0 w g l) (hk : KeepBut w w' gr none) (hr : gr < w0.heap.size) : IsSz w0 w' g l := by
  obtain ⟨hg, v, hb, ho⟩ := h
  refine ⟨hg, v, (hk.2 _ (blk_lt hb) (by omega) (by simp)).trans hb, own_move ho fun k hk' => ?_⟩
  have := ho.lt k hk'
  exact hk.2 _ this.2 (by omega) (by simp)

set_option maxHeartbeats 4000000 in
set_option maxRecDepth 100000 in
/-- 'leaf': one leaf more; what else stands. -/
theorem sz_leaf2 (w0 w : World) (g : Nat) (l : List Int) (p : ByteArray) (z : Int) (hB : Below w0.heap.size w0 w) (h : IsSz w0 w g l) (hm : l.length ≤ 1000000) :
    Calls Try.prog 48 #[.pointer (some ⟨g, 0, none⟩), .string p, .int .i64 z] w (fun e w' => e = .returned (.bool true) ∧ Below w0.heap.size w0 w' ∧ IsSz w0 w' g (l ++ [z]) ∧ KeepI g w w') := by
  obtain ⟨hg, v, hb, ho⟩ := h
  have hc0 : w.cell? ⟨g, 0, none⟩ = some v := (blk_cell hb 0).trans rfl
  have hf0 : w.frozen? ⟨g, 0, none⟩ = false := blk_frozen hb 0
  have hbsz := hB.size
  obtain ⟨A, c, rfl⟩ := own_slice ho
  have HO := Aside0.mk ho
  clear ho
  go_enter Try.func48, Try.ntmps48
  go_wp2_with (at_builtin; refine print_append_num (w0 := w0) w0.heap.size rfl _ _ 23 3 .i64 8 rfl Try.underlying23 tint_info (by decide) (.slice A l.length c) l z rfl rfl HO.out hB hbsz ?c1 ?_)
  case c1 => omega
  intro v' w1 hown1 hB1 hgrow hv1
  have hneA := own_ne HO.out hb (by decide)
  have hb1 := blk_grown hb hgrow hneA
  have hne1 := own_ne hown1 hb1 (by decide)
  obtain ⟨A', c', rfl⟩ := own_slice hown1
  have HK1 := Aside0.mk (show KeepI g w w1 from fun b t cs ht hg hb => blk_grown hb hgrow (own_ne HO.out hb (Ne.symm ht)))
  clear hgrow hneA
  have hc0' : w1.cell? ⟨g, 0, none⟩ = some (.slice A l.length c) := (blk_cell hb1 0).trans rfl
  have hf0' : w1.frozen? ⟨g, 0, none⟩ = false := blk_frozen hb1 0
  have HO1 := Aside0.mk hown1
  have HB1 := Aside0.mk hB1
  have HN1 := Aside0.mk hne1
  have HV := Aside0.mk hv1
  have HB0 := Aside0.mk hb1
  clear hown1 hB1 hne1 hv1 hb1
  go_wp2
  go_ret
  refine ⟨rfl, HB1.out.setCell (p := ⟨g, 0, none⟩) hg _, ⟨hg, _, blk_put HB0.out 0 _ rfl, ?_⟩, fun b t cs ht hne hb => blk_far (HK1.out b t cs ht hne hb) (p := ⟨g, 0, none⟩) hne _⟩
  rw [List.length_append]
  exact own_setCell HO1.out HN1.out _

/-- All blocks of cells but rows of bytes stay. -/
def KeepS (w w' : World) : Prop := ∀ (b t : Nat) (cs : Array Value), t ≠ 5 → w.heap[b]? = some (.cells cs t (0, 0)) → w'.heap[b]? = some (.cells cs t (0, 0))
theorem heap_freeze (w : World) (p : Addr) (n k : Nat) (h : k ≠ p.block) : (w.freeze p n).heap[k]? = w.heap[k]? := by
  unfold World.freeze
  split
  · rfl
  · simp only [Array.getElem?_modify]
    rw [if_neg (fun e => h e.symm)]
set_option maxHeartbeats 4000000 in
set_option maxRecDepth 100000 in
theorem bd_string2 (w0 w : World) (g T : Nat) (cs : Array Value) (lu : List UInt8) (hB : Below w0.heap.size w0 w) (h : IsBd w0 w g T cs (lu.map fun c => (c.toNat : Int))) :
    Calls Try.prog 62 #[.pointer (some ⟨g, 1, none⟩)] w fun e w' => e = .returned (.string ⟨lu.toArray⟩) ∧ Below w0.heap.size w0 w' ∧ KeepS w w' := by
  obtain ⟨hg, hb, hT, hs, hl, a, v, h1, ha, h2, hn, ho⟩ := h
  have hc2 : w.drew.cell? ⟨g, 2, none⟩ = some v := cs_get1 (blk_drew hb) h2
  by_cases hu : lu = []
  · subst hu
    obtain rfl := hn rfl
    have hUS : ∀ (p : Option Addr) (W : World), (Builtin.unsafeString_ #[130, 3] 9 #[.pointer p, .int .i64 0]).run Try.prog W = .ok (.string .empty) W := fun p W => Lib.run_unsafeString_none W _ _ _ p
    have hSD : (Builtin.unsafeSliceData_ #[58] 130 #[.slice none 0 0]).run Try.prog w.drew = .ok (.pointer none) w.drew := rfl
    have HB := Aside0.mk hB
    clear ho hn hb hT hs hl ha h1 h2 hB
    go_enter Try.func62, Try.ntmps62
    go_wp2
    go_region
    all_goals go_wp2
    all_goals go_ret
    all_goals exact ⟨rfl, below_drew HB.out, fun _ _ _ _ h => h⟩
  · have hl0 : lu.length ≠ 0 := by simpa using hu
    rw [List.length_map] at ho
    obtain ⟨gr, cap, cur, rfl, hbg, hgb, hnc, hcm, hcs, htake⟩ : ∃ gr cap cur, v = .slice (some ⟨gr, 0, none⟩) lu.length cap ∧ w0.heap.size ≤ gr ∧ w.heap[gr]? = some (.cells cur 5 (0, 0)) ∧ lu.length ≤ cap ∧ cap ≤ maxLen ∧ cur.size = cap * 1 ∧ cur.toList.take (lu.length * 1) = nums .u8 (lu.map fun c => (c.toNat : Int)) := by
      rcases ho.2 with ⟨_, hz⟩ | ⟨gr, cap, cur, hv, r⟩
      · exact absurd hz hl0
      · exact ⟨gr, cap, cur, hv, r⟩
    have hSD : (Builtin.unsafeSliceData_ #[58] 130 #[.slice (some ⟨gr, 0, none⟩) lu.length cap]).run Try.prog w.drew = .ok (.pointer (some ⟨gr, 0, none⟩)) w.drew :=
      Lib.run_unsafeSliceData_row _ _ _ _ _ _ (by omega)
    have hUS : (Builtin.unsafeString_ #[130, 3] 9 #[.pointer (some ⟨gr, 0, none⟩), .int .i64 lu.length]).run Try.prog w.drew = .ok (.string ⟨lu.toArray⟩) (w.drew.freeze ⟨gr, 0, none⟩ lu.length) := by
      refine Lib.run_unsafeString_row w.drew 130 3 9 5 Try.underlying130 cells_byte gr cur.size (by have hg' : w.drew.heap[gr]? = some (.cells cur 5 (0, 0)) := hgb; simp [World.shape?, hg']) lu hu (by omega) (by unfold maxLen at hcm; omega) ?_
      intro j x hx
      have := ho.cells (g := gr) rfl j (.int .u8 x.toNat) (by simp [nums, hx])
      exact this
    have HB := Aside0.mk hB
    have HG := Aside0.mk hbg
    have HGB := Aside0.mk hgb
    clear ho hn hb hT hs hl ha h1 h2 hB hgb hnc hcm hcs htake hbg hl0
    go_enter Try.func62, Try.ntmps62
    go_wp2
    go_region
    all_goals go_wp2
    all_goals go_ret
    all_goals exact ⟨rfl, Lib.below_freeze (below_drew HB.out) (p := ⟨gr, 0, none⟩) HG.out _, fun b t cs ht h => (heap_freeze w.drew ⟨gr, 0, none⟩ _ b (blk_ne h HGB.out ht)).trans h⟩
abbrev TkS := Int × Int × List UInt8 × List Int
/-- So many bits can be taken, one by one. -/
def goAll (K : Nat) (b : List Int) : Nat → Int → Int → Bool
  | 0, _, _ => true
  | n + 1, p, e => (pipe_Reader_Take.f K b p e 1).any fun t => goAll K b n t.2.1 t.2.2
theorem goAll_succ {K : Nat} {b : List Int} {n : Nat} {p e : Int} (h : goAll K b (n + 1) p e = true) : ∃ t p' e', pipe_Reader_Take.f K b p e 1 = some (t, p', e') ∧ goAll K b n p' e' = true := by
  unfold goAll at h
  generalize pipe_Reader_Take.f K b p e 1 = x at h ⊢
  rcases x with _ | ⟨t, p', e'⟩
  · cases h
  · exact ⟨t, p', e', rfl, h⟩
theorem goAll_down {K : Nat} {b : List Int} : ∀ (n m : Nat) (p e : Int), m ≤ n → goAll K b n p e = true → goAll K b m p e = true := by
  intro n
  induction n with
  | zero => intro m p e hm h; rw [show m = 0 by omega]; rfl
  | succ n ih =>
    intro m p e hm h
    cases m with
    | zero => rfl
    | succ m =>
      obtain ⟨t, p', e', h1, h2⟩ := goAll_succ h
      unfold goAll
      rw [h1]
      exact ih m p' e' (by omega) h2
/-- What a taker's walk keeps: the reader at gr, the taker at gt, the leaves at gs; wi is the world in which the taking began. -/
def TkI (w0 wi : World) (b : List Int) (gr gt gs : Nat) (k : Nat) (w : World) (s : TkS) : Prop :=
  IsS109 w0 w gr b s.1 s.2.1 ∧ Below w0.heap.size w0 w ∧ KeepBut wi w gr none ∧ (∃ cs, IsBd wi w gt 113 cs (s.2.2.1.map fun c => (c.toNat : Int)) ∧ cs.size = 3 ∧ cs[0]? = some (.pointer (some ⟨gr, 0, none⟩))) ∧ IsSz wi w gs s.2.2.2 ∧ goAll 100 b k s.1 s.2.1 = true ∧ s.2.2.1.length + s.2.2.2.length + k ≤ 1000 ∧ (w0.heap.size ≤ wi.heap.size ∧ gr < wi.heap.size)
def tkOne (b : List Int) (p e : Int) : Int × Int × Int := (pipe_Reader_Take.f 100 b p e 1).getD (0, p, e)
def twoK (b : List Int) (q : ByteArray) (z : Int) (s : TkS) : Bool × TkS :=
  (decide ((tkOne b s.1 s.2.1).1 = 1), (tkOne b s.1 s.2.1).2.1, (tkOne b s.1 s.2.1).2.2, s.2.2.1 ++ [if (tkOne b s.1 s.2.1).1 = 1 then 49 else 48], s.2.2.2)
def leafK (q : ByteArray) (z : Int) (s : TkS) : Bool × TkS := (true, s.1, s.2.1, s.2.2.1, s.2.2.2 ++ [z])
theorem isS_move {w0 w w' : World} {g : Nat} {b : List Int} {p e : Int} (h : IsS109 w0 w g b p e) (hb : w'.heap[g]? = w.heap[g]?) : IsS109 w0 w' g b p e := by
  obtain ⟨A, c, h1, h2, h3⟩ := h
  exact ⟨A, c, hb.trans h1, h2, h3⟩
theorem tk_below (w0 wi : World) (b : List Int) (gr gt gs : Nat) (k : Nat) (w w' : World) (s : TkS) (hb : Below w.heap.size w w') (h : TkI w0 wi b gr gt gs k w s) : TkI w0 wi b gr gt gs k w' s := by
  obtain ⟨h1, h2, h3, ⟨cs, h4, h5, h6⟩, h7, h8, h9, h10⟩ := h
  exact ⟨h1.below hb, below_then h2 h2.size hb, h3.trans (KeepBut.of_below hb gr none) (.inl rfl), ⟨cs, h4.but (KeepBut.of_below hb gr none) h10.2, h5, h6⟩, h7.below hb, h8, h9, h10⟩
theorem tk_down (w0 wi : World) (b : List Int) (gr gt gs : Nat) (k j : Nat) (w : World) (s : TkS) (hj : j ≤ k) (h : TkI w0 wi b gr gt gs k w s) : TkI w0 wi b gr gt gs j w s := by
  obtain ⟨h1, h2, h3, h4, h7, h8, h9, h10⟩ := h
  exact ⟨h1, h2, h3, h4, h7, goAll_down _ _ _ _ hj h8, by omega, h10⟩
theorem tk_leaf (w0 wi : World) (b : List Int) (gr gt gs : Nat) : Asks (TkI w0 wi b gr gt gs) 1 48 (.pointer (some ⟨gs, 0, none⟩)) leafK := by
  intro k w s q z ⟨hI, hB, hK, ⟨cs, hb, hs, h0⟩, hz, hQ, hl, hw⟩
  have hn : wi.heap.size ≤ w.heap.size := hK.1
  refine (sz_leaf2 (cutW w wi.heap.size) w gs s.2.2.2 q z (cutW_below hn) (hz.base (cutW_size hn)) (by omega)).mono ?_
  rintro e w' ⟨rfl, hB', hz', hk'⟩
  obtain ⟨_, v, hzb, _⟩ := hz
  obtain ⟨A, c, hr, hg, hc⟩ := hI
  have hsz : wi.heap.size ≤ w'.heap.size := by have := hB'.size; rw [cutW_size hn] at this; exact this
  have hblk : ∀ i, i < wi.heap.size → w'.heap[i]? = w.heap[i]? := fun i hi => (hB'.block i (by rw [cutW_size hn]; exact hi)).trans ((cutW_below hn).block i (by rw [cutW_size hn]; exact hi)).symm
  refine ⟨rfl, ⟨⟨A, c, (hblk _ hw.2).trans hr, hg, hc⟩, ⟨hB'.os.trans hB.os, hB'.tape.trans hB.tape, hB'.output.trans hB.output, Nat.le_trans hw.1 hsz, fun i hi => (hblk i (by omega)).trans (hB.block i hi)⟩, ⟨hsz, fun i hi hne hn' => (hblk i hi).trans (hK.2 i hi hne hn')⟩, ⟨cs, hb.keepI hk' (by decide) (blk_ne hb.2.1 hzb (by decide)) hzb, hs, h0⟩, (hz'.base (cutW_size hn).symm), goAll_down _ _ _ _ (by omega) hQ, by simp [leafK]; omega, hw⟩, fun bb ds hd => hk' bb _ ds (by decide) (blk_ne hd hzb (by decide)) hd⟩

set_option maxHeartbeats 4000000 in
set_option maxRecDepth 100000 in
theorem tk_two (w0 wi : World) (b : List Int) (gr gt gs : Nat) : Asks (TkI w0 wi b gr gt gs) 1 66 (.pointer (some ⟨gt, 0, none⟩)) (twoK b) := by
  intro k w s q z ⟨hI, hB, hK, ⟨cs, hb, hs, h0⟩, hz, hQ, hl, hw⟩
  obtain ⟨p, e, text, l⟩ := s
  simp only at hI hb hz hQ hl
  obtain ⟨t, p1, e1, ht, hQ1⟩ := goAll_succ hQ
  clear hQ
  have hc0 : w.cell? ⟨gt, 0, none⟩ = some (.pointer (some ⟨gr, 0, none⟩)) := cs_get1 hb.2.1 h0
  have HI := Aside0.mk hI
  have HB := Aside0.mk hB
  have HK := Aside0.mk hK
  have HBd := Aside0.mk hb
  have HZ := Aside0.mk hz
  have HT := Aside0.mk ht
  have HW := Aside0.mk hw
  have HS := Aside0.mk hs
  have H0 := Aside0.mk h0
  have HL := Aside0.mk hl
  have HQ1 := Aside0.mk hQ1
  clear hI hB hK hb hz ht hw hs h0 hl hQ1
  -- what holds behind the builder's byte
  have HFIN : ∀ (u : UInt8) (w1 w2 : World) (cs' : Array Value), IsS109 w0 w1 gr b p1 e1 → Below w0.heap.size w0 w1 → KeepBut w w1 gr none → Below (cutW w1 wi.heap.size).heap.size (cutW w1 wi.heap.size) w2 → KeepO gt w1 w2 → IsBd (cutW w1 wi.heap.size) w2 gt 113 cs' ((text.map fun c => (c.toNat : Int)) ++ [(u.toNat : Int)]) → cs'.size = cs.size → (∀ i, i ≠ 1 → i ≠ 2 → cs'[i]? = cs[i]?) →
      TkI w0 wi b gr gt gs k w2 (p1, e1, text ++ [u], l) ∧ KeepW w w2 := by
    intro u w1 w2 cs' hi1 hb1 hk1 hB2 hk2 hI2 hs2 he2
    have hn : wi.heap.size ≤ w1.heap.size := Nat.le_trans HK.out.1 hk1.1
    have hbd1 := HBd.out.but hk1 HW.out.2
    have hz1 := HZ.out.but hk1 HW.out.2
    have hsz : wi.heap.size ≤ w2.heap.size := by have := hB2.size; rw [cutW_size hn] at this; exact this
    have hblk : ∀ i, i < wi.heap.size → w2.heap[i]? = w1.heap[i]? := fun i hi => (hB2.block i (by rw [cutW_size hn]; exact hi)).trans ((cutW_below hn).block i (by rw [cutW_size hn]; exact hi)).symm
    refine ⟨⟨isS_move hi1 (hblk _ HW.out.2), ⟨hB2.os.trans hb1.os, hB2.tape.trans hb1.tape, hB2.output.trans hb1.output, Nat.le_trans HW.out.1 hsz, fun i hi => (hblk i (by have := HW.out.1; omega)).trans (hb1.block i hi)⟩, ⟨hsz, fun i hi hne hn' => (hblk i hi).trans ((HK.out.trans hk1 (.inl rfl)).2 i hi hne hn')⟩, ⟨cs', ?_, hs2.trans HS.out, (he2 0 (by omega) (by omega)).trans H0.out⟩, hz1.keepO hk2 hbd1.2.1 (by decide) (by decide), HQ1.out, by have := HL.out; simp; omega, HW.out⟩, ?_⟩
    · have := hI2.base (X := wi) (cutW_size hn).symm
      simpa using this
    · intro bb ds hd
      have hgr : bb ≠ gr := by
        obtain ⟨A, c, hr, _⟩ := HI.out
        exact blk_ne hd hr (by decide)
      have hd1 := (hk1.2 bb (blk_lt hd) hgr (by simp)).trans hd
      exact hk2 bb _ ds (by decide) (blk_ne hd1 hbd1.2.1 (by decide)) hd1
  have HF := Aside0.mk HFIN
  clear HFIN
  have hstep : ∀ w1, IsS109 w0 w1 gr b p1 e1 → Below w0.heap.size w0 w1 → KeepBut w w1 gr none → Aside0 (IsBd (cutW w1 wi.heap.size) w1 gt 113 cs (text.map fun c => (c.toNat : Int))) ∧ Aside0 (Below (cutW w1 wi.heap.size).heap.size (cutW w1 wi.heap.size) w1) := by
    intro w1 hi1 hb1 hk1
    have hn : wi.heap.size ≤ w1.heap.size := Nat.le_trans HK.out.1 hk1.1
    exact ⟨⟨(HBd.out.but hk1 HW.out.2).base (X := cutW w1 wi.heap.size) (cutW_size hn)⟩, ⟨cutW_below hn⟩⟩
  have HST := Aside0.mk hstep
  clear hstep
  by_cases h1 : t = 1
  · subst h1
    have htk : twoK b q z (p, e, text, l) = (true, p1, e1, text ++ [49], l) := by simp [twoK, tkOne, HT.out]
    rw [htk]
    clear htk
    go_enter Try.func66, Try.ntmps66
    go_wp2_with fail
    (with_reducible refine (pipe_Reader_Take.calls 100 gr b p e 1 1 p1 e1 w0 w HI.out HB.out HT.out).mono ?_)
    rintro ee w1 ⟨rfl, hi1, hb1, hk1⟩
    obtain ⟨HBd1, HCB⟩ := HST.out w1 hi1 hb1 hk1
    have HI1 := Aside0.mk hi1
    have HB1 := Aside0.mk hb1
    have HK1 := Aside0.mk hk1
    clear hi1 hb1 hk1
    go_wp2_with fail
    (with_reducible refine (bd_byte (cutW w1 wi.heap.size) w1 gt 113 cs _ 49 HCB.out HBd1.out (by have := HL.out; simp; omega)).mono ?_)
    rintro ee w2 ⟨rfl, hB2, hk2, cs', hi2, hs2, he2⟩
    go_wp2
    go_ret
    exact ⟨rfl, HF.out 49 w1 w2 cs' HI1.out HB1.out HK1.out hB2 hk2 hi2 hs2 he2⟩
  · have htk : twoK b q z (p, e, text, l) = (false, p1, e1, text ++ [48], l) := by simp [twoK, tkOne, HT.out, h1]
    rw [htk]
    have hbq : (t == 1) = false := by simp [h1]
    clear h1 htk
    go_enter Try.func66, Try.ntmps66
    go_wp2_with fail
    (with_reducible refine (pipe_Reader_Take.calls 100 gr b p e 1 t p1 e1 w0 w HI.out HB.out HT.out).mono ?_)
    rintro ee w1 ⟨rfl, hi1, hb1, hk1⟩
    obtain ⟨HBd1, HCB⟩ := HST.out w1 hi1 hb1 hk1
    have HI1 := Aside0.mk hi1
    have HB1 := Aside0.mk hb1
    have HK1 := Aside0.mk hk1
    clear hi1 hb1 hk1
    go_wp2_with fail
    (with_reducible refine (bd_byte (cutW w1 wi.heap.size) w1 gt 113 cs _ 48 HCB.out HBd1.out (by have := HL.out; simp; omega)).mono ?_)
    rintro ee w2 ⟨rfl, hB2, hk2, cs', hi2, hs2, he2⟩
    go_wp2
    go_ret
    exact ⟨rfl, HF.out 48 w1 w2 cs' HI1.out HB1.out HK1.out hB2 hk2 hi2 hs2 he2⟩
def takeK (b : List Int) (p e z : Int) : TkS := (walkP (twoK b) leafK 4 { data := #[] } z (p, e, [], [])).2
def tree_Take.f (b : List Int) (p e z : Int) : Option (ByteArray × List Int × Int × Int) :=
  if z < 1 ∨ 1024 < z then (pipe_Reader_Give.f b p e 1).bind fun t => some ({ data := #[] }, [], t.1, t.2)
  else if goAll 100 b (wc 4) p e = true then (if (takeK b p e z).2.1 ≠ 0 then some ({ data := #[] }, [], (takeK b p e z).1, (takeK b p e z).2.1) else some (⟨(takeK b p e z).2.2.1.toArray⟩, (takeK b p e z).2.2.2, (takeK b p e z).1, (takeK b p e z).2.1))
  else none
theorem tk_walk (w0 wi w : World) (b : List Int) (gr gt gs : Nat) (p e z : Int) (hi : TkI w0 wi b gr gt gs (0 + wc 4) w (p, e, [], [])) (h0 : 0 ≤ z) (h1 : z ≤ 1024) :
    Calls Try.prog 49 #[.agg #[.func (.func 66) #[.pointer (some ⟨gt, 0, none⟩)] #[], .func (.func 48) #[.pointer (some ⟨gs, 0, none⟩)] #[]], .string { data := #[] }, .int .i64 z, .int .i64 4] w
      (fun e_ w' => e_ = .returned (.bool (walkP (twoK b) leafK 4 { data := #[] } z (p, e, [], [])).1) ∧ TkI w0 wi b gr gt gs 0 w' (takeK b p e z)) := by
  refine (walk_any (TkI w0 wi b gr gt gs) (fun _ _ _ _ h i => tk_below _ _ _ _ _ _ _ _ _ _ h i) (fun _ _ _ _ h i => tk_down _ _ _ _ _ _ _ _ _ _ h i) (twoK b) leafK _ _ _ _ (tk_two w0 wi b gr gt gs) (tk_leaf w0 wi b gr gt gs)
    (enters_of Try.func66 (by kernel_rfl) rfl) (enters_of Try.func48 (by kernel_rfl) rfl)
    4 0 (p, e, [], []) w { data := #[] } z 4 hi h0 h1 ⟨rfl⟩ (by omega) (by decide)).mono ?_
  rintro e_ w' ⟨he, hi, _⟩
  exact ⟨he, hi⟩
set_option maxHeartbeats 4000000 in
set_option maxRecDepth 100000 in
theorem tree_Take.calls (g : Nat) (b : List Int) (p e z : Int) (r1 : ByteArray) (r2 : List Int) (r3 r4 : Int) (w0 w : World) (hI : IsS109 w0 w g b p e) (hB : Below w0.heap.size w0 w) (h : tree_Take.f b p e z = some (r1, r2, r3, r4)) :
    Calls Try.prog 32 #[.pointer (some ⟨g, 0, none⟩), .int .i64 z] w fun e_ w' => ∃ v0_ : Value, e_ = .returned (.tuple #[.string r1, v0_]) ∧ Kd.R (Kd.int .i64) 3 w' w.heap.size (fun _ => True) v0_ r2 ∧ IsS109 w0 w' g b r3 r4 ∧ Below w0.heap.size w0 w' ∧ KeepBut w w' g none := by
  have HI := Aside0.mk hI
  have HB := Aside0.mk hB
  clear hI hB
  unfold tree_Take.f at h
  by_cases hz : z < 1 ∨ 1024 < z
  · rw [if_pos hz] at h
    obtain ⟨⟨p1, e1⟩, hg, h⟩ := Option.bind_eq_some_iff.mp h
    obtain ⟨rfl, rfl, rfl, rfl⟩ : { data := #[] } = r1 ∧ [] = r2 ∧ p1 = r3 ∧ e1 = r4 := by simpa using h
    have HZ := Aside0.mk (show (decide (1 ≤ z) && decide (z ≤ 1024)) = false by rcases hz with h | h <;> simp <;> omega)
    have HG := Aside0.mk hg
    clear h hz hg
    go_enter Try.func32, Try.ntmps32
    go_wp2_with fail
    (with_reducible refine (sized_calls z w).mono ?_)
    rintro ee w1 ⟨rfl, rfl⟩
    rw [HZ.out]
    go_wp2_with fail
    (with_reducible refine (pipe_Reader_Give.calls g b p e 1 p1 e1 w0 w1 HI.out HB.out HG.out).mono ?_)
    rintro ee w2 ⟨rfl, hi2, hb2, hk2⟩
    have HI2 := Aside0.mk hi2
    have HB2 := Aside0.mk hb2
    have HK2 := Aside0.mk hk2
    clear hi2 hb2 hk2
    go_wp2
    go_ret2
    exact ⟨_, rfl, Kd.R_nil _ _ _ _ _, HI2.out, HB2.out, HK2.out⟩
  · rw [if_neg hz] at h
    have hz0 : 0 ≤ z := by omega
    have hz1 : z ≤ 1024 := by omega
    have HZ := Aside0.mk (show (decide (1 ≤ z) && decide (z ≤ 1024)) = true by simp; omega)
    by_cases hQ : goAll 100 b (wc 4) p e = true
    · rw [if_pos hQ] at h
      have HF := Aside0.mk h
      have HQ := Aside0.mk hQ
      clear h hz hQ
      have hIa := ((HI.out.alloc (.cells #[.pointer (some ⟨g, 0, none⟩), .pointer none, .slice none 0 0] 113)).alloc (.cells #[.slice none 0 0] 88))
      have hBa := below_alloc (below_alloc HB.out (.cells #[.pointer (some ⟨g, 0, none⟩), .pointer none, .slice none 0 0] 113)) (.cells #[.slice none 0 0] 88)
      have hBw := below_alloc (below_alloc (Below.refl w.heap.size w) (.cells #[.pointer (some ⟨g, 0, none⟩), .pointer none, .slice none 0 0] 113)) (.cells #[.slice none 0 0] 88)
      have hta := blk_alloc (blk_new w (.cells #[.pointer (some ⟨g, 0, none⟩), .pointer none, .slice none 0 0] 113)) (.cells #[.slice none 0 0] 88)
      have hsa := blk_new (w.alloc (.cells #[.pointer (some ⟨g, 0, none⟩), .pointer none, .slice none 0 0] 113)) (.cells #[.slice none 0 0] 88)
      rw [World.size_alloc] at hsa
      have hi0 : TkI w0 w b g w.heap.size (w.heap.size + 1) (0 + wc 4) ((w.alloc (.cells #[.pointer (some ⟨g, 0, none⟩), .pointer none, .slice none 0 0] 113)).alloc (.cells #[.slice none 0 0] 88)) (p, e, [], []) :=
        ⟨hIa, hBa, KeepBut.of_below hBw g none, ⟨_, ⟨Nat.le_refl _, hta, by decide, by simp, by kernel_rfl, none, .slice none 0 0, rfl, .inl rfl, rfl, fun _ => rfl, own_nil _ _ _ _⟩, rfl, rfl⟩, ⟨by omega, .slice none 0 0, hsa, own_nil _ _ _ _⟩, by rw [Nat.zero_add]; exact HQ.out, by simp [wc], HB.out.size, HI.out.lt⟩
      have HI0 := Aside0.mk hi0
      clear hi0 hIa hBa hBw hta hsa
      go_enter Try.func32, Try.ntmps32
      go_wp2_with fail
      (with_reducible refine (sized_calls z w).mono ?_)
      rintro ee w1 ⟨rfl, rfl⟩
      rw [HZ.out]
      go_wp2_with fail
      (with_reducible refine (tk_walk w0 w1 _ b g w1.heap.size (w1.heap.size + 1) p e z HI0.out hz0 hz1).mono ?_)
      rintro ee w2 ⟨rfl, hi⟩
      have HF := HF.out
      generalize takeK b p e z = s at hi HF
      generalize (walkP (twoK b) leafK 4 { data := #[] } z (p, e, [], [])).1 = bw
      obtain ⟨p2, e2, text, l⟩ := s
      obtain ⟨hi2, hb2, hk2, ⟨cs, hbd, hs3, h0⟩, ⟨hsg, v, hsb, hso⟩, hQ2, _, hw⟩ := hi
      simp only at hi2 hbd hsb hso hQ2 HF
      obtain ⟨A, c, rfl⟩ := own_slice hso
      have HI2 := Aside0.mk hi2
      have HB2 := Aside0.mk hb2
      have HK2 := Aside0.mk hk2
      have HBD := Aside0.mk hbd
      have HSB := Aside0.mk hsb
      have HSO := Aside0.mk hso
      have HW := Aside0.mk hw
      have HFF := Aside0.mk HF
      have HNE := Aside0.mk (show w1.heap.size ≠ g by have := hw.2; omega)
      have HNE1 := Aside0.mk (show w1.heap.size + 1 ≠ g by have := hw.2; omega)
      clear hi2 hb2 hk2 hbd hsb hso hw HF hQ2 HI0
      have hfl : pipe_Reader_Fail.f b p2 e2 = some (e2, p2, e2) := rfl
      have HFL := Aside0.mk hfl
      clear hfl
      by_cases he : e2 = 0
      · subst he
        have HF := HFF.out
        rw [if_neg (by simp)] at HF
        obtain ⟨rfl, rfl, rfl, rfl⟩ : ⟨text.toArray⟩ = r1 ∧ l = r2 ∧ p2 = r3 ∧ 0 = r4 := by simpa using HF
        clear HF
        go_wp2_with fail
        (with_reducible refine (pipe_Reader_Fail.calls g b p2 0 0 p2 0 w0 w2 HI2.out HB2.out HFL.out).mono ?_)
        rintro ee w3 ⟨rfl, hi3, hb3, hk3⟩
        have hn : w1.heap.size ≤ w3.heap.size := Nat.le_trans HK2.out.1 hk3.1
        have HBD3 := Aside0.mk ((HBD.out.but hk3 HW.out.2).base (X := cutW w3 w1.heap.size) (cutW_size hn))
        have HCB := Aside0.mk (cutW_below hn)
        have hsb3 := (hk3.2 _ (blk_lt HSB.out) HNE1.out (by simp)).trans HSB.out
        have hd0 : w3.cell? ⟨w1.heap.size + 1, 0, none⟩ = some (.slice A l.length c) := (blk_cell hsb3 0).trans rfl
        have HSZ3 := Aside0.mk (own_move HSO.out (w1 := w3) fun k hk' => hk3.2 k (HSO.out.lt k hk').2 (by have := (HSO.out.lt k hk').1; have := HW.out.2; omega) (by simp))
        have HI3 := Aside0.mk hi3
        have HB3 := Aside0.mk hb3
        have HK3 := Aside0.mk (HK2.out.trans hk3 (.inl rfl))
        have HN := Aside0.mk hn
        clear hi3 hb3 hk3 hn
        have hcl : ∀ w4 : World, KeepS w3 w4 → w4.cell? ⟨w1.heap.size + 1, 0, none⟩ = some (.slice A l.length c) := fun w4 h4 => (blk_cell (h4 _ _ _ (by decide) hsb3) 0).trans rfl
        have HCL := Aside0.mk hcl
        have hfin : ∀ w4 : World, Below (cutW w3 w1.heap.size).heap.size (cutW w3 w1.heap.size) w4 → KeepS w3 w4 → ∃ v0_ : Value, Ending.returned (.tuple #[.string ⟨text.toArray⟩, .slice A l.length c]) = .returned (.tuple #[.string ⟨text.toArray⟩, v0_]) ∧ Kd.R (Kd.int .i64) 3 w4 w1.heap.size (fun _ => True) v0_ l ∧ IsS109 w0 w4 g b p2 0 ∧ Below w0.heap.size w0 w4 ∧ KeepBut w1 w4 g none := by
          intro w4 hB4 h4
          have hn := HN.out
          have hsz : w1.heap.size ≤ w4.heap.size := by have := hB4.size; rw [cutW_size hn] at this; exact this
          have hblk : ∀ i, i < w1.heap.size → w4.heap[i]? = w3.heap[i]? := fun i hi => (hB4.block i (by rw [cutW_size hn]; exact hi)).trans ((cutW_below hn).block i (by rw [cutW_size hn]; exact hi)).symm
          refine ⟨_, rfl, Kd.R_of_own (own_move HSZ3.out fun k hk' => ?_) (fun _ _ => trivial), isS_move HI3.out (hblk _ HW.out.2), ⟨hB4.os.trans HB3.out.os, hB4.tape.trans HB3.out.tape, hB4.output.trans HB3.out.output, Nat.le_trans HW.out.1 hsz, fun i hi => (hblk i (by have := HW.out.1; omega)).trans (HB3.out.block i hi)⟩, ⟨hsz, fun i hi hne hn' => (hblk i hi).trans (HK3.out.2 i hi hne hn')⟩⟩
          obtain ⟨ds, hd⟩ := own_block HSZ3.out k hk'
          rw [h4 _ _ _ (by decide) hd, hd]
        have HFIN := Aside0.mk hfin
        clear hfin hcl hsb3
        have hd0' : w3.drew.cell? ⟨w1.heap.size + 1, 0, none⟩ = some (.slice A l.length c) := hd0
        go_wp2_with fail
        go_region_with (go_at_call 62; refine (bd_string2 (cutW w3 w1.heap.size) w3.drew w1.heap.size 113 cs text (below_drew HCB.out) HBD3.out).mono ?_; rintro ee w4 ⟨rfl, hB4, hX4⟩; have hd4 := HCL.out w4 hX4; have HB4 := Aside0.mk hB4; have HX4 := Aside0.mk hX4; clear hB4 hX4)
        all_goals go_wp2
        all_goals go_ret2
        all_goals exact HFIN.out w4 HB4.out HX4.out
      · have HF := HFF.out
        rw [if_pos he] at HF
        obtain ⟨rfl, rfl, rfl, rfl⟩ : { data := #[] } = r1 ∧ [] = r2 ∧ p2 = r3 ∧ e2 = r4 := by simpa using HF
        have heb : (e2 != 0) = true := by simp [he]
        clear HF he
        go_wp2_with fail
        (with_reducible refine (pipe_Reader_Fail.calls g b p2 e2 e2 p2 e2 w0 w2 HI2.out HB2.out HFL.out).mono ?_)
        rintro ee w3 ⟨rfl, hi3, hb3, hk3⟩
        have HI3 := Aside0.mk hi3
        have HB3 := Aside0.mk hb3
        have HK3 := Aside0.mk (HK2.out.trans hk3 (.inl rfl))
        clear hi3 hb3 hk3
        go_wp2
        go_ret2
        exact ⟨_, rfl, Kd.R_nil _ _ _ _ _, HI3.out, HB3.out, HK3.out⟩
    · rw [if_neg hQ] at h
      cases h
end Go.Proofs.Ytlebgjcpidpgnaa.P
