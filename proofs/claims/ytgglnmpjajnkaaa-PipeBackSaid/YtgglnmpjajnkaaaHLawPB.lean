/- The law PipeBack, walked: what it answers. -/
import Derived.Test.YtgglnmpjajnkaaaPx0
import Derived.Test.YtgglnmpjajnkaaaHThree
import Derived.Test.YtgglnmpjajnkaaaHLawPP
import Derived.Test.YtgglnmpjajnkaaaHEnd
import Derived.Test.YtgglnmpjajnkaaaPx1
import Derived.Test.YtgglnmpjajnkaaaPx2
import Derived.Sort.LoopGhostIn
import Derived.Deep.DeepCutAuto
namespace Go.Proofs.Ytgglnmpjajnkaaa.P
open Go Go.RowKit Go.Proofs.YtgglnmpjajnkaaaW.PrintWords Go.Proofs.YtgglnmpjajnkaaaW.PrintLast Go.Proofs.YtgglnmpjajnkaaaW.PrintMore
set_option linter.unusedVariables false
set_option linter.unusedSimpArgs false

/-- What could be put, and its bits. -/
def ownL : List S28 → List Bool → List S28 → List Bool × List S28
  | [], l, o => (l, o)
  | a :: r, l, o => if l.length < 8000 then (if doOk a.f0 a.f1 a.f2 = true then ownL r (doBits l a.f0 a.f1 a.f2) (o ++ [a]) else ownL r (doBits l a.f0 a.f1 a.f2) o) else ownL r l o
/-- It is taken. -/
def readL (k : Nat) (b : List Int) : List S28 → Int → Int → Option (Int × Int)
  | [], p, e => some (p, e)
  | a :: r, p, e => if a.f0 = 1 then (pipe_Reader_Take.f k b p e a.f2).bind fun t => if t.1 = a.f1 % 18446744073709551616 then readL k b r t.2.1 t.2.2 else none
    else if a.f0 = 2 then (pipe_Reader_Signed.f k b p e a.f2).bind fun t => if t.1 = a.f1 then readL k b r t.2.1 t.2.2 else none
    else if a.f0 = 3 then (pipe_Reader_Zeros.f k b p e 1000).bind fun t => if t.1 = a.f2 then readL k b r t.2.1 t.2.2 else none
    else if a.f0 = 4 then (pipe_Reader_Align.f k b p e).bind fun t => readL k b r t.1 t.2
    else readL k b r p e
def backEnd (k : Nat) (b : List Int) (p e : Int) : Option Bool :=
  if e ≠ 0 then none else (pipe_Reader_End.f k b p e).bind fun t => if t.1 ≠ 0 then none else (pipe_Reader_Left.f b t.2.1 t.2.2).bind fun n => if n.1 < 8 then some true else none
def sackbutlaw01_PipeBack.f (k : Nat) (ac : List S28) : Option Bool := if 60 < ac.length then some true else if ac.all actIn = false then none else
  (readL k (pack (ownL ac [] []).1) (ownL ac [] []).2 0 0).bind fun t => backEnd k (pack (ownL ac [] []).1) t.1 t.2
theorem readL_mono (k : Nat) (b : List Int) : ∀ (ac : List S28) (p e : Int), LeO (readL k b ac p e) (readL (k + 1) b ac p e) := by
  intro ac
  induction ac with
  | nil => intro p e; exact LeO.refl _
  | cons a r ih =>
    intro p e
    simp only [readL]
    split
    · refine LeO.bind (pipe_Reader_Take.mono _ _ _ _ _) (fun t => ?_)
      split
      · exact ih _ _
      · exact LeO.refl _
    · split
      · refine LeO.bind (pipe_Reader_Signed.mono _ _ _ _ _) (fun t => ?_)
        split
        · exact ih _ _
        · exact LeO.refl _
      · split
        · refine LeO.bind (pipe_Reader_Zeros.mono _ _ _ _ _) (fun t => ?_)
          split
          · exact ih _ _
          · exact LeO.refl _
        · split
          · exact LeO.bind (pipe_Reader_Align.mono _ _ _ _) (fun t => ih _ _)
          · exact ih _ _
theorem backEnd_mono (k : Nat) (b : List Int) (p e : Int) : LeO (backEnd k b p e) (backEnd (k + 1) b p e) := by
  unfold backEnd
  split
  · exact LeO.refl _
  · refine LeO.bind (pipe_Reader_End.mono _ _ _ _) (fun t => LeO.refl _)
theorem sackbutlaw01_PipeBack.mono (ac : List S28) (k : Nat) : LeO (sackbutlaw01_PipeBack.f k ac) (sackbutlaw01_PipeBack.f (k + 1) ac) := by
  unfold sackbutlaw01_PipeBack.f
  split
  · exact LeO.refl _
  · split
    · exact LeO.refl _
    · exact LeO.bind (readL_mono k _ _ _ _) (fun t => backEnd_mono k _ _ _)
theorem act_info : (Try.prog.info? 28).map (fun i => (i.zero, i.size, i.bytes)) = some (some (.agg #[.int .i64 0, .int .i64 0, .int .i64 0]), 3, 24) := by kernel_rfl
theorem isWr_other {w0 w : World} {g : Nat} {v : Value} {l : List Bool} (h : IsWr w0 w g v l) {b t : Nat} {cs : Array Value} (hb : w.heap[b]? = some (.cells cs t (0, 0))) (ht : 5 ≠ t) (ht2 : 26 ≠ t) : ¬ (b = g ∨ some b = v.ownBlock) := by
  rintro (rfl | hn)
  · have := h.1.symm.trans hb
    injection this with this
    injection this with _ this
    exact ht2 this
  · obtain ⟨cells, hc⟩ := own_typed h.2.2 b hn.symm
    rw [hb] at hc
    injection hc with hc
    injection hc with _ hc
    exact ht hc.symm
theorem acts_step {w0 w w' : World} {g base : Nat} {v v' vo : Value} {l : List Bool} {ok : Nat → Prop} {own : List S28} (h : IsWr w0 w g v l) (ho : Kd.R k28 28 w base ok vo own) (s : WrStep w0 w w' g v v') : Kd.R k28 28 w' base ok vo own :=
  Kd.R_mono (Kd.R_move (Kd.R_bound ho) (fun k hk => by
    obtain ⟨_, _, hlt, q, hq, cells, hc⟩ := hk
    have hq2 : q = 28 := by
      have : k28.E = [] := rfl
      rw [this] at hq
      simpa using hq
    subst hq2
    exact s.kept.2 k hlt (isWr_other h hc (by decide) (by decide)))) (fun _ hk => hk.1)
theorem isWr_grown {w0 w w' : World} {g base : Nat} {v vo : Value} {l : List Bool} {ok : Nat → Prop} {own : List S28} (h : IsWr w0 w g v l) (ho : Kd.R k28 28 w base ok vo own) (hg : w.grownBy w' vo.ownBlock) : IsWr w0 w' g v l :=
  ⟨blk_grown h.1 hg (Kd.R_ne ho h.1 (by decide)), h.2.1, own_move h.2.2 (fun k hk => by
    obtain ⟨cells, hc⟩ := own_typed h.2.2 k hk
    exact hg.block k (own_lt h.2.2 k hk) (Kd.R_ne ho hc (by decide)))⟩
def sackbutlaw01_PipeBack.T19 : Bool × List (List Nat × List Nat) := (true, [([], []), ([], []), ([1], [1]), ([0, 2], [0, 2]), ([], []), ([4], [4]), ([5], [5]), ([3, 6], [3, 6])])
def sackbutlaw01_PipeBack.B19 : List Nat := [0, 0, 2, 7, 0, 16, 48, 127]
theorem sackbutlaw01_PipeBack.tab19 : rtab .any (opsOf Try.f10 19) = sackbutlaw01_PipeBack.T19 := by kernel_rfl
theorem sackbutlaw01_PipeBack.bits19 : waitsOk sackbutlaw01_PipeBack.T19.2 sackbutlaw01_PipeBack.B19 = true := by kernel_rfl
def sackbutlaw01_PipeBack.T22 : Bool × List (List Nat × List Nat) := (true, [([], []), ([], []), ([1], [1]), ([0, 2], [0, 2]), ([], []), ([4], [4]), ([3, 5], [3, 5])])
def sackbutlaw01_PipeBack.B22 : List Nat := [0, 0, 2, 7, 0, 16, 63]
theorem sackbutlaw01_PipeBack.tab22 : rtab .any (opsOf Try.f10 22) = sackbutlaw01_PipeBack.T22 := by kernel_rfl
theorem sackbutlaw01_PipeBack.bits22 : waitsOk sackbutlaw01_PipeBack.T22.2 sackbutlaw01_PipeBack.B22 = true := by kernel_rfl
def sackbutlaw01_PipeBack.T25 : Bool × List (List Nat × List Nat) := (true, [([], []), ([0], [0]), ([], []), ([2], [2]), ([1, 3], [1, 3])])
def sackbutlaw01_PipeBack.B25 : List Nat := [0, 1, 0, 4, 15]
theorem sackbutlaw01_PipeBack.tab25 : rtab .any (opsOf Try.f10 25) = sackbutlaw01_PipeBack.T25 := by kernel_rfl
theorem sackbutlaw01_PipeBack.bits25 : waitsOk sackbutlaw01_PipeBack.T25.2 sackbutlaw01_PipeBack.B25 = true := by kernel_rfl
set_option maxHeartbeats 8000000 in
set_option maxRecDepth 100000 in
theorem sackbutlaw01_PipeBack.calls (k : Nat) (A0 : Option Addr) (c0 : Nat) (ac : List S28) (r : Bool) (w : World) (hr0 : Kd.C k28 w A0 ac.length ac) (hc0 : ac.length ≤ c0) (h : sackbutlaw01_PipeBack.f k ac = some r) :
    Calls Try.prog 10 #[.slice A0 ac.length c0] w fun e w' => e = .returned (.bool r) ∧ Below w.heap.size w w' := by
  have HR := Aside0.mk hr0
  have hu := Try.underlying28
  have hu2 := Try.underlying26
  unfold sackbutlaw01_PipeBack.f at h
  by_cases hq : 60 < ac.length
  · rw [if_pos hq] at h
    cases h
    have hqI : (60 : Int) < (ac.length : Int) := by omega
    clear hr0 hc0
    go_enter Try.func10, Try.ntmps10
    go_wp2_with fail
    (with_reducible refine (sackbutlaw01_awake.calls true _ rfl).mono ?_)
    rintro e w1 ⟨rfl, hb1⟩
    have HB1 := Aside0.mk hb1
    clear hb1
    go_wp2_with fail
    (with_reducible refine (sackbutlaw01_awake.calls true _ rfl).mono ?_)
    rintro e w2 ⟨rfl, hb2⟩
    have HB2 := Aside0.mk (below_then HB1.out HB1.out.size hb2)
    clear hb2
    go_wp2
    go_ret
    exact ⟨rfl, HB2.out⟩
  have hqI : (ac.length : Int) ≤ 60 := by omega
  rw [if_neg hq] at h
  have hall : ac.all actIn = true := by
    refine Decidable.byContradiction fun hn => ?_
    rw [if_pos (by simpa using hn)] at h
    cases h
  rw [if_neg (by simp [hall])] at h
  have HIN : Aside0 (∀ q ∈ ac, actIn q = true) := ⟨List.all_eq_true.1 hall⟩
  obtain ⟨RO, hRO⟩ : ∃ q, ownL ac [] [] = q := ⟨_, rfl⟩
  rw [hRO] at h
  have HF1 := Aside0.mk h
  have HRO := Aside0.mk hRO
  have HNN : Aside0 (ac.length ≤ 60) := ⟨by omega⟩
  clear hr0 h hq hc0 hall hRO
  go_enter Try.func10, Try.ntmps10
  go_wp2_with fail
  (with_reducible refine (sackbutlaw01_awake.calls true _ rfl).mono ?_)
  rintro e w1 ⟨rfl, hb1⟩
  have HB1 := Aside0.mk hb1
  clear hb1
  go_wp2_with fail
  have hw0 := isWr_new w w1 HB1.out
  have hbw := below_alloc HB1.out (.cells #[.slice none 0 0, .int .i64 0] 26)
  obtain ⟨gw, hgw⟩ : ∃ gw, w1.heap.size = gw := ⟨_, rfl⟩
  rw [hgw] at hw0 ⊢
  generalize w1.alloc (.cells #[.slice none 0 0, .int .i64 0] 26) = w2 at hw0 hbw ⊢
  have HW0 := Aside0.mk hw0
  have HB0 := Aside0.mk hbw
  clear hw0 hbw hgw HB1
  go_loopg [4, 20] ac.length (fun kq v4 vi wr => ∃ (i : Nat) (v : Value) (l : List Bool) (own : List S28), vi = .int .i64 i ∧ kq + i = ac.length ∧ Aside0 (ownL (ac.drop i) l own = RO) ∧ Aside0 (IsWr w wr gw v l) ∧ Aside0 (Kd.R k28 28 wr w.heap.size (fun _ => True) v4 own) ∧ Aside0 (Below w.heap.size w wr) ∧ Aside0 (l.length ≤ 9100 ∧ own.length ≤ i))
  case atStart => exact ⟨0, _, [], [], rfl, by omega, HRO, HW0, ⟨Kd.R_nil _ _ _ _ _⟩, HB0, ⟨by simp, by simp⟩⟩
  case round =>
    clear HW0 HB0 HRO
    obtain ⟨i, v, l, own, rfl, hk, HF, HW, HO, HB, HLN⟩ := hrel
    by_cases hlt : i < ac.length
    · have hme : gk - 1 < gk := by omega
      have hF := HF.out
      rw [drop_get hlt] at hF
      simp only [ownL] at hF
      have hrd : rd_T28 ac (i : Int) = ac[i] := by simp [rd_T28, hlt]
      have hlI : (i : Int) < (ac.length : Int) := by omega
      have h0I : (0 : Int) ≤ (i : Int) := by omega
      obtain ⟨ad, rfl, ha0, ha1, ha2⟩ := at_T28 HR.out (i : Int) h0I hlI
      replace ha0 := (HB.out.cell (World.block_lt_of_cell? w _ ha0)).trans ha0
      replace ha1 := (HB.out.cell (World.block_lt_of_cell? w _ ha1)).trans ha1
      replace ha2 := (HB.out.cell (World.block_lt_of_cell? w _ ha2)).trans ha2
      rw [hrd] at ha0 ha1 ha2
      have hin := HIN.out ac[i] (List.getElem_mem hlt)
      obtain ⟨act, hact⟩ : ∃ q, ac[i] = q := ⟨_, rfl⟩
      rw [hact] at hF ha0 ha1 ha2 hin
      clear hrd hact
      obtain ⟨a0, a1, a2⟩ := act
      simp only at hF ha0 ha1 ha2
      simp only [actIn, Bool.and_eq_true, decide_eq_true_eq] at hin
      have HOK := Aside0.mk hin
      have HF2 := Aside0.mk hF
      have hl1 := HB.out.size
      have HI := Aside0.mk hlt
      clear hF hin hlt HF
      rw [Int.toNat_natCast] at ha0 ha1 ha2
      have hbx := below_alloc (Below.refl wr.heap.size wr) (actO a0 a1 a2)
      have hbk := blk_new wr (actO a0 a1 a2)
      have HB3 := Aside0.mk (below_then HB.out HB.out.size hbx)
      have HW3 := Aside0.mk (isWr_below HW.out hbx)
      have HO3 := Aside0.mk (Kd.R_below HO.out hbx)
      have HBK := Aside0.mk hbk
      clear hbx hbk
      go_wp2_with fail
      (with_reducible refine (wr_Len w _ gw v l HW3.out).mono ?_)
      rintro e w4 ⟨rfl, rfl⟩
      by_cases h80 : l.length < 8000
      · have h80I : (l.length : Int) < 8000 := by omega
        have HL80 := Aside0.mk h80
        have hF := HF2.out
        rw [if_pos h80] at hF
        have HF4 := Aside0.mk hF
        have hcall := wr_do w (wr.alloc (actO a0 a1 a2)) gw v l a0 a1 a2 HOK.out.1 HOK.out.2 HB3.out HW3.out (by have := HLN.out.1; omega)
        have hdl := doBits_len l a0 a1 a2
        obtain ⟨L, hL⟩ : ∃ L, doBits l a0 a1 a2 = L := ⟨_, rfl⟩
        obtain ⟨ok, hok⟩ : ∃ q : Bool, doOk a0 a1 a2 = q := ⟨_, rfl⟩
        rw [hL, hok] at hcall
        rw [hL] at hdl
        rw [hL, hok] at HF4
        have HCALL := Aside0.mk hcall
        have HDL := Aside0.mk hdl
        clear hF h80 HF2 hcall hL hok hdl
        go_wp2_with fail
        (with_reducible refine (HCALL.out).mono ?_)
        rintro e w5 ⟨rfl, v5, hw5, hs5⟩
        have hbk5 := (hs5.kept.2 _ (blk_lt HBK.out) (isWr_other HW3.out HBK.out (by decide) (by decide))).trans HBK.out
        have HW5 := Aside0.mk hw5
        have HB5 := Aside0.mk hs5.below
        have HO5 := Aside0.mk (acts_step HW3.out HO3.out hs5)
        obtain ⟨ga, hga⟩ : ∃ ga, wr.heap.size = ga := ⟨_, rfl⟩
        rw [hga] at hbk5 ⊢
        have hA0 := (blk_cell hbk5 0).trans rfl
        have hA1 := (blk_cell hbk5 1).trans rfl
        have hA2 := (blk_cell hbk5 2).trans rfl
        clear hw5 hs5 hbk5 hga HBK HW3 HB3 HO3 ha0 ha1 ha2 hl1 HCALL HW HO HB
        cases ok with
        | false =>
          have hF := HF4.out
          rw [if_neg (by simp)] at hF
          have HF3 := Aside0.mk hF
          clear hF HF4
          go_wp2
          go_roundg (gk - 1)
          case rel => exact ⟨i + 1, v5, L, own, by first | rfl | (congr 1), by omega, HF3, HW5, HO5, HB5, ⟨by have := HDL.out; have := HL80.out; omega, by have := HLN.out.2; omega⟩⟩
          case measure => exact hme
        | true =>
          have hF := HF4.out
          rw [if_pos rfl] at hF
          have HF3 := Aside0.mk hF
          clear hF HF4
          have hsz5 := HB5.out.size
          go_wp2_with (at_builtin; refine Kd.R_append k28 (w0 := w) w.heap.size rfl (.tmp 30) (.tmp 32) 22 28 (.agg #[.int .i64 0, .int .i64 0, .int .i64 0]) 24 rfl Try.underlying22 act_info rfl (by decide) (by decide) u4 own ⟨a0, a1, a2⟩ [.int .i64 a0, .int .i64 a1, .int .i64 a2] (fun _ => True) (fun _ => False) rfl rfl ?aP (fun _ hk => hk.elim) ?aF ?aO ?aB ?aS ?aL ?_)
          case aP => exact k28_mkM _ _ _ _
          case aF => exact fun _ _ => trivial
          case aO => exact HO5.out
          case aB => exact HB5.out
          case aS => exact hsz5
          case aL => have := HLN.out.2; have := HI.out; have := HNN.out; omega
          intro v6 w6 hr6 hb6 hg6 hat6
          have HO6 := Aside0.mk hr6
          have HB6 := Aside0.mk hb6
          have HW6 := Aside0.mk (isWr_grown HW5.out HO5.out hg6)
          clear hr6 hb6 hg6 hat6 hsz5 HW5 HB5 HO5 hA0 hA1 hA2
          go_wp2
          go_roundg (gk - 1)
          case rel => exact ⟨i + 1, v5, L, own ++ [⟨a0, a1, a2⟩], by first | rfl | (congr 1), by omega, HF3, HW6, HO6, HB6, ⟨by have := HDL.out; have := HL80.out; omega, by have := HLN.out.2; simp; omega⟩⟩
          case measure => exact hme
      · have h80I : ¬ (l.length : Int) < 8000 := by omega
        have hF := HF2.out
        rw [if_neg h80] at hF
        have HF3 := Aside0.mk hF
        clear hF h80
        go_wp2
        go_roundg (gk - 1)
        case rel => exact ⟨i + 1, v, l, own, by first | rfl | (congr 1), by omega, HF3, HW3, HO3, HB3, ⟨HLN.out.1, by have := HLN.out.2; omega⟩⟩
        case measure => exact hme
    · have hi : i = ac.length := by omega
      have hF := HF.out
      rw [hi, List.drop_length] at hF
      simp only [ownL] at hF
      have hlI : ¬ (i : Int) < (ac.length : Int) := by omega
      have hE := HF1.out
      rw [← hF] at hE
      simp only at hE
      obtain ⟨⟨pE, eE⟩, hrl, hbe⟩ := Option.bind_eq_some_iff.mp hE
      simp only at hbe
      have HRL := Aside0.mk hrl
      have HBE := Aside0.mk hbe
      have HLB := Aside0.mk HLN.out.1
      have HOL : Aside0 (own.length ≤ 60) := ⟨by have := HLN.out.2; have := HNN.out; omega⟩
      clear hF hE hlt hi HF HF1 hk HLN hrl hbe HR
      go_wp2_with fail
      (with_reducible refine (wr_Bytes w wr gw v l HW.out (by have := HLB.out; omega)).mono ?_)
      rintro ee w7 ⟨vb, rfl, ho7, hb7⟩
      obtain ⟨Ab, cb, rfl, hle7, hC7⟩ := owns_reads ho7
      have HB7 := Aside0.mk (below_then HB.out HB.out.size hb7)
      have HO7 := Aside0.mk (Kd.R_below HO.out hb7)
      have HBL : Aside0 ((pack l).length ≤ 2000) := ⟨by rw [pack_length]; have := HLB.out; omega⟩
      obtain ⟨bs, hbs⟩ : ∃ q, pack l = q := ⟨_, rfl⟩
      rw [hbs] at hle7 hC7 HRL HBE HBL ⊢
      have HC7 := Aside0.mk hC7
      have HLE7 := Aside0.mk hle7
      clear ho7 hb7 hle7 hC7 hbs HW HB HO
      go_wp2_with fail
      (with_reducible refine (pipe_Open.calls Ab cb bs bs 0 0 w7 w7 (Below.refl _ _) HC7.out HLE7.out rfl).mono ?_)
      rintro ee w9 ⟨gr, rfl, hi9, hb9, hb9'⟩
      have HI9 := Aside0.mk hi9
      have HB9 := Aside0.mk hb9
      have HO9 := Aside0.mk (Kd.R_mono (hi9.apart (Kd.R_below HO7.out hb9') (by decide)) (fun _ hk_ => hk_.2))
      obtain ⟨A2, c2, rfl⟩ := Kd.R_slice HO9.out
      clear hi9 hb9 hb9' HO7 HC7 HLE7
      have hnl : (own.length : Int) ≤ 60 := by have := HOL.out; omega
      go_wp2_with fail
      obtain ⟨wo, rfl⟩ : ∃ wo : World, wo = wr := ⟨_, rfl⟩
      go_loopg [41] own.length (fun kq vi wr => ∃ (i : Nat) (p e : Int), vi = .int .i64 i ∧ kq + i = own.length ∧ Aside0 (readL k bs (own.drop i) p e = some (pE, eE)) ∧ Aside0 (IsS75 w7 wr gr bs p e) ∧ Aside0 (Below w7.heap.size w7 wr) ∧ Aside0 (Kd.R k28 28 wr w.heap.size (fun k => k ≠ gr) (.slice A2 own.length c2) own))
      case atStart => exact ⟨0, 0, 0, rfl, by omega, HRL, HI9, HB9, HO9⟩
      case round =>
        clear HRL HI9 HB9 HO9
        obtain ⟨i, p, e, rfl, hk, HF, HI0, HB0, HR0⟩ := hrel
        by_cases hlt : i < own.length
        · have hme : gk - 1 < gk := by omega
          have hF := HF.out
          rw [drop_get hlt] at hF
          simp only [readL] at hF
          have hrd : rd_T28 own (i : Int) = own[i] := by simp [rd_T28, hlt]
          have hlI : (i : Int) < (own.length : Int) := by omega
          have h0I : (0 : Int) ≤ (i : Int) := by omega
          obtain ⟨A3, c3, he3, _, hC3⟩ := Kd.R_reads HR0.out
          cases he3
          obtain ⟨ad, rfl, ha0, ha1, ha2⟩ := at_T28 hC3 (i : Int) h0I hlI
          rw [hrd] at ha0 ha1 ha2
          obtain ⟨act, hact⟩ : ∃ q, own[i] = q := ⟨_, rfl⟩
          rw [hact] at hF ha0 ha1 ha2
          clear hrd hact hC3
          obtain ⟨a0, a1, a2⟩ := act
          simp only at hF ha0 ha1 ha2
          have HF2 := Aside0.mk hF
          have hl1 := HB0.out.size
          have hbx := below_alloc (Below.refl wr.heap.size wr) (actO a0 a1 a2)
          have HB8 := Aside0.mk (below_then HB0.out HB0.out.size hbx)
          have HI8 := Aside0.mk (HI0.out.below hbx)
          have HR8 := Aside0.mk (Kd.R_below HR0.out hbx)
          have HA8 := Aside0.mk (blk_new wr (actO a0 a1 a2))
          clear hF hlt HF hbx HB0 HI0 HR0
          rw [Int.toNat_natCast] at ha0 ha1 ha2
          by_cases h1 : a0 = 1
          · have hF := HF2.out
            rw [if_pos h1] at hF
            obtain ⟨⟨t1, p2, e2⟩, htk, hF⟩ := Option.bind_eq_some_iff.mp hF
            have hte : t1 = a1 % 18446744073709551616 := by
              refine Decidable.byContradiction fun hn => ?_
              rw [if_neg hn] at hF
              cases hF
            rw [if_pos hte] at hF
            have HF3 := Aside0.mk hF
            have HTK := Aside0.mk htk
            have hcv : IntKind.u64.wrap a1 = t1 := by rw [IntKind.wrap_u64, hte]
            have hk1 : (a0 == 1) = true := by simp [h1]
            clear hF htk hte HF2 h1
            go_wp2_with fail
            obtain ⟨ga, hga⟩ : ∃ ga, wr.heap.size = ga := ⟨_, rfl⟩
            rw [hga] at HA8 ⊢
            generalize wr.alloc (actO a0 a1 a2) = w8 at HB8 HI8 HR8 HA8 ⊢
            have HNE : Aside0 (ga ≠ gr) := ⟨(HI8.out.ne_blk HA8.out (by decide)).symm⟩
            clear ha0 ha1 ha2 hl1 hga
            refine start_ (n := 8) (S := fun w' => True) (ds := []) #[false, false, false, false, false, false, false, false] (by kernel_rfl) rfl rfl trivial (fun hHeld => ?_)
            refine with_tabW sackbutlaw01_PipeBack.tab19 sackbutlaw01_PipeBack.bits19 (fun HT_ HW_ => ?_)
            obtain ⟨wd, hwd⟩ : ∃ wd, w8.drew = wd := ⟨_, rfl⟩
            rw [hwd]
            have HBD : Aside0 (Below w7.heap.size w7 wd) := ⟨by rw [← hwd]; exact below_drew HB8.out⟩
            have HAD : Aside0 (wd.heap[ga]? = some (actO a0 a1 a2)) := ⟨by rw [← hwd]; exact blk_drew HA8.out⟩
            have HID : Aside0 (IsS75 w7 wd gr bs p e) := ⟨by rw [← hwd]; exact HI8.out.drew⟩
            have HRD : Aside0 (Kd.R k28 28 wd w.heap.size (fun k => k ≠ gr) (.slice (some ad) own.length c2) own) := ⟨by rw [← hwd]; exact Kd.R_below HR8.out (below_drew (Below.refl w8.heap.size w8))⟩
            clear hwd hHeld
            refine inv_at [0, 1, 2, 3, 4, 5, 6, 7] (fun a0_ b a w' => a = putSel a0_ b [(0, 49, .pointer (some ⟨gr, 0, none⟩)), (1, 50, .pointer (some ⟨ga, 2, none⟩)), (2, 51, .int .i64 a2), (3, 52, .int .u64 t1), (4, 53, .pointer (some ⟨ga, 1, none⟩)), (5, 54, .int .i64 a1), (6, 55, .int .u64 t1), (7, 56, .bool false)] ∧ (Below w7.heap.size w7 w') ∧ (w'.heap[ga]? = some (actO a0 a1 a2)) ∧ (KeepBut wd w' gr none) ∧ (b 3 = false → IsS75 w7 w' gr bs p e) ∧ (b 3 = true → IsS75 w7 w' gr bs p2 e2)) HT_.out HW_.out (by kernel_rfl) (by kernel_rfl) ?_ ?_ ?_
            · exact ⟨by simp only [putSel, Bool.false_eq_true, if_false], HBD.out, HAD.out, KeepBut.refl _ _ _, fun _ => HID.out, fun h_ => absurd h_ (by decide)⟩
            · skip
              refine steps_cons ?_ ?_
              · rintro b a w' ⟨ha, Q_FB, Q_FA, Q_FK, Q_I0, Q_I1⟩ hb_ hon hoff
                refine ⟨_, rfl, fun K hK => ?_⟩
                have e7 : a.tmps[7]? = some (.pointer (some ⟨gr, 0, none⟩)) := by rw [ha]; exact (putSel_off rfl).trans rfl
                replace ha := Aside0.mk ha
                have FB := Aside0.mk Q_FB
                have FA := Aside0.mk Q_FA
                have FK := Aside0.mk Q_FK
                have I0 := Aside0.mk (Q_I0 (hoff 3 (by kernel_rfl)))
                refine value_ (w1 := w') (v := .pointer (some ⟨gr, 0, none⟩)) (by rfl) rfl ?_ ?_
                · go_simp
                  (try simp only [i64_w])
                  try rfl
                refine hK.out _ _ ⟨(by rw [ha.out]; exact putSel_upk 0 hb_ rfl rfl rfl), Q_FB, Q_FA, Q_FK, Q_I0, fun h0_ => absurd ((hoff 3 (by kernel_rfl)).symm.trans h0_) (by decide)⟩
              refine steps_cons ?_ ?_
              · rintro b a w' ⟨ha, Q_FB, Q_FA, Q_FK, Q_I0, Q_I1⟩ hb_ hon hoff
                refine ⟨_, rfl, fun K hK => ?_⟩
                have e9 : a.tmps[9]? = some (.pointer (some ⟨ga, 0, none⟩)) := by rw [ha]; exact (putSel_off rfl).trans rfl
                replace ha := Aside0.mk ha
                have FB := Aside0.mk Q_FB
                have FA := Aside0.mk Q_FA
                have FK := Aside0.mk Q_FK
                have I0 := Aside0.mk (Q_I0 (hoff 3 (by kernel_rfl)))
                refine value_ (w1 := w') (v := .pointer (some ⟨ga, 2, none⟩)) (by rfl) rfl ?_ ?_
                · go_simp
                  (try simp only [i64_w])
                  try rfl
                refine hK.out _ _ ⟨(by rw [ha.out]; exact putSel_upk 1 hb_ rfl rfl rfl), Q_FB, Q_FA, Q_FK, Q_I0, fun h0_ => absurd ((hoff 3 (by kernel_rfl)).symm.trans h0_) (by decide)⟩
              refine steps_cons ?_ ?_
              · rintro b a w' ⟨ha, Q_FB, Q_FA, Q_FK, Q_I0, Q_I1⟩ hb_ hon hoff
                refine ⟨_, rfl, fun K hK => ?_⟩
                have e50 : a.tmps[50]? = some (.pointer (some ⟨ga, 2, none⟩)) := by rw [ha]; exact putSel_on (e := (1, 50, .pointer (some ⟨ga, 2, none⟩))) 1 rfl rfl (hon 1 (by kernel_rfl)) rfl
                replace ha := Aside0.mk ha
                have FB := Aside0.mk Q_FB
                have FA := Aside0.mk Q_FA
                have FK := Aside0.mk Q_FK
                have I0 := Aside0.mk (Q_I0 (hoff 3 (by kernel_rfl)))
                have hA_ := FA.out
                have hx_ := (blk_cell hA_ 2).trans rfl
                refine value_ (w1 := w') (v := .int .i64 a2) (by rfl) rfl ?_ ?_
                · go_simp
                  (try simp only [i64_w])
                  try rfl
                refine hK.out _ _ ⟨(by rw [ha.out]; exact putSel_upk 2 hb_ rfl rfl rfl), Q_FB, Q_FA, Q_FK, Q_I0, fun h0_ => absurd ((hoff 3 (by kernel_rfl)).symm.trans h0_) (by decide)⟩
              refine steps_cons ?_ ?_
              · rintro b a w' ⟨ha, Q_FB, Q_FA, Q_FK, Q_I0, Q_I1⟩ hb_ hon hoff
                refine ⟨_, rfl, fun K hK => ?_⟩
                have e49 : a.tmps[49]? = some (.pointer (some ⟨gr, 0, none⟩)) := by rw [ha]; exact putSel_on (e := (0, 49, .pointer (some ⟨gr, 0, none⟩))) 0 rfl rfl (hon 0 (by kernel_rfl)) rfl
                have e51 : a.tmps[51]? = some (.int .i64 a2) := by rw [ha]; exact putSel_on (e := (2, 51, .int .i64 a2)) 2 rfl rfl (hon 2 (by kernel_rfl)) rfl
                replace ha := Aside0.mk ha
                have FB := Aside0.mk Q_FB
                have FA := Aside0.mk Q_FA
                have FK := Aside0.mk Q_FK
                have I0 := Aside0.mk (Q_I0 hb_)
                refine goes_ Try.func28 (by kernel_rfl) rfl #[.pointer (some ⟨gr, 0, none⟩), .int .i64 a2] (by rfl) rfl rfl (by first | (simp only [List.map_toArray, List.map_cons, List.map_nil, Act.eval, Array.getD_eq_getD_getElem?, Option.getD_some, e49, e51]; done) | (simp only [List.map_toArray, List.map_cons, List.map_nil, Act.eval, Array.getD_eq_getD_getElem?, Option.getD_some, e49, e51]; rfl)) ?_
                (with_reducible refine (pipe_Reader_Take.calls k gr bs p e a2 t1 p2 e2 w7 w' I0.out FB.out HTK.out).mono ?_)
                rintro e w1_ ⟨rfl, hi_, hb2_, hk_⟩
                refine ⟨_, rfl, ?_⟩
                refine hK.out _ _ ⟨(by rw [ha.out]; exact putSel_upk 3 hb_ rfl rfl rfl), hb2_, (hk_.2 _ (blk_lt FA.out) HNE.out (by simp)).trans FA.out, FK.out.trans hk_ (.inl rfl), fun h0_ => absurd ((up_self b 3).symm.trans h0_) (by decide), fun _ => hi_⟩
              refine steps_cons ?_ ?_
              · rintro b a w' ⟨ha, Q_FB, Q_FA, Q_FK, Q_I0, Q_I1⟩ hb_ hon hoff
                refine ⟨_, rfl, fun K hK => ?_⟩
                have e9 : a.tmps[9]? = some (.pointer (some ⟨ga, 0, none⟩)) := by rw [ha]; exact (putSel_off rfl).trans rfl
                replace ha := Aside0.mk ha
                have FB := Aside0.mk Q_FB
                have FA := Aside0.mk Q_FA
                have FK := Aside0.mk Q_FK
                refine value_ (w1 := w') (v := .pointer (some ⟨ga, 1, none⟩)) (by rfl) rfl ?_ ?_
                · go_simp
                  (try simp only [i64_w])
                  try rfl
                refine hK.out _ _ ⟨(by rw [ha.out]; exact putSel_upk 4 hb_ rfl rfl rfl), Q_FB, Q_FA, Q_FK, Q_I0, Q_I1⟩
              refine steps_cons ?_ ?_
              · rintro b a w' ⟨ha, Q_FB, Q_FA, Q_FK, Q_I0, Q_I1⟩ hb_ hon hoff
                refine ⟨_, rfl, fun K hK => ?_⟩
                have e53 : a.tmps[53]? = some (.pointer (some ⟨ga, 1, none⟩)) := by rw [ha]; exact putSel_on (e := (4, 53, .pointer (some ⟨ga, 1, none⟩))) 4 rfl rfl (hon 4 (by kernel_rfl)) rfl
                replace ha := Aside0.mk ha
                have FB := Aside0.mk Q_FB
                have FA := Aside0.mk Q_FA
                have FK := Aside0.mk Q_FK
                have hA_ := FA.out
                have hx_ := (blk_cell hA_ 1).trans rfl
                refine value_ (w1 := w') (v := .int .i64 a1) (by rfl) rfl ?_ ?_
                · go_simp
                  (try simp only [i64_w])
                  try rfl
                refine hK.out _ _ ⟨(by rw [ha.out]; exact putSel_upk 5 hb_ rfl rfl rfl), Q_FB, Q_FA, Q_FK, Q_I0, Q_I1⟩
              refine steps_cons ?_ ?_
              · rintro b a w' ⟨ha, Q_FB, Q_FA, Q_FK, Q_I0, Q_I1⟩ hb_ hon hoff
                refine ⟨_, rfl, fun K hK => ?_⟩
                have e54 : a.tmps[54]? = some (.int .i64 a1) := by rw [ha]; exact putSel_on (e := (5, 54, .int .i64 a1)) 5 rfl rfl (hon 5 (by kernel_rfl)) rfl
                replace ha := Aside0.mk ha
                have FB := Aside0.mk Q_FB
                have FA := Aside0.mk Q_FA
                have FK := Aside0.mk Q_FK
                refine value_ (w1 := w') (v := .int .u64 t1) (by rfl) rfl ?_ ?_
                · go_simp
                  (try simp only [i64_w])
                  try rfl
                refine hK.out _ _ ⟨(by rw [ha.out]; exact putSel_upk 6 hb_ rfl rfl rfl), Q_FB, Q_FA, Q_FK, Q_I0, Q_I1⟩
              refine steps_cons ?_ ?_
              · rintro b a w' ⟨ha, Q_FB, Q_FA, Q_FK, Q_I0, Q_I1⟩ hb_ hon hoff
                refine ⟨_, rfl, fun K hK => ?_⟩
                have e52 : a.tmps[52]? = some (.int .u64 t1) := by rw [ha]; exact putSel_on (e := (3, 52, .int .u64 t1)) 3 rfl rfl (hon 3 (by kernel_rfl)) rfl
                have e55 : a.tmps[55]? = some (.int .u64 t1) := by rw [ha]; exact putSel_on (e := (6, 55, .int .u64 t1)) 6 rfl rfl (hon 6 (by kernel_rfl)) rfl
                replace ha := Aside0.mk ha
                have FB := Aside0.mk Q_FB
                have FA := Aside0.mk Q_FA
                have FK := Aside0.mk Q_FK
                have I1 := Aside0.mk (Q_I1 (hon 3 (by kernel_rfl)))
                refine value_ (w1 := w') (v := .bool false) (by rfl) rfl ?_ ?_
                · go_simp
                  (try simp only [i64_w])
                  try rfl
                refine hK.out _ _ ⟨(by rw [ha.out]; exact putSel_upk 7 hb_ rfl rfl rfl), Q_FB, Q_FA, Q_FK, fun h0_ => absurd ((hon 3 (by kernel_rfl)).symm.trans h0_) (by decide), Q_I1⟩
              exact steps_nil
            · rintro b a w' hall ⟨ha, Q_FB, Q_FA, Q_FK, Q_I0, Q_I1⟩
              have hb0_ := hall 0 (by kernel_rfl)
              have hb1_ := hall 1 (by kernel_rfl)
              have hb2_ := hall 2 (by kernel_rfl)
              have hb3_ := hall 3 (by kernel_rfl)
              have hb4_ := hall 4 (by kernel_rfl)
              have hb5_ := hall 5 (by kernel_rfl)
              have hb6_ := hall 6 (by kernel_rfl)
              have hb7_ := hall 7 (by kernel_rfl)
              subst ha
              simp only [putSel, hb0_, hb1_, hb2_, hb3_, hb4_, hb5_, hb6_, hb7_, if_true, Act.put, List.setIfInBounds_toArray, List.set_cons_zero, List.set_cons_succ]
              have FB := Aside0.mk Q_FB
              clear Q_FB
              have FA := Aside0.mk Q_FA
              clear Q_FA
              have FK := Aside0.mk Q_FK
              clear Q_FK
              clear Q_I0
              have I1 := Aside0.mk (Q_I1 hb3_)
              clear Q_I1
              clear hall hb0_ hb1_ hb2_ hb3_ hb4_ hb5_ hb6_ hb7_
              have HB9 := Aside0.mk FB.out
              have HI9 := Aside0.mk I1.out
              have HR9 := Aside0.mk (Kd.R_keep HRD.out FK.out (fun _ hk_ => hk_))
              clear FB I1 FK FA HRD
              go_wp2
              go_roundg (gk - 1)
              case rel => exact ⟨i + 1, p2, e2, by first | rfl | (congr 1), by omega, HF3, HI9, HB9, HR9⟩
              case measure => exact hme
          · by_cases h2 : a0 = 2
            · have hF := HF2.out
              rw [if_neg h1, if_pos h2] at hF
              obtain ⟨⟨t1, p2, e2⟩, htk, hF⟩ := Option.bind_eq_some_iff.mp hF
              have hte : t1 = a1 := by
                refine Decidable.byContradiction fun hn => ?_
                rw [if_neg hn] at hF
                cases hF
              rw [if_pos hte] at hF
              have hte2 := hte.symm
              subst hte2
              have HF3 := Aside0.mk hF
              have HTK := Aside0.mk htk
              have hk1 : (a0 == 1) = false := by simp [h1]
              have hk2 : (a0 == 2) = true := by simp [h2]
              clear hF htk HF2 h1 h2
              go_wp2_with fail
              obtain ⟨ga, hga⟩ : ∃ ga, wr.heap.size = ga := ⟨_, rfl⟩
              rw [hga] at HA8 ⊢
              generalize wr.alloc (actO a0 a1 a2) = w8 at HB8 HI8 HR8 HA8 ⊢
              have HNE : Aside0 (ga ≠ gr) := ⟨(HI8.out.ne_blk HA8.out (by decide)).symm⟩
              clear ha0 ha1 ha2 hl1 hga
              refine start_ (n := 7) (S := fun w' => True) (ds := []) #[false, false, false, false, false, false, false] (by kernel_rfl) rfl rfl trivial (fun hHeld => ?_)
              refine with_tabW sackbutlaw01_PipeBack.tab22 sackbutlaw01_PipeBack.bits22 (fun HT_ HW_ => ?_)
              obtain ⟨wd, hwd⟩ : ∃ wd, w8.drew = wd := ⟨_, rfl⟩
              rw [hwd]
              have HBD : Aside0 (Below w7.heap.size w7 wd) := ⟨by rw [← hwd]; exact below_drew HB8.out⟩
              have HAD : Aside0 (wd.heap[ga]? = some (actO a0 a1 a2)) := ⟨by rw [← hwd]; exact blk_drew HA8.out⟩
              have HID : Aside0 (IsS75 w7 wd gr bs p e) := ⟨by rw [← hwd]; exact HI8.out.drew⟩
              have HRD : Aside0 (Kd.R k28 28 wd w.heap.size (fun k => k ≠ gr) (.slice (some ad) own.length c2) own) := ⟨by rw [← hwd]; exact Kd.R_below HR8.out (below_drew (Below.refl w8.heap.size w8))⟩
              clear hwd hHeld
              refine inv_at [0, 1, 2, 3, 4, 5, 6] (fun a0_ b a w' => a = putSel a0_ b [(0, 59, .pointer (some ⟨gr, 0, none⟩)), (1, 60, .pointer (some ⟨ga, 2, none⟩)), (2, 61, .int .i64 a2), (3, 62, .int .i64 a1), (4, 63, .pointer (some ⟨ga, 1, none⟩)), (5, 64, .int .i64 a1), (6, 65, .bool false)] ∧ (Below w7.heap.size w7 w') ∧ (w'.heap[ga]? = some (actO a0 a1 a2)) ∧ (KeepBut wd w' gr none) ∧ (b 3 = false → IsS75 w7 w' gr bs p e) ∧ (b 3 = true → IsS75 w7 w' gr bs p2 e2)) HT_.out HW_.out (by kernel_rfl) (by kernel_rfl) ?_ ?_ ?_
              · exact ⟨by simp only [putSel, Bool.false_eq_true, if_false], HBD.out, HAD.out, KeepBut.refl _ _ _, fun _ => HID.out, fun h_ => absurd h_ (by decide)⟩
              · skip
                refine steps_cons ?_ ?_
                · rintro b a w' ⟨ha, Q_FB, Q_FA, Q_FK, Q_I0, Q_I1⟩ hb_ hon hoff
                  refine ⟨_, rfl, fun K hK => ?_⟩
                  have e7 : a.tmps[7]? = some (.pointer (some ⟨gr, 0, none⟩)) := by rw [ha]; exact (putSel_off rfl).trans rfl
                  replace ha := Aside0.mk ha
                  have FB := Aside0.mk Q_FB
                  have FA := Aside0.mk Q_FA
                  have FK := Aside0.mk Q_FK
                  have I0 := Aside0.mk (Q_I0 (hoff 3 (by kernel_rfl)))
                  refine value_ (w1 := w') (v := .pointer (some ⟨gr, 0, none⟩)) (by rfl) rfl ?_ ?_
                  · go_simp
                    (try simp only [i64_w])
                    try rfl
                  refine hK.out _ _ ⟨(by rw [ha.out]; exact putSel_upk 0 hb_ rfl rfl rfl), Q_FB, Q_FA, Q_FK, Q_I0, fun h0_ => absurd ((hoff 3 (by kernel_rfl)).symm.trans h0_) (by decide)⟩
                refine steps_cons ?_ ?_
                · rintro b a w' ⟨ha, Q_FB, Q_FA, Q_FK, Q_I0, Q_I1⟩ hb_ hon hoff
                  refine ⟨_, rfl, fun K hK => ?_⟩
                  have e9 : a.tmps[9]? = some (.pointer (some ⟨ga, 0, none⟩)) := by rw [ha]; exact (putSel_off rfl).trans rfl
                  replace ha := Aside0.mk ha
                  have FB := Aside0.mk Q_FB
                  have FA := Aside0.mk Q_FA
                  have FK := Aside0.mk Q_FK
                  have I0 := Aside0.mk (Q_I0 (hoff 3 (by kernel_rfl)))
                  refine value_ (w1 := w') (v := .pointer (some ⟨ga, 2, none⟩)) (by rfl) rfl ?_ ?_
                  · go_simp
                    (try simp only [i64_w])
                    try rfl
                  refine hK.out _ _ ⟨(by rw [ha.out]; exact putSel_upk 1 hb_ rfl rfl rfl), Q_FB, Q_FA, Q_FK, Q_I0, fun h0_ => absurd ((hoff 3 (by kernel_rfl)).symm.trans h0_) (by decide)⟩
                refine steps_cons ?_ ?_
                · rintro b a w' ⟨ha, Q_FB, Q_FA, Q_FK, Q_I0, Q_I1⟩ hb_ hon hoff
                  refine ⟨_, rfl, fun K hK => ?_⟩
                  have e60 : a.tmps[60]? = some (.pointer (some ⟨ga, 2, none⟩)) := by rw [ha]; exact putSel_on (e := (1, 60, .pointer (some ⟨ga, 2, none⟩))) 1 rfl rfl (hon 1 (by kernel_rfl)) rfl
                  replace ha := Aside0.mk ha
                  have FB := Aside0.mk Q_FB
                  have FA := Aside0.mk Q_FA
                  have FK := Aside0.mk Q_FK
                  have I0 := Aside0.mk (Q_I0 (hoff 3 (by kernel_rfl)))
                  have hA_ := FA.out
                  have hx_ := (blk_cell hA_ 2).trans rfl
                  refine value_ (w1 := w') (v := .int .i64 a2) (by rfl) rfl ?_ ?_
                  · go_simp
                    (try simp only [i64_w])
                    try rfl
                  refine hK.out _ _ ⟨(by rw [ha.out]; exact putSel_upk 2 hb_ rfl rfl rfl), Q_FB, Q_FA, Q_FK, Q_I0, fun h0_ => absurd ((hoff 3 (by kernel_rfl)).symm.trans h0_) (by decide)⟩
                refine steps_cons ?_ ?_
                · rintro b a w' ⟨ha, Q_FB, Q_FA, Q_FK, Q_I0, Q_I1⟩ hb_ hon hoff
                  refine ⟨_, rfl, fun K hK => ?_⟩
                  have e59 : a.tmps[59]? = some (.pointer (some ⟨gr, 0, none⟩)) := by rw [ha]; exact putSel_on (e := (0, 59, .pointer (some ⟨gr, 0, none⟩))) 0 rfl rfl (hon 0 (by kernel_rfl)) rfl
                  have e61 : a.tmps[61]? = some (.int .i64 a2) := by rw [ha]; exact putSel_on (e := (2, 61, .int .i64 a2)) 2 rfl rfl (hon 2 (by kernel_rfl)) rfl
                  replace ha := Aside0.mk ha
                  have FB := Aside0.mk Q_FB
                  have FA := Aside0.mk Q_FA
                  have FK := Aside0.mk Q_FK
                  have I0 := Aside0.mk (Q_I0 hb_)
                  refine goes_ Try.func35 (by kernel_rfl) rfl #[.pointer (some ⟨gr, 0, none⟩), .int .i64 a2] (by rfl) rfl rfl (by first | (simp only [List.map_toArray, List.map_cons, List.map_nil, Act.eval, Array.getD_eq_getD_getElem?, Option.getD_some, e59, e61]; done) | (simp only [List.map_toArray, List.map_cons, List.map_nil, Act.eval, Array.getD_eq_getD_getElem?, Option.getD_some, e59, e61]; rfl)) ?_
                  (with_reducible refine (pipe_Reader_Signed.calls k gr bs p e a2 a1 p2 e2 w7 w' I0.out FB.out HTK.out).mono ?_)
                  rintro e w1_ ⟨rfl, hi_, hb2_, hk_⟩
                  refine ⟨_, rfl, ?_⟩
                  refine hK.out _ _ ⟨(by rw [ha.out]; exact putSel_upk 3 hb_ rfl rfl rfl), hb2_, (hk_.2 _ (blk_lt FA.out) HNE.out (by simp)).trans FA.out, FK.out.trans hk_ (.inl rfl), fun h0_ => absurd ((up_self b 3).symm.trans h0_) (by decide), fun _ => hi_⟩
                refine steps_cons ?_ ?_
                · rintro b a w' ⟨ha, Q_FB, Q_FA, Q_FK, Q_I0, Q_I1⟩ hb_ hon hoff
                  refine ⟨_, rfl, fun K hK => ?_⟩
                  have e9 : a.tmps[9]? = some (.pointer (some ⟨ga, 0, none⟩)) := by rw [ha]; exact (putSel_off rfl).trans rfl
                  replace ha := Aside0.mk ha
                  have FB := Aside0.mk Q_FB
                  have FA := Aside0.mk Q_FA
                  have FK := Aside0.mk Q_FK
                  refine value_ (w1 := w') (v := .pointer (some ⟨ga, 1, none⟩)) (by rfl) rfl ?_ ?_
                  · go_simp
                    (try simp only [i64_w])
                    try rfl
                  refine hK.out _ _ ⟨(by rw [ha.out]; exact putSel_upk 4 hb_ rfl rfl rfl), Q_FB, Q_FA, Q_FK, Q_I0, Q_I1⟩
                refine steps_cons ?_ ?_
                · rintro b a w' ⟨ha, Q_FB, Q_FA, Q_FK, Q_I0, Q_I1⟩ hb_ hon hoff
                  refine ⟨_, rfl, fun K hK => ?_⟩
                  have e63 : a.tmps[63]? = some (.pointer (some ⟨ga, 1, none⟩)) := by rw [ha]; exact putSel_on (e := (4, 63, .pointer (some ⟨ga, 1, none⟩))) 4 rfl rfl (hon 4 (by kernel_rfl)) rfl
                  replace ha := Aside0.mk ha
                  have FB := Aside0.mk Q_FB
                  have FA := Aside0.mk Q_FA
                  have FK := Aside0.mk Q_FK
                  have hA_ := FA.out
                  have hx_ := (blk_cell hA_ 1).trans rfl
                  refine value_ (w1 := w') (v := .int .i64 a1) (by rfl) rfl ?_ ?_
                  · go_simp
                    (try simp only [i64_w])
                    try rfl
                  refine hK.out _ _ ⟨(by rw [ha.out]; exact putSel_upk 5 hb_ rfl rfl rfl), Q_FB, Q_FA, Q_FK, Q_I0, Q_I1⟩
                refine steps_cons ?_ ?_
                · rintro b a w' ⟨ha, Q_FB, Q_FA, Q_FK, Q_I0, Q_I1⟩ hb_ hon hoff
                  refine ⟨_, rfl, fun K hK => ?_⟩
                  have e62 : a.tmps[62]? = some (.int .i64 a1) := by rw [ha]; exact putSel_on (e := (3, 62, .int .i64 a1)) 3 rfl rfl (hon 3 (by kernel_rfl)) rfl
                  have e64 : a.tmps[64]? = some (.int .i64 a1) := by rw [ha]; exact putSel_on (e := (5, 64, .int .i64 a1)) 5 rfl rfl (hon 5 (by kernel_rfl)) rfl
                  replace ha := Aside0.mk ha
                  have FB := Aside0.mk Q_FB
                  have FA := Aside0.mk Q_FA
                  have FK := Aside0.mk Q_FK
                  have I1 := Aside0.mk (Q_I1 (hon 3 (by kernel_rfl)))
                  refine value_ (w1 := w') (v := .bool false) (by rfl) rfl ?_ ?_
                  · go_simp
                    (try simp only [i64_w])
                    try rfl
                  refine hK.out _ _ ⟨(by rw [ha.out]; exact putSel_upk 6 hb_ rfl rfl rfl), Q_FB, Q_FA, Q_FK, fun h0_ => absurd ((hon 3 (by kernel_rfl)).symm.trans h0_) (by decide), Q_I1⟩
                exact steps_nil
              · rintro b a w' hall ⟨ha, Q_FB, Q_FA, Q_FK, Q_I0, Q_I1⟩
                have hb0_ := hall 0 (by kernel_rfl)
                have hb1_ := hall 1 (by kernel_rfl)
                have hb2_ := hall 2 (by kernel_rfl)
                have hb3_ := hall 3 (by kernel_rfl)
                have hb4_ := hall 4 (by kernel_rfl)
                have hb5_ := hall 5 (by kernel_rfl)
                have hb6_ := hall 6 (by kernel_rfl)
                subst ha
                simp only [putSel, hb0_, hb1_, hb2_, hb3_, hb4_, hb5_, hb6_, if_true, Act.put, List.setIfInBounds_toArray, List.set_cons_zero, List.set_cons_succ]
                have FB := Aside0.mk Q_FB
                clear Q_FB
                have FA := Aside0.mk Q_FA
                clear Q_FA
                have FK := Aside0.mk Q_FK
                clear Q_FK
                clear Q_I0
                have I1 := Aside0.mk (Q_I1 hb3_)
                clear Q_I1
                clear hall hb0_ hb1_ hb2_ hb3_ hb4_ hb5_ hb6_
                have HB9 := Aside0.mk FB.out
                have HI9 := Aside0.mk I1.out
                have HR9 := Aside0.mk (Kd.R_keep HRD.out FK.out (fun _ hk_ => hk_))
                clear FB I1 FK FA HRD
                go_wp2
                go_roundg (gk - 1)
                case rel => exact ⟨i + 1, p2, e2, by first | rfl | (congr 1), by omega, HF3, HI9, HB9, HR9⟩
                case measure => exact hme
            · by_cases h3 : a0 = 3
              · have hF := HF2.out
                rw [if_neg h1, if_neg h2, if_pos h3] at hF
                obtain ⟨⟨t1, p2, e2⟩, htk, hF⟩ := Option.bind_eq_some_iff.mp hF
                have hte : t1 = a2 := by
                  refine Decidable.byContradiction fun hn => ?_
                  rw [if_neg hn] at hF
                  cases hF
                rw [if_pos hte] at hF
                have hte2 := hte.symm
                subst hte2
                have HF3 := Aside0.mk hF
                have HTK := Aside0.mk htk
                have hk1 : (a0 == 1) = false := by simp [h1]
                have hk2 : (a0 == 2) = false := by simp [h2]
                have hk3 : (a0 == 3) = true := by simp [h3]
                clear hF htk HF2 h1 h2 h3
                go_wp2_with fail
                obtain ⟨ga, hga⟩ : ∃ ga, wr.heap.size = ga := ⟨_, rfl⟩
                rw [hga] at HA8 ⊢
                generalize wr.alloc (actO a0 a1 a2) = w8 at HB8 HI8 HR8 HA8 ⊢
                have HNE : Aside0 (ga ≠ gr) := ⟨(HI8.out.ne_blk HA8.out (by decide)).symm⟩
                clear ha0 ha1 ha2 hl1 hga
                refine start_ (n := 5) (S := fun w' => True) (ds := []) #[false, false, false, false, false] (by kernel_rfl) rfl rfl trivial (fun hHeld => ?_)
                refine with_tabW sackbutlaw01_PipeBack.tab25 sackbutlaw01_PipeBack.bits25 (fun HT_ HW_ => ?_)
                obtain ⟨wd, hwd⟩ : ∃ wd, w8.drew = wd := ⟨_, rfl⟩
                rw [hwd]
                have HBD : Aside0 (Below w7.heap.size w7 wd) := ⟨by rw [← hwd]; exact below_drew HB8.out⟩
                have HAD : Aside0 (wd.heap[ga]? = some (actO a0 a1 a2)) := ⟨by rw [← hwd]; exact blk_drew HA8.out⟩
                have HID : Aside0 (IsS75 w7 wd gr bs p e) := ⟨by rw [← hwd]; exact HI8.out.drew⟩
                have HRD : Aside0 (Kd.R k28 28 wd w.heap.size (fun k => k ≠ gr) (.slice (some ad) own.length c2) own) := ⟨by rw [← hwd]; exact Kd.R_below HR8.out (below_drew (Below.refl w8.heap.size w8))⟩
                clear hwd hHeld
                refine inv_at [0, 1, 2, 3, 4] (fun a0_ b a w' => a = putSel a0_ b [(0, 68, .pointer (some ⟨gr, 0, none⟩)), (1, 69, .int .i64 a2), (2, 70, .pointer (some ⟨ga, 2, none⟩)), (3, 71, .int .i64 a2), (4, 72, .bool false)] ∧ (Below w7.heap.size w7 w') ∧ (w'.heap[ga]? = some (actO a0 a1 a2)) ∧ (KeepBut wd w' gr none) ∧ (b 1 = false → IsS75 w7 w' gr bs p e) ∧ (b 1 = true → IsS75 w7 w' gr bs p2 e2)) HT_.out HW_.out (by kernel_rfl) (by kernel_rfl) ?_ ?_ ?_
                · exact ⟨by simp only [putSel, Bool.false_eq_true, if_false], HBD.out, HAD.out, KeepBut.refl _ _ _, fun _ => HID.out, fun h_ => absurd h_ (by decide)⟩
                · skip
                  refine steps_cons ?_ ?_
                  · rintro b a w' ⟨ha, Q_FB, Q_FA, Q_FK, Q_I0, Q_I1⟩ hb_ hon hoff
                    refine ⟨_, rfl, fun K hK => ?_⟩
                    have e7 : a.tmps[7]? = some (.pointer (some ⟨gr, 0, none⟩)) := by rw [ha]; exact (putSel_off rfl).trans rfl
                    replace ha := Aside0.mk ha
                    have FB := Aside0.mk Q_FB
                    have FA := Aside0.mk Q_FA
                    have FK := Aside0.mk Q_FK
                    have I0 := Aside0.mk (Q_I0 (hoff 1 (by kernel_rfl)))
                    refine value_ (w1 := w') (v := .pointer (some ⟨gr, 0, none⟩)) (by rfl) rfl ?_ ?_
                    · go_simp
                      (try simp only [i64_w])
                      try rfl
                    refine hK.out _ _ ⟨(by rw [ha.out]; exact putSel_upk 0 hb_ rfl rfl rfl), Q_FB, Q_FA, Q_FK, Q_I0, fun h0_ => absurd ((hoff 1 (by kernel_rfl)).symm.trans h0_) (by decide)⟩
                  refine steps_cons ?_ ?_
                  · rintro b a w' ⟨ha, Q_FB, Q_FA, Q_FK, Q_I0, Q_I1⟩ hb_ hon hoff
                    refine ⟨_, rfl, fun K hK => ?_⟩
                    have e68 : a.tmps[68]? = some (.pointer (some ⟨gr, 0, none⟩)) := by rw [ha]; exact putSel_on (e := (0, 68, .pointer (some ⟨gr, 0, none⟩))) 0 rfl rfl (hon 0 (by kernel_rfl)) rfl
                    replace ha := Aside0.mk ha
                    have FB := Aside0.mk Q_FB
                    have FA := Aside0.mk Q_FA
                    have FK := Aside0.mk Q_FK
                    have I0 := Aside0.mk (Q_I0 hb_)
                    refine goes_ Try.func36 (by kernel_rfl) rfl #[.pointer (some ⟨gr, 0, none⟩), .int .i64 1000] (by rfl) rfl rfl (by first | (simp only [List.map_toArray, List.map_cons, List.map_nil, Act.eval, Array.getD_eq_getD_getElem?, Option.getD_some, e68]; done) | (simp only [List.map_toArray, List.map_cons, List.map_nil, Act.eval, Array.getD_eq_getD_getElem?, Option.getD_some, e68]; rfl)) ?_
                    (with_reducible refine (pipe_Reader_Zeros.calls k gr bs p e 1000 a2 p2 e2 w7 w' I0.out FB.out HTK.out).mono ?_)
                    rintro e w1_ ⟨rfl, hi_, hb2_, hk_⟩
                    refine ⟨_, rfl, ?_⟩
                    refine hK.out _ _ ⟨(by rw [ha.out]; exact putSel_upk 1 hb_ rfl rfl rfl), hb2_, (hk_.2 _ (blk_lt FA.out) HNE.out (by simp)).trans FA.out, FK.out.trans hk_ (.inl rfl), fun h0_ => absurd ((up_self b 1).symm.trans h0_) (by decide), fun _ => hi_⟩
                  refine steps_cons ?_ ?_
                  · rintro b a w' ⟨ha, Q_FB, Q_FA, Q_FK, Q_I0, Q_I1⟩ hb_ hon hoff
                    refine ⟨_, rfl, fun K hK => ?_⟩
                    have e9 : a.tmps[9]? = some (.pointer (some ⟨ga, 0, none⟩)) := by rw [ha]; exact (putSel_off rfl).trans rfl
                    replace ha := Aside0.mk ha
                    have FB := Aside0.mk Q_FB
                    have FA := Aside0.mk Q_FA
                    have FK := Aside0.mk Q_FK
                    refine value_ (w1 := w') (v := .pointer (some ⟨ga, 2, none⟩)) (by rfl) rfl ?_ ?_
                    · go_simp
                      (try simp only [i64_w])
                      try rfl
                    refine hK.out _ _ ⟨(by rw [ha.out]; exact putSel_upk 2 hb_ rfl rfl rfl), Q_FB, Q_FA, Q_FK, Q_I0, Q_I1⟩
                  refine steps_cons ?_ ?_
                  · rintro b a w' ⟨ha, Q_FB, Q_FA, Q_FK, Q_I0, Q_I1⟩ hb_ hon hoff
                    refine ⟨_, rfl, fun K hK => ?_⟩
                    have e70 : a.tmps[70]? = some (.pointer (some ⟨ga, 2, none⟩)) := by rw [ha]; exact putSel_on (e := (2, 70, .pointer (some ⟨ga, 2, none⟩))) 2 rfl rfl (hon 2 (by kernel_rfl)) rfl
                    replace ha := Aside0.mk ha
                    have FB := Aside0.mk Q_FB
                    have FA := Aside0.mk Q_FA
                    have FK := Aside0.mk Q_FK
                    have hA_ := FA.out
                    have hx_ := (blk_cell hA_ 2).trans rfl
                    refine value_ (w1 := w') (v := .int .i64 a2) (by rfl) rfl ?_ ?_
                    · go_simp
                      (try simp only [i64_w])
                      try rfl
                    refine hK.out _ _ ⟨(by rw [ha.out]; exact putSel_upk 3 hb_ rfl rfl rfl), Q_FB, Q_FA, Q_FK, Q_I0, Q_I1⟩
                  refine steps_cons ?_ ?_
                  · rintro b a w' ⟨ha, Q_FB, Q_FA, Q_FK, Q_I0, Q_I1⟩ hb_ hon hoff
                    refine ⟨_, rfl, fun K hK => ?_⟩
                    have e69 : a.tmps[69]? = some (.int .i64 a2) := by rw [ha]; exact putSel_on (e := (1, 69, .int .i64 a2)) 1 rfl rfl (hon 1 (by kernel_rfl)) rfl
                    have e71 : a.tmps[71]? = some (.int .i64 a2) := by rw [ha]; exact putSel_on (e := (3, 71, .int .i64 a2)) 3 rfl rfl (hon 3 (by kernel_rfl)) rfl
                    replace ha := Aside0.mk ha
                    have FB := Aside0.mk Q_FB
                    have FA := Aside0.mk Q_FA
                    have FK := Aside0.mk Q_FK
                    have I1 := Aside0.mk (Q_I1 (hon 1 (by kernel_rfl)))
                    refine value_ (w1 := w') (v := .bool false) (by rfl) rfl ?_ ?_
                    · go_simp
                      (try simp only [i64_w])
                      try rfl
                    refine hK.out _ _ ⟨(by rw [ha.out]; exact putSel_upk 4 hb_ rfl rfl rfl), Q_FB, Q_FA, Q_FK, fun h0_ => absurd ((hon 1 (by kernel_rfl)).symm.trans h0_) (by decide), Q_I1⟩
                  exact steps_nil
                · rintro b a w' hall ⟨ha, Q_FB, Q_FA, Q_FK, Q_I0, Q_I1⟩
                  have hb0_ := hall 0 (by kernel_rfl)
                  have hb1_ := hall 1 (by kernel_rfl)
                  have hb2_ := hall 2 (by kernel_rfl)
                  have hb3_ := hall 3 (by kernel_rfl)
                  have hb4_ := hall 4 (by kernel_rfl)
                  subst ha
                  simp only [putSel, hb0_, hb1_, hb2_, hb3_, hb4_, if_true, Act.put, List.setIfInBounds_toArray, List.set_cons_zero, List.set_cons_succ]
                  have FB := Aside0.mk Q_FB
                  clear Q_FB
                  have FA := Aside0.mk Q_FA
                  clear Q_FA
                  have FK := Aside0.mk Q_FK
                  clear Q_FK
                  clear Q_I0
                  have I1 := Aside0.mk (Q_I1 hb1_)
                  clear Q_I1
                  clear hall hb0_ hb1_ hb2_ hb3_ hb4_
                  have HB9 := Aside0.mk FB.out
                  have HI9 := Aside0.mk I1.out
                  have HR9 := Aside0.mk (Kd.R_keep HRD.out FK.out (fun _ hk_ => hk_))
                  clear FB I1 FK FA HRD
                  go_wp2
                  go_roundg (gk - 1)
                  case rel => exact ⟨i + 1, p2, e2, by first | rfl | (congr 1), by omega, HF3, HI9, HB9, HR9⟩
                  case measure => exact hme
              · by_cases h4 : a0 = 4
                · have hF := HF2.out
                  rw [if_neg h1, if_neg h2, if_neg h3, if_pos h4] at hF
                  obtain ⟨⟨p2, e2⟩, htk, hF⟩ := Option.bind_eq_some_iff.mp hF
                  have HF3 := Aside0.mk hF
                  have HTK := Aside0.mk htk
                  have hk1 : (a0 == 1) = false := by simp [h1]
                  have hk2 : (a0 == 2) = false := by simp [h2]
                  have hk3 : (a0 == 3) = false := by simp [h3]
                  have hk4 : (a0 == 4) = true := by simp [h4]
                  clear hF htk HF2 h1 h2 h3 h4
                  go_wp2_with fail
                  (with_reducible refine (pipe_Reader_Align.calls k gr bs p e p2 e2 w7 _ HI8.out HB8.out HTK.out).mono ?_)
                  rintro ee w10 ⟨rfl, hi10, hb10, hk10⟩
                  have HI10 := Aside0.mk hi10
                  have HB10 := Aside0.mk hb10
                  have HR10 := Aside0.mk (Kd.R_keep HR8.out hk10 (fun _ hk_ => hk_))
                  clear hi10 hb10 hk10 HI8 HB8 HR8 HA8
                  go_wp2
                  go_roundg (gk - 1)
                  case rel => exact ⟨i + 1, p2, e2, by first | rfl | (congr 1), by omega, HF3, HI10, HB10, HR10⟩
                  case measure => exact hme
                · have hF := HF2.out
                  rw [if_neg h1, if_neg h2, if_neg h3, if_neg h4] at hF
                  have HF3 := Aside0.mk hF
                  have hk1 : (a0 == 1) = false := by simp [h1]
                  have hk2 : (a0 == 2) = false := by simp [h2]
                  have hk3 : (a0 == 3) = false := by simp [h3]
                  have hk4 : (a0 == 4) = false := by simp [h4]
                  clear hF HF2 h1 h2 h3 h4
                  go_wp2
                  go_roundg (gk - 1)
                  case rel => exact ⟨i + 1, p, e, by first | rfl | (congr 1), by omega, HF3, HI8, HB8, HR8⟩
                  case measure => exact hme
        · have hi : i = own.length := by omega
          have hF := HF.out
          rw [hi, List.drop_length] at hF
          simp only [readL] at hF
          have hlI : ¬ (i : Int) < (own.length : Int) := by omega
          have hF3 : p = pE ∧ e = eE := by simpa using hF
          obtain ⟨rfl, rfl⟩ := hF3
          clear hF
          have hbe := HBE.out
          unfold backEnd at hbe
          have he0 : p = p ∧ e = 0 := by
            refine Decidable.byContradiction fun hn => ?_
            rw [if_pos (fun he => hn ⟨rfl, he⟩)] at hbe
            cases hbe
          obtain ⟨-, rfl⟩ := he0
          rw [if_neg (by simp)] at hbe
          obtain ⟨⟨r1, p2, e2⟩, hend, hbe⟩ := Option.bind_eq_some_iff.mp hbe
          simp only at hbe
          have hr1 : r1 = 0 := by
            refine Decidable.byContradiction fun hn => ?_
            rw [if_pos hn] at hbe
            cases hbe
          subst hr1
          rw [if_neg (by simp)] at hbe
          obtain ⟨⟨n, p3, e3⟩, hleft, hbe⟩ := Option.bind_eq_some_iff.mp hbe
          simp only at hbe
          have hn8 : n < 8 := by
            refine Decidable.byContradiction fun hn => ?_
            rw [if_neg hn] at hbe
            cases hbe
          rw [if_pos hn8] at hbe
          cases hbe
          have HEND := Aside0.mk hend
          have HLEFT := Aside0.mk hleft
          clear hend hleft hlt hi HF HBE hk HR0
          go_wp2_with fail
          (with_reducible refine (pipe_Reader_Fail.calls gr bs p 0 0 p 0 w7 _ HI0.out HB0.out rfl).mono ?_)
          rintro ee w10 ⟨rfl, hi10, hb10, _⟩
          have HI10 := Aside0.mk hi10
          have HB10 := Aside0.mk hb10
          clear hi10 hb10 HI0 HB0
          go_wp2_with fail
          (with_reducible refine (pipe_Reader_End.calls k gr bs p 0 0 p2 e2 w7 _ HI10.out HB10.out HEND.out).mono ?_)
          rintro ee w11 ⟨rfl, hi11, hb11, _⟩
          have HI11 := Aside0.mk hi11
          have HB11 := Aside0.mk hb11
          clear hi11 hb11 HI10 HB10
          go_wp2_with fail
          (with_reducible refine (pipe_Reader_Left.calls gr bs p2 e2 n p3 e3 w7 _ HI11.out HB11.out HLEFT.out).mono ?_)
          rintro ee w12 ⟨rfl, hi12, hb12, _⟩
          have HB12 := Aside0.mk (below_then HB7.out HB7.out.size hb12)
          have hn8b : decide (n < 8) = true := decide_eq_true hn8
          clear hi12 hb12 HI11 HB11
          go_wp2
          go_ret
          exact ⟨by simp [hn8], HB12.out⟩
end Go.Proofs.Ytgglnmpjajnkaaa.P
