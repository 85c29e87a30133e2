/- The law RiceBits, walked. -/
import Derived.Test.YtgglnmpjajnkaaaPx0
import Derived.Test.YtgglnmpjajnkaaaPx3
import Derived.Test.YtgglnmpjajnkaaaPx6
import Derived.Test.YtgglnmpjajnkaaaPx4
import Derived.Test.YtgglnmpjajnkaaaPx5
import Derived.Test.YtgglnmpjajnkaaaHAwake2
import Derived.Test.YtgglnmpjajnkaaaHRice
import Derived.Test.YtgglnmpjajnkaaaURiceInv
import Derived.Deep.RegionWith
namespace Go.Proofs.Ytgglnmpjajnkaaa.P
open Go.RowKit Go.Proofs.YtgglnmpjajnkaaaW.PrintWords Go.Proofs.YtgglnmpjajnkaaaW.PrintLast Go.Proofs.YtgglnmpjajnkaaaW.PrintMore Go.Proofs.Ytgglnmpjajnkaaa.Pure
set_option linter.unusedVariables false
set_option linter.unusedSimpArgs false

theorem pack_bytes8B (l : List Bool) : Bytes8 (pack l) := by
  intro x hx
  obtain ⟨i, _, rfl⟩ := List.mem_map.mp hx
  exact byteAt_range l i
theorem own_not75 {w0 w W : World} {b : Nat} {v : Value} {xs : List Value} {n g p1 p2 : Nat} {l : List Int} {x y : Int} (h : W.ownsRow b 5 1 v n xs) (hr : IsS75 w W g l x y) (k : Nat) (hk : v.ownBlock = some k) : k ≠ g := by
  rintro rfl
  obtain ⟨cells, hc⟩ := own_typed h k hk
  obtain ⟨A, c, hg, _⟩ := hr
  rw [hc] at hg
  cases hg
/-- What a reader's call leaves of a writer. -/
theorem isWr_read {w0 w W W' : World} {g g' : Nat} {v : Value} {l : List Bool} {b : List Int} {x y : Int} (h : IsWr w0 W g v l) (hr : IsS75 w W g' b x y) (hk : KeepBut W W' g' none) (hne : g ≠ g') : IsWr w0 W' g v l :=
  ⟨(hk.2 g (blk_lt h.1) hne (by simp)).trans h.1, h.2.1, own_move h.2.2 fun k hkk => hk.2 k (own_lt h.2.2 k hkk) (own_not75 (w0 := w0) (p1 := 0) (p2 := 0) h.2.2 hr k hkk) (by simp)⟩
/-- What a writer's call leaves of a reader. -/
theorem isS75_write {w0 w W W' : World} {g g' : Nat} {v v' : Value} {l : List Bool} {b : List Int} {x y : Int} (h : IsWr w0 W g v l) (hr : IsS75 w W g' b x y) (hs : WrStep w0 W W' g v v') (hne : g ≠ g') : IsS75 w W' g' b x y :=
  hr.kept hs.kept (by
    rintro (e | e)
    · exact hne e.symm
    · exact own_not75 (w0 := w0) (p1 := 0) (p2 := 0) h.2.2 hr g' e.symm rfl)
def sackbutlaw02_RiceBits.f (b : List Int) (k : Int) : Option Bool := if b.length ≤ 140737488351232 ∧ 0 ≤ k ∧ k ≤ 255 ∧ b.all (fun x => decide (0 ≤ x) && decide (x ≤ 255)) = true then some true else none

set_option maxHeartbeats 8000000 in
set_option maxRecDepth 100000 in
theorem sackbutlaw02_RiceBits.calls (A0 : Option Addr) (c0 : Nat) (l0 : List Int) (a1 : Int) (r : Bool) (w : World) (hr0 : Kd.C (Kd.int .u8) w A0 l0.length l0) (hc0 : l0.length ≤ c0) (h : sackbutlaw02_RiceBits.f l0 a1 = some r) :
    Calls Try.prog 12 #[.slice A0 l0.length c0, .int .u8 a1] w fun e w' => e = .returned (.bool r) ∧ Below w.heap.size w w' := by
  unfold sackbutlaw02_RiceBits.f at h
  by_cases hb : l0.length ≤ 140737488351232 ∧ 0 ≤ a1 ∧ a1 ≤ 255 ∧ l0.all (fun x => decide (0 ≤ x) && decide (x ≤ 255)) = true
  case neg => rw [if_neg hb] at h; cases h
  rw [if_pos hb] at h
  cases h
  obtain ⟨hl, ha0, ha1, hall⟩ := hb
  have H8 : Aside0 (Bytes8 l0) := ⟨fun x hx => by
    have := List.all_eq_true.mp hall x hx
    simp at this
    exact this⟩
  have HR := Aside0.mk hr0
  clear hr0 hall
  have hu := Try.underlying26
  go_enter Try.func12, Try.ntmps12
  go_wp2_with fail
  (with_reducible refine (sackbutlaw02_awake.calls true _ rfl).mono ?_)
  rintro e w1 ⟨rfl, hb1⟩
  have HB1 := Aside0.mk hb1
  clear hb1
  by_cases h100 : (l0.length : Int) > 100
  · have hd : decide (100 < (l0.length : Int)) = true := decide_eq_true h100
    have hd' : decide (100 < l0.length) = true := decide_eq_true (by omega)
    go_wp2_with fail
    (with_reducible refine (sackbutlaw02_awake.calls true _ rfl).mono ?_)
    rintro e w2 ⟨rfl, hb2⟩
    have HB2 := Aside0.mk (below_then HB1.out HB1.out.size hb2)
    clear hb2
    go_wp2
    go_ret
    exact ⟨rfl, HB2.out⟩
  · have hd : decide (100 < (l0.length : Int)) = false := decide_eq_false h100
    have hd' : decide (100 < l0.length) = false := decide_eq_false (by omega)
    have HL := Aside0.mk (show l0.length ≤ 100 by omega)
    have hk0 : 0 ≤ a1 % 25 := by omega
    have hk1 : a1 % 25 ≤ 24 := by omega
    clear h100
    go_wp2_with fail
    (with_reducible refine (pipe_Open.calls A0 c0 l0 l0 0 0 w _ HB1.out HR.out hc0 rfl).mono ?_)
    rintro e w2 ⟨g2, rfl, hr2, hb2, hb2'⟩
    have HB2 := Aside0.mk (below_alloc hb2 (.cells #[.slice none 0 0, .int .i64 0] 26))
    have HR2 := Aside0.mk (hr2.alloc (.cells #[.slice none 0 0, .int .i64 0] 26))
    have HW2 := Aside0.mk (isWr_new w w2 hb2)
    have HG := Aside0.mk (Nat.ne_of_lt hr2.lt)
    obtain ⟨m, hm⟩ := Int.eq_ofNat_of_zero_le hk0
    have HM := Aside0.mk hm
    have hm24 : m ≤ 24 := by omega
    have HP0 := Aside0.mk (pos_nil l0)
    have hup : l0.length = l0.length := rfl
    clear hr2 hb2 hb2' hm hup
    go_wp2
    rw [HM.out]
    go_loopg [8, 9, 25] 40 (fun kq v8 v9 v25 wr => ∃ (i : Nat) (l s : List Bool) (v : Value), v25 = .int .i64 i ∧ kq + i = 40 ∧ Aside0 (l ++ s = unpack l0) ∧ Aside0 (IsWr w wr w2.heap.size v l) ∧ Aside0 (IsS75 w wr g2 l0 (pos l0 s) 0) ∧ Aside0 (Below w.heap.size w wr))
    case atStart => exact ⟨0, [], unpack l0, _, rfl, rfl, ⟨rfl⟩, HW2, ⟨by rw [HP0.out]; exact HR2.out⟩, HB2⟩
    case round =>
      clear HB2 HR2 HW2
      obtain ⟨i, l, s, v, rfl, hi, HE, HW, HRd, HB⟩ := hrel
      have hsuf : s <:+ unpack l0 := by rw [← HE.out]; exact List.suffix_append _ _
      have hlen : l.length + s.length = 8 * l0.length := by
        have := congrArg List.length HE.out
        rw [List.length_append, unpack_length] at this
        exact this
      have HSUF := Aside0.mk hsuf
      have hll : l.length ≤ 800 := by have := HL.out; omega
      have hsl : s.length ≤ 800 := by have := HL.out; omega
      have HLEN := Aside0.mk hlen
      clear hsuf hlen
      by_cases hlt : i < 40
      · have hdec : decide ((i : Int) < 40) = true := decide_eq_true (by omega)
        have hme : gk - 1 < gk := by omega
        have hlf := left_ok (b := l0) (by have := HL.out; omega) HSUF.out 0
        have hrt := riceTake_ok H8.out (by have := HL.out; omega) HSUF.out 0 (m : Int) (k := 1000) (by omega)
        have hinv := @riceZ_inv s m hm24
        have hsuf2 := riceZ_suf s 0 m
        obtain ⟨n1, hn1⟩ : ∃ n1 : Nat, s.length = n1 := ⟨_, rfl⟩
        rw [hn1] at hlf hsl
        generalize riceZ s 0 (m : Int) = t at hrt hinv hsuf2
        obtain ⟨n, s2, e2⟩ := t
        replace hrt : rice_Take.f 1000 l0 (pos l0 s) 0 (m : Int) = some (n, pos l0 s2, e2) := hrt
        replace hinv : e2 = 0 → -8589934592 ≤ n ∧ n ≤ 8589934591 ∧ s = codeZ n m ++ s2 := hinv
        replace hsuf2 : s2 <:+ s := hsuf2
        have HN1 := Aside0.mk hn1
        have HLF := Aside0.mk hlf
        have HRT := Aside0.mk hrt
        have HINV := Aside0.mk hinv
        have HS2 := Aside0.mk hsuf2
        clear hlf hrt hinv hsuf2 hn1
        go_wp2_with fail
        (with_reducible refine (pipe_Reader_Left.calls g2 l0 (pos l0 s) 0 n1 _ _ w wr HRd.out HB.out HLF.out).mono ?_)
        rintro e w3 ⟨rfl, hr3, hb3, hk3⟩
        have HW3 := Aside0.mk (isWr_read HW.out HRd.out hk3 HG.out.symm)
        have HR3 := Aside0.mk hr3
        have HB3 := Aside0.mk hb3
        clear hr3 hb3 hk3 HW HRd HB
        go_wp2_with fail
        (with_reducible refine (rice_Take.calls 1000 g2 l0 (pos l0 s) 0 (m : Int) n (pos l0 s2) e2 w w3 HR3.out HB3.out HRT.out).mono ?_)
        rintro e w4 ⟨rfl, hr4, hb4, hk4⟩
        have HW4 := Aside0.mk (isWr_read HW3.out HR3.out hk4 HG.out.symm)
        have HR4 := Aside0.mk hr4
        have HB4 := Aside0.mk hb4
        clear hr4 hb4 hk4 HW3 HR3 HB3
        go_wp2_with fail
        (with_reducible refine (pipe_Reader_Fail.calls g2 l0 (pos l0 s2) e2 e2 _ _ w w4 HR4.out HB4.out (fail_ok _ _ _)).mono ?_)
        rintro e w5 ⟨rfl, hr5, hb5, hk5⟩
        have HW5 := Aside0.mk (isWr_read HW4.out HR4.out hk5 HG.out.symm)
        have HR5 := Aside0.mk hr5
        have HB5 := Aside0.mk hb5
        clear hr5 hb5 hk5 HW4 HR4 HB4
        by_cases he : e2 = 0
        · subst he
          obtain ⟨hn0, hn9, hs⟩ := HINV.out rfl
          have hcl := cost_len n (m : Int)
          have hmay : mayZ n (m : Int) = true := by simp [mayZ]; omega
          rw [hmay, if_pos rfl, Int.toNat_natCast] at hcl
          have HP0 := Aside0.mk (fun W v' (hB : Below w.heap.size w W) (hI : IsWr w W w2.heap.size v' l) => by
            have hp := wr_ricePut w W _ v' l n (m : Int) hB hI (by omega)
            rw [hmay, if_pos rfl, Int.toNat_natCast] at hp
            exact hp)
          generalize codeZ n m = cs at hs hcl HP0
          obtain ⟨n2, hn2⟩ : ∃ n2 : Nat, s2.length = n2 := ⟨_, rfl⟩
          obtain ⟨c, hc⟩ : ∃ c : Nat, cs.length = c := ⟨_, rfl⟩
          have hnn : n1 = c + n2 := by
            have h1 := HN1.out
            rw [hs, List.length_append] at h1
            omega
          have hlf2 := left_ok (b := l0) (by have := HL.out; omega) (HS2.out.trans HSUF.out) 0
          rw [hn2] at hlf2
          rw [hc] at hcl
          have HLF2 := Aside0.mk hlf2
          have HCL := Aside0.mk hcl
          have HE2 : Aside0 (l ++ cs ++ s2 = unpack l0) := ⟨by rw [List.append_assoc, ← hs]; exact HE.out⟩
          have hneq : (((n1 : Int) - (n2 : Int)) != (c : Int)) = false := by rw [bne_eq_false_iff_eq]; omega
          have hneq2 : (((n1 : Int) - (n2 : Int)) == (c : Int)) = true := by rw [beq_iff_eq]; omega
          have hn12 : n2 ≤ n1 := by omega
          clear hs hcl hlf2 hnn hc hn2 hmay HINV
          go_wp2_with fail
          (with_reducible refine (pipe_Reader_Left.calls g2 l0 (pos l0 s2) 0 n2 _ _ w w5 HR5.out HB5.out HLF2.out).mono ?_)
          rintro e w6 ⟨rfl, hr6, hb6, hk6⟩
          have HW6 := Aside0.mk (isWr_read HW5.out HR5.out hk6 HG.out.symm)
          have HR6 := Aside0.mk hr6
          have HB6 := Aside0.mk hb6
          clear hr6 hb6 hk6 HW5 HR5 HB5
          go_wp2_with fail
          (with_reducible refine (rice_Cost.calls n (m : Int) _ _ HCL.out).mono ?_)
          rintro e w7 ⟨rfl, hd⟩
          have HW7 := Aside0.mk (isWr_below HW6.out hd.below)
          have HR7 := Aside0.mk (HR6.out.below hd.below)
          have HB7 := Aside0.mk (below_then HB6.out HB6.out.size hd.below)
          clear hd HW6 HR6 HB6
          go_wp2_with fail
          (with_reducible refine (HP0.out _ _ HB7.out HW7.out).mono ?_)
          rintro e w8 ⟨rfl, v8, hi8, hs8⟩
          have HW8 := Aside0.mk hi8
          have HR8 := Aside0.mk (isS75_write HW7.out HR7.out hs8 HG.out.symm)
          have HB8 := Aside0.mk hs8.below
          clear hi8 hs8 HW7 HR7 HB7 HP0
          go_wp2
          go_roundg (gk - 1)
          case rel => exact ⟨i + 1, l ++ cs, s2, v8, by go_num, by omega, HE2, HW8, HR8, HB8⟩
          case measure => exact hme
        · have hf0 : (e2 != 0) = true := bne_iff_ne.mpr he
          clear HINV
          go_wp2
          have hyy1 := bits_ok (pack_bytes8B l) (by rw [pack_length]; omega) (k := 1000) (by rw [pack_length]; omega)
          have hyy2 := bits_ok H8.out (by have := HL.out; omega) (k := 1000) (by have := HL.out; omega)
          have hz1 : l.length ≤ (txt (unpack (pack l))).size := by rw [txt_size, unpack_pack, alignB_length]; omega
          have hz2 : l.length ≤ (txt (unpack l0)).size := by rw [txt_size, ← HE.out, List.length_append]; omega
          have hxx : (txt (unpack (pack l))).extract 0 l.length = (txt (unpack l0)).extract 0 l.length := by
            rw [txt_take, txt_take, unpack_pack, ← HE.out]
            unfold alignB
            rw [List.take_left, List.take_left]
          generalize txt (unpack (pack l)) = S1 at hyy1 hz1 hxx
          generalize txt (unpack l0) = S2 at hyy2 hz2 hxx
          have HY1 := Aside0.mk hyy1
          have HY2 := Aside0.mk hyy2
          have HXX := Aside0.mk hxx
          have hxb2 : ((S1.extract 0 l.length).toList == (S2.extract 0 l.length).toList) = true := by rw [HXX.out]; exact beq_self_eq_true _
          have hz1' : (l.length : Int) ≤ (S1.size : Int) := by omega
          have hz2' : (l.length : Int) ≤ (S2.size : Int) := by omega
          have HId : Aside0 (IsWr w w5.drew w2.heap.size v l) := ⟨HW5.out⟩
          have HBd := Aside0.mk (below_drew1 HB5.out)
          clear hyy1 hyy2 hxx
          go_region_with (first
            | (go_at_call 18; refine (wr_Bytes w _ _ _ _ HId.out (by omega)).mono ?_; rintro e w9 ⟨v9, rfl, ho9, hb9⟩; obtain ⟨A9, c9, rfl, hle9, hC9⟩ := owns_reads ho9; have HC9 := Aside0.mk hC9; have HI9 := Aside0.mk (isWr_below HId.out hb9); have HB9 := Aside0.mk (below_then HBd.out HBd.out.size hb9); clear ho9 hb9 hC9)
            | (go_at_call 20; (with_reducible refine (sackbutref01_Bits.calls 1000 A9 c9 (pack l) S1 _ HC9.out hle9 HY1.out).mono ?_); rintro e w10 ⟨rfl, hb10⟩; have HI10 := Aside0.mk (isWr_below HI9.out hb10); have HB10 := Aside0.mk (below_then HB9.out HB9.out.size hb10); have HC10 := Aside0.mk (Kd.C_below HR.out HB10.out); clear hb10)
            | (go_at_call 20; (with_reducible refine (sackbutref01_Bits.calls 1000 A0 c0 l0 S2 _ HC10.out hc0 HY2.out).mono ?_); rintro e w11 ⟨rfl, hb11⟩; have HI11 := Aside0.mk (isWr_below HI10.out hb11); have HB11 := Aside0.mk (below_then HB10.out HB10.out.size hb11); clear hb11)
            | (go_at_call 17; (with_reducible refine (wr_Len w _ _ _ _ HI10.out).mono ?_); rintro e w12 ⟨rfl, rfl⟩)
            | (go_at_call 17; (with_reducible refine (wr_Len w _ _ _ _ HI11.out).mono ?_); rintro e w12 ⟨rfl, rfl⟩))
          all_goals go_wp2
          all_goals go_ret
          all_goals exact ⟨by first | rfl | (simp; done), HB11.out⟩
      · have hdec : decide ((i : Int) < 40) = false := decide_eq_false (by omega)
        go_wp2
        have hyy1 := bits_ok (pack_bytes8B l) (by rw [pack_length]; omega) (k := 1000) (by rw [pack_length]; omega)
        have hyy2 := bits_ok H8.out (by have := HL.out; omega) (k := 1000) (by have := HL.out; omega)
        have hz1 : l.length ≤ (txt (unpack (pack l))).size := by rw [txt_size, unpack_pack, alignB_length]; omega
        have hz2 : l.length ≤ (txt (unpack l0)).size := by rw [txt_size, ← HE.out, List.length_append]; omega
        have hxx : (txt (unpack (pack l))).extract 0 l.length = (txt (unpack l0)).extract 0 l.length := by
          rw [txt_take, txt_take, unpack_pack, ← HE.out]
          unfold alignB
          rw [List.take_left, List.take_left]
        generalize txt (unpack (pack l)) = S1 at hyy1 hz1 hxx
        generalize txt (unpack l0) = S2 at hyy2 hz2 hxx
        have HY1 := Aside0.mk hyy1
        have HY2 := Aside0.mk hyy2
        have HXX := Aside0.mk hxx
        have hxb2 : ((S1.extract 0 l.length).toList == (S2.extract 0 l.length).toList) = true := by rw [HXX.out]; exact beq_self_eq_true _
        have hz1' : (l.length : Int) ≤ (S1.size : Int) := by omega
        have hz2' : (l.length : Int) ≤ (S2.size : Int) := by omega
        have HId : Aside0 (IsWr w wr.drew w2.heap.size v l) := ⟨HW.out⟩
        have HBd := Aside0.mk (below_drew1 HB.out)
        clear hyy1 hyy2 hxx
        go_region_with (first
          | (go_at_call 18; refine (wr_Bytes w _ _ _ _ HId.out (by omega)).mono ?_; rintro e w9 ⟨v9, rfl, ho9, hb9⟩; obtain ⟨A9, c9, rfl, hle9, hC9⟩ := owns_reads ho9; have HC9 := Aside0.mk hC9; have HI9 := Aside0.mk (isWr_below HId.out hb9); have HB9 := Aside0.mk (below_then HBd.out HBd.out.size hb9); clear ho9 hb9 hC9)
          | (go_at_call 20; (with_reducible refine (sackbutref01_Bits.calls 1000 A9 c9 (pack l) S1 _ HC9.out hle9 HY1.out).mono ?_); rintro e w10 ⟨rfl, hb10⟩; have HI10 := Aside0.mk (isWr_below HI9.out hb10); have HB10 := Aside0.mk (below_then HB9.out HB9.out.size hb10); have HC10 := Aside0.mk (Kd.C_below HR.out HB10.out); clear hb10)
          | (go_at_call 20; (with_reducible refine (sackbutref01_Bits.calls 1000 A0 c0 l0 S2 _ HC10.out hc0 HY2.out).mono ?_); rintro e w11 ⟨rfl, hb11⟩; have HI11 := Aside0.mk (isWr_below HI10.out hb11); have HB11 := Aside0.mk (below_then HB10.out HB10.out.size hb11); clear hb11)
          | (go_at_call 17; (with_reducible refine (wr_Len w _ _ _ _ HI10.out).mono ?_); rintro e w12 ⟨rfl, rfl⟩)
          | (go_at_call 17; (with_reducible refine (wr_Len w _ _ _ _ HI11.out).mono ?_); rintro e w12 ⟨rfl, rfl⟩))
        all_goals go_wp2
        all_goals go_ret
        all_goals exact ⟨by first | rfl | (simp; done), HB11.out⟩
end Go.Proofs.Ytgglnmpjajnkaaa.P
