/- The law RicePuts, walked. -/
import Derived.Test.YtgglnmpjajnkaaaPx0
import Derived.Test.YtgglnmpjajnkaaaPx9
import Derived.Test.YtgglnmpjajnkaaaPx3
import Derived.Test.YtgglnmpjajnkaaaPx6
import Derived.Test.YtgglnmpjajnkaaaPx4
import Derived.Test.YtgglnmpjajnkaaaHEnd
import Derived.Test.YtgglnmpjajnkaaaHAwake2
import Derived.Test.YtgglnmpjajnkaaaURiceBack
import Derived.Deep.RegionWith
namespace Go.Proofs.Ytgglnmpjajnkaaa.P
open Go.RowKit Go.Proofs.YtgglnmpjajnkaaaW.PrintWords Go.Proofs.YtgglnmpjajnkaaaW.PrintLast Go.Proofs.YtgglnmpjajnkaaaW.PrintMore Go.Proofs.Ytgglnmpjajnkaaa.Pure
set_option linter.unusedVariables false
set_option linter.unusedSimpArgs false

theorem pack_bytes8 (l : List Bool) : Bytes8 (pack l) := by
  intro x hx
  obtain ⟨i, _, rfl⟩ := List.mem_map.mp hx
  exact byteAt_range l i
def sackbutlaw02_RicePuts.f (n k : Int) : Option Bool := if -9223372036854775808 ≤ k ∧ k ≤ 9223372036854775807 then some true else none

set_option maxHeartbeats 8000000 in
set_option maxRecDepth 100000 in
theorem sackbutlaw02_RicePuts.calls (a0 : Int) (a1 : Int) (r : Bool) (w : World) (h : sackbutlaw02_RicePuts.f a0 a1 = some r) :
    Calls Try.prog 13 #[.int .i64 a0, .int .i64 a1] w fun e w' => e = .returned (.bool r) ∧ Below w.heap.size w w' := by
  unfold sackbutlaw02_RicePuts.f at h
  by_cases hb : -9223372036854775808 ≤ a1 ∧ a1 ≤ 9223372036854775807
  case neg => rw [if_neg hb] at h; cases h
  rw [if_pos hb] at h
  cases h
  have HCO := Aside0.mk (code_ok (n := a0) (kk := a1) (k := 101) (by omega))
  have HCL := Aside0.mk (cost_len a0 a1)
  clear hb
  have hu := Try.underlying26
  go_enter Try.func13, Try.ntmps13
  go_wp2_with fail
  (with_reducible refine (sackbutlaw02_awake.calls true _ rfl).mono ?_)
  rintro e w1 ⟨rfl, hb1⟩
  have HB1 := Aside0.mk hb1
  clear hb1
  cases hmay : mayZ a0 a1 with
  | false =>
    have hco := HCO.out
    rw [hmay] at hco
    have HCO' := Aside0.mk hco
    have hcl := HCL.out
    rw [hmay] at hcl
    have HCL' := Aside0.mk hcl
    clear hco hcl HCO HCL
    go_wp2_with fail
    (with_reducible refine (sackbutref02_Code.calls 101 a0 a1 _ _ _ HCO'.out).mono ?_)
    rintro e w2 ⟨rfl, hb2⟩
    have HB2 := Aside0.mk (below_then HB1.out HB1.out.size hb2)
    clear hb2
    have HB3 := Aside0.mk (below_alloc HB2.out (.cells #[.slice none 0 0, .int .i64 0] 26))
    have HW3 := Aside0.mk (isWr_new w w2 HB2.out)
    go_wp2_with fail
    have hp := wr_ricePut w _ _ _ [] a0 a1 HB3.out HW3.out (by simp)
    rw [hmay] at hp
    have HP := Aside0.mk hp
    clear hp
    (with_reducible refine HP.out.mono ?_)
    rintro e w4 ⟨rfl, v4, hi4, hs4⟩
    have HI4 := Aside0.mk hi4
    have HB4 := Aside0.mk hs4.below
    clear hi4 hs4 HP
    go_wp2_with fail
    (with_reducible refine (wr_Len w _ _ _ _ HI4.out).mono ?_)
    rintro e w5 ⟨rfl, rfl⟩
    go_wp2_with fail
    (with_reducible refine (rice_Cost.calls a0 a1 _ _ HCL'.out).mono ?_)
    rintro e w6 ⟨rfl, hd⟩
    have HB6 := Aside0.mk (below_then HB4.out HB4.out.size hd.below)
    clear hd
    go_wp2
    go_ret
    exact ⟨rfl, HB6.out⟩
  | true =>
    have hbd : -8589934592 ≤ a0 ∧ a0 < 8589934592 ∧ 0 ≤ a1 ∧ a1 ≤ 24 := by
      simp [mayZ] at hmay
      omega
    obtain ⟨m, rfl⟩ := Int.eq_ofNat_of_zero_le hbd.2.2.1
    have hco := HCO.out
    rw [hmay, if_pos rfl, Int.toNat_natCast] at hco
    have hcl := HCL.out
    rw [hmay, if_pos rfl, Int.toNat_natCast] at hcl
    have HP0 := Aside0.mk (fun W g (hB : Below w.heap.size w W) (hI : IsWr w W g (.slice none 0 0) []) => by
      have hp := wr_ricePut w W g _ [] a0 m hB hI (by simp)
      rw [hmay, if_pos rfl, List.nil_append, Int.toNat_natCast] at hp
      exact hp)
    have hrz := fun s => riceZ_code hbd.1 (show a0 ≤ 8589934591 by omega) (show m ≤ 24 by omega) s
    have hlen0 : (codeZ a0 m).length ≤ 59 := by
      have h1 := codeZ_cost hbd.1 (show a0 ≤ 8589934591 by omega) (show m ≤ 24 by omega)
      have h2 := cost_range hbd.1 (show a0 ≤ 8589934591 by omega) (show m ≤ 24 by omega)
      omega
    generalize codeZ a0 m = cs at hco hcl hrz hlen0 HP0
    have HCO' := Aside0.mk hco
    have HCL' := Aside0.mk hcl
    have HRZ := Aside0.mk hrz
    have HLEN := Aside0.mk hlen0
    clear hco hcl HCO HCL hbd hrz hlen0
    have hsz : (txt cs).size = cs.length := txt_size cs
    go_wp2_with fail
    (with_reducible refine (sackbutref02_Code.calls 101 a0 m _ _ _ HCO'.out).mono ?_)
    rintro e w2 ⟨rfl, hb2⟩
    have HB2 := Aside0.mk (below_then HB1.out HB1.out.size hb2)
    clear hb2
    have HB3 := Aside0.mk (below_alloc HB2.out (.cells #[.slice none 0 0, .int .i64 0] 26))
    have HW3 := Aside0.mk (isWr_new w w2 HB2.out)
    go_wp2_with fail
    (with_reducible refine (HP0.out _ _ HB3.out HW3.out).mono ?_)
    rintro e w4 ⟨rfl, v4, hi4, hs4⟩
    have HI4 := Aside0.mk hi4
    have HB4 := Aside0.mk hs4.below
    clear hi4 hs4 HP0
    go_wp2_with fail
    (with_reducible refine (wr_Len w _ _ _ _ HI4.out).mono ?_)
    rintro e w5 ⟨rfl, rfl⟩
    go_wp2_with fail
    (with_reducible refine (rice_Cost.calls a0 m _ _ HCL'.out).mono ?_)
    rintro e w6 ⟨rfl, hd⟩
    have HB6 := Aside0.mk (below_then HB4.out HB4.out.size hd.below)
    have HI6 := Aside0.mk (isWr_below HI4.out hd.below)
    clear hd HI4 HB4
    go_wp2_with fail
    (with_reducible refine (wr_Bytes w _ _ _ _ HI6.out (by have := HLEN.out; omega)).mono ?_)
    rintro e w7 ⟨v7, rfl, ho7, hb7⟩
    obtain ⟨A7, c7, rfl, hle7, hC7⟩ := owns_reads ho7
    have HB7 := Aside0.mk (below_then HB6.out HB6.out.size hb7)
    have HI7 := Aside0.mk (isWr_below HI6.out hb7)
    have HC7 := Aside0.mk hC7
    clear ho7 hb7 hC7 HB6 HI6
    go_wp2_with fail
    (with_reducible refine (pipe_Open.calls A7 c7 (pack cs) (pack cs) 0 0 w7 _ (Below.refl _ _) HC7.out hle7 rfl).mono ?_)
    rintro e w8 ⟨g8, rfl, hr8, hb8', hb8⟩
    have HB8 := Aside0.mk (below_then HB7.out HB7.out.size hb8)
    have HBr := Aside0.mk hb8'
    have HI8 := Aside0.mk (isWr_below HI7.out hb8)
    have HR8 := Aside0.mk hr8
    clear hr8 hb8 hb8' HI7 HC7
    go_wp2_with fail
    have HId : Aside0 (IsWr w w8.drew w2.heap.size v4 cs) := ⟨HI8.out⟩
    have HRd : Aside0 (IsS75 w7 w8.drew g8 (pack cs) 0 0) := ⟨HR8.out⟩
    have HBd := Aside0.mk (below_drew1 HB8.out)
    have HBrd := Aside0.mk (below_drew1 HBr.out)
    have hb8 : Bytes8 (pack cs) := pack_bytes8 cs
    have hpl : (pack cs).length ≤ 10 := by rw [pack_length]; have := HLEN.out; omega
    have hun := unpack_pack cs
    have hpd : unpack (pack cs) = cs ++ List.replicate ((8 - cs.length % 8) % 8) false := hun
    have hsuf : List.replicate ((8 - cs.length % 8) % 8) false <:+ unpack (pack cs) := by rw [hpd]; exact List.suffix_append _ _
    have HT : Aside0 (rice_Take.f 1000 (pack cs) 0 0 m = some (a0, pos (pack cs) (List.replicate ((8 - cs.length % 8) % 8) false), 0)) := ⟨by
      have := riceTake_ok hb8 (by omega) (List.suffix_refl _) 0 (m : Int) (k := 1000) (by rw [unpack_length]; omega)
      rw [pos_nil, hpd, HRZ.out] at this
      exact this⟩
    have HE : Aside0 (pipe_Reader_End.f 60 (pack cs) (pos (pack cs) (List.replicate ((8 - cs.length % 8) % 8) false)) 0 = some (0, pos (pack cs) (List.replicate ((8 - cs.length % 8) % 8) false), 0)) := ⟨by
      have := end_ok hb8 (by omega) hsuf 0 (k := 60) (by omega)
      rw [end_pad cs] at this
      exact this⟩
    have HY := Aside0.mk (bytes_ok (l := cs) (by have := HLEN.out; omega) (k := 100) (by have := HLEN.out; omega))
    clear hb8 hpl hun hpd hsuf
    generalize pos (pack cs) (List.replicate ((8 - cs.length % 8) % 8) false) = pp at HT HE
    have hcs : ∀ {W : World} {b n : Nat} {v : Value}, W.ownsRow b 5 1 v n (nums .u8 (pack cs)) → (convert 24 9 v).run Try.prog W = .ok (.string (strOfNums (pack cs))) W := fun h => own_string Try.underlying24 Try.underlying5 Try.underlying9 h
    have HCS := Aside0.mk (fun (W : World) (b n : Nat) (v : Value) (h : W.ownsRow b 5 1 v n (nums .u8 (pack cs))) => hcs h)
    clear hcs
    go_region_with (first
      | (go_at_call 18; refine (wr_Bytes w _ _ _ _ HId.out (by have := HLEN.out; omega)).mono ?_; rintro e w9 ⟨v9, rfl, ho9, hb9⟩; have hcv9 := HCS.out _ _ _ _ ho9; have HO9 := Aside0.mk ho9; have HR9 := Aside0.mk (HRd.out.below hb9); have HB9 := Aside0.mk (below_then HBd.out HBd.out.size hb9); have HBr9 := Aside0.mk (below_then HBrd.out HBrd.out.size hb9); clear ho9 hb9)
      | (go_at_call 19; refine (sackbutref01_Bytes.calls 100 (txt cs) (pack cs) _ HY.out).mono ?_; rintro e w10 ⟨v10, rfl, hr10, hb10⟩; have hcv10 := HCS.out _ _ _ _ (Kd.own_of_R hr10); have hcv9' := HCS.out _ _ _ _ (own_below HO9.out hb10); have HR10 := Aside0.mk (HR9.out.below hb10); have HB10 := Aside0.mk (below_then HB9.out HB9.out.size hb10); have HBr10 := Aside0.mk (below_then HBr9.out HBr9.out.size hb10); clear hr10 hb10)
      | (go_at_call 39; refine (rice_Take.calls 1000 _ _ _ _ _ _ _ _ _ _ HR10.out HBr10.out HT.out).mono ?_; rintro e w11 ⟨rfl, hi11, hb11, _⟩; have HR11 := Aside0.mk hi11; have HBr11 := Aside0.mk hb11; clear hi11 hb11)
      | (go_at_call 29; refine (pipe_Reader_End.calls 60 _ _ _ _ _ _ _ _ _ HR11.out HBr11.out HE.out).mono ?_; rintro e w12 ⟨rfl, hi12, hb12, _⟩; have HBr12 := Aside0.mk hb12; clear hi12 hb12))
    all_goals go_wp2
    all_goals go_ret
    all_goals exact ⟨by first | rfl | (simp; done), HB7.out.trans (HBr12.out.mono HB7.out.size)⟩
end Go.Proofs.Ytgglnmpjajnkaaa.P
