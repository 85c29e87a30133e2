/- The law TreePaths, walked. -/
import Derived.Test.YtlebgjcpidpgnaaPx0
import Derived.Test.YtlebgjcpidpgnaaHTPaths2
import Derived.Test.YtlebgjcpidpgnaaHTRPaths
import Derived.Test.YtlebgjcpidpgnaaHTRead
import Derived.Test.YtlebgjcpidpgnaaPx2
import Derived.Test.YtlebgjcpidpgnaaPx3
import Derived.Test.YtlebgjcpidpgnaaUTree
import Derived.Test.YtlebgjcpidpgnaaUTPutP
import Derived.Test.YtlebgjcpidpgnaaUPaths
import Derived.RegionTactic
import Derived.BigRegion
namespace Go.Proofs.Ytlebgjcpidpgnaa.P
open Go.RowKit Go.Proofs.YtlebgjcpidpgnaaW.PrintWords Go.Proofs.YtlebgjcpidpgnaaW.PrintLast Go.Proofs.YtlebgjcpidpgnaaW.PrintMore Go.Proofs.Ytlebgjcpidpgnaa.Pure
set_option linter.unusedVariables false
set_option linter.unusedSimpArgs false

theorem awakeQA : sackbutlaw09_awake.f 120 = some true := by kernel_rfl
set_option maxHeartbeats 8000000 in
set_option maxRecDepth 100000 in
theorem tpaths_long (t : ByteArray) (z x : Int) (w : World) (h : 200 < t.size) :
    Calls Try.prog 4 #[.string t, .int .i64 z, .int .u8 x] w fun e w' => e = .returned (.bool true) ∧ Below w.heap.size w w' := by
  have hd : decide ((200 : Int) < (t.size : Int)) = true := by simp; omega
  have hB := Aside0.mk (below_alloc (Below.refl w.heap.size w) (.cells #[.int .i64 z] 3))
  clear h
  go_enter Try.func4, Try.ntmps4
  go_wp2_with fail
  (with_reducible refine (sackbutlaw09_awake.calls 120 true _ awakeQA).mono ?_)
  rintro e w1 ⟨rfl, hb1⟩
  have HB1 := Aside0.mk (below_then hB.out hB.out.size hb1)
  clear hb1
  go_wp2_with fail
  (with_reducible refine (sackbutlaw09_awake.calls 120 true _ awakeQA).mono ?_)
  rintro e w2 ⟨rfl, hb2⟩
  have HB2 := Aside0.mk (below_then HB1.out HB1.out.size hb2)
  clear hb2
  go_wp2
  go_ret
  exact ⟨rfl, HB2.out⟩

theorem mkF (wA : World) (gz gl gw : Nat) (z m : Int) (t : ByteArray) (Aw : Option Addr) (cw : Nat) (ws : List ByteArray) (Al : Option Addr) (cl : Nat) (ls : List Int)
    (hz : wA.heap[gz]? = some (.cells #[.int .i64 z] 3 (0, 0))) (hl : wA.heap[gl]? = some (.cells #[.slice Al ls.length cl] 23 (0, 0))) (hw : wA.heap[gw]? = some (.cells #[.slice Aw ws.length cw] 31 (0, 0))) {b1 b2 : Nat} (hrl : wA.ownsRow b1 3 1 (.slice Al ls.length cl) ls.length (nums .i64 ls)) (hrw : wA.ownsRow b2 9 1 (.slice Aw ws.length cw) ws.length (encs Value.string ws)) (same : ls.length = ws.length) (few : ws.length ≤ 1000) :
    PtF ((((((wA.alloc (.cells #[.int .i64 0] 3)).alloc (.cells #[.int .i64 m] 3)).alloc (.cells #[.bool true] 4)).alloc (.cells #[.string t] 9)).alloc (.cells #[.int .i64 z] 3))) (wA.heap.size + 1 + 1) wA.heap.size gw gl gz (wA.heap.size + 1) Aw cw ws Al cl ls z m := by
  have l1 := blk_lt hz
  have l2 := blk_lt hl
  have l3 := blk_lt hw
  have hB := below_alloc (below_alloc (below_alloc (below_alloc (below_alloc (Below.refl wA.heap.size wA) (.cells #[.int .i64 0] 3)) (.cells #[.int .i64 m] 3)) (.cells #[.bool true] 4)) (.cells #[.string t] 9)) (.cells #[.int .i64 z] 3)
  have hn := blk_alloc (blk_alloc (blk_alloc (blk_alloc (blk_new wA (.cells #[.int .i64 0] 3)) (.cells #[.int .i64 m] 3)) (.cells #[.bool true] 4)) (.cells #[.string t] 9)) (.cells #[.int .i64 z] 3)
  have hm := blk_alloc (blk_alloc (blk_alloc (blk_new (wA.alloc (.cells #[.int .i64 0] 3)) (.cells #[.int .i64 m] 3)) (.cells #[.bool true] 4)) (.cells #[.string t] 9)) (.cells #[.int .i64 z] 3)
  have hk := blk_alloc (blk_alloc (blk_new ((wA.alloc (.cells #[.int .i64 0] 3)).alloc (.cells #[.int .i64 m] 3)) (.cells #[.bool true] 4)) (.cells #[.string t] 9)) (.cells #[.int .i64 z] 3)
  rw [World.size_alloc] at hm
  rw [World.size_alloc, World.size_alloc] at hk
  have hs := hB.size
  have hrl2 := own_move hrl (fun k hk => hB.block k (own_lt hrl k hk))
  have hrw2 := own_move hrw (fun k hk => hB.block k (own_lt hrw k hk))
  have hol := fun k hk => own_lt hrl k hk
  have how := fun k hk => own_lt hrw k hk
  generalize (((((wA.alloc (.cells #[.int .i64 0] 3)).alloc (.cells #[.int .i64 m] 3)).alloc (.cells #[.bool true] 4)).alloc (.cells #[.string t] 9)).alloc (.cells #[.int .i64 z] 3)) = W at *
  refine ⟨⟨hk, hn, (hB.block _ l3).trans hw, (hB.block _ l2).trans hl, (hB.block _ l1).trans hz, hm, ?_, ?_, same, few⟩, by omega, by omega, by omega, by omega, by omega, by omega, by omega, by omega, by omega, ?_, ?_⟩
  · intro i hi
    obtain ⟨A, c, he, hr⟩ := own_reads_of (enc := Value.string) (d := ({ data := #[] } : ByteArray)) hrw2
    injection he with he
    subst he
    obtain ⟨ad, e, hc⟩ := ReadsOf.at_ hr (i : Int) (by omega) (by omega)
    exact ⟨ad, e, by simpa [rdOf] using hc⟩
  · intro i hi
    obtain ⟨A, c, he, hr⟩ := own_reads_of (enc := Value.int .i64) (d := (0 : Int)) hrl2
    injection he with he
    subst he
    obtain ⟨ad, e, hc⟩ := ReadsOf.at_ hr (i : Int) (by omega) (by omega)
    exact ⟨ad, e, by simpa [rdOf] using hc⟩
  · rintro ad rfl _
    have := how ad.block rfl
    exact ⟨by omega, by omega, by omega⟩
  · rintro ad rfl _
    have := hol ad.block rfl
    exact ⟨by omega, by omega, by omega⟩

set_option maxHeartbeats 8000000 in
set_option maxRecDepth 100000 in
theorem tpaths_no (t : ByteArray) (z x : Int) (r2 : Int) (w : World) (h0 : t.size ≤ 200) (hx0 : 0 ≤ x) (hx1 : x ≤ 255) (hl : tree_Leaves.f t z = some ([], r2)) (hr : r2 ≠ 0) :
    Calls Try.prog 4 #[.string t, .int .i64 z, .int .u8 x] w fun e w' => e = .returned (.bool true) ∧ Below w.heap.size w w' := by
  have hd : decide ((200 : Int) < (t.size : Int)) = false := by simp; omega
  have HB0 := Aside0.mk (below_alloc (Below.refl w.heap.size w) (.cells #[.int .i64 z] 3))
  have HZ0 := Aside0.mk (blk_new w (.cells #[.int .i64 z] 3))
  have HL := Aside0.mk hl
  have HRL : Aside0 (sackbutref09_Leaves.f 100 t z = some ([], r2)) := ⟨by rw [rleaves_okP t z (by omega)]; exact hl⟩
  have hrb : (r2 == 0) = false := by simp [hr]
  have HPR := Aside0.mk (show pathsRes [] [] z (x % 20) t z r2 = (0, true) by unfold pathsRes; rw [if_neg hr])
  have HZR := Aside0.mk (show r2 = 0 → 0 ≤ z ∧ z ≤ 1024 from fun h => absurd h hr)
  clear h0 hl hr
  go_enter Try.func4, Try.ntmps4
  go_wp2_with fail
  (with_reducible refine (sackbutlaw09_awake.calls 120 true _ awakeQA).mono ?_)
  rintro e w1 ⟨rfl, hb1⟩
  have HB1 := Aside0.mk (below_then HB0.out HB0.out.size hb1)
  obtain ⟨gz, hgz⟩ : ∃ q, w.heap.size = q := ⟨_, rfl⟩
  rw [hgz] at HZ0
  have HZ1 := Aside0.mk (blk_below HZ0.out hb1)
  have hz1 : w1.cell? ⟨gz, 0, none⟩ = some (.int .i64 z) := (blk_cell HZ1.out 0).trans rfl
  rw [hgz]
  clear hb1 HB0 HZ0 hgz
  go_wp2_with fail
  (with_reducible refine (sackbutref09_Leaves.calls 100 t z [] r2 _ HRL.out).mono ?_)
  rintro e w2 ⟨v2, rfl, hr2, hb2⟩
  have HB2 := Aside0.mk (below_then HB1.out HB1.out.size hb2)
  have HZ2 := Aside0.mk (blk_below HZ1.out hb2)
  have HO2 := Aside0.mk (Kd.own_of_R hr2)
  obtain ⟨Al, cl, rfl⟩ := own_slice HO2.out
  clear hb2 hr2 HB1 HZ1 hz1
  go_upto_region 8 with fail
  have HZA := Aside0.mk (blk_alloc (blk_alloc HZ2.out (.cells #[.slice Al 0 cl] 23)) (.cells #[.slice none 0 0] 31))
  have HLA := Aside0.mk (blk_alloc (blk_new w2 (.cells #[.slice Al ([] : List Int).length cl] 23)) (.cells #[.slice none 0 0] 31))
  have HWA := Aside0.mk (show ((w2.alloc (.cells #[.slice Al 0 cl] 23)).alloc (.cells #[.slice none 0 0] 31)).heap[w2.heap.size + 1]? = some (.cells #[.slice none ([] : List ByteArray).length 0] 31 (0, 0)) by
    have := blk_new (w2.alloc (.cells #[.slice Al 0 cl] 23)) (.cells #[.slice none 0 0] 31)
    rwa [World.size_alloc] at this)
  have HBA := Aside0.mk (below_alloc (below_alloc HB2.out (.cells #[.slice Al 0 cl] 23)) (.cells #[.slice none 0 0] 31))
  have hba := below_alloc (below_alloc (Below.refl w2.heap.size w2) (.cells #[.slice Al 0 cl] 23)) (.cells #[.slice none 0 0] 31)
  have HOL := Aside0.mk (own_move (w1 := (w2.alloc (.cells #[.slice Al 0 cl] 23)).alloc (.cells #[.slice none 0 0] 31)) HO2.out (fun k hk => hba.block k (own_lt HO2.out k hk)))
  obtain ⟨wA, hwA⟩ : ∃ q, (w2.alloc (.cells #[.slice Al 0 cl] 23)).alloc (.cells #[.slice none 0 0] 31) = q := ⟨_, rfl⟩
  have HOW := Aside0.mk (show wA.ownsRow 0 9 1 (.slice none ([] : List ByteArray).length 0) ([] : List ByteArray).length (encs Value.string []) from own_nil _ _ _ _)
  have HSAME := Aside0.mk (show ([] : List Int).length = ([] : List ByteArray).length from rfl)
  have HFEW := Aside0.mk (show ([] : List ByteArray).length ≤ 1000 by simp)
  have hszA : wA.heap.size = w2.heap.size + 1 + 1 := by rw [← hwA]; simp only [World.size_alloc]
  have hLA := HLA.out
  change ((w2.alloc (.cells #[.slice Al 0 cl] 23)).alloc (.cells #[.slice none 0 0] 31)).heap[w2.heap.size]? = _ at hLA
  rw [hwA] at hLA
  have HLA := Aside0.mk hLA
  rw [hwA] at HZA HWA HBA HOL ⊢
  rw [← hszA]
  clear hwA hba HB2 HZ2 HO2 hLA
  obtain ⟨gl, hgl⟩ : ∃ q, w2.heap.size = q := ⟨_, rfl⟩
  rw [hgl] at HLA HWA ⊢
  obtain ⟨gw, hgw⟩ : ∃ q, gl + 1 = q := ⟨_, rfl⟩
  rw [hgw] at HWA ⊢
  clear hszA hgl hgw
  obtain ⟨w7, hw7⟩ : ∃ q, (((wA.alloc (.cells #[.int .i64 0] 3)).alloc (.cells #[.int .i64 (x % 20)] 3)).alloc (.cells #[.bool true] 4)) = q := ⟨_, rfl⟩
  rw [hw7]
  have HSZ7 := Aside0.mk (show w7.heap.size = wA.heap.size + 1 + 1 + 1 by rw [← hw7]; simp only [World.size_alloc])
  have HZ7 := Aside0.mk (show w7.heap[gz]? = some (.cells #[.int .i64 z] 3 (0, 0)) by rw [← hw7]; exact blk_alloc (blk_alloc (blk_alloc HZA.out _) _) _)
  have hz7 : w7.cell? ⟨gz, 0, none⟩ = some (.int .i64 z) := (blk_cell HZ7.out 0).trans rfl
  have HB7 := Aside0.mk (show Below w.heap.size w w7 by rw [← hw7]; exact below_alloc (below_alloc (below_alloc HBA.out _) _) _)
  have HF := Aside0.mk (mkF wA gz gl gw z (x % 20) t none 0 [] Al cl [] HZA.out HLA.out HWA.out HOL.out HOW.out HSAME.out HFEW.out)
  rw [hw7] at HF
  clear hw7
  generalize hgn : wA.heap.size = gn at *
  have hmf : ∀ (fn : Fn) (first cap : Array Value) (w : World), (Instr.makeFunc fn first cap).run Try.prog w = .ok (.func fn first cap) w := fun _ _ _ _ => rfl
  go_wp2_with fail
  (with_reducible refine (paths_calls2 t z w7).mono ?_)
  rintro e w8 ⟨rfl, hw8⟩
  rw [← hw8] at HF
  have HB8 := Aside0.mk (show Below w.heap.size w w8 by rw [hw8]; exact below_alloc (below_alloc HB7.out _) _)
  have HT8 := Aside0.mk (show w8.heap[w7.heap.size]? = some (.cells #[.string t] 9 (0, 0)) by rw [hw8]; exact blk_alloc (blk_new _ _) _)
  have HS8 := Aside0.mk (show w8.heap[w7.heap.size + 1]? = some (.cells #[.int .i64 z] 3 (0, 0)) by
    rw [hw8]
    have := blk_new (w7.alloc (.cells #[.string t] 9)) (.cells #[.int .i64 z] 3)
    rwa [World.size_alloc] at this)
  clear hw8
  go_wp2_with fail
  (with_reducible refine (paths_in HF.out w7.heap.size (w7.heap.size + 1) t z _ _ HT8.out HS8.out (by have := HSZ7.out; omega) (by have := HSZ7.out; omega) HL.out (fun h => HZR.out (by first | exact h | trivial))).mono ?_)
  rintro e w9 ⟨rfl, ho⟩
  have HP := HPR.out
  rw [HP] at ho
  obtain ⟨hk9, ok9, on9⟩ := ho
  simp only at ok9 on9
  have hW := HF.out.at hk9 ok9 on9
  have hgk := HF.out.now.bk
  have HK := Aside0.mk hk9
  have hx1 : w9.cell? ⟨gn + 1 + 1, 0, none⟩ = some (.bool true) := (blk_cell ok9 0).trans rfl
  have hx2 : w9.cell? ⟨gn, 0, none⟩ = some (.int .i64 0) := (blk_cell on9 0).trans rfl
  have hx3 : w9.cell? ⟨gw, 0, none⟩ = some (.slice none 0 0) := (blk_cell hW.bw 0).trans rfl
  have hx4 : w9.cell? ⟨gn + 1, 0, none⟩ = some (.int .i64 (x % 20)) := (blk_cell hW.bm 0).trans rfl
  have HSZA := Aside0.mk (show w.heap.size ≤ gn by rw [← hgn]; exact HBA.out.size)
  clear hk9 ok9 on9 hW hgk hgn
  go_wp2
  all_goals go_ret
  all_goals refine ⟨?_, HB8.out.os ▸ HK.out.os, HB8.out.tape ▸ HK.out.tape, HB8.out.output ▸ HK.out.output, Nat.le_trans HB8.out.size HK.out.size, fun i hi => (HK.out.block i (Nat.lt_of_lt_of_le hi HB8.out.size) (by have := HSZA.out; omega) (by have := HSZA.out; omega)).trans (HB8.out.block i hi)⟩
  all_goals (first | rfl | (simp; done))
set_option maxHeartbeats 8000000 in
set_option maxRecDepth 100000 in
theorem tpaths_yes (t : ByteArray) (z x : Int) (τ : Sh) (N : Nat) (ls : List Int) (ws : List ByteArray) (w : World) (h0 : t.size ≤ 200) (hx0 : 0 ≤ x) (hx1 : x ≤ 255) (hz0 : 0 ≤ z) (hz1' : z ≤ 1024) (hrd : rdT 4 z (tl t) = some (τ, [])) (hws : pathsT { data := #[] } τ = ws) (hsame : ls.length = ws.length) (hfew : ws.length ≤ 1000) (hl : tree_Leaves.f t z = some (ls, 0)) (hp : pathsRes ws ls z (x % 20) t z 0 = (N, true)) (hN : (N : Int) = min (ws.length : Int) (max (x % 20) 1)) :
    Calls Try.prog 4 #[.string t, .int .i64 z, .int .u8 x] w fun e w' => e = .returned (.bool true) ∧ Below w.heap.size w w' := by
  have hd : decide ((200 : Int) < (t.size : Int)) = false := by simp; omega
  have HB0 := Aside0.mk (below_alloc (Below.refl w.heap.size w) (.cells #[.int .i64 z] 3))
  have HZ0 := Aside0.mk (blk_new w (.cells #[.int .i64 z] 3))
  have HL := Aside0.mk hl
  have HRL : Aside0 (sackbutref09_Leaves.f 100 t z = some (ls, 0)) := ⟨by rw [rleaves_okP t z (by omega)]; exact hl⟩
  have HPR := Aside0.mk hp
  have HZR := Aside0.mk (show (0 : Int) = 0 → 0 ≤ z ∧ z ≤ 1024 from fun _ => ⟨hz0, hz1'⟩)
  have HRD := Aside0.mk hrd
  have HWS := Aside0.mk hws
  have HSAME := Aside0.mk hsame
  have HFEW := Aside0.mk hfew
  have HN := Aside0.mk hN
  have HX := Aside0.mk (And.intro hz0 hz1')
  clear h0 hl hrd hws hsame hfew hp hN hz0 hz1'
  go_enter Try.func4, Try.ntmps4
  go_wp2_with fail
  (with_reducible refine (sackbutlaw09_awake.calls 120 true _ awakeQA).mono ?_)
  rintro e w1 ⟨rfl, hb1⟩
  have HB1 := Aside0.mk (below_then HB0.out HB0.out.size hb1)
  obtain ⟨gz, hgz⟩ : ∃ q, w.heap.size = q := ⟨_, rfl⟩
  rw [hgz] at HZ0
  have HZ1 := Aside0.mk (blk_below HZ0.out hb1)
  have hz1 : w1.cell? ⟨gz, 0, none⟩ = some (.int .i64 z) := (blk_cell HZ1.out 0).trans rfl
  rw [hgz]
  clear hb1 HB0 HZ0 hgz
  go_wp2_with fail
  (with_reducible refine (sackbutref09_Leaves.calls 100 t z ls 0 _ HRL.out).mono ?_)
  rintro e w2 ⟨v2, rfl, hr2, hb2⟩
  have HB2 := Aside0.mk (below_then HB1.out HB1.out.size hb2)
  have HZ2 := Aside0.mk (blk_below HZ1.out hb2)
  have HO2 := Aside0.mk (Kd.own_of_R hr2)
  obtain ⟨Al, cl, rfl⟩ := own_slice HO2.out
  clear hb2 hr2 HB1 HZ1 hz1
  have hzB : ((w2.alloc (.cells #[.slice Al ls.length cl] 23)).alloc (.cells #[.slice none 0 0] 31)).cell? ⟨gz, 0, none⟩ = some (.int .i64 z) := (blk_cell (blk_alloc (blk_alloc HZ2.out _) _) 0).trans rfl
  have HZB := Aside0.mk (blk_alloc (blk_alloc HZ2.out (.cells #[.slice Al ls.length cl] 23)) (.cells #[.slice none 0 0] 31))
  have HLB := Aside0.mk (blk_alloc (blk_new w2 (.cells #[.slice Al ls.length cl] 23)) (.cells #[.slice none 0 0] 31))
  have HWB := Aside0.mk (show ((w2.alloc (.cells #[.slice Al ls.length cl] 23)).alloc (.cells #[.slice none 0 0] 31)).heap[w2.heap.size + 1]? = some (.cells #[.slice none 0 0] 31 (0, 0)) by
    have := blk_new (w2.alloc (.cells #[.slice Al ls.length cl] 23)) (.cells #[.slice none 0 0] 31)
    rwa [World.size_alloc] at this)
  have HBB := Aside0.mk (below_alloc (below_alloc HB2.out (.cells #[.slice Al ls.length cl] 23)) (.cells #[.slice none 0 0] 31))
  have hbb := below_alloc (below_alloc (Below.refl w2.heap.size w2) (.cells #[.slice Al ls.length cl] 23)) (.cells #[.slice none 0 0] 31)
  have HOB := Aside0.mk (own_move (w1 := (w2.alloc (.cells #[.slice Al ls.length cl] 23)).alloc (.cells #[.slice none 0 0] 31)) HO2.out (fun k hk => hbb.block k (own_lt HO2.out k hk)))
  have HGW := Aside0.mk (show w.heap.size ≤ w2.heap.size + 1 by have := HB2.out.size; omega)
  go_wp2_with fail
  generalize (w2.alloc (.cells #[.slice Al ls.length cl] 23)).alloc (.cells #[.slice none 0 0] 31) = wB at *
  obtain ⟨gl, hgl⟩ : ∃ q, w2.heap.size = q := ⟨_, rfl⟩
  rw [hgl] at HLB HWB HGW ⊢
  obtain ⟨gw, hgw⟩ : ∃ q, gl + 1 = q := ⟨_, rfl⟩
  rw [hgw] at HWB HGW ⊢
  have HNE := Aside0.mk (show gl ≠ gw by omega)
  clear hgl hgw hbb HB2 HZ2 HO2 hzB
  (with_reducible refine (rpaths_calls 4 τ t { data := #[] } z 4 [] wB HRD.out HX.out.1 HX.out.2 ⟨rfl⟩ (by omega) (by decide)).mono ?_)
  rintro e w5 ⟨v5, t5, rfl, _, hr5, hb5⟩
  rw [HWS.out] at hr5
  unfold RowS at hr5
  obtain ⟨Aw, cw, rfl⟩ := own_slice hr5
  have hw5 := blk_below HWB.out hb5
  have hf5 : w5.frozen? ⟨gw, 0, none⟩ = false := blk_frozen hw5 0
  have hc5 : w5.cell? ⟨gw, 0, none⟩ = some (.slice none 0 0) := (blk_cell hw5 0).trans rfl
  have HZA := Aside0.mk (blk_far (blk_below HZB.out hb5) (p := ⟨gw, 0, none⟩) (by rintro rfl; exact blk_ne HZB.out HWB.out (by decide) rfl) (.slice Aw ws.length cw))
  have HLA := Aside0.mk (blk_far (blk_below HLB.out hb5) (p := ⟨gw, 0, none⟩) HNE.out (.slice Aw ws.length cw))
  have HWA := Aside0.mk (blk_put hw5 0 (.slice Aw ws.length cw) rfl)
  have HBA := Aside0.mk ((below_then HBB.out HBB.out.size hb5).setCell (p := ⟨gw, 0, none⟩) HGW.out (.slice Aw ws.length cw))
  have ho5 := own_move (w1 := w5) HOB.out (fun k hk => hb5.block k (own_lt HOB.out k hk))
  have HOL := Aside0.mk (own_setCell ho5 (p := ⟨gw, 0, none⟩) (own_ne ho5 hw5 (by decide)) (.slice Aw ws.length cw))
  have HOW := Aside0.mk (own_setCell hr5 (p := ⟨gw, 0, none⟩) (own_ne hr5 hw5 (by decide)) (.slice Aw ws.length cw))
  clear hb5 hr5 hw5 ho5 HZB HLB HWB HBB HOB
  go_upto_region 8 with fail
  obtain ⟨wA, hwA⟩ : ∃ q, w5.setCell ⟨gw, 0, none⟩ (.slice Aw ws.length cw) = q := ⟨_, rfl⟩
  have hs5 : w5.heap.size = wA.heap.size := by rw [← hwA]; simp [World.setCell]
  rw [hwA] at HZA HLA HWA HBA HOL HOW ⊢
  rw [hs5]
  clear hwA hf5 hs5 hc5
  obtain ⟨w7, hw7⟩ : ∃ q, (((wA.alloc (.cells #[.int .i64 0] 3)).alloc (.cells #[.int .i64 (x % 20)] 3)).alloc (.cells #[.bool true] 4)) = q := ⟨_, rfl⟩
  rw [hw7]
  have HSZ7 := Aside0.mk (show w7.heap.size = wA.heap.size + 1 + 1 + 1 by rw [← hw7]; simp only [World.size_alloc])
  have HZ7 := Aside0.mk (show w7.heap[gz]? = some (.cells #[.int .i64 z] 3 (0, 0)) by rw [← hw7]; exact blk_alloc (blk_alloc (blk_alloc HZA.out _) _) _)
  have hz7 : w7.cell? ⟨gz, 0, none⟩ = some (.int .i64 z) := (blk_cell HZ7.out 0).trans rfl
  have HB7 := Aside0.mk (show Below w.heap.size w w7 by rw [← hw7]; exact below_alloc (below_alloc (below_alloc HBA.out _) _) _)
  have HF := Aside0.mk (mkF wA gz gl gw z (x % 20) t Aw cw ws Al cl ls HZA.out HLA.out HWA.out HOL.out HOW.out HSAME.out HFEW.out)
  rw [hw7] at HF
  clear hw7
  generalize hgn : wA.heap.size = gn at *
  have hmf : ∀ (fn : Fn) (first cap : Array Value) (w : World), (Instr.makeFunc fn first cap).run Try.prog w = .ok (.func fn first cap) w := fun _ _ _ _ => rfl
  go_wp2_with fail
  (with_reducible refine (paths_calls2 t z w7).mono ?_)
  rintro e w8 ⟨rfl, hw8⟩
  rw [← hw8] at HF
  have HB8 := Aside0.mk (show Below w.heap.size w w8 by rw [hw8]; exact below_alloc (below_alloc HB7.out _) _)
  have HT8 := Aside0.mk (show w8.heap[w7.heap.size]? = some (.cells #[.string t] 9 (0, 0)) by rw [hw8]; exact blk_alloc (blk_new _ _) _)
  have HS8 := Aside0.mk (show w8.heap[w7.heap.size + 1]? = some (.cells #[.int .i64 z] 3 (0, 0)) by
    rw [hw8]
    have := blk_new (w7.alloc (.cells #[.string t] 9)) (.cells #[.int .i64 z] 3)
    rwa [World.size_alloc] at this)
  clear hw8
  go_wp2_with fail
  (with_reducible refine (paths_in HF.out w7.heap.size (w7.heap.size + 1) t z _ _ HT8.out HS8.out (by have := HSZ7.out; omega) (by have := HSZ7.out; omega) HL.out (fun h => HZR.out (by first | exact h | trivial))).mono ?_)
  rintro e w9 ⟨rfl, ho⟩
  have HP := HPR.out
  rw [HP] at ho
  obtain ⟨hk9, ok9, on9⟩ := ho
  simp only at ok9 on9
  have hW := HF.out.at hk9 ok9 on9
  have hgk := HF.out.now.bk
  have HK := Aside0.mk hk9
  have hx1 : w9.cell? ⟨gn + 1 + 1, 0, none⟩ = some (.bool true) := (blk_cell ok9 0).trans rfl
  have hx2 : w9.cell? ⟨gn, 0, none⟩ = some (.int .i64 (N : Int)) := (blk_cell on9 0).trans rfl
  have hx3 : w9.cell? ⟨gw, 0, none⟩ = some (.slice Aw ws.length cw) := (blk_cell hW.bw 0).trans rfl
  have hx4 : w9.cell? ⟨gn + 1, 0, none⟩ = some (.int .i64 (x % 20)) := (blk_cell hW.bm 0).trans rfl
  have HSZA := Aside0.mk (show w.heap.size ≤ gn by rw [← hgn]; exact HBA.out.size)
  clear hk9 ok9 on9 hW hgk hgn
  go_wp2
  all_goals go_ret
  all_goals refine ⟨?_, HB8.out.os ▸ HK.out.os, HB8.out.tape ▸ HK.out.tape, HB8.out.output ▸ HK.out.output, Nat.le_trans HB8.out.size HK.out.size, fun i hi => (HK.out.block i (Nat.lt_of_lt_of_le hi HB8.out.size) (by have := HSZA.out; omega) (by have := HSZA.out; omega)).trans (HB8.out.block i hi)⟩
  all_goals (have hN := HN.out; refine congrArg Ending.returned (show _ = Value.bool true from congrArg Value.bool ?_); rw [beq_iff_eq]; clear HF HB8 HT8 HS8 HP HK HPR; omega)
def sackbutlaw09_TreePaths.f (t : ByteArray) (z x : Int) : Option Bool := if 0 ≤ x ∧ x ≤ 255 then some true else none
theorem sackbutlaw09_TreePaths.calls (a0 : ByteArray) (a1 a2 : Int) (r : Bool) (w : World) (h : sackbutlaw09_TreePaths.f a0 a1 a2 = some r) :
    Calls Try.prog 4 #[.string a0, .int .i64 a1, .int .u8 a2] w fun e w' => e = .returned (.bool r) ∧ Below w.heap.size w w' := by
  unfold sackbutlaw09_TreePaths.f at h
  by_cases hx : 0 ≤ a2 ∧ a2 ≤ 255
  case neg => rw [if_neg hx] at h; cases h
  rw [if_pos hx] at h
  cases h
  by_cases h0 : 200 < a0.size
  · exact tpaths_long a0 a1 a2 w h0
  by_cases hz : a1 < 1 ∨ 1024 < a1
  · exact tpaths_no a0 a1 a2 1 w (by omega) hx.1 hx.2 (by unfold tree_Leaves.f; rw [if_pos hz]) (by omega)
  · rcases leaves_ok a0 (z := a1) (by omega) (by omega) with ⟨τ, e1, e2⟩ | ⟨_, e2⟩
    · obtain ⟨_, hk⟩ := rdT_enc _ _ _ _ _ e1
      have hlen := pathsT_length 4 τ a1 { data := #[] } hk
      obtain ⟨N, hp, hN⟩ := paths_res (m := a2 % 20) e1 (by omega) (by omega)
      exact tpaths_yes a0 a1 a2 τ N (leavesT a1 τ) _ w (by omega) hx.1 hx.2 (by omega) (by omega) e1 rfl (pathsT_leaves τ { data := #[] } a1).symm (by omega) e2 hp hN
    · exact tpaths_no a0 a1 a2 10 w (by omega) hx.1 hx.2 e2 (by omega)
end Go.Proofs.Ytlebgjcpidpgnaa.P
