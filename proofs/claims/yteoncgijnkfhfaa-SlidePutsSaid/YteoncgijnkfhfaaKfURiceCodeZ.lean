/- What the reference's code of a number is: the bits that layer 2 puts. -/
import Derived.Test.YteoncgijnkfhfaaKfPx0
import Derived.Test.YteoncgijnkfhfaaKfPx9
import Derived.Test.YteoncgijnkfhfaaKfUCost
import Derived.Test.YteoncgijnkfhfaaKfUBitsP
import Derived.Test.YteoncgijnkfhfaaKfPx1
import Derived.Test.YteoncgijnkfhfaaKfHEnd
import Derived.Test.YteoncgijnkfhfaaKfUReader
import Derived.Test.YteoncgijnkfhfaaKfHSPut
import Derived.Test.YteoncgijnkfhfaaKfUSlide
import Derived.Test.YteoncgijnkfhfaaKfPx3
section
namespace Go.Proofs.Yteoncgijnkfhfaa.Pure
open Go.RowKit Go.Proofs.Yteoncgijnkfhfaa.P Go.Proofs.YteoncgijnkfhfaaW.PrintWords Go.Proofs.YteoncgijnkfhfaaW.PrintLast Go.Proofs.YteoncgijnkfhfaaW.PrintMore
set_option linter.unusedVariables false
set_option linter.unusedSimpArgs false

theorem code_ok {n kk : Int} {k : Nat} (hk : 100 < k) : sackbutref02_Code.f k n kk = some (if mayZ n kk = true then txt (codeZ n kk.toNat) else txt [], mayZ n kk) := by
  obtain ⟨k, rfl, _⟩ := pred_k (show 0 < k by omega)
  have hno : mayZ n kk = false → sackbutref02_Code.j0 (k + 1) n kk true = some (if mayZ n kk = true then txt (codeZ n kk.toNat) else txt [], mayZ n kk) := by
    intro h
    simp only [sackbutref02_Code.j0, h]
    rfl
  unfold sackbutref02_Code.f
  by_cases h1 : n < -8589934592
  · rw [if_pos h1]
    exact hno (by simp [mayZ]; omega)
  rw [if_neg h1]
  by_cases h2 : n > 8589934591
  · rw [if_pos h2]
    exact hno (by simp [mayZ]; omega)
  rw [if_neg h2]
  by_cases h3 : kk < 0
  · rw [if_pos h3]
    exact hno (by simp [mayZ]; omega)
  rw [if_neg h3]
  by_cases h4 : kk > 24
  · rw [decide_eq_true h4]
    exact hno (by simp [mayZ]; omega)
  rw [decide_eq_false h4]
  have hm : mayZ n kk = true := by simp [mayZ]; omega
  obtain ⟨m, rfl⟩ := Int.eq_ofNat_of_zero_le (show 0 ≤ kk by omega)
  have hz := foldZ_bound (show -8589934592 ≤ n by omega) (show n < 8589934592 by omega)
  have hp := pow_bound (show m ≤ 62 by omega)
  simp only [sackbutref02_Code.j0]
  rw [if_neg (by simp), ref_fold (by omega) (by omega), bs, power_ok (by omega) (by omega), bs, if_neg (by omega), Int.tdiv_eq_ediv_of_nonneg hz.1, Int.tmod_eq_emod_of_nonneg hz.1]
  have hq0 : 0 ≤ foldZ n / 2 ^ m := Int.ediv_nonneg hz.1 (by omega)
  have hq1 : foldZ n / 2 ^ m ≤ foldZ n := Int.ediv_le_self _ hz.1
  have hr0 : 0 ≤ foldZ n % 2 ^ m := Int.emod_nonneg _ (by omega)
  have hr1 : foldZ n % 2 ^ m < 2 ^ m := Int.emod_lt_of_pos _ (by omega)
  rw [w64 (x := foldZ n / 2 ^ m) (by omega) (by omega), hm, if_pos rfl, Int.toNat_natCast]
  unfold codeZ
  by_cases hq : foldZ n / 2 ^ m < 24
  · rw [if_pos hq, if_pos hq]
    obtain ⟨q, hqq⟩ := Int.eq_ofNat_of_zero_le hq0
    rw [hqq] at hq ⊢
    rw [zeros_ok (by omega) (by omega), bs, put_ok hr0 (by omega) (by omega) (by omega), bs, txt_size, txt_size, bitsOf_length, if_pos (by simp; omega), txt_app, Int.toNat_natCast]
  · rw [if_neg hq, if_neg hq]
    have hz24 := zeros_ok (n := 24) (by omega) (show 24 < k by omega)
    rw [show ((24 : Nat) : Int) = 24 from rfl] at hz24
    have hp34 := put_ok (n := 34) hz.1 (by omega) (by omega) (show 34 < k by omega)
    rw [show ((34 : Nat) : Int) = 34 from rfl] at hp34
    rw [hz24, bs, hp34, bs, txt_size, txt_size, bitsOf_length, if_pos (by simp), txt_app]
theorem codeZ_cost {n : Int} {k : Nat} (h1 : -8589934592 ≤ n) (h2 : n ≤ 8589934591) (hk : k ≤ 24) : ((codeZ n k).length : Int) = costZ n k := by
  have hz := foldZ_bound h1 (show n < 8589934592 by omega)
  have hq0 : 0 ≤ foldZ n / 2 ^ k := Int.ediv_nonneg hz.1 (Int.pow_nonneg (by omega))
  unfold codeZ costZ
  split
  · simp [bitsOf_length]
    omega
  · simp [bitsOf_length]
end Go.Proofs.Yteoncgijnkfhfaa.Pure
end
section
/- A reader's alignment and its end, as the plain machine has it. -/
namespace Go.Proofs.Yteoncgijnkfhfaa.Pure
open Go.RowKit Go.Proofs.Yteoncgijnkfhfaa.P Go.Proofs.YteoncgijnkfhfaaW.PrintWords Go.Proofs.YteoncgijnkfhfaaW.PrintLast Go.Proofs.YteoncgijnkfhfaaW.PrintMore
set_option linter.unusedVariables false
set_option linter.unusedSimpArgs false

def alignR (s : List Bool) (e : Int) : List Bool × Int :=
  if (takeB s e ((s.length % 8 : Nat) : Int)).1 = 0 then (takeB s e ((s.length % 8 : Nat) : Int)).2 else ((takeB s e ((s.length % 8 : Nat) : Int)).2.1, giveB (takeB s e ((s.length % 8 : Nat) : Int)).2.2 5)
theorem ralign_ok {b : List Int} (hb : Bytes8 b) (hl : b.length ≤ 10000000) {s : List Bool} (hs : s <:+ unpack b) (e : Int) {k : Nat} (hk : 52 < k) : pipe_Reader_Align.f k b (pos b s) e = some (pos b (alignR s e).1, (alignR s e).2) := by
  have hn := suf_len hs
  have e1 : Int.tmod (wrap64 (8 - Int.tmod (pos b s) 8)) 8 = ((s.length % 8 : Nat) : Int) := by
    have h0 : 0 ≤ pos b s := by unfold pos; omega
    rw [Int.tmod_eq_emod_of_nonneg h0, w64 (by omega) (by omega), Int.tmod_eq_emod_of_nonneg (by omega)]
    unfold pos
    omega
  unfold pipe_Reader_Align.f alignR
  rw [e1, take_ok hb hl hs _ _ hk, bs]
  split
  · rfl
  · rw [give_ok, bs]
def endR (s : List Bool) (e : Int) : Int := if e = 0 ∧ 8 ≤ s.length then 4 else (alignR s e).2
theorem end_ok {b : List Int} (hb : Bytes8 b) (hl : b.length ≤ 10000000) {s : List Bool} (hs : s <:+ unpack b) (e : Int) {k : Nat} (hk : 52 < k) : pipe_Reader_End.f k b (pos b s) e = some (endR s e, pos b s, e) := by
  unfold pipe_Reader_End.f pipe_Reader_End.j endR
  by_cases he : e = 0
  · rw [if_pos he, left_ok hl hs, bs]
    by_cases h8 : 8 ≤ s.length
    · rw [if_pos (by show (s.length : Int) ≥ 8; omega), if_pos ⟨he, h8⟩]
    · rw [if_neg (by show ¬ (s.length : Int) ≥ 8; omega), if_neg (by omega), ralign_ok hb hl hs _ hk, bs]
  · rw [if_neg he, if_neg (by omega), ralign_ok hb hl hs _ hk, bs]
theorem numL_zero (l : List Bool) : numL l = 0 ↔ l.any id = false := by
  induction l with
  | nil => simp [numL, numA]
  | cons c l ih =>
    have hr := numL_range l
    have hp : (0 : Int) < 2 ^ l.length := Int.pow_pos (by omega)
    rw [numL_cons, List.any_cons]
    cases c
    · simpa using ih
    · simp only [if_true, id]
      constructor
      · intro h; omega
      · intro h; simp at h
/-- The end of fewer than eight bits. -/
theorem end_few {s : List Bool} (h : s.length < 8) : endR s 0 = if s.any id = true then 5 else 0 := by
  have e8 : s.length % 8 = s.length := by omega
  have ht : takeB s 0 ((s.length % 8 : Nat) : Int) = (numL s, s.drop s.length, 0) := by
    unfold takeB
    rw [if_neg (by omega), e8, if_neg (by omega), if_neg (by omega), Int.toNat_natCast, List.take_length]
  unfold endR alignR
  rw [if_neg (by omega), ht]
  by_cases hz : numL s = 0
  · rw [if_pos hz, (numL_zero s).mp hz]
    rfl
  · rw [if_neg hz]
    cases ha : s.any id
    · exact absurd ((numL_zero s).mpr ha) hz
    · rfl
end Go.Proofs.Yteoncgijnkfhfaa.Pure
end
section
/- A number's code is taken as that number, whatever stands behind. -/
namespace Go.Proofs.Yteoncgijnkfhfaa.Pure
open Go.RowKit Go.Proofs.Yteoncgijnkfhfaa.P Go.Proofs.YteoncgijnkfhfaaW.PrintWords Go.Proofs.YteoncgijnkfhfaaW.PrintLast Go.Proofs.YteoncgijnkfhfaaW.PrintMore
set_option linter.unusedVariables false
set_option linter.unusedSimpArgs false

theorem runG_code (most : Int) (s : List Bool) : ∀ (q : Nat) (i : Int), i + q ≤ most → runG most i ((List.replicate q false ++ [true]) ++ s) = (i + q, s, 0) := by
  intro q
  induction q with
  | zero => intro i _; simp [runG]
  | succ q ih =>
    intro i h
    rw [List.replicate_succ, List.cons_append, List.cons_append, runG, if_neg (by omega), ih (i + 1) (by omega)]
    congr 1
    omega
theorem runB_code {q : Nat} {most : Int} (h : (q : Int) ≤ most) (s : List Bool) : runB ((List.replicate q false ++ [true]) ++ s) 0 most = ((q : Int), s, 0) := by
  unfold runB
  rw [if_neg (by simp), runG_code most s q 0 (by omega)]
  simp
theorem takeB_bits {v : Int} {n : Nat} (hn : n ≤ 48) (h0 : 0 ≤ v) (h1 : v < 2 ^ n) (s : List Bool) : takeB (bitsOf v n ++ s) 0 n = (v, s, 0) := by
  have hl := bitsOf_length v n
  unfold takeB
  rw [if_neg (by simp), if_neg (by omega), if_neg (by rw [List.length_append, hl]; omega), Int.toNat_natCast]
  have e1 : (bitsOf v n ++ s).take n = bitsOf v n := by
    conv => lhs; arg 1; rw [← hl]
    simp
  have e2 : (bitsOf v n ++ s).drop n = s := by
    conv => lhs; arg 1; rw [← hl]
    simp
  rw [e1, e2, numL_bitsOf n h0 h1]
theorem unfZ_fold {n : Int} : unfZ (foldZ n) = n := by
  unfold unfZ foldZ
  split <;> split <;> omega
theorem riceZ_code {n : Int} {k : Nat} (h1 : -8589934592 ≤ n) (h2 : n ≤ 8589934591) (hk : k ≤ 24) (s : List Bool) : riceZ (codeZ n k ++ s) 0 k = (n, s, 0) := by
  have hz := foldZ_bound h1 (show n < 8589934592 by omega)
  have hp := pow_bound (show k ≤ 62 by omega)
  have hq0 : 0 ≤ foldZ n / 2 ^ k := Int.ediv_nonneg hz.1 (by omega)
  have hr0 : 0 ≤ foldZ n % 2 ^ k := Int.emod_nonneg _ (by omega)
  have hr1 : foldZ n % 2 ^ k < 2 ^ k := Int.emod_lt_of_pos _ (by omega)
  have hdm := Int.mul_ediv_add_emod (foldZ n) (2 ^ k)
  unfold riceZ codeZ
  rw [if_neg (by omega)]
  by_cases hq : foldZ n / 2 ^ k < 24
  · rw [if_pos hq]
    obtain ⟨q, hqq⟩ := Int.eq_ofNat_of_zero_le hq0
    rw [hqq] at hq hdm ⊢
    rw [Int.toNat_natCast, List.append_assoc, runB_code (by omega), if_pos hq, takeB_bits (by omega) hr0 hr1, if_pos rfl, Int.toNat_natCast, Int.mul_comm, hdm, unfZ_fold]
  · rw [if_neg hq]
    have hrun := runB_code (q := 24) (most := 24) (by omega) (bitsOf (foldZ n) 34 ++ s)
    rw [show ((24 : Nat) : Int) = 24 from rfl] at hrun
    have htk := takeB_bits (n := 34) (by omega) hz.1 (by omega) s
    rw [show ((34 : Nat) : Int) = 34 from rfl] at htk
    rw [List.append_assoc, hrun, if_neg (by simp), htk, Int.toNat_natCast]
    simp only [if_neg hq]
    rw [if_pos trivial, unfZ_fold]
/-- What the alignment put behind is taken as the end. -/
theorem end_pad (l : List Bool) : endR (List.replicate ((8 - l.length % 8) % 8) false) 0 = 0 := by
  rw [end_few (by simp; omega)]
  have : (List.replicate ((8 - l.length % 8) % 8) false).any id = false := by
    rw [List.any_eq_false]
    intro x hx
    rw [(List.mem_replicate.mp hx).2]
    simp
  rw [this]
  rfl
end Go.Proofs.Yteoncgijnkfhfaa.Pure
end
section
/- A list's bits: how many these are, and what is taken from them: plain Lean. -/
namespace Go.Proofs.Yteoncgijnkfhfaa.Pure
open Go.RowKit Go.Proofs.Yteoncgijnkfhfaa.P Go.Proofs.YteoncgijnkfhfaaW.PrintWords Go.Proofs.YteoncgijnkfhfaaW.PrintLast Go.Proofs.YteoncgijnkfhfaaW.PrintMore
set_option linter.unusedVariables false
set_option linter.unusedSimpArgs false

theorem totZ_cons (x : Int) (l : List Int) (p : Nat) : ∀ d, d ≤ l.length → totZ (x :: l) p d = totZ l p d := by
  intro d
  induction d with
  | zero => intro _; rfl
  | succ d ih =>
    intro hd
    rw [totZ, totZ, ih (by omega), List.length_cons, show l.length + 1 - (d + 1) = (l.length - (d + 1)) + 1 by omega, rd_cons_succ]
theorem costL_cons (x : Int) (l : List Int) (p : Nat) : costL (x :: l) p = costZ x p + costL l p := by
  unfold costL
  rw [List.length_cons, totZ, totZ_cons x l p _ (Nat.le_refl _), List.length_cons, Nat.sub_self, rd_cons_zero]
theorem partBits_cost {kk : Int} (hk : 0 ≤ kk ∧ kk ≤ 24) : ∀ {ls : List Int}, (∀ x ∈ ls, -8589934592 ≤ x ∧ x ≤ 8589934591) → ((partBits kk ls).length : Int) = costL ls kk.toNat := by
  intro ls
  induction ls with
  | nil => intro _; rfl
  | cons x ls ih =>
    intro h
    have h1 := ih (fun y hy => h y (List.mem_cons_of_mem _ hy))
    have hx := h x (List.mem_cons_self)
    have h2 := codeZ_cost hx.1 hx.2 (show kk.toNat ≤ 24 by omega)
    unfold partBits at h1 ⊢
    rw [List.flatMap_cons, List.length_append, costL_cons, ← h1, ← h2]
    simp
theorem slideBits_cost {l ks : List Int} {sz n : Nat} (hl : ∀ x ∈ l, -8589934592 ≤ x ∧ x ≤ 8589934591) (hk : ∀ x ∈ ks, 0 ≤ x ∧ x ≤ 24) (hn : n ≤ ks.length) : ∀ i, i ≤ n → 2 + ((slideBits ks l sz i).length : Int) = sumZ l ks sz i := by
  intro i
  induction i with
  | zero => intro _; rfl
  | succ i ih =>
    intro hi
    have h1 := ih (by omega)
    have hkk := hk _ (rd_mem (l := ks) (i := (i : Int)) (by omega) (by omega))
    have h2 := partBits_cost hkk (ls := partZ l sz i) (fun x hx => hl x (List.mem_of_mem_drop (List.mem_of_mem_take hx)))
    unfold partZ at h2
    rw [slideBits, sumZ]
    unfold partZ
    rw [← h2, ← h1, List.length_append, List.length_append, bitsOf_length]
    omega
theorem inner_code {kk : Int} (hk : 0 ≤ kk ∧ kk ≤ 24) (s : List Bool) : ∀ (ls pre : List Int), (∀ x ∈ ls, -8589934592 ≤ x ∧ x ≤ 8589934591) → innerZ kk ls.length (partBits kk ls ++ s) 0 pre = (pre ++ ls, s, 0) := by
  intro ls
  induction ls with
  | nil => intro pre _; simp [innerZ, partBits]
  | cons x ls ih =>
    intro pre h
    have hx := h x (List.mem_cons_self)
    have e : partBits kk (x :: ls) ++ s = codeZ x kk.toNat ++ (partBits kk ls ++ s) := by
      unfold partBits
      rw [List.flatMap_cons, List.append_assoc]
    have hr := riceZ_code hx.1 hx.2 (show kk.toNat ≤ 24 by omega) (partBits kk ls ++ s)
    rw [Int.toNat_of_nonneg hk.1] at hr
    rw [List.length_cons, e, innerZ, if_pos rfl, hr]
    simp only
    rw [if_pos trivial, ih _ (fun y hy => h y (List.mem_cons_of_mem _ hy)), List.append_assoc]
    rfl
/-- The bits of c parts from the i-th on. -/
def bitsFrom (ks l : List Int) (sz : Nat) : Nat → Nat → List Bool
  | _, 0 => []
  | i, c + 1 => (bitsOf (rd ks i) 5 ++ partBits (rd ks i) ((l.drop (i * sz)).take sz)) ++ bitsFrom ks l sz (i + 1) c
theorem bitsFrom_snoc (ks l : List Int) (sz : Nat) : ∀ c i, bitsFrom ks l sz i (c + 1) = bitsFrom ks l sz i c ++ (bitsOf (rd ks ((i + c : Nat) : Int)) 5 ++ partBits (rd ks ((i + c : Nat) : Int)) ((l.drop ((i + c) * sz)).take sz)) := by
  intro c
  induction c with
  | zero => intro i; simp [bitsFrom]
  | succ c ih =>
    intro i
    rw [bitsFrom, ih (i + 1), bitsFrom, show i + 1 + c = i + (c + 1) by omega]
    simp only [List.append_assoc]
theorem bitsFrom_all (ks l : List Int) (sz : Nat) : ∀ n, slideBits ks l sz n = bitsFrom ks l sz 0 n := by
  intro n
  induction n with
  | zero => rfl
  | succ n ih => rw [slideBits, bitsFrom_snoc, ih, Nat.zero_add]
theorem five_bits {k : Int} (h : 0 ≤ k ∧ k ≤ 24) (s : List Bool) : takeB (bitsOf k 5 ++ s) 0 5 = (k, s, 0) := by
  have := takeB_bits (v := k) (n := 5) (by omega) h.1 (by have : (2 : Int) ^ 5 = 32 := rfl; omega) s
  exact this
theorem outer_code {l ks : List Int} {sz n : Nat} (hl : ∀ x ∈ l, -8589934592 ≤ x ∧ x ≤ 8589934591) (hk : ∀ x ∈ ks, 0 ≤ x ∧ x ≤ 24) (hn : n = ks.length) (hs : n * sz ≤ l.length) (s : List Bool) : ∀ (c i : Nat), i + c = n → outerZ sz c (bitsFrom ks l sz i c ++ s) 0 (l.take (i * sz)) (ks.take i) = (l.take (n * sz), ks, s, 0) := by
  intro c
  induction c with
  | zero =>
    intro i hi
    obtain rfl : i = n := by omega
    rw [outerZ, hn, List.take_length]
    rfl
  | succ c ih =>
    intro i hi
    have hkk := hk _ (rd_mem (l := ks) (i := (i : Int)) (by omega) (by omega))
    have hpl := partZ_length hs (show i < n by omega)
    have hin := inner_code hkk (bitsFrom ks l sz (i + 1) c ++ s) (partZ l sz i) (l.take (i * sz)) (fun x hx => hl x (List.mem_of_mem_drop (List.mem_of_mem_take hx)))
    rw [hpl] at hin
    have e1 : l.take (i * sz) ++ partZ l sz i = l.take ((i + 1) * sz) := by
      unfold partZ
      rw [Nat.succ_mul, List.take_add]
    have e2 : ks.take i ++ [rd ks i] = ks.take (i + 1) := by
      rw [rd_nat, List.take_add_one, List.getD_eq_getElem?_getD, List.getElem?_eq_getElem (show i < ks.length by omega)]
      rfl
    rw [outerZ, if_pos rfl, bitsFrom, List.append_assoc, List.append_assoc, five_bits hkk]
    simp only
    unfold partZ at hin e1
    rw [hin]
    simp only
    rw [e1, e2]
    exact ih (i + 1) (by omega)
/-- The bits that a list in parts has. -/
def bitsS (P : Nat) (ks l : List Int) : List Bool := bitsOf (P : Int) 2 ++ slideBits ks l (l.length / 2 ^ P) ks.length
theorem takeS_code {l ks : List Int} {P : Nat} (hl : ∀ x ∈ l, -8589934592 ≤ x ∧ x ≤ 8589934591) (hk : ∀ x ∈ ks, 0 ≤ x ∧ x ≤ 24) (hw : wholeZ l.length (P : Int) = true) (hkl : ks.length = 2 ^ P) (s : List Bool) : takeS (bitsS P ks l ++ s) l.length = ((l, ks, s, 0), (P : Int)) := by
  obtain ⟨hP3, _, _, hd⟩ := whole_iff.mp hw
  have ht : takeB (bitsS P ks l ++ s) 0 2 = ((P : Int), slideBits ks l (l.length / 2 ^ P) ks.length ++ s, 0) := by
    unfold bitsS
    rw [List.append_assoc]
    exact takeB_bits (v := (P : Int)) (n := 2) (by omega) (by omega) (by have : (2 : Int) ^ 2 = 4 := rfl; omega) _
  have h0 : wholeZ l.length 0 = true := whole_down (P := 0) hw (by omega)
  rw [takeS_3 h0 (by rw [ht]; exact hw), ht]
  simp only
  have e : ((l.length : Int) / 2 ^ (P : Int).toNat).toNat = l.length / 2 ^ P := by
    rw [Int.toNat_natCast, show (2 : Int) ^ P = ((2 ^ P : Nat) : Int) by simp, ← Int.natCast_ediv, Int.toNat_natCast]
  rw [e, Int.toNat_natCast, bitsFrom_all, hkl]
  have ho := outer_code (sz := l.length / 2 ^ P) (n := 2 ^ P) hl hk hkl.symm (Nat.mul_div_le _ _) s (2 ^ P) 0 (by omega)
  rw [Nat.zero_mul, List.take_zero, List.take_zero, size_mul hd, List.take_length] at ho
  rw [ho]
def putS (cs : List Bool) (more : List Int) : List Int := pack cs ++ more
theorem putS_unpack (cs : List Bool) (more : List Int) : unpack (putS cs more) = cs ++ (List.replicate ((8 - cs.length % 8) % 8) false ++ unpack more) := by
  unfold putS
  rw [unpack_app, unpack_pack]
  simp [alignB, List.append_assoc]
theorem pack_bytes8S (l : List Bool) : Bytes8 (pack l) := by
  intro x hx
  obtain ⟨i, _, rfl⟩ := List.mem_map.mp hx
  exact byteAt_range l i
theorem putS_bytes {cs : List Bool} {more : List Int} (h : Bytes8 more) : Bytes8 (putS cs more) := by
  intro x hx
  rcases List.mem_append.mp hx with hx | hx
  · exact pack_bytes8S cs x hx
  · exact h x hx
/-- What was put is taken as it was, whatever stands behind. -/
theorem putS_taken {l ks more : List Int} {P : Nat} (hl : ∀ x ∈ l, -8589934592 ≤ x ∧ x ≤ 8589934591) (hk : ∀ x ∈ ks, 0 ≤ x ∧ x ≤ 24) (hw : wholeZ l.length (P : Int) = true) (hkl : ks.length = 2 ^ P) (h8 : Bytes8 more) (hm : more.length ≤ 100) (hcl : (bitsS P ks l).length ≤ 6000) :
    slide_Take.f 200000 (putS (bitsS P ks l) more) 0 0 l.length = some (l, (P : Int), ks, pos (putS (bitsS P ks l) more) (List.replicate ((8 - (bitsS P ks l).length % 8) % 8) false ++ unpack more), 0) := by
  have hb := putS_bytes (cs := bitsS P ks l) h8
  have hbl : (putS (bitsS P ks l) more).length ≤ 1000 := by unfold putS; rw [List.length_append, pack_length]; omega
  have h := slide_take_ok hb hbl (List.suffix_refl _) l.length (k := 200000) (by omega)
  rw [pos_nil, putS_unpack, takeS_code hl hk hw hkl] at h
  rw [h]
  unfold sAns endZ
  rw [if_pos rfl]
end Go.Proofs.Yteoncgijnkfhfaa.Pure
end
section
/- What the document puts as a list's bits: the same. -/
namespace Go.Proofs.Yteoncgijnkfhfaa.Pure
open Go.RowKit Go.Proofs.Yteoncgijnkfhfaa.P Go.Proofs.YteoncgijnkfhfaaW.PrintWords Go.Proofs.YteoncgijnkfhfaaW.PrintLast Go.Proofs.YteoncgijnkfhfaaW.PrintMore
set_option linter.unusedVariables false
set_option linter.unusedSimpArgs false

/-- The bits of the first numbers. -/
def preBits (ks l : List Int) (sz : Nat) : Nat → List Bool
  | 0 => []
  | i + 1 => preBits ks l sz i ++ ((if i % sz = 0 then bitsOf (rd ks ((i / sz : Nat) : Int)) 5 else []) ++ codeZ (rd l i) (rd ks ((i / sz : Nat) : Int)).toNat)
theorem preBits_part {ks l : List Int} {sz : Nat} (hs : 0 < sz) (n : Nat) (hp : preBits ks l sz (n * sz) = slideBits ks l sz n) : ∀ j, j < sz → n * sz + j < l.length → preBits ks l sz (n * sz + (j + 1)) = slideBits ks l sz n ++ (bitsOf (rd ks n) 5 ++ partBits (rd ks n) ((l.drop (n * sz)).take (j + 1))) := by
  intro j
  induction j with
  | zero =>
    intro h0 hl
    have e1 : n * sz % sz = 0 := Nat.mul_mod_left _ _
    have e2 : n * sz / sz = n := Nat.mul_div_cancel _ hs
    have e3 : (l.drop (n * sz)).take 1 = [rd l ((n * sz : Nat) : Int)] := by
      rw [rd_nat, List.getD_eq_getElem?_getD, List.getElem?_eq_getElem (show n * sz < l.length by omega)]
      rw [List.take_one, List.head?_drop, List.getElem?_eq_getElem (show n * sz < l.length by omega)]
      rfl
    rw [Nat.zero_add, preBits, hp, e1, if_pos rfl, e2, e3]
    simp [partBits]
  | succ j ih =>
    intro h0 hl
    have h1 := ih (by omega) (by omega)
    have e1 : (n * sz + (j + 1)) % sz = j + 1 := by rw [Nat.add_comm, Nat.add_mul_mod_self_right, Nat.mod_eq_of_lt h0]
    have e2 : (n * sz + (j + 1)) / sz = n := by rw [Nat.add_comm, Nat.add_mul_div_right _ _ hs, Nat.div_eq_of_lt h0, Nat.zero_add]
    have e3 : (l.drop (n * sz)).take (j + 1 + 1) = (l.drop (n * sz)).take (j + 1) ++ [rd l ((n * sz + (j + 1) : Nat) : Int)] := by
      rw [List.take_add_one, List.getElem?_drop, rd_nat, List.getD_eq_getElem?_getD, List.getElem?_eq_getElem (show n * sz + (j + 1) < l.length by omega)]
      rfl
    rw [show n * sz + (j + 1 + 1) = (n * sz + (j + 1)) + 1 by omega, preBits, h1, e1, if_neg (by omega), e2, e3]
    simp [partBits, List.append_assoc]
theorem preBits_all {ks l : List Int} {sz : Nat} (hs : 0 < sz) : ∀ n, n * sz ≤ l.length → preBits ks l sz (n * sz) = slideBits ks l sz n := by
  intro n
  induction n with
  | zero => intro _; rw [Nat.zero_mul]; rfl
  | succ n ih =>
    intro h
    rw [Nat.succ_mul] at h
    have hp := ih (by omega)
    have := preBits_part hs n hp (sz - 1) (by omega) (by omega)
    rw [show sz - 1 + 1 = sz by omega] at this
    rw [Nat.succ_mul, this, slideBits]
theorem preBits_length {ks l : List Int} {sz : Nat} (hl : ∀ x ∈ l, -8589934592 ≤ x ∧ x ≤ 8589934591) (hk : ∀ x ∈ ks, 0 ≤ x ∧ x ≤ 24) (hlt : l.length ≤ ks.length * sz) : ∀ i, i ≤ l.length → (preBits ks l sz i).length ≤ 64 * i := by
  intro i
  induction i with
  | zero => intro _; simp [preBits]
  | succ i ih =>
    intro hi
    have h1 := ih (by omega)
    have hq : i / sz < ks.length := by
      rcases Nat.eq_zero_or_pos sz with h0 | h0
      · rw [h0] at hlt; omega
      · exact (Nat.div_lt_iff_lt_mul h0).mpr (by omega)
    have hkk := hk _ (rd_mem (l := ks) (i := ((i / sz : Nat) : Int)) (Int.natCast_nonneg _) (by exact_mod_cast hq))
    have hx := hl _ (rd_mem (l := l) (i := (i : Int)) (by omega) (by omega))
    have hc := codeZ_cost hx.1 hx.2 (show (rd ks ((i / sz : Nat) : Int)).toNat ≤ 24 by omega)
    have hr := cost_range hx.1 hx.2 (show (rd ks ((i / sz : Nat) : Int)).toNat ≤ 24 by omega)
    have h5 : (if i % sz = 0 then bitsOf (rd ks ((i / sz : Nat) : Int)) 5 else []).length ≤ 5 := by
      split
      · rw [bitsOf_length]; exact Nat.le_refl _
      · simp
    rw [preBits, List.length_append, List.length_append]
    omega
theorem refPut_l0 {ks l : List Int} {p : Int} {sz : Nat} (pre : List Bool) (hpre : pre.length ≤ 10) (hs : 0 < sz) (hl : ∀ x ∈ l, -8589934592 ≤ x ∧ x ≤ 8589934591) (hk : ∀ x ∈ ks, 0 ≤ x ∧ x ≤ 24) (hlt : l.length = ks.length * sz) (hln : l.length ≤ 1024) : ∀ (d i k : Nat), i + d = l.length → 200 + d < k →
    sackbutref03_Put.l0 k l (txt (pre ++ preBits ks l sz i)) sz l.length i p ks = some (txt (pre ++ preBits ks l sz l.length), true) := by
  intro d
  induction d with
  | zero =>
    intro i k hi hk
    obtain ⟨k, rfl, _⟩ := pred_k hk
    obtain rfl : i = l.length := by omega
    rw [sackbutref03_Put.l0, if_neg (by omega)]
  | succ d ih =>
    intro i k hi hkk0
    obtain ⟨k, rfl, _⟩ := pred_k hkk0
    have hq : i / sz < ks.length := (Nat.div_lt_iff_lt_mul hs).mpr (by omega)
    have hkk := hk _ (rd_mem (l := ks) (i := ((i / sz : Nat) : Int)) (Int.natCast_nonneg _) (by exact_mod_cast hq))
    have hx := hl _ (rd_mem (l := l) (i := (i : Int)) (by omega) (by omega))
    have hqi : i / sz ≤ i := Nat.div_le_self _ _
    have e1 : wrap64 (Int.tdiv (i : Int) (sz : Int)) = ((i / sz : Nat) : Int) := by
      rw [← Int.ofNat_tdiv]
      obtain ⟨z, hz⟩ : ∃ z, i / sz = z := ⟨_, rfl⟩
      rw [hz] at hqi ⊢
      exact w64 (by omega) (by omega)
    have E1 := Aside0.mk e1
    clear e1
    have E2 : Aside0 (wrap64 ((i : Int) + 1) = ((i + 1 : Nat) : Int)) := ⟨by rw [w64 (by omega) (by omega)]; rfl⟩
    have hlen := preBits_length (sz := sz) hl hk (by omega) i (by omega)
    have hc := codeZ_cost hx.1 hx.2 (show (rd ks ((i / sz : Nat) : Int)).toNat ≤ 24 by omega)
    have hr := cost_range hx.1 hx.2 (show (rd ks ((i / sz : Nat) : Int)).toNat ≤ 24 by omega)
    obtain ⟨qi, hqq⟩ : ∃ qi, i / sz = qi := ⟨_, rfl⟩
    have hstep : preBits ks l sz (i + 1) = preBits ks l sz i ++ ((if i % sz = 0 then bitsOf (rd ks (qi : Int)) 5 else []) ++ codeZ (rd l i) (rd ks (qi : Int)).toNat) := by rw [preBits, hqq]
    have hnext := ih (i + 1) k (by omega) (by omega)
    rw [hstep] at hnext
    rw [hqq] at E1 hkk hc hr hq
    obtain ⟨kk, hkke⟩ : ∃ kk, rd ks (qi : Int) = kk := ⟨_, rfl⟩
    have hm : mayZ (rd l i) kk = true := by
      rw [← hkke]
      unfold mayZ
      simp
      omega
    have hcode := code_ok (n := rd l i) (kk := kk) (k := k) (by omega)
    rw [hm, if_pos rfl] at hcode
    have c1 : (i : Int) < (l.length : Int) := by omega
    have c2 : ¬ ((sz : Int) = 0) := by omega
    have c3 : (0 : Int) ≤ (qi : Int) := by omega
    have c4 : (qi : Int) < (ks.length : Int) := by omega
    have c5 : (0 : Int) ≤ (i : Int) := by omega
    rw [hkke] at hkk hc hr hnext
    rw [sackbutref03_Put.l0, if_pos c1, if_neg c2, E1.out, if_pos c3, if_pos c4, hkke]
    by_cases hmod : i % sz = 0
    · have hmodI : Int.tmod (i : Int) (sz : Int) = 0 := by rw [Int.tmod_eq_emod_of_nonneg (by omega)]; exact_mod_cast hmod
      have hput := put_ok (x := kk) (n := 5) (k := k) hkk.1 (by have : (2 : Int) ^ 5 = 32 := rfl; omega) (by omega) (by omega)
      rw [show ((5 : Nat) : Int) = 5 from rfl] at hput
      rw [if_pos hmod] at hnext
      have s1 : (txt (pre ++ preBits ks l sz i)).size + (txt (bitsOf kk 5)).size ≤ 9223372036854775807 := by
        rw [txt_size, txt_size, bitsOf_length, List.length_append]
        omega
      have s2 : (txt (pre ++ preBits ks l sz i) ++ txt (bitsOf kk 5)).size + (txt (codeZ (rd l i) kk.toNat)).size ≤ 9223372036854775807 := by
        rw [txt_app, txt_size, txt_size, List.length_append, List.length_append, bitsOf_length]
        omega
      rw [if_pos hmodI, hput, bs, if_pos s1, if_pos c5, if_pos c1, hcode, bs]
      simp only
      rw [if_pos s2, E2.out, txt_app, txt_app]
      rw [List.append_assoc, List.append_assoc]
      exact hnext
    · have hmodI : ¬ Int.tmod (i : Int) (sz : Int) = 0 := by rw [Int.tmod_eq_emod_of_nonneg (by omega)]; exact_mod_cast hmod
      rw [if_neg hmod, List.nil_append] at hnext
      have s1 : (txt (pre ++ preBits ks l sz i)).size + (txt (codeZ (rd l i) kk.toNat)).size ≤ 9223372036854775807 := by
        rw [txt_size, txt_size, List.length_append]
        omega
      rw [if_neg hmodI, if_pos c5, if_pos c1, hcode, bs]
      simp only
      rw [if_pos s1, E2.out, txt_app, List.append_assoc]
      exact hnext
theorem good_list {l ks : List Int} {p : Int} (h : goodP p ks l = true) : goodZ l.length p ks = true ∧ listZ l = true ∧ ∃ P : Nat, p = P ∧ wholeZ l.length (P : Int) = true ∧ ks.length = 2 ^ P ∧ (∀ x ∈ ks, 0 ≤ x ∧ x ≤ 24) ∧ ∀ x ∈ l, -8589934592 ≤ x ∧ x ≤ 8589934591 := by
  unfold goodP at h
  simp only [Bool.and_eq_true, Bool.not_eq_true', List.any_eq_false] at h
  obtain ⟨hg, hf⟩ := h
  obtain ⟨P, rfl, hw, hk, hr⟩ := good_facts hg
  have hl : ∀ x ∈ l, -8589934592 ≤ x ∧ x ≤ 8589934591 := by
    intro x hx
    have := hf x hx
    unfold farZ at this
    simp at this
    omega
  obtain ⟨_, h1, h2, _⟩ := whole_iff.mp hw
  exact ⟨hg, listZ_iff.mpr ⟨hl, h1, h2⟩, P, rfl, hw, hk, hr, hl⟩
theorem list_good {l ks : List Int} {p : Int} (hg : goodZ l.length p ks = true) (hz : listZ l = true) : goodP p ks l = true := by
  unfold goodP
  simp only [Bool.and_eq_true, Bool.not_eq_true', List.any_eq_false]
  refine ⟨hg, fun x hx => ?_⟩
  have := (listZ_iff.mp hz).1 x hx
  unfold farZ
  simp
  omega
theorem refPut_no {l ks : List Int} {p : Int} {k : Nat} (hl : l.length ≤ 1000) (hk : ks.length ≤ 1000) (h : goodP p ks l = false) (hf : 2000 < k) : sackbutref03_Put.f k l p ks = some ((⟨#[]⟩ : ByteArray), false) := by
  obtain ⟨m, hm, _⟩ := pred_k hf
  unfold sackbutref03_Put.f
  rw [refGood_ok (by omega) (by omega) (by omega), bs]
  have hj : sackbutref03_Put.j0 k l true p ks = some ((⟨#[]⟩ : ByteArray), false) := by rw [hm, sackbutref03_Put.j0, if_pos rfl]
  cases hg : goodZ l.length p ks with
  | false => rw [if_neg (by simp), hj]
  | true =>
    rw [if_pos rfl, refList_ok (by omega) (by omega), bs]
    cases hz : listZ l with
    | false => exact hj
    | true => rw [list_good hg hz] at h; cases h
theorem refPut_yes {l ks : List Int} {P : Nat} {k : Nat} (hl : ∀ x ∈ l, -8589934592 ≤ x ∧ x ≤ 8589934591) (hk : ∀ x ∈ ks, 0 ≤ x ∧ x ≤ 24) (hw : wholeZ l.length (P : Int) = true) (hkl : ks.length = 2 ^ P) (hgd : goodP (P : Int) ks l = true) (hf : 3000 < k) : sackbutref03_Put.f k l (P : Int) ks = some (txt (bitsS P ks l), true) := by
  obtain ⟨hg, hz, _⟩ := good_list hgd
  obtain ⟨hP3, h1, h2, hd⟩ := whole_iff.mp hw
  have h8 := pow_le8 hP3
  obtain ⟨m, hm, _⟩ := pred_k hf
  have hsz : 0 < l.length / 2 ^ P := Nat.div_pos (Nat.le_of_dvd (by omega) (Nat.dvd_of_mod_eq_zero hd)) (by omega)
  have hmul := size_mul hd
  have hput := put_ok (x := (P : Int)) (n := 2) (k := m) (by omega) (by have : (2 : Int) ^ 2 = 4 := rfl; omega) (by omega) (by omega)
  rw [show ((2 : Nat) : Int) = 2 from rfl] at hput
  have e : wrap64 ((l.length : Int) / (ks.length : Int)) = ((l.length / 2 ^ P : Nat) : Int) := by
    have hle : l.length / 2 ^ P ≤ l.length := Nat.div_le_self _ _
    rw [hkl, ← Int.natCast_ediv]
    obtain ⟨z, hz⟩ : ∃ z, l.length / 2 ^ P = z := ⟨_, rfl⟩
    rw [hz] at hle ⊢
    exact w64 (by omega) (by omega)
  unfold sackbutref03_Put.f
  rw [refGood_ok (by omega) (by omega) (by omega), bs, hg, if_pos rfl, refList_ok (by omega) (by omega), bs, hz, hm, sackbutref03_Put.j0, if_neg (by simp), hput, bs, if_neg (by omega), e]
  have h := refPut_l0 (ks := ks) (l := l) (p := (P : Int)) (sz := l.length / 2 ^ P) (bitsOf (P : Int) 2) (by rw [bitsOf_length]; omega) hsz hl hk (by rw [hkl]; exact hmul.symm) h2 l.length 0 m (by omega) (by omega)
  rw [show preBits ks l (l.length / 2 ^ P) 0 = [] from rfl, List.append_nil, show ((0 : Nat) : Int) = 0 from rfl] at h
  rw [h]
  have hall := preBits_all (ks := ks) (l := l) hsz (2 ^ P) (Nat.mul_div_le _ _)
  rw [hmul] at hall
  rw [hall]
  unfold bitsS
  rw [hkl]
end Go.Proofs.Yteoncgijnkfhfaa.Pure
end
