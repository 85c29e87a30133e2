/- What the reference's code of a number is: the bits that layer 2 puts. -/
import Derived.Test.YteoncgijnkfhfaaKePx0
import Derived.Test.YteoncgijnkfhfaaKePx3
import Derived.Test.YteoncgijnkfhfaaKePx4
import Derived.Test.YteoncgijnkfhfaaKePx7
import Derived.Test.YteoncgijnkfhfaaKeUCost
import Derived.Test.YteoncgijnkfhfaaKeUBitsP
import Derived.Test.YteoncgijnkfhfaaKeUReader
import Derived.Test.YteoncgijnkfhfaaKeUAlign
import Derived.Test.YteoncgijnkfhfaaKeHSPut
import Derived.Test.YteoncgijnkfhfaaKeUSlide
import Derived.Test.YteoncgijnkfhfaaKePx1
section
namespace Go.Proofs.Yteoncgijnkfhfaa.Pure
open Go.RowKit Go.Proofs.Yteoncgijnkfhfaa.P Go.Proofs.YteoncgijnkfhfaaW.PrintWords Go.Proofs.YteoncgijnkfhfaaW.PrintLast Go.Proofs.YteoncgijnkfhfaaW.PrintMore
set_option linter.unusedVariables false
set_option linter.unusedSimpArgs false

theorem codeZ_cost {n : Int} {k : Nat} (h1 : -8589934592 ≤ n) (h2 : n ≤ 8589934591) (hk : k ≤ 24) : ((codeZ n k).length : Int) = costZ n k := by
  have hz := foldZ_bound h1 (show n < 8589934592 by omega)
  have hq0 : 0 ≤ foldZ n / 2 ^ k := Int.ediv_nonneg hz.1 (Int.pow_nonneg (by omega))
  unfold codeZ costZ
  split
  · simp [bitsOf_length]
    omega
  · simp [bitsOf_length]
end Go.Proofs.Yteoncgijnkfhfaa.Pure
end
section
/- A number's code is taken as that number, whatever stands behind. -/
namespace Go.Proofs.Yteoncgijnkfhfaa.Pure
open Go.RowKit Go.Proofs.Yteoncgijnkfhfaa.P Go.Proofs.YteoncgijnkfhfaaW.PrintWords Go.Proofs.YteoncgijnkfhfaaW.PrintLast Go.Proofs.YteoncgijnkfhfaaW.PrintMore
set_option linter.unusedVariables false
set_option linter.unusedSimpArgs false

theorem runG_code (most : Int) (s : List Bool) : ∀ (q : Nat) (i : Int), i + q ≤ most → runG most i ((List.replicate q false ++ [true]) ++ s) = (i + q, s, 0) := by
  intro q
  induction q with
  | zero => intro i _; simp [runG]
  | succ q ih =>
    intro i h
    rw [List.replicate_succ, List.cons_append, List.cons_append, runG, if_neg (by omega), ih (i + 1) (by omega)]
    congr 1
    omega
theorem runB_code {q : Nat} {most : Int} (h : (q : Int) ≤ most) (s : List Bool) : runB ((List.replicate q false ++ [true]) ++ s) 0 most = ((q : Int), s, 0) := by
  unfold runB
  rw [if_neg (by simp), runG_code most s q 0 (by omega)]
  simp
theorem takeB_bits {v : Int} {n : Nat} (hn : n ≤ 48) (h0 : 0 ≤ v) (h1 : v < 2 ^ n) (s : List Bool) : takeB (bitsOf v n ++ s) 0 n = (v, s, 0) := by
  have hl := bitsOf_length v n
  unfold takeB
  rw [if_neg (by simp), if_neg (by omega), if_neg (by rw [List.length_append, hl]; omega), Int.toNat_natCast]
  have e1 : (bitsOf v n ++ s).take n = bitsOf v n := by
    conv => lhs; arg 1; rw [← hl]
    simp
  have e2 : (bitsOf v n ++ s).drop n = s := by
    conv => lhs; arg 1; rw [← hl]
    simp
  rw [e1, e2, numL_bitsOf n h0 h1]
theorem unfZ_fold {n : Int} : unfZ (foldZ n) = n := by
  unfold unfZ foldZ
  split <;> split <;> omega
theorem riceZ_code {n : Int} {k : Nat} (h1 : -8589934592 ≤ n) (h2 : n ≤ 8589934591) (hk : k ≤ 24) (s : List Bool) : riceZ (codeZ n k ++ s) 0 k = (n, s, 0) := by
  have hz := foldZ_bound h1 (show n < 8589934592 by omega)
  have hp := pow_bound (show k ≤ 62 by omega)
  have hq0 : 0 ≤ foldZ n / 2 ^ k := Int.ediv_nonneg hz.1 (by omega)
  have hr0 : 0 ≤ foldZ n % 2 ^ k := Int.emod_nonneg _ (by omega)
  have hr1 : foldZ n % 2 ^ k < 2 ^ k := Int.emod_lt_of_pos _ (by omega)
  have hdm := Int.mul_ediv_add_emod (foldZ n) (2 ^ k)
  unfold riceZ codeZ
  rw [if_neg (by omega)]
  by_cases hq : foldZ n / 2 ^ k < 24
  · rw [if_pos hq]
    obtain ⟨q, hqq⟩ := Int.eq_ofNat_of_zero_le hq0
    rw [hqq] at hq hdm ⊢
    rw [Int.toNat_natCast, List.append_assoc, runB_code (by omega), if_pos hq, takeB_bits (by omega) hr0 hr1, if_pos rfl, Int.toNat_natCast, Int.mul_comm, hdm, unfZ_fold]
  · rw [if_neg hq]
    have hrun := runB_code (q := 24) (most := 24) (by omega) (bitsOf (foldZ n) 34 ++ s)
    rw [show ((24 : Nat) : Int) = 24 from rfl] at hrun
    have htk := takeB_bits (n := 34) (by omega) hz.1 (by omega) s
    rw [show ((34 : Nat) : Int) = 34 from rfl] at htk
    rw [List.append_assoc, hrun, if_neg (by simp), htk, Int.toNat_natCast]
    simp only [if_neg hq]
    rw [if_pos trivial, unfZ_fold]
end Go.Proofs.Yteoncgijnkfhfaa.Pure
end
section
/- A list's bits: how many these are, and what is taken from them: plain Lean. -/
namespace Go.Proofs.Yteoncgijnkfhfaa.Pure
open Go.RowKit Go.Proofs.Yteoncgijnkfhfaa.P Go.Proofs.YteoncgijnkfhfaaW.PrintWords Go.Proofs.YteoncgijnkfhfaaW.PrintLast Go.Proofs.YteoncgijnkfhfaaW.PrintMore
set_option linter.unusedVariables false
set_option linter.unusedSimpArgs false

theorem totZ_cons (x : Int) (l : List Int) (p : Nat) : ∀ d, d ≤ l.length → totZ (x :: l) p d = totZ l p d := by
  intro d
  induction d with
  | zero => intro _; rfl
  | succ d ih =>
    intro hd
    rw [totZ, totZ, ih (by omega), List.length_cons, show l.length + 1 - (d + 1) = (l.length - (d + 1)) + 1 by omega, rd_cons_succ]
theorem costL_cons (x : Int) (l : List Int) (p : Nat) : costL (x :: l) p = costZ x p + costL l p := by
  unfold costL
  rw [List.length_cons, totZ, totZ_cons x l p _ (Nat.le_refl _), List.length_cons, Nat.sub_self, rd_cons_zero]
theorem partBits_cost {kk : Int} (hk : 0 ≤ kk ∧ kk ≤ 24) : ∀ {ls : List Int}, (∀ x ∈ ls, -8589934592 ≤ x ∧ x ≤ 8589934591) → ((partBits kk ls).length : Int) = costL ls kk.toNat := by
  intro ls
  induction ls with
  | nil => intro _; rfl
  | cons x ls ih =>
    intro h
    have h1 := ih (fun y hy => h y (List.mem_cons_of_mem _ hy))
    have hx := h x (List.mem_cons_self)
    have h2 := codeZ_cost hx.1 hx.2 (show kk.toNat ≤ 24 by omega)
    unfold partBits at h1 ⊢
    rw [List.flatMap_cons, List.length_append, costL_cons, ← h1, ← h2]
    simp
theorem slideBits_cost {l ks : List Int} {sz n : Nat} (hl : ∀ x ∈ l, -8589934592 ≤ x ∧ x ≤ 8589934591) (hk : ∀ x ∈ ks, 0 ≤ x ∧ x ≤ 24) (hn : n ≤ ks.length) : ∀ i, i ≤ n → 2 + ((slideBits ks l sz i).length : Int) = sumZ l ks sz i := by
  intro i
  induction i with
  | zero => intro _; rfl
  | succ i ih =>
    intro hi
    have h1 := ih (by omega)
    have hkk := hk _ (rd_mem (l := ks) (i := (i : Int)) (by omega) (by omega))
    have h2 := partBits_cost hkk (ls := partZ l sz i) (fun x hx => hl x (List.mem_of_mem_drop (List.mem_of_mem_take hx)))
    unfold partZ at h2
    rw [slideBits, sumZ]
    unfold partZ
    rw [← h2, ← h1, List.length_append, List.length_append, bitsOf_length]
    omega
theorem inner_code {kk : Int} (hk : 0 ≤ kk ∧ kk ≤ 24) (s : List Bool) : ∀ (ls pre : List Int), (∀ x ∈ ls, -8589934592 ≤ x ∧ x ≤ 8589934591) → innerZ kk ls.length (partBits kk ls ++ s) 0 pre = (pre ++ ls, s, 0) := by
  intro ls
  induction ls with
  | nil => intro pre _; simp [innerZ, partBits]
  | cons x ls ih =>
    intro pre h
    have hx := h x (List.mem_cons_self)
    have e : partBits kk (x :: ls) ++ s = codeZ x kk.toNat ++ (partBits kk ls ++ s) := by
      unfold partBits
      rw [List.flatMap_cons, List.append_assoc]
    have hr := riceZ_code hx.1 hx.2 (show kk.toNat ≤ 24 by omega) (partBits kk ls ++ s)
    rw [Int.toNat_of_nonneg hk.1] at hr
    rw [List.length_cons, e, innerZ, if_pos rfl, hr]
    simp only
    rw [if_pos trivial, ih _ (fun y hy => h y (List.mem_cons_of_mem _ hy)), List.append_assoc]
    rfl
/-- The bits of c parts from the i-th on. -/
def bitsFrom (ks l : List Int) (sz : Nat) : Nat → Nat → List Bool
  | _, 0 => []
  | i, c + 1 => (bitsOf (rd ks i) 5 ++ partBits (rd ks i) ((l.drop (i * sz)).take sz)) ++ bitsFrom ks l sz (i + 1) c
theorem bitsFrom_snoc (ks l : List Int) (sz : Nat) : ∀ c i, bitsFrom ks l sz i (c + 1) = bitsFrom ks l sz i c ++ (bitsOf (rd ks ((i + c : Nat) : Int)) 5 ++ partBits (rd ks ((i + c : Nat) : Int)) ((l.drop ((i + c) * sz)).take sz)) := by
  intro c
  induction c with
  | zero => intro i; simp [bitsFrom]
  | succ c ih =>
    intro i
    rw [bitsFrom, ih (i + 1), bitsFrom, show i + 1 + c = i + (c + 1) by omega]
    simp only [List.append_assoc]
theorem bitsFrom_all (ks l : List Int) (sz : Nat) : ∀ n, slideBits ks l sz n = bitsFrom ks l sz 0 n := by
  intro n
  induction n with
  | zero => rfl
  | succ n ih => rw [slideBits, bitsFrom_snoc, ih, Nat.zero_add]
theorem five_bits {k : Int} (h : 0 ≤ k ∧ k ≤ 24) (s : List Bool) : takeB (bitsOf k 5 ++ s) 0 5 = (k, s, 0) := by
  have := takeB_bits (v := k) (n := 5) (by omega) h.1 (by have : (2 : Int) ^ 5 = 32 := rfl; omega) s
  exact this
theorem outer_code {l ks : List Int} {sz n : Nat} (hl : ∀ x ∈ l, -8589934592 ≤ x ∧ x ≤ 8589934591) (hk : ∀ x ∈ ks, 0 ≤ x ∧ x ≤ 24) (hn : n = ks.length) (hs : n * sz ≤ l.length) (s : List Bool) : ∀ (c i : Nat), i + c = n → outerZ sz c (bitsFrom ks l sz i c ++ s) 0 (l.take (i * sz)) (ks.take i) = (l.take (n * sz), ks, s, 0) := by
  intro c
  induction c with
  | zero =>
    intro i hi
    obtain rfl : i = n := by omega
    rw [outerZ, hn, List.take_length]
    rfl
  | succ c ih =>
    intro i hi
    have hkk := hk _ (rd_mem (l := ks) (i := (i : Int)) (by omega) (by omega))
    have hpl := partZ_length hs (show i < n by omega)
    have hin := inner_code hkk (bitsFrom ks l sz (i + 1) c ++ s) (partZ l sz i) (l.take (i * sz)) (fun x hx => hl x (List.mem_of_mem_drop (List.mem_of_mem_take hx)))
    rw [hpl] at hin
    have e1 : l.take (i * sz) ++ partZ l sz i = l.take ((i + 1) * sz) := by
      unfold partZ
      rw [Nat.succ_mul, List.take_add]
    have e2 : ks.take i ++ [rd ks i] = ks.take (i + 1) := by
      rw [rd_nat, List.take_add_one, List.getD_eq_getElem?_getD, List.getElem?_eq_getElem (show i < ks.length by omega)]
      rfl
    rw [outerZ, if_pos rfl, bitsFrom, List.append_assoc, List.append_assoc, five_bits hkk]
    simp only
    unfold partZ at hin e1
    rw [hin]
    simp only
    rw [e1, e2]
    exact ih (i + 1) (by omega)
/-- The bits that a list in parts has. -/
def bitsS (P : Nat) (ks l : List Int) : List Bool := bitsOf (P : Int) 2 ++ slideBits ks l (l.length / 2 ^ P) ks.length
theorem takeS_code {l ks : List Int} {P : Nat} (hl : ∀ x ∈ l, -8589934592 ≤ x ∧ x ≤ 8589934591) (hk : ∀ x ∈ ks, 0 ≤ x ∧ x ≤ 24) (hw : wholeZ l.length (P : Int) = true) (hkl : ks.length = 2 ^ P) (s : List Bool) : takeS (bitsS P ks l ++ s) l.length = ((l, ks, s, 0), (P : Int)) := by
  obtain ⟨hP3, _, _, hd⟩ := whole_iff.mp hw
  have ht : takeB (bitsS P ks l ++ s) 0 2 = ((P : Int), slideBits ks l (l.length / 2 ^ P) ks.length ++ s, 0) := by
    unfold bitsS
    rw [List.append_assoc]
    exact takeB_bits (v := (P : Int)) (n := 2) (by omega) (by omega) (by have : (2 : Int) ^ 2 = 4 := rfl; omega) _
  have h0 : wholeZ l.length 0 = true := whole_down (P := 0) hw (by omega)
  rw [takeS_3 h0 (by rw [ht]; exact hw), ht]
  simp only
  have e : ((l.length : Int) / 2 ^ (P : Int).toNat).toNat = l.length / 2 ^ P := by
    rw [Int.toNat_natCast, show (2 : Int) ^ P = ((2 ^ P : Nat) : Int) by simp, ← Int.natCast_ediv, Int.toNat_natCast]
  rw [e, Int.toNat_natCast, bitsFrom_all, hkl]
  have ho := outer_code (sz := l.length / 2 ^ P) (n := 2 ^ P) hl hk hkl.symm (Nat.mul_div_le _ _) s (2 ^ P) 0 (by omega)
  rw [Nat.zero_mul, List.take_zero, List.take_zero, size_mul hd, List.take_length] at ho
  rw [ho]
def putS (cs : List Bool) (more : List Int) : List Int := pack cs ++ more
theorem putS_unpack (cs : List Bool) (more : List Int) : unpack (putS cs more) = cs ++ (List.replicate ((8 - cs.length % 8) % 8) false ++ unpack more) := by
  unfold putS
  rw [unpack_app, unpack_pack]
  simp [alignB, List.append_assoc]
theorem pack_bytes8S (l : List Bool) : Bytes8 (pack l) := by
  intro x hx
  obtain ⟨i, _, rfl⟩ := List.mem_map.mp hx
  exact byteAt_range l i
theorem putS_bytes {cs : List Bool} {more : List Int} (h : Bytes8 more) : Bytes8 (putS cs more) := by
  intro x hx
  rcases List.mem_append.mp hx with hx | hx
  · exact pack_bytes8S cs x hx
  · exact h x hx
/-- What was put is taken as it was, whatever stands behind. -/
theorem putS_taken {l ks more : List Int} {P : Nat} (hl : ∀ x ∈ l, -8589934592 ≤ x ∧ x ≤ 8589934591) (hk : ∀ x ∈ ks, 0 ≤ x ∧ x ≤ 24) (hw : wholeZ l.length (P : Int) = true) (hkl : ks.length = 2 ^ P) (h8 : Bytes8 more) (hm : more.length ≤ 100) (hcl : (bitsS P ks l).length ≤ 6000) :
    slide_Take.f 200000 (putS (bitsS P ks l) more) 0 0 l.length = some (l, (P : Int), ks, pos (putS (bitsS P ks l) more) (List.replicate ((8 - (bitsS P ks l).length % 8) % 8) false ++ unpack more), 0) := by
  have hb := putS_bytes (cs := bitsS P ks l) h8
  have hbl : (putS (bitsS P ks l) more).length ≤ 1000 := by unfold putS; rw [List.length_append, pack_length]; omega
  have h := slide_take_ok hb hbl (List.suffix_refl _) l.length (k := 200000) (by omega)
  rw [pos_nil, putS_unpack, takeS_code hl hk hw hkl] at h
  rw [h]
  unfold sAns endZ
  rw [if_pos rfl]
theorem putS_align {cs : List Bool} {more : List Int} (h8 : Bytes8 more) (hm : more.length ≤ 100) (hcl : cs.length ≤ 6000) :
    pipe_Reader_Align.f 100 (putS cs more) (pos (putS cs more) (List.replicate ((8 - cs.length % 8) % 8) false ++ unpack more)) 0 = some (pos (putS cs more) (unpack more), 0) ∧ pipe_Reader_Left.f (putS cs more) (pos (putS cs more) (unpack more)) 0 = some (8 * (more.length : Int), pos (putS cs more) (unpack more), 0) := by
  have hb := putS_bytes (cs := cs) h8
  have hbl : (putS cs more).length ≤ 10000000 := by unfold putS; rw [List.length_append, pack_length]; omega
  have hu := putS_unpack cs more
  have hsuf : List.replicate ((8 - cs.length % 8) % 8) false ++ unpack more <:+ unpack (putS cs more) := by rw [hu]; exact List.suffix_append _ _
  have hsuf2 : unpack more <:+ unpack (putS cs more) := (List.suffix_append _ _).trans hsuf
  have hpad : ∀ (m : Nat) (s : List Bool), m < 8 → s.length % 8 = 0 → alignR (List.replicate m false ++ s) 0 = (s, 0) := by
    intro m s hm hs
    have hl : (List.replicate m false ++ s).length % 8 = m := by simp; omega
    have e : takeB (List.replicate m false ++ s) 0 (m : Int) = (0, s, 0) := by
      unfold takeB
      rw [if_neg (by simp), if_neg (by omega), if_neg (by simp; omega), Int.toNat_natCast, List.take_left' (by simp), List.drop_left' (by simp)]
      have : ∀ n, numL (List.replicate n false) = 0 := by
        intro n
        induction n with
        | zero => rfl
        | succ n ih => rw [List.replicate_succ, numL_cons, ih]; rfl
      rw [this]
    unfold alignR
    rw [hl, e, if_pos rfl]
  constructor
  · rw [ralign_ok hb hbl hsuf 0 (by omega), hpad _ _ (by omega) (by rw [unpack_length]; omega)]
  · rw [left_ok hbl hsuf2, unpack_length]
    simp
end Go.Proofs.Yteoncgijnkfhfaa.Pure
end
