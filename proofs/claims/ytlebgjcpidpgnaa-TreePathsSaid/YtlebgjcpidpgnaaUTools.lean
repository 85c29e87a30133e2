/- Small plain lemmas on numbers, lists and rounds, for the pure statements. -/
import Derived.Test.YtlebgjcpidpgnaaPx0
namespace Go.Proofs.Ytlebgjcpidpgnaa.Pure
open Go.RowKit Go.Proofs.Ytlebgjcpidpgnaa.P Go.Proofs.YtlebgjcpidpgnaaW.PrintWords Go.Proofs.YtlebgjcpidpgnaaW.PrintLast Go.Proofs.YtlebgjcpidpgnaaW.PrintMore
set_option linter.unusedVariables false
set_option linter.unusedSimpArgs false

theorem w64 {x : Int} (h1 : -9223372036854775808 ≤ x) (h2 : x ≤ 9223372036854775807) : wrap64 x = x := by unfold wrap64; omega
theorem i64b {a : Int} (h : (Lit.int .i64 a).wf = true) : -9223372036854775808 ≤ a ∧ a ≤ 9223372036854775807 := by
  simp [Lit.wf, IntKind.min, IntKind.max, IntKind.signed, IntKind.bits] at h
  omega
theorem u8b {a : Int} (h : (Lit.int .u8 a).wf = true) : 0 ≤ a ∧ a ≤ 255 := by
  simp [Lit.wf, IntKind.min, IntKind.max, IntKind.signed, IntKind.bits] at h
  omega
theorem u16b {a : Int} (h : (Lit.int .u16 a).wf = true) : 0 ≤ a ∧ a ≤ 65535 := by
  simp [Lit.wf, IntKind.min, IntKind.max, IntKind.signed, IntKind.bits] at h
  omega
theorem u32b {a : Int} (h : (Lit.int .u32 a).wf = true) : 0 ≤ a ∧ a ≤ 4294967295 := by
  simp [Lit.wf, IntKind.min, IntKind.max, IntKind.signed, IntKind.bits] at h
  omega
theorem i8b {a : Int} (h : (Lit.int .i8 a).wf = true) : -128 ≤ a ∧ a ≤ 127 := by
  simp [Lit.wf, IntKind.min, IntKind.max, IntKind.signed, IntKind.bits] at h
  omega
theorem u64b {a : Int} (h : (Lit.int .u64 a).wf = true) : 0 ≤ a ∧ a ≤ 18446744073709551615 := by
  simp [Lit.wf, IntKind.min, IntKind.max, IntKind.signed, IntKind.bits] at h
  omega
theorem mx_eq (a b : Int) : mx a b = max a b := by unfold mx; omega
theorem mn_eq (a b : Int) : mn a b = min a b := by unfold mn; omega
theorem pred_k {n k : Nat} (h : n < k) : ∃ m, k = m + 1 ∧ n ≤ m := ⟨k - 1, by omega, by omega⟩

theorem rd_nat (l : List Int) (i : Nat) : rd l (i : Int) = l.getD i 0 := by simp [rd]
theorem rd_mem {l : List Int} {i : Int} (h0 : 0 ≤ i) (h : i < l.length) : rd l i ∈ l := by
  have : i.toNat < l.length := by omega
  simp only [rd, List.getD, List.getElem?_eq_getElem this, Option.getD_some]
  exact List.getElem_mem this
theorem rd_left {xs ys : List Int} {i : Int} (h0 : 0 ≤ i) (h : i < xs.length) : rd (xs ++ ys) i = rd xs i := by
  have : i.toNat < xs.length := by omega
  simp [rd, List.getElem?_append_left this]
theorem rd_end (xs : List Int) (y : Int) {i : Int} (h : i = xs.length) : rd (xs ++ [y]) i = y := by
  subst h
  simp [rd]
theorem rd_cons_zero (x : Int) (l : List Int) : rd (x :: l) ((0 : Nat) : Int) = x := by simp [rd]
theorem rd_cons_succ (x : Int) (l : List Int) (j : Nat) : rd (x :: l) ((j + 1 : Nat) : Int) = rd l j := by
  rw [rd_nat, rd_nat]
  simp [List.getD]
theorem ext_rd {xs ys : List Int} (hl : xs.length = ys.length) (h : ∀ i : Nat, i < xs.length → rd xs i = rd ys i) : xs = ys := by
  refine List.ext_getElem hl fun i h1 h2 => ?_
  have := h i h1
  rw [rd_nat, rd_nat] at this
  simpa [List.getD, h1, h2] using this

/-- The list of f 0, f 1, .., f (n - 1). -/
def tab (n : Nat) (f : Nat → Int) : List Int := (List.range n).map f
theorem tab_zero (f : Nat → Int) : tab 0 f = [] := rfl
theorem tab_length (n : Nat) (f : Nat → Int) : (tab n f).length = n := by simp [tab]
theorem tab_succ (n : Nat) (f : Nat → Int) : tab (n + 1) f = tab n f ++ [f n] := by simp [tab, List.range_succ]
theorem rd_tab {n : Nat} {f : Nat → Int} {i : Nat} (h : i < n) : rd (tab n f) i = f i := by
  rw [rd_nat]
  simp [tab, List.getD, h]
theorem rd_tab' {n : Nat} {f : Nat → Int} {i : Int} (h0 : 0 ≤ i) (h : i < n) : rd (tab n f) i = f i.toNat := by
  obtain ⟨j, rfl⟩ := Int.eq_ofNat_of_zero_le h0
  rw [rd_tab (by omega)]
  simp
theorem tab_congr {n : Nat} {f g : Nat → Int} (h : ∀ i, i < n → f i = g i) : tab n f = tab n g := by
  refine ext_rd (by simp [tab_length]) fun i hi => ?_
  rw [tab_length] at hi
  rw [rd_tab hi, rd_tab hi, h i hi]
theorem tab_self (l : List Int) : tab l.length (fun i => rd l i) = l := by
  refine ext_rd (by simp [tab_length]) fun i hi => ?_
  rw [tab_length] at hi
  rw [rd_tab hi]
theorem bs {α β : Type} (a : α) (f : α → Option β) : (some a).bind f = f a := rfl

end Go.Proofs.Ytlebgjcpidpgnaa.Pure
