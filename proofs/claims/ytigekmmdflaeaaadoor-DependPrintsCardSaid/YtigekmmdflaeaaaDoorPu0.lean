/- The engine's plain words: numbers in range, places in rows, loops over rows. -/
import Derived.Test.YtigekmmdflaeaaaDoorEng15
import Derived.RowKit
set_option linter.all false
namespace Go.Proofs.YtigekmmdflaeaaaDoorE
open Go
set_option linter.unusedVariables false

theorem i64_in {x : Int} (h0 : -9223372036854775808 ≤ x) (h1 : x ≤ 9223372036854775807) : IntKind.i64.wrap x = x := by rw [IntKind.wrap_i64]; omega
theorem u64_in {x : Int} (h0 : 0 ≤ x) (h1 : x ≤ 18446744073709551615) : IntKind.u64.wrap x = x := by rw [IntKind.wrap_u64]; omega
theorem u32_in {x : Int} (h0 : 0 ≤ x) (h1 : x ≤ 4294967295) : IntKind.u32.wrap x = x := by rw [IntKind.wrap_u32]; omega
theorem u8_of (x : Int) : IntKind.u8.wrap x = x % 256 := by simp [IntKind.wrap, IntKind.bits, IntKind.signed]
theorem u16_of (x : Int) : IntKind.u16.wrap x = x % 65536 := by simp [IntKind.wrap, IntKind.bits, IntKind.signed]
theorem i32_of (x : Int) : IntKind.i32.wrap x = (x + 2147483648) % 4294967296 - 2147483648 := by
  simp only [IntKind.wrap, IntKind.bits, IntKind.signed, Bool.true_and]
  split <;> rename_i h <;> simp at h <;> omega
theorem wf_i64 {x : Int} (h : (Lit.int .i64 x).wf = true) : -9223372036854775808 ≤ x ∧ x ≤ 9223372036854775807 := by
  simpa [Lit.wf, IntKind.min, IntKind.max, IntKind.signed, IntKind.bits] using h
theorem wf_i32 {x : Int} (h : (Lit.int .i32 x).wf = true) : -2147483648 ≤ x ∧ x ≤ 2147483647 := by
  simpa [Lit.wf, IntKind.min, IntKind.max, IntKind.signed, IntKind.bits] using h
theorem wf_u64 {x : Int} (h : (Lit.int .u64 x).wf = true) : 0 ≤ x ∧ x ≤ 18446744073709551615 := by
  simpa [Lit.wf, IntKind.min, IntKind.max, IntKind.signed, IntKind.bits] using h
theorem wf_u32 {x : Int} (h : (Lit.int .u32 x).wf = true) : 0 ≤ x ∧ x ≤ 4294967295 := by
  simpa [Lit.wf, IntKind.min, IntKind.max, IntKind.signed, IntKind.bits] using h
theorem wf_u16 {x : Int} (h : (Lit.int .u16 x).wf = true) : 0 ≤ x ∧ x ≤ 65535 := by
  simpa [Lit.wf, IntKind.min, IntKind.max, IntKind.signed, IntKind.bits] using h
theorem wf_u8 {x : Int} (h : (Lit.int .u8 x).wf = true) : 0 ≤ x ∧ x ≤ 255 := by
  simpa [Lit.wf, IntKind.min, IntKind.max, IntKind.signed, IntKind.bits] using h

section
variable {α : Type} {l pre xs : List α} {x z : α}
/-- Amid a row. -/
theorem mid (e : l = pre ++ x :: xs) (z : α) (hl : l.length ≤ 140737488355328) :
    decide ((pre.length : Int) < (l.length : Int)) = true ∧ decide ((0 : Int) ≤ (pre.length : Int) ∧ (pre.length : Int) < (l.length : Int)) = true ∧
      l.getD ((pre.length : Int)).toNat z = x ∧ IntKind.i64.wrap ((pre.length : Int) + (1 : Int)) = ((pre ++ [x]).length : Int) ∧ l = (pre ++ [x]) ++ xs ∧ (pre.length : Int) < (l.length : Int) := by
  subst e
  have h : (pre ++ x :: xs).length = pre.length + (xs.length + 1) := by simp
  rw [h] at hl ⊢
  refine ⟨by simp; omega, by simp; omega, by simp, ?_, by simp, by omega⟩
  rw [i64_in (by omega) (by omega)]
  simp
/-- Behind a row. -/
theorem fin (e : l = pre ++ []) : decide ((pre.length : Int) < (l.length : Int)) = false ∧ pre = l := by
  subst e
  simp
end

theorem getD_lt {α : Type} {l : List α} {i : Nat} {z : α} (h : i < l.length) : l.getD i z = l[i] := by simp [List.getD_eq_getElem?_getD, h]

/-- A number's place: its u32 less 1. -/
theorem u32_pred {x : Int} (h0 : 1 ≤ x) (h1 : x ≤ 4294967295) : IntKind.u32.wrap (x - (1 : Int)) = x - 1 := u32_in (by omega) (by omega)
end Go.Proofs.YtigekmmdflaeaaaDoorE
