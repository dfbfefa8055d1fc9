/- Plain lemmas on wraps, clamps and ranges. No program in sight. -/
import Derived.Test.YtojlgjdebokelabDoorHWord
import Derived.Test.YtojlgjdebokelabDoorWWords
namespace Go.Proofs.YtojlgjdebokelabDoorH
open Go.RowKit

theorem w64_range (n : Int) : -9223372036854775808 ≤ wrap64 n ∧ wrap64 n ≤ 9223372036854775807 := by unfold wrap64; omega
theorem w64_in (n : Int) (h : -9223372036854775808 ≤ n ∧ n ≤ 9223372036854775807) : wrap64 n = n := by unfold wrap64; omega
theorem w32_in (n : Int) (h : -2147483648 ≤ n ∧ n ≤ 2147483647) : wrap32 n = n := by unfold wrap32; omega
theorem w16_in (n : Int) (h : -32768 ≤ n ∧ n ≤ 32767) : IntKind.i16.wrap n = n := by
  simp only [IntKind.wrap, IntKind.bits, IntKind.signed]; simp; omega
theorem clamp_in (n lo hi : Int) (h : lo ≤ hi) : lo ≤ clamp n lo hi ∧ clamp n lo hi ≤ hi := by
  unfold clamp
  split
  · omega
  · split <;> omega
theorem clamp_id (n lo hi : Int) (h : lo ≤ n ∧ n ≤ hi) : clamp n lo hi = n := by
  unfold clamp
  rw [if_neg (by omega), if_neg (by omega)]
theorem wf_i32 {x : Int} (h : (Lit.int .i32 x).wf = true) : -2147483648 ≤ x ∧ x ≤ 2147483647 := by
  have e1 : IntKind.i32.min = -2147483648 := by decide
  have e2 : IntKind.i32.max = 2147483647 := by decide
  simp only [Lit.wf, e1, e2, decide_eq_true_eq, Bool.and_eq_true] at h
  omega
theorem wf_i16 {x : Int} (h : (Lit.int .i16 x).wf = true) : -32768 ≤ x ∧ x ≤ 32767 := by
  have e1 : IntKind.i16.min = -32768 := by decide
  have e2 : IntKind.i16.max = 32767 := by decide
  simp only [Lit.wf, e1, e2, decide_eq_true_eq, Bool.and_eq_true] at h
  omega
theorem wf_i64 {x : Int} (h : (Lit.int .i64 x).wf = true) : -9223372036854775808 ≤ x ∧ x ≤ 9223372036854775807 := by
  have e1 : IntKind.i64.min = -9223372036854775808 := by decide
  have e2 : IntKind.i64.max = 9223372036854775807 := by decide
  simp only [Lit.wf, e1, e2, decide_eq_true_eq, Bool.and_eq_true] at h
  omega
theorem rd_mem (l : List Int) (i : Int) (h0 : 0 ≤ i) (h : i < (l.length : Int)) : Go.Proofs.YtojlgjdebokelabDoorW.PrintWords.rd l i ∈ l := by
  unfold Go.Proofs.YtojlgjdebokelabDoorW.PrintWords.rd
  rw [List.getD_eq_getElem?_getD, List.getElem?_eq_getElem (by omega)]
  exact List.getElem_mem _
end Go.Proofs.YtojlgjdebokelabDoorH
