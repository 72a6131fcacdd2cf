/-
  Lists of numbers as data; the words that the walks' simp uses. For every program.
-/
import Derived.Test.YtikelkndldaejaaPwN
import Derived.KernelRfl
import Derived.Laws.BitsLemmas
set_option linter.all false
namespace Go.PW
open Go.RowKit

abbrev I (x : Int) : D := .val (.int .i64 x)
abbrev Bo (b : Bool) : D := .val (.bool b)
abbrev Sx (s : ByteArray) : D := .val (.string s)
/-- A slice of numbers. -/
abbrev L (xs : List Int) : D := .list xs.length (xs.map I)
/-- A slice of slices of numbers. -/
abbrev LL (xs : List (List Int)) : D := .list xs.length (xs.map L)

theorem getD_mapI (xs : List Int) (k : Nat) : (xs.map I).getD k default = I (xs.getD k 0) := by
  simp only [List.getD_eq_getElem?_getD, List.getElem?_map]
  cases xs[k]? <;> rfl
theorem getD_mapV (xs : List Int) (k : Nat) : (xs.map fun x => V.d (I x)).getD k vdef = V.d (I (xs.getD k 0)) := by
  simp only [List.getD_eq_getElem?_getD, List.getElem?_map]
  cases xs[k]? <;> rfl
theorem wrap_i64 {n : Int} (h0 : -9223372036854775808 ≤ n) (h1 : n ≤ 9223372036854775807) : IntKind.i64.wrap n = n := by
  rw [IntKind.wrap_i64]
  omega
theorem sub1 (cells : List D) (k : Nat) : sub cells k 1 = [cells.getD k default] := by simp [sub, List.range_succ]
theorem tdiv_pos {a b : Int} (h : 0 ≤ a) : a.tdiv b = a / b := Int.tdiv_eq_ediv_of_nonneg h
theorem tmod_pos {a b : Int} (h : 0 ≤ a) : a.tmod b = a % b := Int.tmod_eq_emod_of_nonneg h
end Go.PW
