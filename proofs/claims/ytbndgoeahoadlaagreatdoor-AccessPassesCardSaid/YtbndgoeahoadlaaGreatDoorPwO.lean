import Derived.Test.YtbndgoeahoadlaaGreatDoorPwN
import Derived.KernelRfl
import Derived.Laws.BitsLemmas
set_option linter.all false
namespace Go.PW
open Go.RowKit

abbrev I (x : Int) : D := .val (.int .i64 x)
abbrev Bo (b : Bool) : D := .val (.bool b)
abbrev Sx (s : ByteArray) : D := .val (.string s)
abbrev L (xs : List Int) : D := .list xs.length (xs.map I)
theorem getD_mapI (xs : List Int) (k : Nat) : (xs.map I).getD k default = I (xs.getD k 0) := by
 simp only [List.getD_eq_getElem?_getD, List.getElem?_map]
 cases xs[k]? <;> rfl
theorem getD_mapV (xs : List Int) (k : Nat) : (xs.map fun x => V.d (I x)).getD k n5 = V.d (I (xs.getD k 0)) := by
 simp only [List.getD_eq_getElem?_getD, List.getElem?_map]
 cases xs[k]? <;> rfl
theorem sub1 (cells : List D) (k : Nat) : sub cells k 1 = [cells.getD k default] := by simp [sub, List.range_succ]
end Go.PW
