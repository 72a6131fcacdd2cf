/-
 More evaluation: unsigned numbers. For every program.
-/
import Derived.Test.YtbndgoeahoadlaaGreatDoorPwRA
import Derived.Test.YtbndgoeahoadlaaGreatDoorPwX
import Derived.Test.YtbndgoeahoadlaaGreatDoorPlD
set_option linter.all false
namespace Go.PW
theorem bit_andU (a b : Int) : bitI .and .u64 a b = andU a b := by unfold bitI andU; rw [wrap_wu64]; rfl
theorem bit_orU (a b : Int) : bitI .or .u64 a b = orU a b := by unfold bitI orU; rw [wrap_wu64]; rfl
theorem bit_xorU (a b : Int) : bitI .xor .u64 a b = xorU a b := by unfold bitI xorU; rw [wrap_wu64]; rfl
theorem repD_I (n : Nat) (z : Int) : List.replicate n (D.val (Value.int .i64 z)) = (List.replicate n z).map I := by simp
theorem listRep (n : Nat) (z : Int) : D.list n ((List.replicate n z).map I) = L (List.replicate n z) := by simp
theorem segApp (a b : List Int) : D.list (a.length + b.length) (seg (a.map I ++ b.map I) 0 (a.length + b.length)) = L (a ++ b) := by
 unfold seg
 rw [List.drop_zero, List.take_of_length_le (by simp), ← List.map_append, ← List.length_append]
theorem segRep (n : Nat) (z : Int) (b : List Int) : D.list (n + b.length) (seg ((List.replicate n z).map I ++ b.map I) 0 (n + b.length)) = L (List.replicate n z ++ b) := by
 have := segApp (List.replicate n z) b
 rwa [List.length_replicate] at this
attribute [go_sem] segApp segRep listRep bit_andU bit_orU bit_xorU Int.natCast_zero repD_I
end Go.PW
