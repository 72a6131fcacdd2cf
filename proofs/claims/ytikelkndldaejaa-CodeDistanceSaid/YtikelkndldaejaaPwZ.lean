/-
  More evaluation: unsigned numbers. For every program.
-/
import Derived.Test.YtikelkndldaejaaPwX
import Derived.Test.YtikelkndldaejaaPlD
set_option linter.all false
namespace Go.PW
theorem bit_andU (a b : Int) : bitI .and .u64 a b = andU a b := by unfold bitI andU; rw [wrap_wu64]; rfl
theorem bit_orU (a b : Int) : bitI .or .u64 a b = orU a b := by unfold bitI orU; rw [wrap_wu64]; rfl
theorem bit_xorU (a b : Int) : bitI .xor .u64 a b = xorU a b := by unfold bitI xorU; rw [wrap_wu64]; rfl
attribute [go_sem] bit_andU bit_orU bit_xorU
end Go.PW
