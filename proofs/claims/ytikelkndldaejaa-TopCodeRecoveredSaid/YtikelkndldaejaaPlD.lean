/-
  Words of the shallow functions: unsigned numbers. Plain Lean.
-/
import Derived.Test.YtikelkndldaejaaPlA
set_option linter.all false
namespace Go.PW
noncomputable def andU (a b : Int) : Int := wu64 ((BitVec.ofInt 64 a &&& BitVec.ofInt 64 b).toNat)
noncomputable def orU (a b : Int) : Int := wu64 ((BitVec.ofInt 64 a ||| BitVec.ofInt 64 b).toNat)
noncomputable def xorU (a b : Int) : Int := wu64 ((BitVec.ofInt 64 a ^^^ BitVec.ofInt 64 b).toNat)
theorem andU_nat {a b : Nat} (ha : a < 18446744073709551616) (hb : b < 18446744073709551616) : andU a b = ((a &&& b : Nat) : Int) := by
  have h1 : a &&& b ≤ a := Nat.and_le_left
  simp only [andU, BitVec.ofInt_natCast, BitVec.toNat_and, BitVec.toNat_ofNat]
  rw [Nat.mod_eq_of_lt (by omega), Nat.mod_eq_of_lt (by omega)]
  exact wu64_id (by omega)
theorem wu64_nat {a : Nat} (ha : a < 18446744073709551616) : wu64 (a : Int) = a := wu64_id (by omega)
end Go.PW
