/-
  Words of the shallow functions: unsigned numbers. Plain Lean.
-/
import Derived.Test.YtbndgoeahoadlaaGreatDoorPlA
set_option linter.all false
namespace Go.PW
noncomputable def andU (a b : Int) : Int := wu64 ((BitVec.ofInt 64 a &&& BitVec.ofInt 64 b).toNat)
noncomputable def orU (a b : Int) : Int := wu64 ((BitVec.ofInt 64 a ||| BitVec.ofInt 64 b).toNat)
noncomputable def xorU (a b : Int) : Int := wu64 ((BitVec.ofInt 64 a ^^^ BitVec.ofInt 64 b).toNat)
def okByte (l : List Int) : Prop := ∀ x ∈ l, 0 ≤ x ∧ x < 256
instance (l : List Int) : Decidable (okByte l) := by unfold okByte; exact inferInstance
def bytesL (s : ByteArray) : List Int := s.data.toList.map fun b => (b.toNat : Int)
theorem bytesL_length (s : ByteArray) : (bytesL s).length = s.size := by simp [bytesL]
theorem bytesL_getD (s : ByteArray) {k : Nat} (h : k < s.size) : (bytesL s).getD k 0 = ((s.data.getD k 0).toNat : Int) := by
  have h' : s.data[k]? = some s.data[k] := by simpa using h
  simp [bytesL, List.getD_eq_getElem?_getD, Array.getD_eq_getD_getElem?, h']
end Go.PW
