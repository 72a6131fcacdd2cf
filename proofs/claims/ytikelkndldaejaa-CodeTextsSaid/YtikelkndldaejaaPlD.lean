/-
  Words of the shallow functions: unsigned numbers. Plain Lean.
-/
import Derived.Test.YtikelkndldaejaaPlA
set_option linter.all false
namespace Go.PW
noncomputable def andU (a b : Int) : Int := wu64 ((BitVec.ofInt 64 a &&& BitVec.ofInt 64 b).toNat)
noncomputable def orU (a b : Int) : Int := wu64 ((BitVec.ofInt 64 a ||| BitVec.ofInt 64 b).toNat)
noncomputable def xorU (a b : Int) : Int := wu64 ((BitVec.ofInt 64 a ^^^ BitVec.ofInt 64 b).toNat)
theorem andU_nat {a b : Nat} (ha : a < 18446744073709551616) (hb : b < 18446744073709551616) : andU a b = ((a &&& b : Nat) : Int) := by
  have h1 : a &&& b ≤ a := Nat.and_le_left
  simp only [andU, BitVec.ofInt_natCast, BitVec.toNat_and, BitVec.toNat_ofNat]
  rw [Nat.mod_eq_of_lt (by omega), Nat.mod_eq_of_lt (by omega)]
  exact wu64_id (by omega)
theorem wu64_nat {a : Nat} (ha : a < 18446744073709551616) : wu64 (a : Int) = a := wu64_id (by omega)
/-! ### Bytes -/
def byteA (l : List Int) : List UInt8 := l.map fun n => n.toNat.toUInt8
/-- The string of bytes. -/
def bytesB (l : List Int) : ByteArray := ⟨(byteA l).toArray⟩
def okByte (l : List Int) : Prop := ∀ x ∈ l, 0 ≤ x ∧ x < 256
instance (l : List Int) : Decidable (okByte l) := by unfold okByte; exact inferInstance
/-- The bytes of a string. -/
def bytesL (s : ByteArray) : List Int := s.data.toList.map fun b => (b.toNat : Int)
theorem bytesL_length (s : ByteArray) : (bytesL s).length = s.size := by simp [bytesL]
theorem toByte_nat {x : Int} (h : 0 ≤ x ∧ x < 256) : ((x.toNat.toUInt8).toNat : Int) = x := by
  rw [UInt8.toNat_ofNat', Nat.mod_eq_of_lt (by omega)]
  omega
theorem bytesL_bytesB {l : List Int} (h : okByte l) : bytesL (bytesB l) = l := by
  unfold bytesL bytesB byteA
  rw [List.map_map]
  have : ∀ x ∈ l, ((fun b : UInt8 => (b.toNat : Int)) ∘ fun n : Int => n.toNat.toUInt8) x = x := fun x hx => toByte_nat (h x hx)
  rw [List.map_congr_left this, List.map_id']
theorem bytesL_getD (s : ByteArray) {k : Nat} (h : k < s.size) : (bytesL s).getD k 0 = ((s.data.getD k 0).toNat : Int) := by
  have h' : s.data[k]? = some s.data[k] := by simpa using h
  simp [bytesL, List.getD_eq_getElem?_getD, Array.getD_eq_getD_getElem?, h']
theorem bytesB_append (a b : List Int) : bytesB (a ++ b) = bytesB a ++ bytesB b := by
  apply ByteArray.ext
  rw [ByteArray.data_append]
  simp [bytesB, byteA]
theorem bytesB_size (a : List Int) : (bytesB a).size = a.length := by
  show (byteA a).toArray.size = _
  simp [byteA]
end Go.PW
