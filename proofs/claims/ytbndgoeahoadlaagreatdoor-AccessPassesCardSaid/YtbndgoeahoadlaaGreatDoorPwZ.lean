import Derived.Test.YtbndgoeahoadlaaGreatDoorPlA
import Derived.Test.YtbndgoeahoadlaaGreatDoorPwRA
import Derived.Test.YtbndgoeahoadlaaGreatDoorPwX
set_option linter.all false
namespace Go.PW
noncomputable def andU (a b : Int) : Int := wu64 ((BitVec.ofInt 64 a &&& BitVec.ofInt 64 b).toNat)
noncomputable def orU (a b : Int) : Int := wu64 ((BitVec.ofInt 64 a ||| BitVec.ofInt 64 b).toNat)
noncomputable def xorU (a b : Int) : Int := wu64 ((BitVec.ofInt 64 a ^^^ BitVec.ofInt 64 b).toNat)
def okByte (l : List Int) : Prop := ∀ x ∈ l, 0 ≤ x ∧ x < 256
instance (l : List Int) : Decidable (okByte l) := by unfold okByte; exact inferInstance
def bytesL (s : ByteArray) : List Int := s.data.toList.map fun b => (b.toNat : Int)
theorem bytesL_length (s : ByteArray) : (bytesL s).length = s.size := by simp [bytesL]
theorem bytesL_getD (s : ByteArray) {k : Nat} (h : k < s.size) : (bytesL s).getD k 0 = ((s.data.getD k 0).toNat : Int) := by
  have h' : s.data[k]? = some s.data[k] := by simpa using h
  simp [bytesL, List.getD_eq_getElem?_getD, Array.getD_eq_getD_getElem?, h']
end Go.PW
namespace Go.PW
theorem bit_andU (a b : Int) : bitI .and .u64 a b = andU a b := by unfold bitI andU; rw [wrap_wu64]; rfl
theorem bit_orU (a b : Int) : bitI .or .u64 a b = orU a b := by unfold bitI orU; rw [wrap_wu64]; rfl
theorem bit_xorU (a b : Int) : bitI .xor .u64 a b = xorU a b := by unfold bitI xorU; rw [wrap_wu64]; rfl
theorem repD_I (n : Nat) (z : Int) : List.replicate n (D.val (Value.int .i64 z)) = (List.replicate n z).map I := by simp
theorem listRep (n : Nat) (z : Int) : D.list n ((List.replicate n z).map I) = L (List.replicate n z) := by simp
theorem segApp (a b : List Int) : D.list (a.length + b.length) (seg (a.map I ++ b.map I) 0 (a.length + b.length)) = L (a ++ b) := by
 unfold seg
 rw [List.drop_zero, List.take_of_length_le (by simp), ← List.map_append, ← List.length_append]
theorem segRep (n : Nat) (z : Int) (b : List Int) : D.list (n + b.length) (seg ((List.replicate n z).map I ++ b.map I) 0 (n + b.length)) = L (List.replicate n z ++ b) := by
 have := segApp (List.replicate n z) b
 rwa [List.length_replicate] at this
attribute [go_sem] segApp segRep listRep bit_andU bit_orU bit_xorU Int.natCast_zero repD_I
theorem subV_map (l : List D) (k n : Nat) (h : k + n ≤ l.length) : subV (l.map V.d) k n = (sub l k n).map V.d := by
 refine List.ext_getElem (by simp [subV]) fun j h1 h2 => ?_
 have hj : j < n := by simpa [subV] using h1
 simp [subV, sub, List.getD_eq_getElem?_getD, show k + j < l.length by omega]
theorem el_room {α : Type} (s : Nat) (f : α → List D) (hf : ∀ x, (f x).length = s) (t : List α) (k : Nat) (h : k < t.length) : k * s + s ≤ (t.flatMap f).length := by
 have h1 : (k + 1) * s ≤ t.length * s := Nat.mul_le_mul_right s h
 rw [Nat.succ_mul] at h1
 rw [m8 s f hf]; exact h1
theorem subV_el {α : Type} [Inhabited α] (s : Nat) (f : α → List D) (hf : ∀ x, (f x).length = s) (t : List α) (k : Nat) (h : k < t.length) : subV ((t.flatMap f).map V.d) (k * s) s = (f (t.getD k default)).map V.d := by
 rw [subV_map _ _ _ (el_room s f hf t k h), sub_el s f hf t k h]
theorem getD_elV {α : Type} [Inhabited α] (s : Nat) (f : α → List D) (hf : ∀ x, (f x).length = s) (t : List α) (k : Nat) (h : k < t.length) (j : Nat) (hj : j < s) : ((t.flatMap f).map V.d).getD (k * s + j) n5 = V.d ((f (t.getD k default)).getD j default) := by
 have h1 := el_room s f hf t k h
 rw [← sub_el s f hf t k h, sub_getD _ _ _ _ hj]
 have h2 : k * s + j < (t.flatMap f).length := by omega
 rw [List.getD_eq_getElem?_getD, List.getD_eq_getElem?_getD, List.getElem?_map, List.getElem?_eq_getElem h2]
 rfl
theorem getD_elV0 {α : Type} [Inhabited α] (s : Nat) (f : α → List D) (hf : ∀ x, (f x).length = s) (t : List α) (k : Nat) (h : k < t.length) (hj : 0 < s) : ((t.flatMap f).map V.d).getD (k * s) n5 = V.d ((f (t.getD k default)).getD 0 default) := getD_elV s f hf t k h 0 hj
theorem setMany_mid {α : Type} (cs : List α) : ∀ (A X B : List α) (j : Nat), j + cs.length ≤ X.length → setMany (A ++ X ++ B) (A.length + j) cs = A ++ setMany X j cs ++ B := by
 induction cs with
 | nil => intro A X B j _; rfl
 | cons c cs ih =>
  intro A X B j h
  simp only [List.length_cons] at h
  simp only [setMany]
  rw [List.append_assoc, List.set_append_right _ _ (by omega), Nat.add_sub_cancel_left, List.set_append_left _ _ (by omega), ← List.append_assoc, Nat.add_assoc]
  exact ih A (X.set j c) B (j + 1) (by simp; omega)
theorem setMany_map {α β : Type} (g : α → β) (cs : List α) : ∀ (l : List α) (k : Nat), setMany (l.map g) k (cs.map g) = (setMany l k cs).map g := by
 induction cs with
 | nil => intro l k; rfl
 | cons c cs ih => intro l k; simp only [List.map_cons, setMany]; rw [← List.map_set]; exact ih _ _
theorem setMany_el {α : Type} [Inhabited α] (s : Nat) (f : α → List D) (hf : ∀ x, (f x).length = s) (t : List α) (k : Nat) (h : k < t.length) (a : α) (j : Nat) (cs : List D) (hj : j + cs.length ≤ s) (ha : setMany (f (t.getD k default)) j cs = f a) :
  setMany ((t.flatMap f).map V.d) (k * s + j) (cs.map V.d) = ((t.set k a).flatMap f).map V.d := by
 have e : t = t.take k ++ t.getD k default :: t.drop (k + 1) := by
  rw [List.getD_eq_getElem?_getD, List.getElem?_eq_getElem h, Option.getD_some, ← List.drop_eq_getElem_cons h, List.take_append_drop]
 have e2 : t.set k a = t.take k ++ a :: t.drop (k + 1) := by
  rw [List.set_eq_take_append_cons_drop, if_pos h]
 have hl : ((t.take k).flatMap f).length = k * s := by rw [m8 s f hf, List.length_take]; congr 1; omega
 rw [setMany_map, e2]
 congr 1
 have h1 : t.flatMap f = (t.take k).flatMap f ++ f (t.getD k default) ++ (t.drop (k + 1)).flatMap f := by
  conv => lhs; rw [e]
  simp
 rw [h1, ← hl, setMany_mid _ _ _ _ _ (by rw [hf]; exact hj), ha]
 simp
theorem l3 {α : Type} (t : List α) (k : Nat) (a : α) : (t.set k a).length = t.length := by simp
end Go.PW
