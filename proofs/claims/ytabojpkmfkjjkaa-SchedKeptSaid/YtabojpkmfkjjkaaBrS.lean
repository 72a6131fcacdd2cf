/-
  The bridge of this seat: what the types of the laws' parameters read as. (Printed by bridge.py.)
-/
import Derived.Test.YtabojpkmfkjjkaaPwY
import Derived.Test.YtabojpkmfkjjkaaSsBase
import Derived.Test.YtabojpkmfkjjkaaRows
set_option linter.all false
namespace Go.Proofs.Ytabojpkmfkjjkaa
open Go.PW Go.RowKit Go.ChangeShapes Go.WideShapes Go.ChangeAt
theorem br_own : ownKnob Try.prog.godebug = none := by kernel_rfl
theorem br_laid : laidOutB Try.prog = true := by kernel_rfl
theorem br_size3 : Try.prog.cellsOf 3 = 1 := by kernel_rfl
theorem br_pos3 : 0 < Try.prog.cellsOf 3 := by rw [br_size3]; decide
theorem br_one22_3 : Try.prog.cellsOf 3 = 1 := by kernel_rfl
theorem br_at24_0 : 1 = 0 + Try.prog.cellsOf 3 := by kernel_rfl
theorem br_at24_1 : 2 = 1 + Try.prog.cellsOf 3 := by kernel_rfl
theorem br_at24_2 : 3 = 2 + Try.prog.cellsOf 3 := by kernel_rfl
theorem br_at24_3 : 4 = 3 + Try.prog.cellsOf 22 := by kernel_rfl
theorem br_at27_0 : 1 = 0 + Try.prog.cellsOf 9 := by kernel_rfl
theorem br_at27_1 : 2 = 1 + Try.prog.cellsOf 3 := by kernel_rfl
theorem br_at27_2 : 3 = 2 + Try.prog.cellsOf 3 := by kernel_rfl
theorem br_at27_3 : 4 = 3 + Try.prog.cellsOf 3 := by kernel_rfl
theorem br_at27_4 : 5 = 4 + Try.prog.cellsOf 3 := by kernel_rfl
theorem br_at27_5 : 6 = 5 + Try.prog.cellsOf 3 := by kernel_rfl
theorem br_at27_6 : 7 = 6 + Try.prog.cellsOf 3 := by kernel_rfl
theorem br_at27_7 : 8 = 7 + Try.prog.cellsOf 3 := by kernel_rfl
theorem br_at27_8 : 9 = 8 + Try.prog.cellsOf 3 := by kernel_rfl
theorem br_size27 : Try.prog.cellsOf 27 = 9 := by kernel_rfl
theorem br_pos27 : 0 < Try.prog.cellsOf 27 := by rw [br_size27]; decide
theorem br_at57_0 : 1 = 0 + Try.prog.cellsOf 22 := by kernel_rfl
theorem br_at57_1 : 2 = 1 + Try.prog.cellsOf 22 := by kernel_rfl
theorem br_size57 : Try.prog.cellsOf 57 = 2 := by kernel_rfl
theorem br_pos57 : 0 < Try.prog.cellsOf 57 := by rw [br_size57]; decide
theorem br_size22 : Try.prog.cellsOf 22 = 1 := by kernel_rfl
theorem br_pos22 : 0 < Try.prog.cellsOf 22 := by rw [br_size22]; decide
section
variable {H : Type} {enc : TypeId × Value → H} {w : World}
theorem rd_3 : Rd enc Try.prog w 3 (fun x : Int => [I x]) (fun x => -9223372036854775808 ≤ x ∧ x ≤ 9223372036854775807) := 
  Rd.i64 Try.underlying3
theorem rd_22 : Rd enc Try.prog w 22 (fun x : List Int => [L x]) (fun x => x.length ≤ maxLen ∧ ∀ y ∈ x, -9223372036854775808 ≤ y ∧ y ≤ 9223372036854775807) := 
  Rd.ints Try.underlying22 Try.underlying3 br_one22_3
theorem rd_24 : Rd enc Try.prog w 24 (fun x : Int × Int × Int × (List Int) × Unit => ([I x.1] ++ ([I x.2.1] ++ ([I x.2.2.1] ++ ([L x.2.2.2.1] ++ []))))) (fun x => (-9223372036854775808 ≤ x.1 ∧ x.1 ≤ 9223372036854775807) ∧ (-9223372036854775808 ≤ x.2.1 ∧ x.2.1 ≤ 9223372036854775807) ∧ (-9223372036854775808 ≤ x.2.2.1 ∧ x.2.2.1 ≤ 9223372036854775807) ∧ (x.2.2.2.1.length ≤ maxLen ∧ ∀ y ∈ x.2.2.2.1, -9223372036854775808 ≤ y ∧ y ≤ 9223372036854775807) ∧ True) := 
  Rd.struct Try.underlying24 rfl (by kernel_rfl) (RdF.cons br_at24_0 rd_3 (RdF.cons br_at24_1 rd_3 (RdF.cons br_at24_2 rd_3 (RdF.cons br_at24_3 rd_22 RdF.nil))))
theorem rd_9 : Rd enc Try.prog w 9 (fun x : ByteArray => [Sx x]) (fun x => x.size ≤ maxLen) := 
  Rd.string Try.underlying9
theorem rd_27 : Rd enc Try.prog w 27 (fun x : ByteArray × Int × Int × Int × Int × Int × Int × Int × Int × Unit => ([Sx x.1] ++ ([I x.2.1] ++ ([I x.2.2.1] ++ ([I x.2.2.2.1] ++ ([I x.2.2.2.2.1] ++ ([I x.2.2.2.2.2.1] ++ ([I x.2.2.2.2.2.2.1] ++ ([I x.2.2.2.2.2.2.2.1] ++ ([I x.2.2.2.2.2.2.2.2.1] ++ [])))))))))) (fun x => (x.1.size ≤ maxLen) ∧ (-9223372036854775808 ≤ x.2.1 ∧ x.2.1 ≤ 9223372036854775807) ∧ (-9223372036854775808 ≤ x.2.2.1 ∧ x.2.2.1 ≤ 9223372036854775807) ∧ (-9223372036854775808 ≤ x.2.2.2.1 ∧ x.2.2.2.1 ≤ 9223372036854775807) ∧ (-9223372036854775808 ≤ x.2.2.2.2.1 ∧ x.2.2.2.2.1 ≤ 9223372036854775807) ∧ (-9223372036854775808 ≤ x.2.2.2.2.2.1 ∧ x.2.2.2.2.2.1 ≤ 9223372036854775807) ∧ (-9223372036854775808 ≤ x.2.2.2.2.2.2.1 ∧ x.2.2.2.2.2.2.1 ≤ 9223372036854775807) ∧ (-9223372036854775808 ≤ x.2.2.2.2.2.2.2.1 ∧ x.2.2.2.2.2.2.2.1 ≤ 9223372036854775807) ∧ (-9223372036854775808 ≤ x.2.2.2.2.2.2.2.2.1 ∧ x.2.2.2.2.2.2.2.2.1 ≤ 9223372036854775807) ∧ True) := 
  Rd.struct Try.underlying27 rfl (by kernel_rfl) (RdF.cons br_at27_0 rd_9 (RdF.cons br_at27_1 rd_3 (RdF.cons br_at27_2 rd_3 (RdF.cons br_at27_3 rd_3 (RdF.cons br_at27_4 rd_3 (RdF.cons br_at27_5 rd_3 (RdF.cons br_at27_6 rd_3 (RdF.cons br_at27_7 rd_3 (RdF.cons br_at27_8 rd_3 RdF.nil)))))))))
theorem rd_25 : Rd enc Try.prog w 25 (fun x : List (ByteArray × Int × Int × Int × Int × Int × Int × Int × Int) => [.list x.length (x.flatMap fun y => [Sx y.1, I y.2.1, I y.2.2.1, I y.2.2.2.1, I y.2.2.2.2.1, I y.2.2.2.2.2.1, I y.2.2.2.2.2.2.1, I y.2.2.2.2.2.2.2.1, I y.2.2.2.2.2.2.2.2])]) (fun x => x.length ≤ maxLen) := 
  (Rd.slice Try.underlying25 br_pos27 rd_27).turn (List.map fun y => (y.1, y.2.1, y.2.2.1, y.2.2.2.1, y.2.2.2.2.1, y.2.2.2.2.2.1, y.2.2.2.2.2.2.1, y.2.2.2.2.2.2.2.1, y.2.2.2.2.2.2.2.2.1)) (fun xs => by simp [List.flatMap_map]) fun xs h => by simpa using h.1
theorem rd_57 : Rd enc Try.prog w 57 (fun x : (List Int) × (List Int) × Unit => ([L x.1] ++ ([L x.2.1] ++ []))) (fun x => (x.1.length ≤ maxLen ∧ ∀ y ∈ x.1, -9223372036854775808 ≤ y ∧ y ≤ 9223372036854775807) ∧ (x.2.1.length ≤ maxLen ∧ ∀ y ∈ x.2.1, -9223372036854775808 ≤ y ∧ y ≤ 9223372036854775807) ∧ True) := 
  Rd.struct Try.underlying57 rfl (by kernel_rfl) (RdF.cons br_at57_0 rd_22 (RdF.cons br_at57_1 rd_22 RdF.nil))
theorem rd_47 : Rd enc Try.prog w 47 (fun x : List ((List Int) × (List Int)) => [.list x.length (x.flatMap fun y => [L y.1, L y.2])]) (fun x => x.length ≤ maxLen) := 
  (Rd.slice Try.underlying47 br_pos57 rd_57).turn (List.map fun y => (y.1, y.2.1)) (fun xs => by simp [List.flatMap_map]) fun xs h => by simpa using h.1
theorem rd_50 : Rd enc Try.prog w 50 (fun x : List (List Int) => [LL x]) (fun x => x.length ≤ maxLen ∧ ∀ y ∈ x, y.length ≤ maxLen ∧ ∀ z ∈ y, -9223372036854775808 ≤ z ∧ z ≤ 9223372036854775807) := 
  (Rd.slice Try.underlying50 br_pos22 rd_22).turn id (fun xs => by simp [List.flatMap_singleton', List.map_eq_flatMap]) fun _ h => h
end
end Go.Proofs.Ytabojpkmfkjjkaa
