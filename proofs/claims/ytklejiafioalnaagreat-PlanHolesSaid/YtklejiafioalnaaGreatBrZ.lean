/-
  The bridge of this seat: what the types of the laws' parameters read as. (Printed by bridge.py.)
-/
import Derived.Test.YtklejiafioalnaaGreatPwY
import Derived.Test.YtklejiafioalnaaGreatZsBase
import Derived.Test.YtklejiafioalnaaGreatRows
set_option linter.all false
namespace Go.Proofs.YtklejiafioalnaaGreat
open Go.PW Go.RowKit Go.ChangeShapes Go.WideShapes Go.ChangeAt
theorem br_own : ownKnob Tryz.prog.godebug = none := by kernel_rfl
theorem br_laid : laidOutB Tryz.prog = true := by kernel_rfl
theorem br_size3 : Tryz.prog.cellsOf 3 = 1 := by kernel_rfl
theorem br_pos3 : 0 < Tryz.prog.cellsOf 3 := by rw [br_size3]; decide
theorem br_one51_3 : Tryz.prog.cellsOf 3 = 1 := by kernel_rfl
theorem br_size51 : Tryz.prog.cellsOf 51 = 1 := by kernel_rfl
theorem br_pos51 : 0 < Tryz.prog.cellsOf 51 := by rw [br_size51]; decide
theorem br_at24_0 : 1 = 0 + Tryz.prog.cellsOf 22 := by kernel_rfl
theorem br_arr58 : (List.range 2).map (fun i => (3, i * Tryz.prog.cellsOf 3)) = [(3, 0), (3, 1)] := by kernel_rfl
theorem br_at58_0 : 1 = 0 + Tryz.prog.cellsOf 3 := by kernel_rfl
theorem br_at58_1 : 2 = 1 + Tryz.prog.cellsOf 3 := by kernel_rfl
theorem br_at78_0 : 1 = 0 + Tryz.prog.cellsOf 9 := by kernel_rfl
theorem br_at78_1 : 2 = 1 + Tryz.prog.cellsOf 3 := by kernel_rfl
theorem br_at78_2 : 4 = 2 + Tryz.prog.cellsOf 58 := by kernel_rfl
theorem br_at78_4 : 5 = 4 + Tryz.prog.cellsOf 3 := by kernel_rfl
theorem br_at78_5 : 6 = 5 + Tryz.prog.cellsOf 3 := by kernel_rfl
theorem br_at78_6 : 7 = 6 + Tryz.prog.cellsOf 3 := by kernel_rfl
theorem br_size78 : Tryz.prog.cellsOf 78 = 7 := by kernel_rfl
theorem br_pos78 : 0 < Tryz.prog.cellsOf 78 := by rw [br_size78]; decide
theorem br_at118_0 : 1 = 0 + Tryz.prog.cellsOf 3 := by kernel_rfl
theorem br_at118_1 : 2 = 1 + Tryz.prog.cellsOf 3 := by kernel_rfl
theorem br_size118 : Tryz.prog.cellsOf 118 = 2 := by kernel_rfl
theorem br_pos118 : 0 < Tryz.prog.cellsOf 118 := by rw [br_size118]; decide
theorem br_at28_0 : 1 = 0 + Tryz.prog.cellsOf 24 := by kernel_rfl
theorem br_at28_1 : 2 = 1 + Tryz.prog.cellsOf 25 := by kernel_rfl
theorem br_at28_2 : 3 = 2 + Tryz.prog.cellsOf 26 := by kernel_rfl
theorem br_at28_3 : 4 = 3 + Tryz.prog.cellsOf 3 := by kernel_rfl
theorem br_at28_4 : 5 = 4 + Tryz.prog.cellsOf 3 := by kernel_rfl
theorem br_at28_5 : 6 = 5 + Tryz.prog.cellsOf 3 := by kernel_rfl
theorem br_at102_0 : 2 = 0 + Tryz.prog.cellsOf 58 := by kernel_rfl
theorem br_at102_2 : 3 = 2 + Tryz.prog.cellsOf 3 := by kernel_rfl
theorem br_size102 : Tryz.prog.cellsOf 102 = 3 := by kernel_rfl
theorem br_pos102 : 0 < Tryz.prog.cellsOf 102 := by rw [br_size102]; decide
section
variable {H : Type} {enc : TypeId × Value → H} {w : World}
theorem rd_3 : Rd enc Tryz.prog w 3 (fun x : Int => [I x]) (fun x => -9223372036854775808 ≤ x ∧ x ≤ 9223372036854775807) := 
  Rd.i64 Tryz.underlying3
theorem rd_51 : Rd enc Tryz.prog w 51 (fun x : List Int => [L x]) (fun x => x.length ≤ maxLen ∧ ∀ y ∈ x, -9223372036854775808 ≤ y ∧ y ≤ 9223372036854775807) := 
  Rd.ints Tryz.underlying51 Tryz.underlying3 br_one51_3
theorem rd_22 : Rd enc Tryz.prog w 22 (fun x : List (List Int) => [LL x]) (fun x => x.length ≤ maxLen ∧ ∀ y ∈ x, y.length ≤ maxLen ∧ ∀ z ∈ y, -9223372036854775808 ≤ z ∧ z ≤ 9223372036854775807) := 
  (Rd.slice Tryz.underlying22 br_pos51 rd_51).turn id (fun xs => by simp [List.flatMap_singleton', List.map_eq_flatMap]) fun _ h => h
theorem rd_24 : Rd enc Tryz.prog w 24 (fun x : (List (List Int)) × Unit => ([LL x.1] ++ [])) (fun x => (x.1.length ≤ maxLen ∧ ∀ y ∈ x.1, y.length ≤ maxLen ∧ ∀ z ∈ y, -9223372036854775808 ≤ z ∧ z ≤ 9223372036854775807) ∧ True) := 
  Rd.struct Tryz.underlying24 rfl (by kernel_rfl) (RdF.cons br_at24_0 rd_22 RdF.nil)
theorem rd_9 : Rd enc Tryz.prog w 9 (fun x : ByteArray => [Sx x]) (fun x => x.size ≤ maxLen) := 
  Rd.string Tryz.underlying9
theorem rd_58 : Rd enc Tryz.prog w 58 (fun x : Int × Int × Unit => ([I x.1] ++ ([I x.2.1] ++ []))) (fun x => (-9223372036854775808 ≤ x.1 ∧ x.1 ≤ 9223372036854775807) ∧ (-9223372036854775808 ≤ x.2.1 ∧ x.2.1 ≤ 9223372036854775807) ∧ True) := 
  Rd.array Tryz.underlying58 br_arr58 (by kernel_rfl) (RdF.cons br_at58_0 rd_3 (RdF.cons br_at58_1 rd_3 RdF.nil))
theorem rd_78 : Rd enc Tryz.prog w 78 (fun x : ByteArray × Int × (Int × Int × Unit) × Int × Int × Int × Unit => ([Sx x.1] ++ ([I x.2.1] ++ (([I x.2.2.1.1] ++ ([I x.2.2.1.2.1] ++ [])) ++ ([I x.2.2.2.1] ++ ([I x.2.2.2.2.1] ++ ([I x.2.2.2.2.2.1] ++ []))))))) (fun x => (x.1.size ≤ maxLen) ∧ (-9223372036854775808 ≤ x.2.1 ∧ x.2.1 ≤ 9223372036854775807) ∧ ((-9223372036854775808 ≤ x.2.2.1.1 ∧ x.2.2.1.1 ≤ 9223372036854775807) ∧ (-9223372036854775808 ≤ x.2.2.1.2.1 ∧ x.2.2.1.2.1 ≤ 9223372036854775807) ∧ True) ∧ (-9223372036854775808 ≤ x.2.2.2.1 ∧ x.2.2.2.1 ≤ 9223372036854775807) ∧ (-9223372036854775808 ≤ x.2.2.2.2.1 ∧ x.2.2.2.2.1 ≤ 9223372036854775807) ∧ (-9223372036854775808 ≤ x.2.2.2.2.2.1 ∧ x.2.2.2.2.2.1 ≤ 9223372036854775807) ∧ True) := 
  Rd.struct Tryz.underlying78 rfl (by kernel_rfl) (RdF.cons br_at78_0 rd_9 (RdF.cons br_at78_1 rd_3 (RdF.cons br_at78_2 rd_58 (RdF.cons br_at78_4 rd_3 (RdF.cons br_at78_5 rd_3 (RdF.cons br_at78_6 rd_3 RdF.nil))))))
theorem rd_25 : Rd enc Tryz.prog w 25 (fun x : List (ByteArray × Int × Int × Int × Int × Int × Int) => [.list x.length (x.flatMap fun y => [Sx y.1, I y.2.1, I y.2.2.1, I y.2.2.2.1, I y.2.2.2.2.1, I y.2.2.2.2.2.1, I y.2.2.2.2.2.2])]) (fun x => x.length ≤ maxLen) := 
  (Rd.slice Tryz.underlying25 br_pos78 rd_78).turn (List.map fun y => (y.1, y.2.1, y.2.2.1.1, y.2.2.1.2.1, y.2.2.2.1, y.2.2.2.2.1, y.2.2.2.2.2.1)) (fun xs => by simp [List.flatMap_map]) fun xs h => by simpa using h.1
theorem rd_118 : Rd enc Tryz.prog w 118 (fun x : Int × Int × Unit => ([I x.1] ++ ([I x.2.1] ++ []))) (fun x => (-9223372036854775808 ≤ x.1 ∧ x.1 ≤ 9223372036854775807) ∧ (-9223372036854775808 ≤ x.2.1 ∧ x.2.1 ≤ 9223372036854775807) ∧ True) := 
  Rd.struct Tryz.underlying118 rfl (by kernel_rfl) (RdF.cons br_at118_0 rd_3 (RdF.cons br_at118_1 rd_3 RdF.nil))
theorem rd_26 : Rd enc Tryz.prog w 26 (fun x : List (Int × Int) => [.list x.length (x.flatMap fun y => [I y.1, I y.2])]) (fun x => x.length ≤ maxLen) := 
  (Rd.slice Tryz.underlying26 br_pos118 rd_118).turn (List.map fun y => (y.1, y.2.1)) (fun xs => by simp [List.flatMap_map]) fun xs h => by simpa using h.1
theorem rd_28 : Rd enc Tryz.prog w 28 (fun x : ((List (List Int)) × Unit) × (List (ByteArray × Int × Int × Int × Int × Int × Int)) × (List (Int × Int)) × Int × Int × Int × Unit => (([LL x.1.1] ++ []) ++ ([.list x.2.1.length (x.2.1.flatMap fun y => [Sx y.1, I y.2.1, I y.2.2.1, I y.2.2.2.1, I y.2.2.2.2.1, I y.2.2.2.2.2.1, I y.2.2.2.2.2.2])] ++ ([.list x.2.2.1.length (x.2.2.1.flatMap fun y => [I y.1, I y.2])] ++ ([I x.2.2.2.1] ++ ([I x.2.2.2.2.1] ++ ([I x.2.2.2.2.2.1] ++ []))))))) (fun x => ((x.1.1.length ≤ maxLen ∧ ∀ y ∈ x.1.1, y.length ≤ maxLen ∧ ∀ z ∈ y, -9223372036854775808 ≤ z ∧ z ≤ 9223372036854775807) ∧ True) ∧ (x.2.1.length ≤ maxLen) ∧ (x.2.2.1.length ≤ maxLen) ∧ (-9223372036854775808 ≤ x.2.2.2.1 ∧ x.2.2.2.1 ≤ 9223372036854775807) ∧ (-9223372036854775808 ≤ x.2.2.2.2.1 ∧ x.2.2.2.2.1 ≤ 9223372036854775807) ∧ (-9223372036854775808 ≤ x.2.2.2.2.2.1 ∧ x.2.2.2.2.2.1 ≤ 9223372036854775807) ∧ True) := 
  Rd.struct Tryz.underlying28 rfl (by kernel_rfl) (RdF.cons br_at28_0 rd_24 (RdF.cons br_at28_1 rd_25 (RdF.cons br_at28_2 rd_26 (RdF.cons br_at28_3 rd_3 (RdF.cons br_at28_4 rd_3 (RdF.cons br_at28_5 rd_3 RdF.nil))))))
theorem rd_102 : Rd enc Tryz.prog w 102 (fun x : (Int × Int × Unit) × Int × Unit => (([I x.1.1] ++ ([I x.1.2.1] ++ [])) ++ ([I x.2.1] ++ []))) (fun x => ((-9223372036854775808 ≤ x.1.1 ∧ x.1.1 ≤ 9223372036854775807) ∧ (-9223372036854775808 ≤ x.1.2.1 ∧ x.1.2.1 ≤ 9223372036854775807) ∧ True) ∧ (-9223372036854775808 ≤ x.2.1 ∧ x.2.1 ≤ 9223372036854775807) ∧ True) := 
  Rd.struct Tryz.underlying102 rfl (by kernel_rfl) (RdF.cons br_at102_0 rd_58 (RdF.cons br_at102_2 rd_3 RdF.nil))
theorem rd_29 : Rd enc Tryz.prog w 29 (fun x : List (Int × Int × Int) => [.list x.length (x.flatMap fun y => [I y.1, I y.2.1, I y.2.2])]) (fun x => x.length ≤ maxLen) := 
  (Rd.slice Tryz.underlying29 br_pos102 rd_102).turn (List.map fun y => (y.1.1, y.1.2.1, y.2.1)) (fun xs => by simp [List.flatMap_map]) fun xs h => by simpa using h.1
end
end Go.Proofs.YtklejiafioalnaaGreat
