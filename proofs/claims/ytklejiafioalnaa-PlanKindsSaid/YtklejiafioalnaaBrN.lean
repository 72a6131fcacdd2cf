/-
  The bridge of this seat: what the types of the laws' parameters read as. (Printed by bridge.py.)
-/
import Derived.Test.YtklejiafioalnaaPwY
import Derived.Test.YtklejiafioalnaaNsBase
import Derived.Test.YtklejiafioalnaaRows
set_option linter.all false
namespace Go.Proofs.Ytklejiafioalnaa
open Go.PW Go.RowKit Go.ChangeShapes Go.WideShapes Go.ChangeAt
theorem br_own : ownKnob Try.prog.godebug = none := by kernel_rfl
theorem br_laid : laidOutB Try.prog = true := by kernel_rfl
theorem br_size3 : Try.prog.cellsOf 3 = 1 := by kernel_rfl
theorem br_pos3 : 0 < Try.prog.cellsOf 3 := by rw [br_size3]; decide
theorem br_one25_3 : Try.prog.cellsOf 3 = 1 := by kernel_rfl
theorem br_size25 : Try.prog.cellsOf 25 = 1 := by kernel_rfl
theorem br_pos25 : 0 < Try.prog.cellsOf 25 := by rw [br_size25]; decide
theorem br_at51_0 : 1 = 0 + Try.prog.cellsOf 49 := by kernel_rfl
theorem br_arr42 : (List.range 2).map (fun i => (3, i * Try.prog.cellsOf 3)) = [(3, 0), (3, 1)] := by kernel_rfl
theorem br_at42_0 : 1 = 0 + Try.prog.cellsOf 3 := by kernel_rfl
theorem br_at42_1 : 2 = 1 + Try.prog.cellsOf 3 := by kernel_rfl
theorem br_at57_0 : 1 = 0 + Try.prog.cellsOf 9 := by kernel_rfl
theorem br_at57_1 : 2 = 1 + Try.prog.cellsOf 3 := by kernel_rfl
theorem br_at57_2 : 4 = 2 + Try.prog.cellsOf 42 := by kernel_rfl
theorem br_at57_4 : 5 = 4 + Try.prog.cellsOf 3 := by kernel_rfl
theorem br_at57_5 : 6 = 5 + Try.prog.cellsOf 3 := by kernel_rfl
theorem br_at57_6 : 7 = 6 + Try.prog.cellsOf 3 := by kernel_rfl
theorem br_size57 : Try.prog.cellsOf 57 = 7 := by kernel_rfl
theorem br_pos57 : 0 < Try.prog.cellsOf 57 := by rw [br_size57]; decide
theorem br_at124_0 : 1 = 0 + Try.prog.cellsOf 3 := by kernel_rfl
theorem br_at124_1 : 2 = 1 + Try.prog.cellsOf 3 := by kernel_rfl
theorem br_size124 : Try.prog.cellsOf 124 = 2 := by kernel_rfl
theorem br_pos124 : 0 < Try.prog.cellsOf 124 := by rw [br_size124]; decide
theorem br_at55_0 : 1 = 0 + Try.prog.cellsOf 51 := by kernel_rfl
theorem br_at55_1 : 2 = 1 + Try.prog.cellsOf 52 := by kernel_rfl
theorem br_at55_2 : 3 = 2 + Try.prog.cellsOf 53 := by kernel_rfl
theorem br_at55_3 : 4 = 3 + Try.prog.cellsOf 3 := by kernel_rfl
theorem br_at55_4 : 5 = 4 + Try.prog.cellsOf 3 := by kernel_rfl
theorem br_at55_5 : 6 = 5 + Try.prog.cellsOf 3 := by kernel_rfl
theorem br_arr58 : (List.range 3).map (fun i => (3, i * Try.prog.cellsOf 3)) = [(3, 0), (3, 1), (3, 2)] := by kernel_rfl
theorem br_at58_0 : 1 = 0 + Try.prog.cellsOf 3 := by kernel_rfl
theorem br_at58_1 : 2 = 1 + Try.prog.cellsOf 3 := by kernel_rfl
theorem br_at58_2 : 3 = 2 + Try.prog.cellsOf 3 := by kernel_rfl
theorem br_size42 : Try.prog.cellsOf 42 = 2 := by kernel_rfl
theorem br_pos42 : 0 < Try.prog.cellsOf 42 := by rw [br_size42]; decide
theorem br_at24_0 : 1 = 0 + Try.prog.cellsOf 3 := by kernel_rfl
theorem br_at24_1 : 2 = 1 + Try.prog.cellsOf 22 := by kernel_rfl
theorem br_at83_0 : 1 = 0 + Try.prog.cellsOf 25 := by kernel_rfl
theorem br_at83_1 : 2 = 1 + Try.prog.cellsOf 25 := by kernel_rfl
section
variable {H : Type} {enc : TypeId × Value → H} {w : World}
theorem rd_3 : Rd enc Try.prog w 3 (fun x : Int => [I x]) (fun x => -9223372036854775808 ≤ x ∧ x ≤ 9223372036854775807) := 
  Rd.i64 Try.underlying3
theorem rd_25 : Rd enc Try.prog w 25 (fun x : List Int => [L x]) (fun x => x.length ≤ maxLen ∧ ∀ y ∈ x, -9223372036854775808 ≤ y ∧ y ≤ 9223372036854775807) := 
  Rd.ints Try.underlying25 Try.underlying3 br_one25_3
theorem rd_49 : Rd enc Try.prog w 49 (fun x : List (List Int) => [LL x]) (fun x => x.length ≤ maxLen ∧ ∀ y ∈ x, y.length ≤ maxLen ∧ ∀ z ∈ y, -9223372036854775808 ≤ z ∧ z ≤ 9223372036854775807) := 
  (Rd.slice Try.underlying49 br_pos25 rd_25).turn id (fun xs => by simp [List.flatMap_singleton', List.map_eq_flatMap]) fun _ h => h
theorem rd_51 : Rd enc Try.prog w 51 (fun x : (List (List Int)) × Unit => ([LL x.1] ++ [])) (fun x => (x.1.length ≤ maxLen ∧ ∀ y ∈ x.1, y.length ≤ maxLen ∧ ∀ z ∈ y, -9223372036854775808 ≤ z ∧ z ≤ 9223372036854775807) ∧ True) := 
  Rd.struct Try.underlying51 rfl (by kernel_rfl) (RdF.cons br_at51_0 rd_49 RdF.nil)
theorem rd_9 : Rd enc Try.prog w 9 (fun x : ByteArray => [Sx x]) (fun x => x.size ≤ maxLen) := 
  Rd.string Try.underlying9
theorem rd_42 : Rd enc Try.prog w 42 (fun x : Int × Int × Unit => ([I x.1] ++ ([I x.2.1] ++ []))) (fun x => (-9223372036854775808 ≤ x.1 ∧ x.1 ≤ 9223372036854775807) ∧ (-9223372036854775808 ≤ x.2.1 ∧ x.2.1 ≤ 9223372036854775807) ∧ True) := 
  Rd.array Try.underlying42 br_arr42 (by kernel_rfl) (RdF.cons br_at42_0 rd_3 (RdF.cons br_at42_1 rd_3 RdF.nil))
theorem rd_57 : Rd enc Try.prog w 57 (fun x : ByteArray × Int × (Int × Int × Unit) × Int × Int × Int × Unit => ([Sx x.1] ++ ([I x.2.1] ++ (([I x.2.2.1.1] ++ ([I x.2.2.1.2.1] ++ [])) ++ ([I x.2.2.2.1] ++ ([I x.2.2.2.2.1] ++ ([I x.2.2.2.2.2.1] ++ []))))))) (fun x => (x.1.size ≤ maxLen) ∧ (-9223372036854775808 ≤ x.2.1 ∧ x.2.1 ≤ 9223372036854775807) ∧ ((-9223372036854775808 ≤ x.2.2.1.1 ∧ x.2.2.1.1 ≤ 9223372036854775807) ∧ (-9223372036854775808 ≤ x.2.2.1.2.1 ∧ x.2.2.1.2.1 ≤ 9223372036854775807) ∧ True) ∧ (-9223372036854775808 ≤ x.2.2.2.1 ∧ x.2.2.2.1 ≤ 9223372036854775807) ∧ (-9223372036854775808 ≤ x.2.2.2.2.1 ∧ x.2.2.2.2.1 ≤ 9223372036854775807) ∧ (-9223372036854775808 ≤ x.2.2.2.2.2.1 ∧ x.2.2.2.2.2.1 ≤ 9223372036854775807) ∧ True) := 
  Rd.struct Try.underlying57 rfl (by kernel_rfl) (RdF.cons br_at57_0 rd_9 (RdF.cons br_at57_1 rd_3 (RdF.cons br_at57_2 rd_42 (RdF.cons br_at57_4 rd_3 (RdF.cons br_at57_5 rd_3 (RdF.cons br_at57_6 rd_3 RdF.nil))))))
theorem rd_52 : Rd enc Try.prog w 52 (fun x : List (ByteArray × Int × Int × Int × Int × Int × Int) => [.list x.length (x.flatMap fun y => [Sx y.1, I y.2.1, I y.2.2.1, I y.2.2.2.1, I y.2.2.2.2.1, I y.2.2.2.2.2.1, I y.2.2.2.2.2.2])]) (fun x => x.length ≤ maxLen) := 
  (Rd.slice Try.underlying52 br_pos57 rd_57).turn (List.map fun y => (y.1, y.2.1, y.2.2.1.1, y.2.2.1.2.1, y.2.2.2.1, y.2.2.2.2.1, y.2.2.2.2.2.1)) (fun xs => by simp [List.flatMap_map]) fun xs h => by simpa using h.1
theorem rd_124 : Rd enc Try.prog w 124 (fun x : Int × Int × Unit => ([I x.1] ++ ([I x.2.1] ++ []))) (fun x => (-9223372036854775808 ≤ x.1 ∧ x.1 ≤ 9223372036854775807) ∧ (-9223372036854775808 ≤ x.2.1 ∧ x.2.1 ≤ 9223372036854775807) ∧ True) := 
  Rd.struct Try.underlying124 rfl (by kernel_rfl) (RdF.cons br_at124_0 rd_3 (RdF.cons br_at124_1 rd_3 RdF.nil))
theorem rd_53 : Rd enc Try.prog w 53 (fun x : List (Int × Int) => [.list x.length (x.flatMap fun y => [I y.1, I y.2])]) (fun x => x.length ≤ maxLen) := 
  (Rd.slice Try.underlying53 br_pos124 rd_124).turn (List.map fun y => (y.1, y.2.1)) (fun xs => by simp [List.flatMap_map]) fun xs h => by simpa using h.1
theorem rd_55 : Rd enc Try.prog w 55 (fun x : ((List (List Int)) × Unit) × (List (ByteArray × Int × Int × Int × Int × Int × Int)) × (List (Int × Int)) × Int × Int × Int × Unit => (([LL x.1.1] ++ []) ++ ([.list x.2.1.length (x.2.1.flatMap fun y => [Sx y.1, I y.2.1, I y.2.2.1, I y.2.2.2.1, I y.2.2.2.2.1, I y.2.2.2.2.2.1, I y.2.2.2.2.2.2])] ++ ([.list x.2.2.1.length (x.2.2.1.flatMap fun y => [I y.1, I y.2])] ++ ([I x.2.2.2.1] ++ ([I x.2.2.2.2.1] ++ ([I x.2.2.2.2.2.1] ++ []))))))) (fun x => ((x.1.1.length ≤ maxLen ∧ ∀ y ∈ x.1.1, y.length ≤ maxLen ∧ ∀ z ∈ y, -9223372036854775808 ≤ z ∧ z ≤ 9223372036854775807) ∧ True) ∧ (x.2.1.length ≤ maxLen) ∧ (x.2.2.1.length ≤ maxLen) ∧ (-9223372036854775808 ≤ x.2.2.2.1 ∧ x.2.2.2.1 ≤ 9223372036854775807) ∧ (-9223372036854775808 ≤ x.2.2.2.2.1 ∧ x.2.2.2.2.1 ≤ 9223372036854775807) ∧ (-9223372036854775808 ≤ x.2.2.2.2.2.1 ∧ x.2.2.2.2.2.1 ≤ 9223372036854775807) ∧ True) := 
  Rd.struct Try.underlying55 rfl (by kernel_rfl) (RdF.cons br_at55_0 rd_51 (RdF.cons br_at55_1 rd_52 (RdF.cons br_at55_2 rd_53 (RdF.cons br_at55_3 rd_3 (RdF.cons br_at55_4 rd_3 (RdF.cons br_at55_5 rd_3 RdF.nil))))))
theorem rd_58 : Rd enc Try.prog w 58 (fun x : Int × Int × Int × Unit => ([I x.1] ++ ([I x.2.1] ++ ([I x.2.2.1] ++ [])))) (fun x => (-9223372036854775808 ≤ x.1 ∧ x.1 ≤ 9223372036854775807) ∧ (-9223372036854775808 ≤ x.2.1 ∧ x.2.1 ≤ 9223372036854775807) ∧ (-9223372036854775808 ≤ x.2.2.1 ∧ x.2.2.1 ≤ 9223372036854775807) ∧ True) := 
  Rd.array Try.underlying58 br_arr58 (by kernel_rfl) (RdF.cons br_at58_0 rd_3 (RdF.cons br_at58_1 rd_3 (RdF.cons br_at58_2 rd_3 RdF.nil)))
theorem rd_22 : Rd enc Try.prog w 22 (fun x : List (Int × Int) => [.list x.length (x.flatMap fun y => [I y.1, I y.2])]) (fun x => x.length ≤ maxLen) := 
  (Rd.slice Try.underlying22 br_pos42 rd_42).turn (List.map fun y => (y.1, y.2.1)) (fun xs => by simp [List.flatMap_map]) fun xs h => by simpa using h.1
theorem rd_24 : Rd enc Try.prog w 24 (fun x : Int × (List (Int × Int)) × Unit => ([I x.1] ++ ([.list x.2.1.length (x.2.1.flatMap fun y => [I y.1, I y.2])] ++ []))) (fun x => (-9223372036854775808 ≤ x.1 ∧ x.1 ≤ 9223372036854775807) ∧ (x.2.1.length ≤ maxLen) ∧ True) := 
  Rd.struct Try.underlying24 rfl (by kernel_rfl) (RdF.cons br_at24_0 rd_3 (RdF.cons br_at24_1 rd_22 RdF.nil))
theorem rd_83 : Rd enc Try.prog w 83 (fun x : (List Int) × (List Int) × Unit => ([L x.1] ++ ([L x.2.1] ++ []))) (fun x => (x.1.length ≤ maxLen ∧ ∀ y ∈ x.1, -9223372036854775808 ≤ y ∧ y ≤ 9223372036854775807) ∧ (x.2.1.length ≤ maxLen ∧ ∀ y ∈ x.2.1, -9223372036854775808 ≤ y ∧ y ≤ 9223372036854775807) ∧ True) := 
  Rd.struct Try.underlying83 rfl (by kernel_rfl) (RdF.cons br_at83_0 rd_25 (RdF.cons br_at83_1 rd_25 RdF.nil))
end
end Go.Proofs.Ytklejiafioalnaa
