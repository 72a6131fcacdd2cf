/-
  The bridge of this seat: what the types of the laws' parameters read as. (Printed by bridge.py.)
-/
import Derived.Test.YtikelkndldaejaaPwY
import Derived.Test.YtikelkndldaejaaCsBase
import Derived.Test.YtikelkndldaejaaRows
set_option linter.all false
namespace Go.Proofs.Ytikelkndldaejaa
open Go.PW Go.RowKit Go.ChangeShapes Go.WideShapes Go.ChangeAt
theorem br_own : ownKnob Try.prog.godebug = none := by kernel_rfl
theorem br_laid : laidOutB Try.prog = true := by kernel_rfl
theorem br_size3 : Try.prog.cellsOf 3 = 1 := by kernel_rfl
theorem br_pos3 : 0 < Try.prog.cellsOf 3 := by rw [br_size3]; decide
theorem br_one22_3 : Try.prog.cellsOf 3 = 1 := by kernel_rfl
theorem br_at24_0 : 1 = 0 + Try.prog.cellsOf 3 := by kernel_rfl
theorem br_at24_1 : 2 = 1 + Try.prog.cellsOf 22 := by kernel_rfl
theorem br_at39_0 : 1 = 0 + Try.prog.cellsOf 3 := by kernel_rfl
theorem br_at39_1 : 2 = 1 + Try.prog.cellsOf 3 := by kernel_rfl
theorem br_at39_2 : 3 = 2 + Try.prog.cellsOf 3 := by kernel_rfl
theorem br_at56_0 : 1 = 0 + Try.prog.cellsOf 3 := by kernel_rfl
theorem br_at56_1 : 2 = 1 + Try.prog.cellsOf 3 := by kernel_rfl
theorem br_at68_0 : 2 = 0 + Try.prog.cellsOf 56 := by kernel_rfl
theorem br_at68_2 : 4 = 2 + Try.prog.cellsOf 24 := by kernel_rfl
theorem br_at68_4 : 5 = 4 + Try.prog.cellsOf 3 := by kernel_rfl
theorem br_size22 : Try.prog.cellsOf 22 = 1 := by kernel_rfl
theorem br_pos22 : 0 < Try.prog.cellsOf 22 := by rw [br_size22]; decide
theorem br_at98_0 : 1 = 0 + Try.prog.cellsOf 3 := by kernel_rfl
theorem br_at98_1 : 2 = 1 + Try.prog.cellsOf 95 := by kernel_rfl
theorem br_arr64 : (List.range 2).map (fun i => (3, i * Try.prog.cellsOf 3)) = [(3, 0), (3, 1)] := by kernel_rfl
theorem br_at64_0 : 1 = 0 + Try.prog.cellsOf 3 := by kernel_rfl
theorem br_at64_1 : 2 = 1 + Try.prog.cellsOf 3 := by kernel_rfl
theorem br_at113_0 : 2 = 0 + Try.prog.cellsOf 56 := by kernel_rfl
theorem br_at113_2 : 3 = 2 + Try.prog.cellsOf 3 := by kernel_rfl
theorem br_at115_0 : 1 = 0 + Try.prog.cellsOf 95 := by kernel_rfl
theorem br_at115_1 : 2 = 1 + Try.prog.cellsOf 3 := by kernel_rfl
theorem br_at82_0 : 1 = 0 + Try.prog.cellsOf 3 := by kernel_rfl
theorem br_at82_1 : 2 = 1 + Try.prog.cellsOf 3 := by kernel_rfl
theorem br_at82_2 : 3 = 2 + Try.prog.cellsOf 22 := by kernel_rfl
theorem br_size82 : Try.prog.cellsOf 82 = 3 := by kernel_rfl
theorem br_pos82 : 0 < Try.prog.cellsOf 82 := by rw [br_size82]; decide
theorem br_at78_0 : 1 = 0 + Try.prog.cellsOf 3 := by kernel_rfl
theorem br_at78_1 : 2 = 1 + Try.prog.cellsOf 76 := by kernel_rfl
theorem br_at80_0 : 1 = 0 + Try.prog.cellsOf 3 := by kernel_rfl
theorem br_at80_1 : 2 = 1 + Try.prog.cellsOf 3 := by kernel_rfl
theorem br_at80_2 : 3 = 2 + Try.prog.cellsOf 3 := by kernel_rfl
theorem br_at80_3 : 4 = 3 + Try.prog.cellsOf 22 := by kernel_rfl
theorem br_at127_0 : 1 = 0 + Try.prog.cellsOf 22 := by kernel_rfl
theorem br_at127_1 : 2 = 1 + Try.prog.cellsOf 22 := by kernel_rfl
theorem br_size80 : Try.prog.cellsOf 80 = 4 := by kernel_rfl
theorem br_pos80 : 0 < Try.prog.cellsOf 80 := by rw [br_size80]; decide
theorem br_at132_0 : 1 = 0 + Try.prog.cellsOf 22 := by kernel_rfl
theorem br_at132_1 : 2 = 1 + Try.prog.cellsOf 3 := by kernel_rfl
theorem br_at132_2 : 3 = 2 + Try.prog.cellsOf 3 := by kernel_rfl
section
variable {H : Type} {enc : TypeId × Value → H} {w : World}
theorem rd_3 : Rd enc Try.prog w 3 (fun x : Int => [I x]) (fun x => -9223372036854775808 ≤ x ∧ x ≤ 9223372036854775807) := 
  Rd.i64 Try.underlying3
theorem rd_22 : Rd enc Try.prog w 22 (fun x : List Int => [L x]) (fun x => x.length ≤ maxLen ∧ ∀ y ∈ x, -9223372036854775808 ≤ y ∧ y ≤ 9223372036854775807) := 
  Rd.ints Try.underlying22 Try.underlying3 br_one22_3
theorem rd_24 : Rd enc Try.prog w 24 (fun x : Int × (List Int) × Unit => ([I x.1] ++ ([L x.2.1] ++ []))) (fun x => (-9223372036854775808 ≤ x.1 ∧ x.1 ≤ 9223372036854775807) ∧ (x.2.1.length ≤ maxLen ∧ ∀ y ∈ x.2.1, -9223372036854775808 ≤ y ∧ y ≤ 9223372036854775807) ∧ True) := 
  Rd.struct Try.underlying24 rfl (by kernel_rfl) (RdF.cons br_at24_0 rd_3 (RdF.cons br_at24_1 rd_22 RdF.nil))
theorem rd_39 : Rd enc Try.prog w 39 (fun x : Int × Int × Int × Unit => ([I x.1] ++ ([I x.2.1] ++ ([I x.2.2.1] ++ [])))) (fun x => (-9223372036854775808 ≤ x.1 ∧ x.1 ≤ 9223372036854775807) ∧ (-9223372036854775808 ≤ x.2.1 ∧ x.2.1 ≤ 9223372036854775807) ∧ (-9223372036854775808 ≤ x.2.2.1 ∧ x.2.2.1 ≤ 9223372036854775807) ∧ True) := 
  Rd.struct Try.underlying39 rfl (by kernel_rfl) (RdF.cons br_at39_0 rd_3 (RdF.cons br_at39_1 rd_3 (RdF.cons br_at39_2 rd_3 RdF.nil)))
theorem rd_56 : Rd enc Try.prog w 56 (fun x : Int × Int × Unit => ([I x.1] ++ ([I x.2.1] ++ []))) (fun x => (-9223372036854775808 ≤ x.1 ∧ x.1 ≤ 9223372036854775807) ∧ (-9223372036854775808 ≤ x.2.1 ∧ x.2.1 ≤ 9223372036854775807) ∧ True) := 
  Rd.struct Try.underlying56 rfl (by kernel_rfl) (RdF.cons br_at56_0 rd_3 (RdF.cons br_at56_1 rd_3 RdF.nil))
theorem rd_68 : Rd enc Try.prog w 68 (fun x : (Int × Int × Unit) × (Int × (List Int) × Unit) × Int × Unit => (([I x.1.1] ++ ([I x.1.2.1] ++ [])) ++ (([I x.2.1.1] ++ ([L x.2.1.2.1] ++ [])) ++ ([I x.2.2.1] ++ [])))) (fun x => ((-9223372036854775808 ≤ x.1.1 ∧ x.1.1 ≤ 9223372036854775807) ∧ (-9223372036854775808 ≤ x.1.2.1 ∧ x.1.2.1 ≤ 9223372036854775807) ∧ True) ∧ ((-9223372036854775808 ≤ x.2.1.1 ∧ x.2.1.1 ≤ 9223372036854775807) ∧ (x.2.1.2.1.length ≤ maxLen ∧ ∀ y ∈ x.2.1.2.1, -9223372036854775808 ≤ y ∧ y ≤ 9223372036854775807) ∧ True) ∧ (-9223372036854775808 ≤ x.2.2.1 ∧ x.2.2.1 ≤ 9223372036854775807) ∧ True) := 
  Rd.struct Try.underlying68 rfl (by kernel_rfl) (RdF.cons br_at68_0 rd_56 (RdF.cons br_at68_2 rd_24 (RdF.cons br_at68_4 rd_3 RdF.nil)))
theorem rd_9 : Rd enc Try.prog w 9 (fun x : ByteArray => [Sx x]) (fun x => x.size ≤ maxLen) := 
  Rd.string Try.underlying9
theorem rd_95 : Rd enc Try.prog w 95 (fun x : List (List Int) => [LL x]) (fun x => x.length ≤ maxLen ∧ ∀ y ∈ x, y.length ≤ maxLen ∧ ∀ z ∈ y, -9223372036854775808 ≤ z ∧ z ≤ 9223372036854775807) := 
  (Rd.slice Try.underlying95 br_pos22 rd_22).turn id (fun xs => by simp [List.flatMap_singleton', List.map_eq_flatMap]) fun _ h => h
theorem rd_98 : Rd enc Try.prog w 98 (fun x : Int × (List (List Int)) × Unit => ([I x.1] ++ ([LL x.2.1] ++ []))) (fun x => (-9223372036854775808 ≤ x.1 ∧ x.1 ≤ 9223372036854775807) ∧ (x.2.1.length ≤ maxLen ∧ ∀ y ∈ x.2.1, y.length ≤ maxLen ∧ ∀ z ∈ y, -9223372036854775808 ≤ z ∧ z ≤ 9223372036854775807) ∧ True) := 
  Rd.struct Try.underlying98 rfl (by kernel_rfl) (RdF.cons br_at98_0 rd_3 (RdF.cons br_at98_1 rd_95 RdF.nil))
theorem rd_64 : Rd enc Try.prog w 64 (fun x : Int × Int × Unit => ([I x.1] ++ ([I x.2.1] ++ []))) (fun x => (-9223372036854775808 ≤ x.1 ∧ x.1 ≤ 9223372036854775807) ∧ (-9223372036854775808 ≤ x.2.1 ∧ x.2.1 ≤ 9223372036854775807) ∧ True) := 
  Rd.array Try.underlying64 br_arr64 (by kernel_rfl) (RdF.cons br_at64_0 rd_3 (RdF.cons br_at64_1 rd_3 RdF.nil))
theorem rd_113 : Rd enc Try.prog w 113 (fun x : (Int × Int × Unit) × Int × Unit => (([I x.1.1] ++ ([I x.1.2.1] ++ [])) ++ ([I x.2.1] ++ []))) (fun x => ((-9223372036854775808 ≤ x.1.1 ∧ x.1.1 ≤ 9223372036854775807) ∧ (-9223372036854775808 ≤ x.1.2.1 ∧ x.1.2.1 ≤ 9223372036854775807) ∧ True) ∧ (-9223372036854775808 ≤ x.2.1 ∧ x.2.1 ≤ 9223372036854775807) ∧ True) := 
  Rd.struct Try.underlying113 rfl (by kernel_rfl) (RdF.cons br_at113_0 rd_56 (RdF.cons br_at113_2 rd_3 RdF.nil))
theorem rd_115 : Rd enc Try.prog w 115 (fun x : (List (List Int)) × Int × Unit => ([LL x.1] ++ ([I x.2.1] ++ []))) (fun x => (x.1.length ≤ maxLen ∧ ∀ y ∈ x.1, y.length ≤ maxLen ∧ ∀ z ∈ y, -9223372036854775808 ≤ z ∧ z ≤ 9223372036854775807) ∧ (-9223372036854775808 ≤ x.2.1 ∧ x.2.1 ≤ 9223372036854775807) ∧ True) := 
  Rd.struct Try.underlying115 rfl (by kernel_rfl) (RdF.cons br_at115_0 rd_95 (RdF.cons br_at115_1 rd_3 RdF.nil))
theorem rd_82 : Rd enc Try.prog w 82 (fun x : Int × Int × (List Int) × Unit => ([I x.1] ++ ([I x.2.1] ++ ([L x.2.2.1] ++ [])))) (fun x => (-9223372036854775808 ≤ x.1 ∧ x.1 ≤ 9223372036854775807) ∧ (-9223372036854775808 ≤ x.2.1 ∧ x.2.1 ≤ 9223372036854775807) ∧ (x.2.2.1.length ≤ maxLen ∧ ∀ y ∈ x.2.2.1, -9223372036854775808 ≤ y ∧ y ≤ 9223372036854775807) ∧ True) := 
  Rd.struct Try.underlying82 rfl (by kernel_rfl) (RdF.cons br_at82_0 rd_3 (RdF.cons br_at82_1 rd_3 (RdF.cons br_at82_2 rd_22 RdF.nil)))
theorem rd_76 : Rd enc Try.prog w 76 (fun x : List (Int × Int × (List Int)) => [.list x.length (x.flatMap fun y => [I y.1, I y.2.1, L y.2.2])]) (fun x => x.length ≤ maxLen) := 
  (Rd.slice Try.underlying76 br_pos82 rd_82).turn (List.map fun y => (y.1, y.2.1, y.2.2.1)) (fun xs => by simp [List.flatMap_map]) fun xs h => by simpa using h.1
theorem rd_78 : Rd enc Try.prog w 78 (fun x : Int × (List (Int × Int × (List Int))) × Unit => ([I x.1] ++ ([.list x.2.1.length (x.2.1.flatMap fun y => [I y.1, I y.2.1, L y.2.2])] ++ []))) (fun x => (-9223372036854775808 ≤ x.1 ∧ x.1 ≤ 9223372036854775807) ∧ (x.2.1.length ≤ maxLen) ∧ True) := 
  Rd.struct Try.underlying78 rfl (by kernel_rfl) (RdF.cons br_at78_0 rd_3 (RdF.cons br_at78_1 rd_76 RdF.nil))
theorem rd_80 : Rd enc Try.prog w 80 (fun x : Int × Int × Int × (List Int) × Unit => ([I x.1] ++ ([I x.2.1] ++ ([I x.2.2.1] ++ ([L x.2.2.2.1] ++ []))))) (fun x => (-9223372036854775808 ≤ x.1 ∧ x.1 ≤ 9223372036854775807) ∧ (-9223372036854775808 ≤ x.2.1 ∧ x.2.1 ≤ 9223372036854775807) ∧ (-9223372036854775808 ≤ x.2.2.1 ∧ x.2.2.1 ≤ 9223372036854775807) ∧ (x.2.2.2.1.length ≤ maxLen ∧ ∀ y ∈ x.2.2.2.1, -9223372036854775808 ≤ y ∧ y ≤ 9223372036854775807) ∧ True) := 
  Rd.struct Try.underlying80 rfl (by kernel_rfl) (RdF.cons br_at80_0 rd_3 (RdF.cons br_at80_1 rd_3 (RdF.cons br_at80_2 rd_3 (RdF.cons br_at80_3 rd_22 RdF.nil))))
theorem rd_127 : Rd enc Try.prog w 127 (fun x : (List Int) × (List Int) × Unit => ([L x.1] ++ ([L x.2.1] ++ []))) (fun x => (x.1.length ≤ maxLen ∧ ∀ y ∈ x.1, -9223372036854775808 ≤ y ∧ y ≤ 9223372036854775807) ∧ (x.2.1.length ≤ maxLen ∧ ∀ y ∈ x.2.1, -9223372036854775808 ≤ y ∧ y ≤ 9223372036854775807) ∧ True) := 
  Rd.struct Try.underlying127 rfl (by kernel_rfl) (RdF.cons br_at127_0 rd_22 (RdF.cons br_at127_1 rd_22 RdF.nil))
theorem rd_94 : Rd enc Try.prog w 94 (fun x : List (Int × Int × Int × (List Int)) => [.list x.length (x.flatMap fun y => [I y.1, I y.2.1, I y.2.2.1, L y.2.2.2])]) (fun x => x.length ≤ maxLen) := 
  (Rd.slice Try.underlying94 br_pos80 rd_80).turn (List.map fun y => (y.1, y.2.1, y.2.2.1, y.2.2.2.1)) (fun xs => by simp [List.flatMap_map]) fun xs h => by simpa using h.1
theorem rd_132 : Rd enc Try.prog w 132 (fun x : (List Int) × Int × Int × Unit => ([L x.1] ++ ([I x.2.1] ++ ([I x.2.2.1] ++ [])))) (fun x => (x.1.length ≤ maxLen ∧ ∀ y ∈ x.1, -9223372036854775808 ≤ y ∧ y ≤ 9223372036854775807) ∧ (-9223372036854775808 ≤ x.2.1 ∧ x.2.1 ≤ 9223372036854775807) ∧ (-9223372036854775808 ≤ x.2.2.1 ∧ x.2.2.1 ≤ 9223372036854775807) ∧ True) := 
  Rd.struct Try.underlying132 rfl (by kernel_rfl) (RdF.cons br_at132_0 rd_22 (RdF.cons br_at132_1 rd_3 (RdF.cons br_at132_2 rd_3 RdF.nil)))
end
end Go.Proofs.Ytikelkndldaejaa
