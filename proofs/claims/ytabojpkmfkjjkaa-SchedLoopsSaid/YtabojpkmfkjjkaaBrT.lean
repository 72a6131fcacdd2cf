/-
  The bridge of this seat: what the types of the laws' parameters read as. (Printed by bridge.py.)
-/
import Derived.Test.YtabojpkmfkjjkaaPwY
import Derived.Test.YtabojpkmfkjjkaaSsBase
import Derived.Test.YtabojpkmfkjjkaaRows
set_option linter.all false
namespace Go.Proofs.Ytabojpkmfkjjkaa
open Go.PW Go.RowKit Go.ChangeShapes Go.WideShapes Go.ChangeAt
theorem br_own : ownKnob Try.prog.godebug = none := by kernel_rfl
theorem br_laid : laidOutB Try.prog = true := by kernel_rfl
theorem br_size3 : Try.prog.cellsOf 3 = 1 := by kernel_rfl
theorem br_pos3 : 0 < Try.prog.cellsOf 3 := by rw [br_size3]; decide
theorem br_one22_3 : Try.prog.cellsOf 3 = 1 := by kernel_rfl
theorem br_at24_0 : 1 = 0 + Try.prog.cellsOf 3 := by kernel_rfl
theorem br_at24_1 : 2 = 1 + Try.prog.cellsOf 3 := by kernel_rfl
theorem br_at24_2 : 3 = 2 + Try.prog.cellsOf 3 := by kernel_rfl
theorem br_at24_3 : 4 = 3 + Try.prog.cellsOf 22 := by kernel_rfl
theorem br_at94_0 : 1 = 0 + Try.prog.cellsOf 3 := by kernel_rfl
theorem br_at94_1 : 2 = 1 + Try.prog.cellsOf 3 := by kernel_rfl
theorem br_at96_0 : 1 = 0 + Try.prog.cellsOf 3 := by kernel_rfl
theorem br_at96_1 : 2 = 1 + Try.prog.cellsOf 3 := by kernel_rfl
theorem br_at96_2 : 3 = 2 + Try.prog.cellsOf 3 := by kernel_rfl
theorem br_at96_3 : 5 = 3 + Try.prog.cellsOf 94 := by kernel_rfl
theorem br_size4 : Try.prog.cellsOf 4 = 1 := by kernel_rfl
theorem br_pos4 : 0 < Try.prog.cellsOf 4 := by rw [br_size4]; decide
theorem br_at112_0 : 1 = 0 + Try.prog.cellsOf 3 := by kernel_rfl
theorem br_at112_1 : 2 = 1 + Try.prog.cellsOf 97 := by kernel_rfl
section
variable {H : Type} {enc : TypeId × Value → H} {w : World}
theorem rd_3 : Rd enc Try.prog w 3 (fun x : Int => [I x]) (fun x => -9223372036854775808 ≤ x ∧ x ≤ 9223372036854775807) := 
  Rd.i64 Try.underlying3
theorem rd_22 : Rd enc Try.prog w 22 (fun x : List Int => [L x]) (fun x => x.length ≤ maxLen ∧ ∀ y ∈ x, -9223372036854775808 ≤ y ∧ y ≤ 9223372036854775807) := 
  Rd.ints Try.underlying22 Try.underlying3 br_one22_3
theorem rd_24 : Rd enc Try.prog w 24 (fun x : Int × Int × Int × (List Int) × Unit => ([I x.1] ++ ([I x.2.1] ++ ([I x.2.2.1] ++ ([L x.2.2.2.1] ++ []))))) (fun x => (-9223372036854775808 ≤ x.1 ∧ x.1 ≤ 9223372036854775807) ∧ (-9223372036854775808 ≤ x.2.1 ∧ x.2.1 ≤ 9223372036854775807) ∧ (-9223372036854775808 ≤ x.2.2.1 ∧ x.2.2.1 ≤ 9223372036854775807) ∧ (x.2.2.2.1.length ≤ maxLen ∧ ∀ y ∈ x.2.2.2.1, -9223372036854775808 ≤ y ∧ y ≤ 9223372036854775807) ∧ True) := 
  Rd.struct Try.underlying24 rfl (by kernel_rfl) (RdF.cons br_at24_0 rd_3 (RdF.cons br_at24_1 rd_3 (RdF.cons br_at24_2 rd_3 (RdF.cons br_at24_3 rd_22 RdF.nil))))
theorem rd_94 : Rd enc Try.prog w 94 (fun x : Int × Int × Unit => ([I x.1] ++ ([I x.2.1] ++ []))) (fun x => (-9223372036854775808 ≤ x.1 ∧ x.1 ≤ 9223372036854775807) ∧ (-9223372036854775808 ≤ x.2.1 ∧ x.2.1 ≤ 9223372036854775807) ∧ True) := 
  Rd.struct Try.underlying94 rfl (by kernel_rfl) (RdF.cons br_at94_0 rd_3 (RdF.cons br_at94_1 rd_3 RdF.nil))
theorem rd_96 : Rd enc Try.prog w 96 (fun x : Int × Int × Int × (Int × Int × Unit) × Unit => ([I x.1] ++ ([I x.2.1] ++ ([I x.2.2.1] ++ (([I x.2.2.2.1.1] ++ ([I x.2.2.2.1.2.1] ++ [])) ++ []))))) (fun x => (-9223372036854775808 ≤ x.1 ∧ x.1 ≤ 9223372036854775807) ∧ (-9223372036854775808 ≤ x.2.1 ∧ x.2.1 ≤ 9223372036854775807) ∧ (-9223372036854775808 ≤ x.2.2.1 ∧ x.2.2.1 ≤ 9223372036854775807) ∧ ((-9223372036854775808 ≤ x.2.2.2.1.1 ∧ x.2.2.2.1.1 ≤ 9223372036854775807) ∧ (-9223372036854775808 ≤ x.2.2.2.1.2.1 ∧ x.2.2.2.1.2.1 ≤ 9223372036854775807) ∧ True) ∧ True) := 
  Rd.struct Try.underlying96 rfl (by kernel_rfl) (RdF.cons br_at96_0 rd_3 (RdF.cons br_at96_1 rd_3 (RdF.cons br_at96_2 rd_3 (RdF.cons br_at96_3 rd_94 RdF.nil))))
theorem rd_4 : Rd enc Try.prog w 4 (fun x : Bool => [Bo x]) (fun x => True) := 
  Rd.bool Try.underlying4
theorem rd_97 : Rd enc Try.prog w 97 (fun x : List Bool => [.list x.length (x.flatMap fun y => [Bo y])]) (fun x => x.length ≤ maxLen ∧ ∀ y ∈ x, True) := 
  Rd.slice Try.underlying97 br_pos4 rd_4
theorem rd_112 : Rd enc Try.prog w 112 (fun x : Int × (List Bool) × Unit => ([I x.1] ++ ([.list x.2.1.length (x.2.1.flatMap fun y => [Bo y])] ++ []))) (fun x => (-9223372036854775808 ≤ x.1 ∧ x.1 ≤ 9223372036854775807) ∧ (x.2.1.length ≤ maxLen ∧ ∀ y ∈ x.2.1, True) ∧ True) := 
  Rd.struct Try.underlying112 rfl (by kernel_rfl) (RdF.cons br_at112_0 rd_3 (RdF.cons br_at112_1 rd_97 RdF.nil))
end
end Go.Proofs.Ytabojpkmfkjjkaa
