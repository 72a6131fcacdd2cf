/-
  The bridge of this seat: what the types of the laws' parameters read as. (Printed by bridge.py.)
-/
import Derived.Test.YtbndgoeahoadlaaDoorPwY
import Derived.Test.YtbndgoeahoadlaaDoorRdX
import Derived.Test.YtbndgoeahoadlaaDoorDsBase
import Derived.Test.YtbndgoeahoadlaaDoorRows
set_option linter.all false
namespace Go.Proofs.YtbndgoeahoadlaaDoor
open Go.PW Go.RowKit Go.ChangeShapes Go.WideShapes Go.ChangeAt
theorem br_own : ownKnob Tryd.prog.godebug = none := by kernel_rfl
theorem br_laid : laidOutB Tryd.prog = true := by kernel_rfl
theorem br_at23_0 : 1 = 0 + Tryd.prog.cellsOf 3 := by kernel_rfl
theorem br_at23_1 : 2 = 1 + Tryd.prog.cellsOf 3 := by kernel_rfl
theorem br_at23_2 : 3 = 2 + Tryd.prog.cellsOf 3 := by kernel_rfl
theorem br_at23_3 : 4 = 3 + Tryd.prog.cellsOf 3 := by kernel_rfl
theorem br_arr24 : (List.range 2).map (fun i => (3, i * Tryd.prog.cellsOf 3)) = [(3, 0), (3, 1)] := by kernel_rfl
theorem br_at24_0 : 1 = 0 + Tryd.prog.cellsOf 3 := by kernel_rfl
theorem br_at24_1 : 2 = 1 + Tryd.prog.cellsOf 3 := by kernel_rfl
theorem br_at26_0 : 1 = 0 + Tryd.prog.cellsOf 3 := by kernel_rfl
theorem br_at26_1 : 2 = 1 + Tryd.prog.cellsOf 3 := by kernel_rfl
theorem br_at26_2 : 3 = 2 + Tryd.prog.cellsOf 3 := by kernel_rfl
section
variable {H : Type} {enc : TypeId × Value → H} {w : World}
theorem rd_3 : Rd enc Tryd.prog w 3 (fun x : Int => [I x]) (fun x => -9223372036854775808 ≤ x ∧ x ≤ 9223372036854775807) := 
  Rd.i64 Tryd.underlying3
theorem rd_23 : Rd enc Tryd.prog w 23 (fun x : Int × Int × Int × Int × Unit => ([I x.1] ++ ([I x.2.1] ++ ([I x.2.2.1] ++ ([I x.2.2.2.1] ++ []))))) (fun x => (-9223372036854775808 ≤ x.1 ∧ x.1 ≤ 9223372036854775807) ∧ (-9223372036854775808 ≤ x.2.1 ∧ x.2.1 ≤ 9223372036854775807) ∧ (-9223372036854775808 ≤ x.2.2.1 ∧ x.2.2.1 ≤ 9223372036854775807) ∧ (-9223372036854775808 ≤ x.2.2.2.1 ∧ x.2.2.2.1 ≤ 9223372036854775807) ∧ True) := 
  Rd.struct Tryd.underlying23 rfl (by kernel_rfl) (RdF.cons br_at23_0 rd_3 (RdF.cons br_at23_1 rd_3 (RdF.cons br_at23_2 rd_3 (RdF.cons br_at23_3 rd_3 RdF.nil))))
theorem rd_24 : Rd enc Tryd.prog w 24 (fun x : Int × Int × Unit => ([I x.1] ++ ([I x.2.1] ++ []))) (fun x => (-9223372036854775808 ≤ x.1 ∧ x.1 ≤ 9223372036854775807) ∧ (-9223372036854775808 ≤ x.2.1 ∧ x.2.1 ≤ 9223372036854775807) ∧ True) := 
  Rd.array Tryd.underlying24 br_arr24 (by kernel_rfl) (RdF.cons br_at24_0 rd_3 (RdF.cons br_at24_1 rd_3 RdF.nil))
theorem rd_26 : Rd enc Tryd.prog w 26 (fun x : Int × Int × Int × Unit => ([I x.1] ++ ([I x.2.1] ++ ([I x.2.2.1] ++ [])))) (fun x => (-9223372036854775808 ≤ x.1 ∧ x.1 ≤ 9223372036854775807) ∧ (-9223372036854775808 ≤ x.2.1 ∧ x.2.1 ≤ 9223372036854775807) ∧ (-9223372036854775808 ≤ x.2.2.1 ∧ x.2.2.1 ≤ 9223372036854775807) ∧ True) := 
  Rd.struct Tryd.underlying26 rfl (by kernel_rfl) (RdF.cons br_at26_0 rd_3 (RdF.cons br_at26_1 rd_3 (RdF.cons br_at26_2 rd_3 RdF.nil)))
end

theorem ex_136 {w : World} : Ex (fun _ => ()) Tryd.prog w 136 exI := Ex.int Tryd.underlying136
theorem ex_147 {w : World} : Ex (fun _ => ()) Tryd.prog w 147 (exA exI) := Ex.array Tryd.underlying147 (by kernel_rfl) ex_136
theorem gi_of {W : World} (h : laidMetH Tryd.prog Rows.topAccessAlikeRow.laid W) : GI W.heap.size W (fun _ => True) :=
  GI.cons_of (List.forall_mem_cons.2 ⟨laid_cells (by kernel_rfl) h 2 rfl (by kernel_rfl) (by kernel_rfl) ex_147 (by first | rfl | kernel_rfl), List.forall_mem_nil _⟩) rfl
/-- The heap that the door's own run leaves. -/
theorem door_met (os : Os) (args : Array Value) : laidMetH Tryd.prog Rows.topAccessAlikeRow.laid ((World.doorLaid Tryd.prog 400 os).forCall (fun _ _ => 0) ⟨#[], args, []⟩).memory :=
  laidMetH_of_parts3 (fuel := 8) (laidMet_of_run' 8 (by kernel_rfl) (by kernel_rfl)) (by kernel_rfl) (by kernel_rfl)
end Go.Proofs.YtbndgoeahoadlaaDoor
