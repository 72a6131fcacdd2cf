import Derived.Test.YtbndgoeahoadlaaGreatDoorProg
import Derived.Test.YtbndgoeahoadlaaGreatDoorPwT
set_option linter.all false
namespace Go.Proofs.YtbndgoeahoadlaaGreatDoor
open Go.PW
theorem mixed : Tryz.prog.follows .mixedOrders = true := by kernel_rfl
@[go_sem] theorem ty3 : tyOf Tryz.prog 3 = some (1, 8, [.int .i64 0]) := by kernel_rfl
@[go_sem] theorem ag3 : aggOf Tryz.prog 3 = some false := by kernel_rfl
@[go_sem] theorem bo4 : isBoolT Tryz.prog 4 = true := by kernel_rfl
@[go_sem] theorem se24 : selOf Tryz.prog 24 = some 3 := by kernel_rfl
@[go_sem] theorem ty26 : tyOf Tryz.prog 26 = some (1, 8, [.int .i64 0]) := by kernel_rfl
@[go_sem] theorem ag26 : aggOf Tryz.prog 26 = some false := by kernel_rfl
@[go_sem] theorem se28 : selOf Tryz.prog 28 = some 71 := by kernel_rfl
@[go_sem] theorem ty71 : tyOf Tryz.prog 71 = some (7, 56, [.int .i64 0, .int .i64 0, .int .i64 0, .int .i64 0, .int .i64 0, .int .i64 0, .int .i64 0]) := by kernel_rfl
@[go_sem] theorem ty74 : tyOf Tryz.prog 74 = some (4, 32, [.int .i64 0, .int .i64 0, .int .i64 0, .int .i64 0]) := by kernel_rfl
@[go_sem] theorem ag74 : aggOf Tryz.prog 74 = some true := by kernel_rfl
@[go_sem] theorem pl74 : placesOf Tryz.prog 74 = some [(0, 1), (1, 1), (2, 1), (3, 1)] := by kernel_rfl
@[go_sem] theorem fo74_0 : fldOff Tryz.prog 74 0 = some (0, 3) := by kernel_rfl
@[go_sem] theorem fo74_1 : fldOff Tryz.prog 74 1 = some (1, 3) := by kernel_rfl
@[go_sem] theorem fo74_2 : fldOff Tryz.prog 74 2 = some (2, 3) := by kernel_rfl
@[go_sem] theorem fo74_3 : fldOff Tryz.prog 74 3 = some (3, 3) := by kernel_rfl
@[go_sem] theorem eq74 : eqPlanT Tryz.prog 74 = some [(0, .int), (1, .int), (2, .int), (3, .int)] := by kernel_rfl
@[go_sem] theorem ty99 : tyOf Tryz.prog 99 = some (4, 32, [.int .i64 0, .int .i64 0, .int .i64 0, .int .i64 0]) := by kernel_rfl
@[go_sem] theorem ag99 : aggOf Tryz.prog 99 = some true := by kernel_rfl
@[go_sem] theorem fo99_0 : fldOff Tryz.prog 99 0 = some (0, 3) := by kernel_rfl
@[go_sem] theorem fo99_1 : fldOff Tryz.prog 99 1 = some (1, 3) := by kernel_rfl
@[go_sem] theorem fo99_2 : fldOff Tryz.prog 99 2 = some (2, 3) := by kernel_rfl
@[go_sem] theorem fo99_3 : fldOff Tryz.prog 99 3 = some (3, 3) := by kernel_rfl
@[go_sem] theorem ty102 : tyOf Tryz.prog 102 = some (2, 16, [.int .i64 0, .int .i64 0]) := by kernel_rfl
@[go_sem] theorem ag102 : aggOf Tryz.prog 102 = some true := by kernel_rfl
@[go_sem] theorem pl102 : placesOf Tryz.prog 102 = some [(0, 1), (1, 1)] := by kernel_rfl
@[go_sem] theorem fo102_0 : fldOff Tryz.prog 102 0 = some (0, 3) := by kernel_rfl
@[go_sem] theorem fo102_1 : fldOff Tryz.prog 102 1 = some (1, 3) := by kernel_rfl
@[go_sem] theorem eq102 : eqPlanT Tryz.prog 102 = some [(0, .int), (1, .int)] := by kernel_rfl
@[go_sem] theorem ty157 : tyOf Tryz.prog 157 = some (4, 32, [.int .i64 0, .int .i64 0, .int .i64 0, .int .i64 0]) := by kernel_rfl
@[go_sem] theorem ag157 : aggOf Tryz.prog 157 = some true := by kernel_rfl
@[go_sem] theorem pl157 : placesOf Tryz.prog 157 = some [(0, 4)] := by kernel_rfl
@[go_sem] theorem fo157_0 : fldOff Tryz.prog 157 0 = some (0, 74) := by kernel_rfl
@[go_sem] theorem se172 : selOf Tryz.prog 172 = some 26 := by kernel_rfl
end Go.Proofs.YtbndgoeahoadlaaGreatDoor
