import Derived.Test.YtbndgoeahoadlaaDoorProg
import Derived.Test.YtbndgoeahoadlaaDoorPwT
set_option linter.all false
namespace Go.Proofs.YtbndgoeahoadlaaDoor
open Go.PW
theorem mixed : Tryd.prog.follows .mixedOrders = true := by kernel_rfl
@[go_sem] theorem ty3 : tyOf Tryd.prog 3 = some (1, 8, [.int .i64 0]) := by kernel_rfl
@[go_sem] theorem ag3 : aggOf Tryd.prog 3 = some false := by kernel_rfl
@[go_sem] theorem bo4 : isBoolT Tryd.prog 4 = true := by kernel_rfl
@[go_sem] theorem ty23 : tyOf Tryd.prog 23 = some (4, 32, [.int .i64 0, .int .i64 0, .int .i64 0, .int .i64 0]) := by kernel_rfl
@[go_sem] theorem ag23 : aggOf Tryd.prog 23 = some true := by kernel_rfl
@[go_sem] theorem fo23_0 : fldOff Tryd.prog 23 0 = some (0, 3) := by kernel_rfl
@[go_sem] theorem fo23_1 : fldOff Tryd.prog 23 1 = some (1, 3) := by kernel_rfl
@[go_sem] theorem fo23_2 : fldOff Tryd.prog 23 2 = some (2, 3) := by kernel_rfl
@[go_sem] theorem fo23_3 : fldOff Tryd.prog 23 3 = some (3, 3) := by kernel_rfl
@[go_sem] theorem se24 : selOf Tryd.prog 24 = none := by kernel_rfl
@[go_sem] theorem ar24 : arrOf Tryd.prog 24 = some (2, 3) := by kernel_rfl
@[go_sem] theorem ty26 : tyOf Tryd.prog 26 = some (3, 24, [.int .i64 0, .int .i64 0, .int .i64 0]) := by kernel_rfl
@[go_sem] theorem ag26 : aggOf Tryd.prog 26 = some true := by kernel_rfl
@[go_sem] theorem fo26_0 : fldOff Tryd.prog 26 0 = some (0, 3) := by kernel_rfl
@[go_sem] theorem fo26_1 : fldOff Tryd.prog 26 1 = some (1, 3) := by kernel_rfl
@[go_sem] theorem fo26_2 : fldOff Tryd.prog 26 2 = some (2, 3) := by kernel_rfl
@[go_sem] theorem ty32 : tyOf Tryd.prog 32 = some (2, 16, [.int .i64 0, .int .i64 0]) := by kernel_rfl
@[go_sem] theorem ag32 : aggOf Tryd.prog 32 = some true := by kernel_rfl
@[go_sem] theorem pl32 : placesOf Tryd.prog 32 = some [(0, 1), (1, 1)] := by kernel_rfl
@[go_sem] theorem fo32_0 : fldOff Tryd.prog 32 0 = some (0, 3) := by kernel_rfl
@[go_sem] theorem fo32_1 : fldOff Tryd.prog 32 1 = some (1, 3) := by kernel_rfl
@[go_sem] theorem eq32 : eqPlanT Tryd.prog 32 = some [(0, .int), (1, .int)] := by kernel_rfl
@[go_sem] theorem ty33 : tyOf Tryd.prog 33 = some (1, 8, [.int .i64 0]) := by kernel_rfl
@[go_sem] theorem ag33 : aggOf Tryd.prog 33 = some false := by kernel_rfl
@[go_sem] theorem ty37 : tyOf Tryd.prog 37 = some (4, 32, [.int .i64 0, .int .i64 0, .int .i64 0, .int .i64 0]) := by kernel_rfl
@[go_sem] theorem ag37 : aggOf Tryd.prog 37 = some true := by kernel_rfl
@[go_sem] theorem pl37 : placesOf Tryd.prog 37 = some [(0, 1), (1, 1), (2, 1), (3, 1)] := by kernel_rfl
@[go_sem] theorem fo37_0 : fldOff Tryd.prog 37 0 = some (0, 3) := by kernel_rfl
@[go_sem] theorem fo37_1 : fldOff Tryd.prog 37 1 = some (1, 3) := by kernel_rfl
@[go_sem] theorem fo37_2 : fldOff Tryd.prog 37 2 = some (2, 3) := by kernel_rfl
@[go_sem] theorem fo37_3 : fldOff Tryd.prog 37 3 = some (3, 3) := by kernel_rfl
@[go_sem] theorem eq37 : eqPlanT Tryd.prog 37 = some [(0, .int), (1, .int), (2, .int), (3, .int)] := by kernel_rfl
@[go_sem] theorem ty49 : tyOf Tryd.prog 49 = some (2, 16, [.int .i64 0, .int .i64 0]) := by kernel_rfl
@[go_sem] theorem ag49 : aggOf Tryd.prog 49 = some true := by kernel_rfl
@[go_sem] theorem pl49 : placesOf Tryd.prog 49 = some [(0, 1), (1, 1)] := by kernel_rfl
@[go_sem] theorem fo49_0 : fldOff Tryd.prog 49 0 = some (0, 3) := by kernel_rfl
@[go_sem] theorem fo49_1 : fldOff Tryd.prog 49 1 = some (1, 3) := by kernel_rfl
@[go_sem] theorem se56 : selOf Tryd.prog 56 = some 89 := by kernel_rfl
@[go_sem] theorem se61 : selOf Tryd.prog 61 = some 3 := by kernel_rfl
@[go_sem] theorem ty75 : tyOf Tryd.prog 75 = some (4, 32, [.int .i64 0, .int .i64 0, .int .i64 0, .int .i64 0]) := by kernel_rfl
@[go_sem] theorem ag75 : aggOf Tryd.prog 75 = some true := by kernel_rfl
@[go_sem] theorem pl75 : placesOf Tryd.prog 75 = some [(0, 4)] := by kernel_rfl
@[go_sem] theorem fo75_0 : fldOff Tryd.prog 75 0 = some (0, 37) := by kernel_rfl
@[go_sem] theorem ty89 : tyOf Tryd.prog 89 = some (7, 56, [.int .i64 0, .int .i64 0, .int .i64 0, .int .i64 0, .int .i64 0, .int .i64 0, .int .i64 0]) := by kernel_rfl
@[go_sem] theorem se97 : selOf Tryd.prog 97 = some 33 := by kernel_rfl
end Go.Proofs.YtbndgoeahoadlaaDoor
