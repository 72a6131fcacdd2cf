import Derived.Test.YtklejiafioalnaaProg
import Derived.Test.YtklejiafioalnaaPwT
set_option linter.all false
namespace Go.Proofs.Ytklejiafioalnaa
open Go.PW
theorem mixed : Try.prog.follows .mixedOrders = true := by kernel_rfl
@[go_sem] theorem ty3 : tyOf Try.prog 3 = some (1, 8, [.int .i64 0]) := by kernel_rfl
@[go_sem] theorem ag3 : aggOf Try.prog 3 = some false := by kernel_rfl
@[go_sem] theorem ty4 : tyOf Try.prog 4 = some (1, 1, [.bool false]) := by kernel_rfl
@[go_sem] theorem ag4 : aggOf Try.prog 4 = some false := by kernel_rfl
@[go_sem] theorem ty22 : tyOf Try.prog 22 = some (1, 24, [.slice none 0 0]) := by kernel_rfl
@[go_sem] theorem ag22 : aggOf Try.prog 22 = some false := by kernel_rfl
@[go_sem] theorem se22 : selOf Try.prog 22 = some 42 := by kernel_rfl
@[go_sem] theorem ty24 : tyOf Try.prog 24 = some (2, 32, [.int .i64 0, .slice none 0 0]) := by kernel_rfl
@[go_sem] theorem ag24 : aggOf Try.prog 24 = some true := by kernel_rfl
@[go_sem] theorem pl24 : placesOf Try.prog 24 = some [(0, 1), (1, 1)] := by kernel_rfl
@[go_sem] theorem fo24_0 : fldOff Try.prog 24 0 = some (0, 3) := by kernel_rfl
@[go_sem] theorem fo24_1 : fldOff Try.prog 24 1 = some (1, 22) := by kernel_rfl
@[go_sem] theorem ty25 : tyOf Try.prog 25 = some (1, 24, [.slice none 0 0]) := by kernel_rfl
@[go_sem] theorem ag25 : aggOf Try.prog 25 = some false := by kernel_rfl
@[go_sem] theorem se25 : selOf Try.prog 25 = some 3 := by kernel_rfl
@[go_sem] theorem ty28 : tyOf Try.prog 28 = some (1, 8, [.int .i64 0]) := by kernel_rfl
@[go_sem] theorem ag28 : aggOf Try.prog 28 = some false := by kernel_rfl
@[go_sem] theorem ty42 : tyOf Try.prog 42 = some (2, 16, [.int .i64 0, .int .i64 0]) := by kernel_rfl
@[go_sem] theorem ag42 : aggOf Try.prog 42 = some true := by kernel_rfl
@[go_sem] theorem se42 : selOf Try.prog 42 = none := by kernel_rfl
@[go_sem] theorem ar42 : arrOf Try.prog 42 = some (2, 3) := by kernel_rfl
@[go_sem] theorem pl42 : placesOf Try.prog 42 = none := by kernel_rfl
@[go_sem] theorem eq42 : eqPlanT Try.prog 42 = some [(0, .int), (1, .int)] := by kernel_rfl
@[go_sem] theorem ty103 : tyOf Try.prog 103 = some (8, 8, [.bool false, .bool false, .bool false, .bool false, .bool false, .bool false, .bool false, .bool false]) := by kernel_rfl
@[go_sem] theorem se103 : selOf Try.prog 103 = none := by kernel_rfl
@[go_sem] theorem ar103 : arrOf Try.prog 103 = some (8, 4) := by kernel_rfl
@[go_sem] theorem ty104 : tyOf Try.prog 104 = some (64, 64, [.bool false, .bool false, .bool false, .bool false, .bool false, .bool false, .bool false, .bool false, .bool false, .bool false, .bool false, .bool false, .bool false, .bool false, .bool false, .bool false, .bool false, .bool false, .bool false, .bool false, .bool false, .bool false, .bool false, .bool false, .bool false, .bool false, .bool false, .bool false, .bool false, .bool false, .bool false, .bool false, .bool false, .bool false, .bool false, .bool false, .bool false, .bool false, .bool false, .bool false, .bool false, .bool false, .bool false, .bool false, .bool false, .bool false, .bool false, .bool false, .bool false, .bool false, .bool false, .bool false, .bool false, .bool false, .bool false, .bool false, .bool false, .bool false, .bool false, .bool false, .bool false, .bool false, .bool false, .bool false]) := by kernel_rfl
@[go_sem] theorem se104 : selOf Try.prog 104 = none := by kernel_rfl
@[go_sem] theorem ar104 : arrOf Try.prog 104 = some (8, 103) := by kernel_rfl
@[go_sem] theorem ty106 : tyOf Try.prog 106 = some (65, 72, [.int .i64 0, .bool false, .bool false, .bool false, .bool false, .bool false, .bool false, .bool false, .bool false, .bool false, .bool false, .bool false, .bool false, .bool false, .bool false, .bool false, .bool false, .bool false, .bool false, .bool false, .bool false, .bool false, .bool false, .bool false, .bool false, .bool false, .bool false, .bool false, .bool false, .bool false, .bool false, .bool false, .bool false, .bool false, .bool false, .bool false, .bool false, .bool false, .bool false, .bool false, .bool false, .bool false, .bool false, .bool false, .bool false, .bool false, .bool false, .bool false, .bool false, .bool false, .bool false, .bool false, .bool false, .bool false, .bool false, .bool false, .bool false, .bool false, .bool false, .bool false, .bool false, .bool false, .bool false, .bool false, .bool false]) := by kernel_rfl
@[go_sem] theorem pl106 : placesOf Try.prog 106 = some [(0, 1), (1, 64)] := by kernel_rfl
@[go_sem] theorem fo106_0 : fldOff Try.prog 106 0 = some (0, 3) := by kernel_rfl
@[go_sem] theorem fo106_1 : fldOff Try.prog 106 1 = some (1, 104) := by kernel_rfl
@[go_sem] theorem ty114 : tyOf Try.prog 114 = some (1, 8, [.nilFunc]) := by kernel_rfl
@[go_sem] theorem ag114 : aggOf Try.prog 114 = some false := by kernel_rfl
@[go_sem] theorem ty116 : tyOf Try.prog 116 = some (1, 8, [.nilFunc]) := by kernel_rfl
@[go_sem] theorem ag116 : aggOf Try.prog 116 = some false := by kernel_rfl
@[go_sem] theorem se153 : selOf Try.prog 153 = some 28 := by kernel_rfl
end Go.Proofs.Ytklejiafioalnaa
