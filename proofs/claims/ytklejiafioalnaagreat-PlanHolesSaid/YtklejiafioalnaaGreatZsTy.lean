import Derived.Test.YtklejiafioalnaaGreatProg
import Derived.Test.YtklejiafioalnaaGreatPwT
set_option linter.all false
namespace Go.Proofs.YtklejiafioalnaaGreat
open Go.PW
theorem mixed : Tryz.prog.follows .mixedOrders = true := by kernel_rfl
@[go_sem] theorem ty3 : tyOf Tryz.prog 3 = some (1, 8, [.int .i64 0]) := by kernel_rfl
@[go_sem] theorem ag3 : aggOf Tryz.prog 3 = some false := by kernel_rfl
@[go_sem] theorem ty4 : tyOf Tryz.prog 4 = some (1, 1, [.bool false]) := by kernel_rfl
@[go_sem] theorem ag4 : aggOf Tryz.prog 4 = some false := by kernel_rfl
@[go_sem] theorem ty5 : tyOf Tryz.prog 5 = some (1, 1, [.int .u8 0]) := by kernel_rfl
@[go_sem] theorem ag5 : aggOf Tryz.prog 5 = some false := by kernel_rfl
@[go_sem] theorem ty9 : tyOf Tryz.prog 9 = some (1, 16, [.string ⟨#[]⟩]) := by kernel_rfl
@[go_sem] theorem ag9 : aggOf Tryz.prog 9 = some false := by kernel_rfl
@[go_sem] theorem se9 : selOf Tryz.prog 9 = none := by kernel_rfl
@[go_sem] theorem st9 : isStrT Tryz.prog 9 = true := by kernel_rfl
@[go_sem] theorem ty22 : tyOf Tryz.prog 22 = some (1, 24, [.slice none 0 0]) := by kernel_rfl
@[go_sem] theorem ag22 : aggOf Tryz.prog 22 = some false := by kernel_rfl
@[go_sem] theorem se22 : selOf Tryz.prog 22 = some 51 := by kernel_rfl
@[go_sem] theorem ty24 : tyOf Tryz.prog 24 = some (1, 24, [.slice none 0 0]) := by kernel_rfl
@[go_sem] theorem ag24 : aggOf Tryz.prog 24 = some true := by kernel_rfl
@[go_sem] theorem pl24 : placesOf Tryz.prog 24 = some [(0, 1)] := by kernel_rfl
@[go_sem] theorem fo24_0 : fldOff Tryz.prog 24 0 = some (0, 22) := by kernel_rfl
@[go_sem] theorem ty25 : tyOf Tryz.prog 25 = some (1, 24, [.slice none 0 0]) := by kernel_rfl
@[go_sem] theorem ag25 : aggOf Tryz.prog 25 = some false := by kernel_rfl
@[go_sem] theorem se25 : selOf Tryz.prog 25 = some 78 := by kernel_rfl
@[go_sem] theorem ty26 : tyOf Tryz.prog 26 = some (1, 24, [.slice none 0 0]) := by kernel_rfl
@[go_sem] theorem ag26 : aggOf Tryz.prog 26 = some false := by kernel_rfl
@[go_sem] theorem se26 : selOf Tryz.prog 26 = some 118 := by kernel_rfl
@[go_sem] theorem ty28 : tyOf Tryz.prog 28 = some (6, 96, [.slice none 0 0, .slice none 0 0, .slice none 0 0, .int .i64 0, .int .i64 0, .int .i64 0]) := by kernel_rfl
@[go_sem] theorem ag28 : aggOf Tryz.prog 28 = some true := by kernel_rfl
@[go_sem] theorem fo28_0 : fldOff Tryz.prog 28 0 = some (0, 24) := by kernel_rfl
@[go_sem] theorem fo28_1 : fldOff Tryz.prog 28 1 = some (1, 25) := by kernel_rfl
@[go_sem] theorem fo28_2 : fldOff Tryz.prog 28 2 = some (2, 26) := by kernel_rfl
@[go_sem] theorem fo28_3 : fldOff Tryz.prog 28 3 = some (3, 3) := by kernel_rfl
@[go_sem] theorem fo28_4 : fldOff Tryz.prog 28 4 = some (4, 3) := by kernel_rfl
@[go_sem] theorem fo28_5 : fldOff Tryz.prog 28 5 = some (5, 3) := by kernel_rfl
@[go_sem] theorem ty38 : tyOf Tryz.prog 38 = some (1, 8, [.int .i64 0]) := by kernel_rfl
@[go_sem] theorem ag38 : aggOf Tryz.prog 38 = some false := by kernel_rfl
@[go_sem] theorem se48 : selOf Tryz.prog 48 = some 58 := by kernel_rfl
@[go_sem] theorem ty51 : tyOf Tryz.prog 51 = some (1, 24, [.slice none 0 0]) := by kernel_rfl
@[go_sem] theorem ag51 : aggOf Tryz.prog 51 = some false := by kernel_rfl
@[go_sem] theorem se51 : selOf Tryz.prog 51 = some 3 := by kernel_rfl
@[go_sem] theorem ty58 : tyOf Tryz.prog 58 = some (2, 16, [.int .i64 0, .int .i64 0]) := by kernel_rfl
@[go_sem] theorem ag58 : aggOf Tryz.prog 58 = some true := by kernel_rfl
@[go_sem] theorem se58 : selOf Tryz.prog 58 = none := by kernel_rfl
@[go_sem] theorem ar58 : arrOf Tryz.prog 58 = some (2, 3) := by kernel_rfl
@[go_sem] theorem pl58 : placesOf Tryz.prog 58 = none := by kernel_rfl
@[go_sem] theorem eq58 : eqPlanT Tryz.prog 58 = some [(0, .int), (1, .int)] := by kernel_rfl
@[go_sem] theorem se66 : selOf Tryz.prog 66 = some 4 := by kernel_rfl
@[go_sem] theorem ty78 : tyOf Tryz.prog 78 = some (7, 64, [.string ⟨#[]⟩, .int .i64 0, .int .i64 0, .int .i64 0, .int .i64 0, .int .i64 0, .int .i64 0]) := by kernel_rfl
@[go_sem] theorem ag78 : aggOf Tryz.prog 78 = some true := by kernel_rfl
@[go_sem] theorem fo78_0 : fldOff Tryz.prog 78 0 = some (0, 9) := by kernel_rfl
@[go_sem] theorem fo78_1 : fldOff Tryz.prog 78 1 = some (1, 3) := by kernel_rfl
@[go_sem] theorem fo78_2 : fldOff Tryz.prog 78 2 = some (2, 58) := by kernel_rfl
@[go_sem] theorem fo78_3 : fldOff Tryz.prog 78 3 = some (4, 3) := by kernel_rfl
@[go_sem] theorem fo78_4 : fldOff Tryz.prog 78 4 = some (5, 3) := by kernel_rfl
@[go_sem] theorem fo78_5 : fldOff Tryz.prog 78 5 = some (6, 3) := by kernel_rfl
@[go_sem] theorem ty106 : tyOf Tryz.prog 106 = some (2, 16, [.int .i64 0, .bool false]) := by kernel_rfl
@[go_sem] theorem ag106 : aggOf Tryz.prog 106 = some true := by kernel_rfl
@[go_sem] theorem pl106 : placesOf Tryz.prog 106 = some [(0, 1), (1, 1)] := by kernel_rfl
@[go_sem] theorem fo106_0 : fldOff Tryz.prog 106 0 = some (0, 3) := by kernel_rfl
@[go_sem] theorem fo106_1 : fldOff Tryz.prog 106 1 = some (1, 4) := by kernel_rfl
@[go_sem] theorem se114 : selOf Tryz.prog 114 = some 9 := by kernel_rfl
@[go_sem] theorem ty118 : tyOf Tryz.prog 118 = some (2, 16, [.int .i64 0, .int .i64 0]) := by kernel_rfl
@[go_sem] theorem ag118 : aggOf Tryz.prog 118 = some true := by kernel_rfl
@[go_sem] theorem fo118_0 : fldOff Tryz.prog 118 0 = some (0, 3) := by kernel_rfl
@[go_sem] theorem fo118_1 : fldOff Tryz.prog 118 1 = some (1, 3) := by kernel_rfl
@[go_sem] theorem ty124 : tyOf Tryz.prog 124 = some (1, 24, [.slice none 0 0]) := by kernel_rfl
@[go_sem] theorem ag124 : aggOf Tryz.prog 124 = some false := by kernel_rfl
@[go_sem] theorem se124 : selOf Tryz.prog 124 = some 106 := by kernel_rfl
@[go_sem] theorem ty125 : tyOf Tryz.prog 125 = some (1, 24, [.slice none 0 0]) := by kernel_rfl
@[go_sem] theorem ag125 : aggOf Tryz.prog 125 = some false := by kernel_rfl
@[go_sem] theorem se125 : selOf Tryz.prog 125 = some 124 := by kernel_rfl
@[go_sem] theorem ty127 : tyOf Tryz.prog 127 = some (8, 128, [.slice none 0 0, .slice none 0 0, .slice none 0 0, .int .i64 0, .int .i64 0, .int .i64 0, .int .i64 0, .slice none 0 0]) := by kernel_rfl
@[go_sem] theorem pl127 : placesOf Tryz.prog 127 = some [(0, 6), (6, 1), (7, 1)] := by kernel_rfl
@[go_sem] theorem fo127_0 : fldOff Tryz.prog 127 0 = some (0, 28) := by kernel_rfl
@[go_sem] theorem fo127_1 : fldOff Tryz.prog 127 1 = some (6, 3) := by kernel_rfl
@[go_sem] theorem fo127_2 : fldOff Tryz.prog 127 2 = some (7, 125) := by kernel_rfl
@[go_sem] theorem se153 : selOf Tryz.prog 153 = some 38 := by kernel_rfl
@[go_sem] theorem se197 : selOf Tryz.prog 197 = some 5 := by kernel_rfl
end Go.Proofs.YtklejiafioalnaaGreat
