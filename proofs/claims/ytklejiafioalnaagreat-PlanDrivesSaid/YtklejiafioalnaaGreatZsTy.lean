import Derived.Test.YtklejiafioalnaaGreatProg
import Derived.Test.YtklejiafioalnaaGreatPwT
set_option linter.all false
namespace Go.Proofs.YtklejiafioalnaaGreat
open Go.PW
theorem mixed : Tryz.prog.follows .mixedOrders = true := by kernel_rfl
@[go_sem] theorem ty3 : A1 Tryz.prog 3 = some (1, 8, [.int .i64 0]) := by kernel_rfl
@[go_sem] theorem ag3 : z4 Tryz.prog 3 = some false := by kernel_rfl
@[go_sem] theorem ty4 : A1 Tryz.prog 4 = some (1, 1, [.bool false]) := by kernel_rfl
@[go_sem] theorem ag4 : z4 Tryz.prog 4 = some false := by kernel_rfl
@[go_sem] theorem ty5 : A1 Tryz.prog 5 = some (1, 1, [.int .u8 0]) := by kernel_rfl
@[go_sem] theorem ag5 : z4 Tryz.prog 5 = some false := by kernel_rfl
@[go_sem] theorem ty9 : A1 Tryz.prog 9 = some (1, 16, [.string ⟨#[]⟩]) := by kernel_rfl
@[go_sem] theorem ag9 : z4 Tryz.prog 9 = some false := by kernel_rfl
@[go_sem] theorem se9 : r5 Tryz.prog 9 = none := by kernel_rfl
@[go_sem] theorem st9 : isStrT Tryz.prog 9 = true := by kernel_rfl
@[go_sem] theorem ty22 : A1 Tryz.prog 22 = some (1, 24, [.slice none 0 0]) := by kernel_rfl
@[go_sem] theorem ag22 : z4 Tryz.prog 22 = some false := by kernel_rfl
@[go_sem] theorem se22 : r5 Tryz.prog 22 = some 51 := by kernel_rfl
@[go_sem] theorem ty24 : A1 Tryz.prog 24 = some (1, 24, [.slice none 0 0]) := by kernel_rfl
@[go_sem] theorem ag24 : z4 Tryz.prog 24 = some true := by kernel_rfl
@[go_sem] theorem pl24 : placesOf Tryz.prog 24 = some [(0, 1)] := by kernel_rfl
@[go_sem] theorem fo24_0 : o7 Tryz.prog 24 0 = some (0, 22) := by kernel_rfl
@[go_sem] theorem ty25 : A1 Tryz.prog 25 = some (1, 24, [.slice none 0 0]) := by kernel_rfl
@[go_sem] theorem ag25 : z4 Tryz.prog 25 = some false := by kernel_rfl
@[go_sem] theorem se25 : r5 Tryz.prog 25 = some 78 := by kernel_rfl
@[go_sem] theorem ty26 : A1 Tryz.prog 26 = some (1, 24, [.slice none 0 0]) := by kernel_rfl
@[go_sem] theorem ag26 : z4 Tryz.prog 26 = some false := by kernel_rfl
@[go_sem] theorem se26 : r5 Tryz.prog 26 = some 118 := by kernel_rfl
@[go_sem] theorem ty28 : A1 Tryz.prog 28 = some (6, 96, [.slice none 0 0, .slice none 0 0, .slice none 0 0, .int .i64 0, .int .i64 0, .int .i64 0]) := by kernel_rfl
@[go_sem] theorem ag28 : z4 Tryz.prog 28 = some true := by kernel_rfl
@[go_sem] theorem fo28_0 : o7 Tryz.prog 28 0 = some (0, 24) := by kernel_rfl
@[go_sem] theorem fo28_1 : o7 Tryz.prog 28 1 = some (1, 25) := by kernel_rfl
@[go_sem] theorem fo28_2 : o7 Tryz.prog 28 2 = some (2, 26) := by kernel_rfl
@[go_sem] theorem fo28_3 : o7 Tryz.prog 28 3 = some (3, 3) := by kernel_rfl
@[go_sem] theorem fo28_4 : o7 Tryz.prog 28 4 = some (4, 3) := by kernel_rfl
@[go_sem] theorem fo28_5 : o7 Tryz.prog 28 5 = some (5, 3) := by kernel_rfl
@[go_sem] theorem se29 : r5 Tryz.prog 29 = some 102 := by kernel_rfl
@[go_sem] theorem ty33 : A1 Tryz.prog 33 = some (2, 16, [.int .i64 0, .int .i64 0]) := by kernel_rfl
@[go_sem] theorem pl33 : placesOf Tryz.prog 33 = some [(0, 1), (1, 1)] := by kernel_rfl
@[go_sem] theorem fo33_0 : o7 Tryz.prog 33 0 = some (0, 3) := by kernel_rfl
@[go_sem] theorem fo33_1 : o7 Tryz.prog 33 1 = some (1, 3) := by kernel_rfl
@[go_sem] theorem ty35 : A1 Tryz.prog 35 = some (2, 16, [.int .i64 0, .int .i64 0]) := by kernel_rfl
@[go_sem] theorem ag35 : z4 Tryz.prog 35 = some true := by kernel_rfl
@[go_sem] theorem pl35 : placesOf Tryz.prog 35 = some [(0, 1), (1, 1)] := by kernel_rfl
@[go_sem] theorem ty37 : A1 Tryz.prog 37 = some (5, 40, [.int .i64 0, .int .i64 0, .int .i64 0, .int .i64 0, .int .i64 0]) := by kernel_rfl
@[go_sem] theorem ag37 : z4 Tryz.prog 37 = some true := by kernel_rfl
@[go_sem] theorem pl37 : placesOf Tryz.prog 37 = some [(0, 2), (2, 2), (4, 1)] := by kernel_rfl
@[go_sem] theorem fo37_0 : o7 Tryz.prog 37 0 = some (0, 33) := by kernel_rfl
@[go_sem] theorem fo37_1 : o7 Tryz.prog 37 1 = some (2, 35) := by kernel_rfl
@[go_sem] theorem fo37_2 : o7 Tryz.prog 37 2 = some (4, 3) := by kernel_rfl
@[go_sem] theorem eq37 : eqPlanT Tryz.prog 37 = some [(0, .int), (1, .int), (2, .int), (3, .int), (4, .int)] := by kernel_rfl
@[go_sem] theorem ty38 : A1 Tryz.prog 38 = some (1, 8, [.int .i64 0]) := by kernel_rfl
@[go_sem] theorem ag38 : z4 Tryz.prog 38 = some false := by kernel_rfl
@[go_sem] theorem ty51 : A1 Tryz.prog 51 = some (1, 24, [.slice none 0 0]) := by kernel_rfl
@[go_sem] theorem ag51 : z4 Tryz.prog 51 = some false := by kernel_rfl
@[go_sem] theorem se51 : r5 Tryz.prog 51 = some 3 := by kernel_rfl
@[go_sem] theorem ty58 : A1 Tryz.prog 58 = some (2, 16, [.int .i64 0, .int .i64 0]) := by kernel_rfl
@[go_sem] theorem ag58 : z4 Tryz.prog 58 = some true := by kernel_rfl
@[go_sem] theorem se58 : r5 Tryz.prog 58 = none := by kernel_rfl
@[go_sem] theorem ar58 : arrOf Tryz.prog 58 = some (2, 3) := by kernel_rfl
@[go_sem] theorem pl58 : placesOf Tryz.prog 58 = none := by kernel_rfl
@[go_sem] theorem se66 : r5 Tryz.prog 66 = some 4 := by kernel_rfl
@[go_sem] theorem ty78 : A1 Tryz.prog 78 = some (7, 64, [.string ⟨#[]⟩, .int .i64 0, .int .i64 0, .int .i64 0, .int .i64 0, .int .i64 0, .int .i64 0]) := by kernel_rfl
@[go_sem] theorem ag78 : z4 Tryz.prog 78 = some true := by kernel_rfl
@[go_sem] theorem fo78_0 : o7 Tryz.prog 78 0 = some (0, 9) := by kernel_rfl
@[go_sem] theorem fo78_1 : o7 Tryz.prog 78 1 = some (1, 3) := by kernel_rfl
@[go_sem] theorem fo78_2 : o7 Tryz.prog 78 2 = some (2, 58) := by kernel_rfl
@[go_sem] theorem fo78_3 : o7 Tryz.prog 78 3 = some (4, 3) := by kernel_rfl
@[go_sem] theorem fo78_4 : o7 Tryz.prog 78 4 = some (5, 3) := by kernel_rfl
@[go_sem] theorem fo78_5 : o7 Tryz.prog 78 5 = some (6, 3) := by kernel_rfl
@[go_sem] theorem ty102 : A1 Tryz.prog 102 = some (3, 24, [.int .i64 0, .int .i64 0, .int .i64 0]) := by kernel_rfl
@[go_sem] theorem ag102 : z4 Tryz.prog 102 = some true := by kernel_rfl
@[go_sem] theorem fo102_0 : o7 Tryz.prog 102 0 = some (0, 58) := by kernel_rfl
@[go_sem] theorem fo102_1 : o7 Tryz.prog 102 1 = some (2, 3) := by kernel_rfl
@[go_sem] theorem ty106 : A1 Tryz.prog 106 = some (2, 16, [.int .i64 0, .bool false]) := by kernel_rfl
@[go_sem] theorem ag106 : z4 Tryz.prog 106 = some true := by kernel_rfl
@[go_sem] theorem pl106 : placesOf Tryz.prog 106 = some [(0, 1), (1, 1)] := by kernel_rfl
@[go_sem] theorem fo106_0 : o7 Tryz.prog 106 0 = some (0, 3) := by kernel_rfl
@[go_sem] theorem fo106_1 : o7 Tryz.prog 106 1 = some (1, 4) := by kernel_rfl
@[go_sem] theorem se114 : r5 Tryz.prog 114 = some 9 := by kernel_rfl
@[go_sem] theorem ty118 : A1 Tryz.prog 118 = some (2, 16, [.int .i64 0, .int .i64 0]) := by kernel_rfl
@[go_sem] theorem ag118 : z4 Tryz.prog 118 = some true := by kernel_rfl
@[go_sem] theorem fo118_0 : o7 Tryz.prog 118 0 = some (0, 3) := by kernel_rfl
@[go_sem] theorem fo118_1 : o7 Tryz.prog 118 1 = some (1, 3) := by kernel_rfl
@[go_sem] theorem ty124 : A1 Tryz.prog 124 = some (1, 24, [.slice none 0 0]) := by kernel_rfl
@[go_sem] theorem ag124 : z4 Tryz.prog 124 = some false := by kernel_rfl
@[go_sem] theorem se124 : r5 Tryz.prog 124 = some 106 := by kernel_rfl
@[go_sem] theorem ty125 : A1 Tryz.prog 125 = some (1, 24, [.slice none 0 0]) := by kernel_rfl
@[go_sem] theorem ag125 : z4 Tryz.prog 125 = some false := by kernel_rfl
@[go_sem] theorem se125 : r5 Tryz.prog 125 = some 124 := by kernel_rfl
@[go_sem] theorem ty127 : A1 Tryz.prog 127 = some (8, 128, [.slice none 0 0, .slice none 0 0, .slice none 0 0, .int .i64 0, .int .i64 0, .int .i64 0, .int .i64 0, .slice none 0 0]) := by kernel_rfl
@[go_sem] theorem pl127 : placesOf Tryz.prog 127 = some [(0, 6), (6, 1), (7, 1)] := by kernel_rfl
@[go_sem] theorem fo127_0 : o7 Tryz.prog 127 0 = some (0, 28) := by kernel_rfl
@[go_sem] theorem fo127_1 : o7 Tryz.prog 127 1 = some (6, 3) := by kernel_rfl
@[go_sem] theorem fo127_2 : o7 Tryz.prog 127 2 = some (7, 125) := by kernel_rfl
@[go_sem] theorem se153 : r5 Tryz.prog 153 = some 38 := by kernel_rfl
@[go_sem] theorem se197 : r5 Tryz.prog 197 = some 5 := by kernel_rfl
end Go.Proofs.YtklejiafioalnaaGreat
