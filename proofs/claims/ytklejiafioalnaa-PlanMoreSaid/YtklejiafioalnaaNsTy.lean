import Derived.Test.YtklejiafioalnaaProg
import Derived.Test.YtklejiafioalnaaPwT
set_option linter.all false
namespace Go.Proofs.Ytklejiafioalnaa
open Go.PW
theorem mixed : Try.prog.follows .mixedOrders = true := by kernel_rfl
@[go_sem] theorem ty3 : tyOf Try.prog 3 = some (1, 8, [.int .i64 0]) := by kernel_rfl
@[go_sem] theorem ag3 : aggOf Try.prog 3 = some false := by kernel_rfl
@[go_sem] theorem ty4 : tyOf Try.prog 4 = some (1, 1, [.bool false]) := by kernel_rfl
@[go_sem] theorem ag4 : aggOf Try.prog 4 = some false := by kernel_rfl
@[go_sem] theorem ty5 : tyOf Try.prog 5 = some (1, 1, [.int .u8 0]) := by kernel_rfl
@[go_sem] theorem ag5 : aggOf Try.prog 5 = some false := by kernel_rfl
@[go_sem] theorem ty9 : tyOf Try.prog 9 = some (1, 16, [.string ⟨#[]⟩]) := by kernel_rfl
@[go_sem] theorem ag9 : aggOf Try.prog 9 = some false := by kernel_rfl
@[go_sem] theorem se9 : selOf Try.prog 9 = none := by kernel_rfl
@[go_sem] theorem st9 : isStrT Try.prog 9 = true := by kernel_rfl
@[go_sem] theorem se22 : selOf Try.prog 22 = some 42 := by kernel_rfl
@[go_sem] theorem ty25 : tyOf Try.prog 25 = some (1, 24, [.slice none 0 0]) := by kernel_rfl
@[go_sem] theorem ag25 : aggOf Try.prog 25 = some false := by kernel_rfl
@[go_sem] theorem se25 : selOf Try.prog 25 = some 3 := by kernel_rfl
@[go_sem] theorem ty28 : tyOf Try.prog 28 = some (1, 8, [.int .i64 0]) := by kernel_rfl
@[go_sem] theorem ag28 : aggOf Try.prog 28 = some false := by kernel_rfl
@[go_sem] theorem ty42 : tyOf Try.prog 42 = some (2, 16, [.int .i64 0, .int .i64 0]) := by kernel_rfl
@[go_sem] theorem ag42 : aggOf Try.prog 42 = some true := by kernel_rfl
@[go_sem] theorem se42 : selOf Try.prog 42 = none := by kernel_rfl
@[go_sem] theorem ar42 : arrOf Try.prog 42 = some (2, 3) := by kernel_rfl
@[go_sem] theorem pl42 : placesOf Try.prog 42 = none := by kernel_rfl
@[go_sem] theorem eq42 : eqPlanT Try.prog 42 = some [(0, .int), (1, .int)] := by kernel_rfl
@[go_sem] theorem ty49 : tyOf Try.prog 49 = some (1, 24, [.slice none 0 0]) := by kernel_rfl
@[go_sem] theorem ag49 : aggOf Try.prog 49 = some false := by kernel_rfl
@[go_sem] theorem se49 : selOf Try.prog 49 = some 25 := by kernel_rfl
@[go_sem] theorem ty51 : tyOf Try.prog 51 = some (1, 24, [.slice none 0 0]) := by kernel_rfl
@[go_sem] theorem ag51 : aggOf Try.prog 51 = some true := by kernel_rfl
@[go_sem] theorem pl51 : placesOf Try.prog 51 = some [(0, 1)] := by kernel_rfl
@[go_sem] theorem fo51_0 : fldOff Try.prog 51 0 = some (0, 49) := by kernel_rfl
@[go_sem] theorem ty52 : tyOf Try.prog 52 = some (1, 24, [.slice none 0 0]) := by kernel_rfl
@[go_sem] theorem ag52 : aggOf Try.prog 52 = some false := by kernel_rfl
@[go_sem] theorem se52 : selOf Try.prog 52 = some 57 := by kernel_rfl
@[go_sem] theorem ty53 : tyOf Try.prog 53 = some (1, 24, [.slice none 0 0]) := by kernel_rfl
@[go_sem] theorem ag53 : aggOf Try.prog 53 = some false := by kernel_rfl
@[go_sem] theorem se53 : selOf Try.prog 53 = some 124 := by kernel_rfl
@[go_sem] theorem ty55 : tyOf Try.prog 55 = some (6, 96, [.slice none 0 0, .slice none 0 0, .slice none 0 0, .int .i64 0, .int .i64 0, .int .i64 0]) := by kernel_rfl
@[go_sem] theorem ag55 : aggOf Try.prog 55 = some true := by kernel_rfl
@[go_sem] theorem fo55_0 : fldOff Try.prog 55 0 = some (0, 51) := by kernel_rfl
@[go_sem] theorem fo55_1 : fldOff Try.prog 55 1 = some (1, 52) := by kernel_rfl
@[go_sem] theorem fo55_2 : fldOff Try.prog 55 2 = some (2, 53) := by kernel_rfl
@[go_sem] theorem fo55_3 : fldOff Try.prog 55 3 = some (3, 3) := by kernel_rfl
@[go_sem] theorem fo55_4 : fldOff Try.prog 55 4 = some (4, 3) := by kernel_rfl
@[go_sem] theorem fo55_5 : fldOff Try.prog 55 5 = some (5, 3) := by kernel_rfl
@[go_sem] theorem ty57 : tyOf Try.prog 57 = some (7, 64, [.string ⟨#[]⟩, .int .i64 0, .int .i64 0, .int .i64 0, .int .i64 0, .int .i64 0, .int .i64 0]) := by kernel_rfl
@[go_sem] theorem ag57 : aggOf Try.prog 57 = some true := by kernel_rfl
@[go_sem] theorem fo57_0 : fldOff Try.prog 57 0 = some (0, 9) := by kernel_rfl
@[go_sem] theorem fo57_1 : fldOff Try.prog 57 1 = some (1, 3) := by kernel_rfl
@[go_sem] theorem fo57_2 : fldOff Try.prog 57 2 = some (2, 42) := by kernel_rfl
@[go_sem] theorem fo57_3 : fldOff Try.prog 57 3 = some (4, 3) := by kernel_rfl
@[go_sem] theorem fo57_4 : fldOff Try.prog 57 4 = some (5, 3) := by kernel_rfl
@[go_sem] theorem fo57_5 : fldOff Try.prog 57 5 = some (6, 3) := by kernel_rfl
@[go_sem] theorem se58 : selOf Try.prog 58 = none := by kernel_rfl
@[go_sem] theorem ar58 : arrOf Try.prog 58 = some (3, 3) := by kernel_rfl
@[go_sem] theorem se121 : selOf Try.prog 121 = some 9 := by kernel_rfl
@[go_sem] theorem ty124 : tyOf Try.prog 124 = some (2, 16, [.int .i64 0, .int .i64 0]) := by kernel_rfl
@[go_sem] theorem ag124 : aggOf Try.prog 124 = some true := by kernel_rfl
@[go_sem] theorem fo124_0 : fldOff Try.prog 124 0 = some (0, 3) := by kernel_rfl
@[go_sem] theorem fo124_1 : fldOff Try.prog 124 1 = some (1, 3) := by kernel_rfl
@[go_sem] theorem ty130 : tyOf Try.prog 130 = some (2, 16, [.int .i64 0, .bool false]) := by kernel_rfl
@[go_sem] theorem ag130 : aggOf Try.prog 130 = some true := by kernel_rfl
@[go_sem] theorem pl130 : placesOf Try.prog 130 = some [(0, 1), (1, 1)] := by kernel_rfl
@[go_sem] theorem fo130_0 : fldOff Try.prog 130 0 = some (0, 3) := by kernel_rfl
@[go_sem] theorem fo130_1 : fldOff Try.prog 130 1 = some (1, 4) := by kernel_rfl
@[go_sem] theorem ty148 : tyOf Try.prog 148 = some (1, 24, [.slice none 0 0]) := by kernel_rfl
@[go_sem] theorem ag148 : aggOf Try.prog 148 = some false := by kernel_rfl
@[go_sem] theorem se148 : selOf Try.prog 148 = some 130 := by kernel_rfl
@[go_sem] theorem ty149 : tyOf Try.prog 149 = some (1, 24, [.slice none 0 0]) := by kernel_rfl
@[go_sem] theorem ag149 : aggOf Try.prog 149 = some false := by kernel_rfl
@[go_sem] theorem se149 : selOf Try.prog 149 = some 148 := by kernel_rfl
@[go_sem] theorem ty151 : tyOf Try.prog 151 = some (8, 128, [.slice none 0 0, .slice none 0 0, .slice none 0 0, .int .i64 0, .int .i64 0, .int .i64 0, .int .i64 0, .slice none 0 0]) := by kernel_rfl
@[go_sem] theorem pl151 : placesOf Try.prog 151 = some [(0, 6), (6, 1), (7, 1)] := by kernel_rfl
@[go_sem] theorem fo151_0 : fldOff Try.prog 151 0 = some (0, 55) := by kernel_rfl
@[go_sem] theorem fo151_1 : fldOff Try.prog 151 1 = some (6, 3) := by kernel_rfl
@[go_sem] theorem fo151_2 : fldOff Try.prog 151 2 = some (7, 149) := by kernel_rfl
@[go_sem] theorem se153 : selOf Try.prog 153 = some 28 := by kernel_rfl
@[go_sem] theorem se168 : selOf Try.prog 168 = some 5 := by kernel_rfl
end Go.Proofs.Ytklejiafioalnaa
