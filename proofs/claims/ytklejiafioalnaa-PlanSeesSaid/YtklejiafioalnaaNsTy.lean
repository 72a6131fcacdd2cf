import Derived.Test.YtklejiafioalnaaProg
import Derived.Test.YtklejiafioalnaaPwT
set_option linter.all false
namespace Go.Proofs.Ytklejiafioalnaa
open Go.PW
theorem mixed : Try.prog.follows .mixedOrders = true := by kernel_rfl
@[go_sem] theorem ty3 : tyOf Try.prog 3 = some (1, 8, [.int .i64 0]) := by kernel_rfl
@[go_sem] theorem ag3 : aggOf Try.prog 3 = some false := by kernel_rfl
@[go_sem] theorem bo4 : isBoolT Try.prog 4 = true := by kernel_rfl
@[go_sem] theorem ty5 : tyOf Try.prog 5 = some (1, 1, [.int .u8 0]) := by kernel_rfl
@[go_sem] theorem ag5 : aggOf Try.prog 5 = some false := by kernel_rfl
@[go_sem] theorem ty9 : tyOf Try.prog 9 = some (1, 16, [.string ⟨#[]⟩]) := by kernel_rfl
@[go_sem] theorem ag9 : aggOf Try.prog 9 = some false := by kernel_rfl
@[go_sem] theorem se9 : selOf Try.prog 9 = none := by kernel_rfl
@[go_sem] theorem st9 : isStrT Try.prog 9 = true := by kernel_rfl
@[go_sem] theorem ty25 : tyOf Try.prog 25 = some (1, 24, [.slice none 0 0]) := by kernel_rfl
@[go_sem] theorem ag25 : aggOf Try.prog 25 = some false := by kernel_rfl
@[go_sem] theorem se25 : selOf Try.prog 25 = some 3 := by kernel_rfl
@[go_sem] theorem ty28 : tyOf Try.prog 28 = some (1, 8, [.int .i64 0]) := by kernel_rfl
@[go_sem] theorem ag28 : aggOf Try.prog 28 = some false := by kernel_rfl
@[go_sem] theorem ty42 : tyOf Try.prog 42 = some (2, 16, [.int .i64 0, .int .i64 0]) := by kernel_rfl
@[go_sem] theorem ag42 : aggOf Try.prog 42 = some true := by kernel_rfl
@[go_sem] theorem se42 : selOf Try.prog 42 = none := by kernel_rfl
@[go_sem] theorem ar42 : arrOf Try.prog 42 = some (2, 3) := by kernel_rfl
@[go_sem] theorem pl42 : placesOf Try.prog 42 = none := by kernel_rfl
@[go_sem] theorem ty49 : tyOf Try.prog 49 = some (1, 24, [.slice none 0 0]) := by kernel_rfl
@[go_sem] theorem ag49 : aggOf Try.prog 49 = some false := by kernel_rfl
@[go_sem] theorem se49 : selOf Try.prog 49 = some 25 := by kernel_rfl
@[go_sem] theorem ty51 : tyOf Try.prog 51 = some (1, 24, [.slice none 0 0]) := by kernel_rfl
@[go_sem] theorem ag51 : aggOf Try.prog 51 = some true := by kernel_rfl
@[go_sem] theorem pl51 : placesOf Try.prog 51 = some [(0, 1)] := by kernel_rfl
@[go_sem] theorem fo51_0 : fldOff Try.prog 51 0 = some (0, 49) := by kernel_rfl
@[go_sem] theorem ty57 : tyOf Try.prog 57 = some (7, 64, [.string ⟨#[]⟩, .int .i64 0, .int .i64 0, .int .i64 0, .int .i64 0, .int .i64 0, .int .i64 0]) := by kernel_rfl
@[go_sem] theorem ag57 : aggOf Try.prog 57 = some true := by kernel_rfl
@[go_sem] theorem fo57_0 : fldOff Try.prog 57 0 = some (0, 9) := by kernel_rfl
@[go_sem] theorem fo57_1 : fldOff Try.prog 57 1 = some (1, 3) := by kernel_rfl
@[go_sem] theorem fo57_2 : fldOff Try.prog 57 2 = some (2, 42) := by kernel_rfl
@[go_sem] theorem fo57_3 : fldOff Try.prog 57 3 = some (4, 3) := by kernel_rfl
@[go_sem] theorem fo57_4 : fldOff Try.prog 57 4 = some (5, 3) := by kernel_rfl
@[go_sem] theorem fo57_5 : fldOff Try.prog 57 5 = some (6, 3) := by kernel_rfl
@[go_sem] theorem se153 : selOf Try.prog 153 = some 28 := by kernel_rfl
@[go_sem] theorem se168 : selOf Try.prog 168 = some 5 := by kernel_rfl
end Go.Proofs.Ytklejiafioalnaa
