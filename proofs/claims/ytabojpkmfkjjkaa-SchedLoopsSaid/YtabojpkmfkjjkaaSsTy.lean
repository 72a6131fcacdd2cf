import Derived.Test.YtabojpkmfkjjkaaProg
import Derived.Test.YtabojpkmfkjjkaaPwT
set_option linter.all false
namespace Go.Proofs.Ytabojpkmfkjjkaa
open Go.PW
theorem o9 : Try.prog.follows .mixedOrders = true := by kernel_rfl
@[go_sem] theorem ty3 : v6 Try.prog 3 = some (1, 8, [.int .i64 0]) := by kernel_rfl
@[go_sem] theorem ag3 : s8 Try.prog 3 = some false := by kernel_rfl
@[go_sem] theorem ty4 : v6 Try.prog 4 = some (1, 1, [.bool false]) := by kernel_rfl
@[go_sem] theorem ag4 : s8 Try.prog 4 = some false := by kernel_rfl
@[go_sem] theorem ty5 : v6 Try.prog 5 = some (1, 1, [.int .u8 0]) := by kernel_rfl
@[go_sem] theorem ag5 : s8 Try.prog 5 = some false := by kernel_rfl
@[go_sem] theorem ty9 : v6 Try.prog 9 = some (1, 16, [.string ⟨#[]⟩]) := by kernel_rfl
@[go_sem] theorem ag9 : s8 Try.prog 9 = some false := by kernel_rfl
@[go_sem] theorem se9 : s5 Try.prog 9 = none := by kernel_rfl
@[go_sem] theorem st9 : isStrT Try.prog 9 = true := by kernel_rfl
@[go_sem] theorem ty22 : v6 Try.prog 22 = some (1, 24, [.slice none 0 0]) := by kernel_rfl
@[go_sem] theorem ag22 : s8 Try.prog 22 = some false := by kernel_rfl
@[go_sem] theorem se22 : s5 Try.prog 22 = some 3 := by kernel_rfl
@[go_sem] theorem ty24 : v6 Try.prog 24 = some (4, 48, [.int .i64 0, .int .i64 0, .int .i64 0, .slice none 0 0]) := by kernel_rfl
@[go_sem] theorem ag24 : s8 Try.prog 24 = some true := by kernel_rfl
@[go_sem] theorem pl24 : q9 Try.prog 24 = some [(0, 1), (1, 1), (2, 1), (3, 1)] := by kernel_rfl
@[go_sem] theorem fo24_0 : j4 Try.prog 24 0 = some (0, 3) := by kernel_rfl
@[go_sem] theorem fo24_1 : j4 Try.prog 24 1 = some (1, 3) := by kernel_rfl
@[go_sem] theorem fo24_2 : j4 Try.prog 24 2 = some (2, 3) := by kernel_rfl
@[go_sem] theorem fo24_3 : j4 Try.prog 24 3 = some (3, 22) := by kernel_rfl
@[go_sem] theorem ty25 : v6 Try.prog 25 = some (1, 24, [.slice none 0 0]) := by kernel_rfl
@[go_sem] theorem ag25 : s8 Try.prog 25 = some false := by kernel_rfl
@[go_sem] theorem se25 : s5 Try.prog 25 = some 27 := by kernel_rfl
@[go_sem] theorem ty27 : v6 Try.prog 27 = some (9, 80, [.string ⟨#[]⟩, .int .i64 0, .int .i64 0, .int .i64 0, .int .i64 0, .int .i64 0, .int .i64 0, .int .i64 0, .int .i64 0]) := by kernel_rfl
@[go_sem] theorem ag27 : s8 Try.prog 27 = some true := by kernel_rfl
@[go_sem] theorem pl27 : q9 Try.prog 27 = some [(0, 1), (1, 1), (2, 1), (3, 1), (4, 1), (5, 1), (6, 1), (7, 1), (8, 1)] := by kernel_rfl
@[go_sem] theorem fo27_0 : j4 Try.prog 27 0 = some (0, 9) := by kernel_rfl
@[go_sem] theorem fo27_1 : j4 Try.prog 27 1 = some (1, 3) := by kernel_rfl
@[go_sem] theorem fo27_2 : j4 Try.prog 27 2 = some (2, 3) := by kernel_rfl
@[go_sem] theorem fo27_3 : j4 Try.prog 27 3 = some (3, 3) := by kernel_rfl
@[go_sem] theorem fo27_4 : j4 Try.prog 27 4 = some (4, 3) := by kernel_rfl
@[go_sem] theorem fo27_5 : j4 Try.prog 27 5 = some (5, 3) := by kernel_rfl
@[go_sem] theorem fo27_6 : j4 Try.prog 27 6 = some (6, 3) := by kernel_rfl
@[go_sem] theorem fo27_7 : j4 Try.prog 27 7 = some (7, 3) := by kernel_rfl
@[go_sem] theorem fo27_8 : j4 Try.prog 27 8 = some (8, 3) := by kernel_rfl
@[go_sem] theorem eq27 : eqPlanT Try.prog 27 = some [(0, .str), (1, .int), (2, .int), (3, .int), (4, .int), (5, .int), (6, .int), (7, .int), (8, .int)] := by kernel_rfl
@[go_sem] theorem ty30 : v6 Try.prog 30 = some (1, 24, [.slice none 0 0]) := by kernel_rfl
@[go_sem] theorem ag30 : s8 Try.prog 30 = some false := by kernel_rfl
@[go_sem] theorem se30 : s5 Try.prog 30 = some 9 := by kernel_rfl
@[go_sem] theorem ty32 : v6 Try.prog 32 = some (2, 48, [.slice none 0 0, .slice none 0 0]) := by kernel_rfl
@[go_sem] theorem ag32 : s8 Try.prog 32 = some true := by kernel_rfl
@[go_sem] theorem pl32 : q9 Try.prog 32 = some [(0, 1), (1, 1)] := by kernel_rfl
@[go_sem] theorem fo32_0 : j4 Try.prog 32 0 = some (0, 25) := by kernel_rfl
@[go_sem] theorem fo32_1 : j4 Try.prog 32 1 = some (1, 30) := by kernel_rfl
@[go_sem] theorem ty33 : v6 Try.prog 33 = some (1, 8, [.int .i64 0]) := by kernel_rfl
@[go_sem] theorem ag33 : s8 Try.prog 33 = some false := by kernel_rfl
@[go_sem] theorem se47 : s5 Try.prog 47 = some 57 := by kernel_rfl
@[go_sem] theorem ty50 : v6 Try.prog 50 = some (1, 24, [.slice none 0 0]) := by kernel_rfl
@[go_sem] theorem ag50 : s8 Try.prog 50 = some false := by kernel_rfl
@[go_sem] theorem se50 : s5 Try.prog 50 = some 22 := by kernel_rfl
@[go_sem] theorem ty52 : v6 Try.prog 52 = some (3, 72, [.slice none 0 0, .slice none 0 0, .slice none 0 0]) := by kernel_rfl
@[go_sem] theorem ag52 : s8 Try.prog 52 = some true := by kernel_rfl
@[go_sem] theorem pl52 : q9 Try.prog 52 = some [(0, 1), (1, 1), (2, 1)] := by kernel_rfl
@[go_sem] theorem fo52_0 : j4 Try.prog 52 0 = some (0, 50) := by kernel_rfl
@[go_sem] theorem fo52_1 : j4 Try.prog 52 1 = some (1, 22) := by kernel_rfl
@[go_sem] theorem fo52_2 : j4 Try.prog 52 2 = some (2, 22) := by kernel_rfl
@[go_sem] theorem ty57 : v6 Try.prog 57 = some (2, 48, [.slice none 0 0, .slice none 0 0]) := by kernel_rfl
@[go_sem] theorem ag57 : s8 Try.prog 57 = some true := by kernel_rfl
@[go_sem] theorem pl57 : q9 Try.prog 57 = some [(0, 1), (1, 1)] := by kernel_rfl
@[go_sem] theorem fo57_0 : j4 Try.prog 57 0 = some (0, 22) := by kernel_rfl
@[go_sem] theorem fo57_1 : j4 Try.prog 57 1 = some (1, 22) := by kernel_rfl
@[go_sem] theorem ty62 : v6 Try.prog 62 = some (3, 24, [.int .i64 0, .int .i64 0, .int .i64 0]) := by kernel_rfl
@[go_sem] theorem ag62 : s8 Try.prog 62 = some true := by kernel_rfl
@[go_sem] theorem pl62 : q9 Try.prog 62 = some [(0, 1), (1, 1), (2, 1)] := by kernel_rfl
@[go_sem] theorem fo62_0 : j4 Try.prog 62 0 = some (0, 3) := by kernel_rfl
@[go_sem] theorem fo62_1 : j4 Try.prog 62 1 = some (1, 3) := by kernel_rfl
@[go_sem] theorem fo62_2 : j4 Try.prog 62 2 = some (2, 3) := by kernel_rfl
@[go_sem] theorem eq62 : eqPlanT Try.prog 62 = some [(0, .int), (1, .int), (2, .int)] := by kernel_rfl
@[go_sem] theorem ty94 : v6 Try.prog 94 = some (2, 16, [.int .i64 0, .int .i64 0]) := by kernel_rfl
@[go_sem] theorem ag94 : s8 Try.prog 94 = some true := by kernel_rfl
@[go_sem] theorem fo94_0 : j4 Try.prog 94 0 = some (0, 3) := by kernel_rfl
@[go_sem] theorem fo94_1 : j4 Try.prog 94 1 = some (1, 3) := by kernel_rfl
@[go_sem] theorem eq94 : eqPlanT Try.prog 94 = some [(0, .int), (1, .int)] := by kernel_rfl
@[go_sem] theorem ty96 : v6 Try.prog 96 = some (5, 40, [.int .i64 0, .int .i64 0, .int .i64 0, .int .i64 0, .int .i64 0]) := by kernel_rfl
@[go_sem] theorem ag96 : s8 Try.prog 96 = some true := by kernel_rfl
@[go_sem] theorem pl96 : q9 Try.prog 96 = some [(0, 1), (1, 1), (2, 1), (3, 2)] := by kernel_rfl
@[go_sem] theorem fo96_0 : j4 Try.prog 96 0 = some (0, 3) := by kernel_rfl
@[go_sem] theorem fo96_1 : j4 Try.prog 96 1 = some (1, 3) := by kernel_rfl
@[go_sem] theorem fo96_2 : j4 Try.prog 96 2 = some (2, 3) := by kernel_rfl
@[go_sem] theorem fo96_3 : j4 Try.prog 96 3 = some (3, 94) := by kernel_rfl
@[go_sem] theorem eq96 : eqPlanT Try.prog 96 = some [(0, .int), (1, .int), (2, .int), (3, .int), (4, .int)] := by kernel_rfl
@[go_sem] theorem se97 : s5 Try.prog 97 = some 4 := by kernel_rfl
@[go_sem] theorem ty121 : v6 Try.prog 121 = some (3, 56, [.int .i64 0, .slice none 0 0, .slice none 0 0]) := by kernel_rfl
@[go_sem] theorem ag121 : s8 Try.prog 121 = some true := by kernel_rfl
@[go_sem] theorem pl121 : q9 Try.prog 121 = some [(0, 1), (1, 1), (2, 1)] := by kernel_rfl
@[go_sem] theorem fo121_0 : j4 Try.prog 121 0 = some (0, 3) := by kernel_rfl
@[go_sem] theorem fo121_1 : j4 Try.prog 121 1 = some (1, 22) := by kernel_rfl
@[go_sem] theorem fo121_2 : j4 Try.prog 121 2 = some (2, 22) := by kernel_rfl
@[go_sem] theorem ty125 : v6 Try.prog 125 = some (2, 32, [.int .i64 0, .slice none 0 0]) := by kernel_rfl
@[go_sem] theorem ag125 : s8 Try.prog 125 = some true := by kernel_rfl
@[go_sem] theorem pl125 : q9 Try.prog 125 = some [(0, 1), (1, 1)] := by kernel_rfl
@[go_sem] theorem fo125_0 : j4 Try.prog 125 0 = some (0, 3) := by kernel_rfl
@[go_sem] theorem fo125_1 : j4 Try.prog 125 1 = some (1, 22) := by kernel_rfl
@[go_sem] theorem ty141 : v6 Try.prog 141 = some (4, 48, [.int .i64 0, .int .i64 0, .int .i64 0, .slice none 0 0]) := by kernel_rfl
@[go_sem] theorem ag141 : s8 Try.prog 141 = some true := by kernel_rfl
@[go_sem] theorem pl141 : q9 Try.prog 141 = some [(0, 4)] := by kernel_rfl
@[go_sem] theorem fo141_0 : j4 Try.prog 141 0 = some (0, 24) := by kernel_rfl
@[go_sem] theorem ty161 : v6 Try.prog 161 = some (1, 24, [.slice none 0 0]) := by kernel_rfl
@[go_sem] theorem ag161 : s8 Try.prog 161 = some false := by kernel_rfl
@[go_sem] theorem se161 : s5 Try.prog 161 = some 164 := by kernel_rfl
@[go_sem] theorem ty163 : v6 Try.prog 163 = some (5, 72, [.int .i64 0, .int .i64 0, .int .i64 0, .slice none 0 0, .slice none 0 0]) := by kernel_rfl
@[go_sem] theorem pl163 : q9 Try.prog 163 = some [(0, 4), (4, 1)] := by kernel_rfl
@[go_sem] theorem fo163_0 : j4 Try.prog 163 0 = some (0, 141) := by kernel_rfl
@[go_sem] theorem fo163_1 : j4 Try.prog 163 1 = some (4, 161) := by kernel_rfl
@[go_sem] theorem ty164 : v6 Try.prog 164 = some (1, 8, [.pointer none]) := by kernel_rfl
@[go_sem] theorem ag164 : s8 Try.prog 164 = some false := by kernel_rfl
@[go_sem] theorem ip164 : isPtrT Try.prog 164 = true := by kernel_rfl
@[go_sem] theorem ty166 : v6 Try.prog 166 = some (14, 120, [.string ⟨#[]⟩, .int .i64 0, .int .i64 0, .int .i64 0, .int .i64 0, .int .i64 0, .int .i64 0, .int .i64 0, .int .i64 0, .int .i64 0, .int .i64 0, .int .i64 0, .int .i64 0, .int .i64 0]) := by kernel_rfl
@[go_sem] theorem pl166 : q9 Try.prog 166 = some [(0, 9), (9, 1), (10, 1), (11, 1), (12, 1), (13, 1)] := by kernel_rfl
@[go_sem] theorem fo166_0 : j4 Try.prog 166 0 = some (0, 27) := by kernel_rfl
@[go_sem] theorem fo166_1 : j4 Try.prog 166 1 = some (9, 3) := by kernel_rfl
@[go_sem] theorem fo166_2 : j4 Try.prog 166 2 = some (10, 3) := by kernel_rfl
@[go_sem] theorem fo166_3 : j4 Try.prog 166 3 = some (11, 3) := by kernel_rfl
@[go_sem] theorem fo166_4 : j4 Try.prog 166 4 = some (12, 3) := by kernel_rfl
@[go_sem] theorem fo166_5 : j4 Try.prog 166 5 = some (13, 3) := by kernel_rfl
@[go_sem] theorem se193 : s5 Try.prog 193 = some 33 := by kernel_rfl
@[go_sem] theorem se208 : s5 Try.prog 208 = some 5 := by kernel_rfl
end Go.Proofs.Ytabojpkmfkjjkaa
