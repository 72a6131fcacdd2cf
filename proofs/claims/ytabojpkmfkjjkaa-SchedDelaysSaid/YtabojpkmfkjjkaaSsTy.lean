import Derived.Test.YtabojpkmfkjjkaaProg
import Derived.Test.YtabojpkmfkjjkaaPwT
set_option linter.all false
namespace Go.Proofs.Ytabojpkmfkjjkaa
open Go.PW
theorem mixed : Try.prog.follows .mixedOrders = true := by kernel_rfl
@[go_sem] theorem ty3 : tyOf Try.prog 3 = some (1, 8, [.int .i64 0]) := by kernel_rfl
@[go_sem] theorem ag3 : aggOf Try.prog 3 = some false := by kernel_rfl
@[go_sem] theorem se3 : selOf Try.prog 3 = none := by kernel_rfl
@[go_sem] theorem ki3 : kindOf Try.prog 3 = some .i64 := by kernel_rfl
@[go_sem] theorem pl3 : placesOf Try.prog 3 = none := by kernel_rfl
@[go_sem] theorem ty4 : tyOf Try.prog 4 = some (1, 1, [.bool false]) := by kernel_rfl
@[go_sem] theorem ag4 : aggOf Try.prog 4 = some false := by kernel_rfl
@[go_sem] theorem se4 : selOf Try.prog 4 = none := by kernel_rfl
@[go_sem] theorem bo4 : isBoolT Try.prog 4 = true := by kernel_rfl
@[go_sem] theorem pl4 : placesOf Try.prog 4 = none := by kernel_rfl
@[go_sem] theorem ty5 : tyOf Try.prog 5 = some (1, 1, [.int .u8 0]) := by kernel_rfl
@[go_sem] theorem ag5 : aggOf Try.prog 5 = some false := by kernel_rfl
@[go_sem] theorem se5 : selOf Try.prog 5 = none := by kernel_rfl
@[go_sem] theorem ki5 : kindOf Try.prog 5 = some .u8 := by kernel_rfl
@[go_sem] theorem pl5 : placesOf Try.prog 5 = none := by kernel_rfl
@[go_sem] theorem ty9 : tyOf Try.prog 9 = some (1, 16, [.string ⟨#[]⟩]) := by kernel_rfl
@[go_sem] theorem ag9 : aggOf Try.prog 9 = some false := by kernel_rfl
@[go_sem] theorem se9 : selOf Try.prog 9 = none := by kernel_rfl
@[go_sem] theorem st9 : isStrT Try.prog 9 = true := by kernel_rfl
@[go_sem] theorem pl9 : placesOf Try.prog 9 = none := by kernel_rfl
@[go_sem] theorem ty22 : tyOf Try.prog 22 = some (1, 24, [.slice none 0 0]) := by kernel_rfl
@[go_sem] theorem ag22 : aggOf Try.prog 22 = some false := by kernel_rfl
@[go_sem] theorem se22 : selOf Try.prog 22 = some 3 := by kernel_rfl
@[go_sem] theorem pl22 : placesOf Try.prog 22 = none := by kernel_rfl
@[go_sem] theorem ty24 : tyOf Try.prog 24 = some (4, 48, [.int .i64 0, .int .i64 0, .int .i64 0, .slice none 0 0]) := by kernel_rfl
@[go_sem] theorem ag24 : aggOf Try.prog 24 = some true := by kernel_rfl
@[go_sem] theorem se24 : selOf Try.prog 24 = none := by kernel_rfl
@[go_sem] theorem pl24 : placesOf Try.prog 24 = some [(0, 1), (1, 1), (2, 1), (3, 1)] := by kernel_rfl
@[go_sem] theorem fo24_0 : fldOff Try.prog 24 0 = some (0, 3) := by kernel_rfl
@[go_sem] theorem fo24_1 : fldOff Try.prog 24 1 = some (1, 3) := by kernel_rfl
@[go_sem] theorem fo24_2 : fldOff Try.prog 24 2 = some (2, 3) := by kernel_rfl
@[go_sem] theorem fo24_3 : fldOff Try.prog 24 3 = some (3, 22) := by kernel_rfl
@[go_sem] theorem ty25 : tyOf Try.prog 25 = some (1, 24, [.slice none 0 0]) := by kernel_rfl
@[go_sem] theorem ag25 : aggOf Try.prog 25 = some false := by kernel_rfl
@[go_sem] theorem se25 : selOf Try.prog 25 = some 27 := by kernel_rfl
@[go_sem] theorem pl25 : placesOf Try.prog 25 = none := by kernel_rfl
@[go_sem] theorem ty27 : tyOf Try.prog 27 = some (9, 80, [.string ⟨#[]⟩, .int .i64 0, .int .i64 0, .int .i64 0, .int .i64 0, .int .i64 0, .int .i64 0, .int .i64 0, .int .i64 0]) := by kernel_rfl
@[go_sem] theorem ag27 : aggOf Try.prog 27 = some true := by kernel_rfl
@[go_sem] theorem se27 : selOf Try.prog 27 = none := by kernel_rfl
@[go_sem] theorem pl27 : placesOf Try.prog 27 = some [(0, 1), (1, 1), (2, 1), (3, 1), (4, 1), (5, 1), (6, 1), (7, 1), (8, 1)] := by kernel_rfl
@[go_sem] theorem fo27_0 : fldOff Try.prog 27 0 = some (0, 9) := by kernel_rfl
@[go_sem] theorem fo27_1 : fldOff Try.prog 27 1 = some (1, 3) := by kernel_rfl
@[go_sem] theorem fo27_2 : fldOff Try.prog 27 2 = some (2, 3) := by kernel_rfl
@[go_sem] theorem fo27_3 : fldOff Try.prog 27 3 = some (3, 3) := by kernel_rfl
@[go_sem] theorem fo27_4 : fldOff Try.prog 27 4 = some (4, 3) := by kernel_rfl
@[go_sem] theorem fo27_5 : fldOff Try.prog 27 5 = some (5, 3) := by kernel_rfl
@[go_sem] theorem fo27_6 : fldOff Try.prog 27 6 = some (6, 3) := by kernel_rfl
@[go_sem] theorem fo27_7 : fldOff Try.prog 27 7 = some (7, 3) := by kernel_rfl
@[go_sem] theorem fo27_8 : fldOff Try.prog 27 8 = some (8, 3) := by kernel_rfl
@[go_sem] theorem eq27 : eqPlanT Try.prog 27 = some [(0, .str), (1, .int), (2, .int), (3, .int), (4, .int), (5, .int), (6, .int), (7, .int), (8, .int)] := by kernel_rfl
@[go_sem] theorem ty30 : tyOf Try.prog 30 = some (1, 24, [.slice none 0 0]) := by kernel_rfl
@[go_sem] theorem ag30 : aggOf Try.prog 30 = some false := by kernel_rfl
@[go_sem] theorem se30 : selOf Try.prog 30 = some 9 := by kernel_rfl
@[go_sem] theorem pl30 : placesOf Try.prog 30 = none := by kernel_rfl
@[go_sem] theorem ty32 : tyOf Try.prog 32 = some (2, 48, [.slice none 0 0, .slice none 0 0]) := by kernel_rfl
@[go_sem] theorem ag32 : aggOf Try.prog 32 = some true := by kernel_rfl
@[go_sem] theorem se32 : selOf Try.prog 32 = none := by kernel_rfl
@[go_sem] theorem pl32 : placesOf Try.prog 32 = some [(0, 1), (1, 1)] := by kernel_rfl
@[go_sem] theorem fo32_0 : fldOff Try.prog 32 0 = some (0, 25) := by kernel_rfl
@[go_sem] theorem fo32_1 : fldOff Try.prog 32 1 = some (1, 30) := by kernel_rfl
@[go_sem] theorem ty33 : tyOf Try.prog 33 = some (1, 8, [.int .i64 0]) := by kernel_rfl
@[go_sem] theorem ag33 : aggOf Try.prog 33 = some false := by kernel_rfl
@[go_sem] theorem se33 : selOf Try.prog 33 = none := by kernel_rfl
@[go_sem] theorem ki33 : kindOf Try.prog 33 = some .i64 := by kernel_rfl
@[go_sem] theorem pl33 : placesOf Try.prog 33 = none := by kernel_rfl
@[go_sem] theorem ty47 : tyOf Try.prog 47 = some (1, 24, [.slice none 0 0]) := by kernel_rfl
@[go_sem] theorem ag47 : aggOf Try.prog 47 = some false := by kernel_rfl
@[go_sem] theorem se47 : selOf Try.prog 47 = some 57 := by kernel_rfl
@[go_sem] theorem pl47 : placesOf Try.prog 47 = none := by kernel_rfl
@[go_sem] theorem ty50 : tyOf Try.prog 50 = some (1, 24, [.slice none 0 0]) := by kernel_rfl
@[go_sem] theorem ag50 : aggOf Try.prog 50 = some false := by kernel_rfl
@[go_sem] theorem se50 : selOf Try.prog 50 = some 22 := by kernel_rfl
@[go_sem] theorem pl50 : placesOf Try.prog 50 = none := by kernel_rfl
@[go_sem] theorem ty52 : tyOf Try.prog 52 = some (3, 72, [.slice none 0 0, .slice none 0 0, .slice none 0 0]) := by kernel_rfl
@[go_sem] theorem ag52 : aggOf Try.prog 52 = some true := by kernel_rfl
@[go_sem] theorem se52 : selOf Try.prog 52 = none := by kernel_rfl
@[go_sem] theorem pl52 : placesOf Try.prog 52 = some [(0, 1), (1, 1), (2, 1)] := by kernel_rfl
@[go_sem] theorem fo52_0 : fldOff Try.prog 52 0 = some (0, 50) := by kernel_rfl
@[go_sem] theorem fo52_1 : fldOff Try.prog 52 1 = some (1, 22) := by kernel_rfl
@[go_sem] theorem fo52_2 : fldOff Try.prog 52 2 = some (2, 22) := by kernel_rfl
@[go_sem] theorem ty57 : tyOf Try.prog 57 = some (2, 48, [.slice none 0 0, .slice none 0 0]) := by kernel_rfl
@[go_sem] theorem ag57 : aggOf Try.prog 57 = some true := by kernel_rfl
@[go_sem] theorem se57 : selOf Try.prog 57 = none := by kernel_rfl
@[go_sem] theorem pl57 : placesOf Try.prog 57 = some [(0, 1), (1, 1)] := by kernel_rfl
@[go_sem] theorem fo57_0 : fldOff Try.prog 57 0 = some (0, 22) := by kernel_rfl
@[go_sem] theorem fo57_1 : fldOff Try.prog 57 1 = some (1, 22) := by kernel_rfl
@[go_sem] theorem ty62 : tyOf Try.prog 62 = some (3, 24, [.int .i64 0, .int .i64 0, .int .i64 0]) := by kernel_rfl
@[go_sem] theorem ag62 : aggOf Try.prog 62 = some true := by kernel_rfl
@[go_sem] theorem se62 : selOf Try.prog 62 = none := by kernel_rfl
@[go_sem] theorem pl62 : placesOf Try.prog 62 = some [(0, 1), (1, 1), (2, 1)] := by kernel_rfl
@[go_sem] theorem fo62_0 : fldOff Try.prog 62 0 = some (0, 3) := by kernel_rfl
@[go_sem] theorem fo62_1 : fldOff Try.prog 62 1 = some (1, 3) := by kernel_rfl
@[go_sem] theorem fo62_2 : fldOff Try.prog 62 2 = some (2, 3) := by kernel_rfl
@[go_sem] theorem eq62 : eqPlanT Try.prog 62 = some [(0, .int), (1, .int), (2, .int)] := by kernel_rfl
@[go_sem] theorem ty86 : tyOf Try.prog 86 = some (2, 16, [.int .i64 0, .int .i64 0]) := by kernel_rfl
@[go_sem] theorem ag86 : aggOf Try.prog 86 = some true := by kernel_rfl
@[go_sem] theorem se86 : selOf Try.prog 86 = none := by kernel_rfl
@[go_sem] theorem ar86 : arrOf Try.prog 86 = some (2, 3) := by kernel_rfl
@[go_sem] theorem pl86 : placesOf Try.prog 86 = none := by kernel_rfl
@[go_sem] theorem eq86 : eqPlanT Try.prog 86 = some [(0, .int), (1, .int)] := by kernel_rfl
@[go_sem] theorem ty94 : tyOf Try.prog 94 = some (2, 16, [.int .i64 0, .int .i64 0]) := by kernel_rfl
@[go_sem] theorem ag94 : aggOf Try.prog 94 = some true := by kernel_rfl
@[go_sem] theorem se94 : selOf Try.prog 94 = none := by kernel_rfl
@[go_sem] theorem pl94 : placesOf Try.prog 94 = some [(0, 1), (1, 1)] := by kernel_rfl
@[go_sem] theorem fo94_0 : fldOff Try.prog 94 0 = some (0, 3) := by kernel_rfl
@[go_sem] theorem fo94_1 : fldOff Try.prog 94 1 = some (1, 3) := by kernel_rfl
@[go_sem] theorem eq94 : eqPlanT Try.prog 94 = some [(0, .int), (1, .int)] := by kernel_rfl
@[go_sem] theorem ty96 : tyOf Try.prog 96 = some (5, 40, [.int .i64 0, .int .i64 0, .int .i64 0, .int .i64 0, .int .i64 0]) := by kernel_rfl
@[go_sem] theorem ag96 : aggOf Try.prog 96 = some true := by kernel_rfl
@[go_sem] theorem se96 : selOf Try.prog 96 = none := by kernel_rfl
@[go_sem] theorem pl96 : placesOf Try.prog 96 = some [(0, 1), (1, 1), (2, 1), (3, 2)] := by kernel_rfl
@[go_sem] theorem fo96_0 : fldOff Try.prog 96 0 = some (0, 3) := by kernel_rfl
@[go_sem] theorem fo96_1 : fldOff Try.prog 96 1 = some (1, 3) := by kernel_rfl
@[go_sem] theorem fo96_2 : fldOff Try.prog 96 2 = some (2, 3) := by kernel_rfl
@[go_sem] theorem fo96_3 : fldOff Try.prog 96 3 = some (3, 94) := by kernel_rfl
@[go_sem] theorem eq96 : eqPlanT Try.prog 96 = some [(0, .int), (1, .int), (2, .int), (3, .int), (4, .int)] := by kernel_rfl
@[go_sem] theorem ty97 : tyOf Try.prog 97 = some (1, 24, [.slice none 0 0]) := by kernel_rfl
@[go_sem] theorem ag97 : aggOf Try.prog 97 = some false := by kernel_rfl
@[go_sem] theorem se97 : selOf Try.prog 97 = some 4 := by kernel_rfl
@[go_sem] theorem pl97 : placesOf Try.prog 97 = none := by kernel_rfl
@[go_sem] theorem ty112 : tyOf Try.prog 112 = some (2, 32, [.int .i64 0, .slice none 0 0]) := by kernel_rfl
@[go_sem] theorem ag112 : aggOf Try.prog 112 = some true := by kernel_rfl
@[go_sem] theorem se112 : selOf Try.prog 112 = none := by kernel_rfl
@[go_sem] theorem pl112 : placesOf Try.prog 112 = some [(0, 1), (1, 1)] := by kernel_rfl
@[go_sem] theorem fo112_0 : fldOff Try.prog 112 0 = some (0, 3) := by kernel_rfl
@[go_sem] theorem fo112_1 : fldOff Try.prog 112 1 = some (1, 97) := by kernel_rfl
@[go_sem] theorem ty121 : tyOf Try.prog 121 = some (3, 56, [.int .i64 0, .slice none 0 0, .slice none 0 0]) := by kernel_rfl
@[go_sem] theorem ag121 : aggOf Try.prog 121 = some true := by kernel_rfl
@[go_sem] theorem se121 : selOf Try.prog 121 = none := by kernel_rfl
@[go_sem] theorem pl121 : placesOf Try.prog 121 = some [(0, 1), (1, 1), (2, 1)] := by kernel_rfl
@[go_sem] theorem fo121_0 : fldOff Try.prog 121 0 = some (0, 3) := by kernel_rfl
@[go_sem] theorem fo121_1 : fldOff Try.prog 121 1 = some (1, 22) := by kernel_rfl
@[go_sem] theorem fo121_2 : fldOff Try.prog 121 2 = some (2, 22) := by kernel_rfl
@[go_sem] theorem ty122 : tyOf Try.prog 122 = some (3, 24, [.int .i64 0, .int .i64 0, .int .i64 0]) := by kernel_rfl
@[go_sem] theorem ag122 : aggOf Try.prog 122 = some true := by kernel_rfl
@[go_sem] theorem se122 : selOf Try.prog 122 = none := by kernel_rfl
@[go_sem] theorem ar122 : arrOf Try.prog 122 = some (3, 3) := by kernel_rfl
@[go_sem] theorem pl122 : placesOf Try.prog 122 = none := by kernel_rfl
@[go_sem] theorem eq122 : eqPlanT Try.prog 122 = some [(0, .int), (1, .int), (2, .int)] := by kernel_rfl
@[go_sem] theorem ty125 : tyOf Try.prog 125 = some (2, 32, [.int .i64 0, .slice none 0 0]) := by kernel_rfl
@[go_sem] theorem ag125 : aggOf Try.prog 125 = some true := by kernel_rfl
@[go_sem] theorem se125 : selOf Try.prog 125 = none := by kernel_rfl
@[go_sem] theorem pl125 : placesOf Try.prog 125 = some [(0, 1), (1, 1)] := by kernel_rfl
@[go_sem] theorem fo125_0 : fldOff Try.prog 125 0 = some (0, 3) := by kernel_rfl
@[go_sem] theorem fo125_1 : fldOff Try.prog 125 1 = some (1, 22) := by kernel_rfl
@[go_sem] theorem ty141 : tyOf Try.prog 141 = some (4, 48, [.int .i64 0, .int .i64 0, .int .i64 0, .slice none 0 0]) := by kernel_rfl
@[go_sem] theorem ag141 : aggOf Try.prog 141 = some true := by kernel_rfl
@[go_sem] theorem se141 : selOf Try.prog 141 = none := by kernel_rfl
@[go_sem] theorem pl141 : placesOf Try.prog 141 = some [(0, 4)] := by kernel_rfl
@[go_sem] theorem fo141_0 : fldOff Try.prog 141 0 = some (0, 24) := by kernel_rfl
@[go_sem] theorem ty157 : tyOf Try.prog 157 = some (1, 8, [.pointer none]) := by kernel_rfl
@[go_sem] theorem ag157 : aggOf Try.prog 157 = some false := by kernel_rfl
@[go_sem] theorem se157 : selOf Try.prog 157 = none := by kernel_rfl
@[go_sem] theorem pl157 : placesOf Try.prog 157 = none := by kernel_rfl
@[go_sem] theorem ip157 : isPtrT Try.prog 157 = true := by kernel_rfl
@[go_sem] theorem ty161 : tyOf Try.prog 161 = some (1, 24, [.slice none 0 0]) := by kernel_rfl
@[go_sem] theorem ag161 : aggOf Try.prog 161 = some false := by kernel_rfl
@[go_sem] theorem se161 : selOf Try.prog 161 = some 164 := by kernel_rfl
@[go_sem] theorem pl161 : placesOf Try.prog 161 = none := by kernel_rfl
@[go_sem] theorem ty163 : tyOf Try.prog 163 = some (5, 72, [.int .i64 0, .int .i64 0, .int .i64 0, .slice none 0 0, .slice none 0 0]) := by kernel_rfl
@[go_sem] theorem ag163 : aggOf Try.prog 163 = some true := by kernel_rfl
@[go_sem] theorem se163 : selOf Try.prog 163 = none := by kernel_rfl
@[go_sem] theorem pl163 : placesOf Try.prog 163 = some [(0, 4), (4, 1)] := by kernel_rfl
@[go_sem] theorem fo163_0 : fldOff Try.prog 163 0 = some (0, 141) := by kernel_rfl
@[go_sem] theorem fo163_1 : fldOff Try.prog 163 1 = some (4, 161) := by kernel_rfl
@[go_sem] theorem ty164 : tyOf Try.prog 164 = some (1, 8, [.pointer none]) := by kernel_rfl
@[go_sem] theorem ag164 : aggOf Try.prog 164 = some false := by kernel_rfl
@[go_sem] theorem se164 : selOf Try.prog 164 = none := by kernel_rfl
@[go_sem] theorem pl164 : placesOf Try.prog 164 = none := by kernel_rfl
@[go_sem] theorem ip164 : isPtrT Try.prog 164 = true := by kernel_rfl
@[go_sem] theorem ty166 : tyOf Try.prog 166 = some (14, 120, [.string ⟨#[]⟩, .int .i64 0, .int .i64 0, .int .i64 0, .int .i64 0, .int .i64 0, .int .i64 0, .int .i64 0, .int .i64 0, .int .i64 0, .int .i64 0, .int .i64 0, .int .i64 0, .int .i64 0]) := by kernel_rfl
@[go_sem] theorem ag166 : aggOf Try.prog 166 = some true := by kernel_rfl
@[go_sem] theorem se166 : selOf Try.prog 166 = none := by kernel_rfl
@[go_sem] theorem pl166 : placesOf Try.prog 166 = some [(0, 9), (9, 1), (10, 1), (11, 1), (12, 1), (13, 1)] := by kernel_rfl
@[go_sem] theorem fo166_0 : fldOff Try.prog 166 0 = some (0, 27) := by kernel_rfl
@[go_sem] theorem fo166_1 : fldOff Try.prog 166 1 = some (9, 3) := by kernel_rfl
@[go_sem] theorem fo166_2 : fldOff Try.prog 166 2 = some (10, 3) := by kernel_rfl
@[go_sem] theorem fo166_3 : fldOff Try.prog 166 3 = some (11, 3) := by kernel_rfl
@[go_sem] theorem fo166_4 : fldOff Try.prog 166 4 = some (12, 3) := by kernel_rfl
@[go_sem] theorem fo166_5 : fldOff Try.prog 166 5 = some (13, 3) := by kernel_rfl
@[go_sem] theorem eq166 : eqPlanT Try.prog 166 = some [(0, .str), (1, .int), (2, .int), (3, .int), (4, .int), (5, .int), (6, .int), (7, .int), (8, .int), (9, .int), (10, .int), (11, .int), (12, .int), (13, .int)] := by kernel_rfl
@[go_sem] theorem ty170 : tyOf Try.prog 170 = some (1, 8, [.nilFunc]) := by kernel_rfl
@[go_sem] theorem ag170 : aggOf Try.prog 170 = some false := by kernel_rfl
@[go_sem] theorem se170 : selOf Try.prog 170 = none := by kernel_rfl
@[go_sem] theorem pl170 : placesOf Try.prog 170 = none := by kernel_rfl
@[go_sem] theorem ty175 : tyOf Try.prog 175 = some (1, 8, [.nilFunc]) := by kernel_rfl
@[go_sem] theorem ag175 : aggOf Try.prog 175 = some false := by kernel_rfl
@[go_sem] theorem se175 : selOf Try.prog 175 = none := by kernel_rfl
@[go_sem] theorem pl175 : placesOf Try.prog 175 = none := by kernel_rfl
@[go_sem] theorem ty179 : tyOf Try.prog 179 = some (3, 72, [.slice none 0 0, .slice none 0 0, .slice none 0 0]) := by kernel_rfl
@[go_sem] theorem ag179 : aggOf Try.prog 179 = some true := by kernel_rfl
@[go_sem] theorem se179 : selOf Try.prog 179 = none := by kernel_rfl
@[go_sem] theorem pl179 : placesOf Try.prog 179 = some [(0, 1), (1, 1), (2, 1)] := by kernel_rfl
@[go_sem] theorem fo179_0 : fldOff Try.prog 179 0 = some (0, 22) := by kernel_rfl
@[go_sem] theorem fo179_1 : fldOff Try.prog 179 1 = some (1, 22) := by kernel_rfl
@[go_sem] theorem fo179_2 : fldOff Try.prog 179 2 = some (2, 22) := by kernel_rfl
@[go_sem] theorem ty187 : tyOf Try.prog 187 = some (1, 24, [.slice none 0 0]) := by kernel_rfl
@[go_sem] theorem ag187 : aggOf Try.prog 187 = some false := by kernel_rfl
@[go_sem] theorem se187 : selOf Try.prog 187 = some 189 := by kernel_rfl
@[go_sem] theorem pl187 : placesOf Try.prog 187 = none := by kernel_rfl
@[go_sem] theorem ty189 : tyOf Try.prog 189 = some (2, 16, [.int .i64 0, .int .i64 0]) := by kernel_rfl
@[go_sem] theorem ag189 : aggOf Try.prog 189 = some true := by kernel_rfl
@[go_sem] theorem se189 : selOf Try.prog 189 = none := by kernel_rfl
@[go_sem] theorem pl189 : placesOf Try.prog 189 = some [(0, 1), (1, 1)] := by kernel_rfl
@[go_sem] theorem fo189_0 : fldOff Try.prog 189 0 = some (0, 3) := by kernel_rfl
@[go_sem] theorem fo189_1 : fldOff Try.prog 189 1 = some (1, 3) := by kernel_rfl
@[go_sem] theorem eq189 : eqPlanT Try.prog 189 = some [(0, .int), (1, .int)] := by kernel_rfl
@[go_sem] theorem ty191 : tyOf Try.prog 191 = some (1, 8, [.nilFunc]) := by kernel_rfl
@[go_sem] theorem ag191 : aggOf Try.prog 191 = some false := by kernel_rfl
@[go_sem] theorem se191 : selOf Try.prog 191 = none := by kernel_rfl
@[go_sem] theorem pl191 : placesOf Try.prog 191 = none := by kernel_rfl
@[go_sem] theorem ty193 : tyOf Try.prog 193 = some (1, 24, [.slice none 0 0]) := by kernel_rfl
@[go_sem] theorem ag193 : aggOf Try.prog 193 = some false := by kernel_rfl
@[go_sem] theorem se193 : selOf Try.prog 193 = some 33 := by kernel_rfl
@[go_sem] theorem pl193 : placesOf Try.prog 193 = none := by kernel_rfl
@[go_sem] theorem ty202 : tyOf Try.prog 202 = some (1, 24, [.slice none 0 0]) := by kernel_rfl
@[go_sem] theorem ag202 : aggOf Try.prog 202 = some false := by kernel_rfl
@[go_sem] theorem se202 : selOf Try.prog 202 = some 125 := by kernel_rfl
@[go_sem] theorem pl202 : placesOf Try.prog 202 = none := by kernel_rfl
@[go_sem] theorem ty204 : tyOf Try.prog 204 = some (1, 8, [.int .u64 0]) := by kernel_rfl
@[go_sem] theorem ag204 : aggOf Try.prog 204 = some false := by kernel_rfl
@[go_sem] theorem se204 : selOf Try.prog 204 = none := by kernel_rfl
@[go_sem] theorem ki204 : kindOf Try.prog 204 = some .u64 := by kernel_rfl
@[go_sem] theorem pl204 : placesOf Try.prog 204 = none := by kernel_rfl
@[go_sem] theorem ty208 : tyOf Try.prog 208 = some (1, 24, [.slice none 0 0]) := by kernel_rfl
@[go_sem] theorem ag208 : aggOf Try.prog 208 = some false := by kernel_rfl
@[go_sem] theorem se208 : selOf Try.prog 208 = some 5 := by kernel_rfl
@[go_sem] theorem pl208 : placesOf Try.prog 208 = none := by kernel_rfl
@[go_sem] theorem ty213 : tyOf Try.prog 213 = some (1, 8, [.int .u64 0]) := by kernel_rfl
@[go_sem] theorem ag213 : aggOf Try.prog 213 = some false := by kernel_rfl
@[go_sem] theorem se213 : selOf Try.prog 213 = none := by kernel_rfl
@[go_sem] theorem ki213 : kindOf Try.prog 213 = some .u64 := by kernel_rfl
@[go_sem] theorem pl213 : placesOf Try.prog 213 = none := by kernel_rfl
@[go_sem] theorem ty215 : tyOf Try.prog 215 = some (1, 8, [.int .i64 0]) := by kernel_rfl
@[go_sem] theorem ag215 : aggOf Try.prog 215 = some false := by kernel_rfl
@[go_sem] theorem se215 : selOf Try.prog 215 = none := by kernel_rfl
@[go_sem] theorem ki215 : kindOf Try.prog 215 = some .i64 := by kernel_rfl
@[go_sem] theorem pl215 : placesOf Try.prog 215 = none := by kernel_rfl
@[go_sem] theorem ty223 : tyOf Try.prog 223 = some (1, 4, [.int .u32 0]) := by kernel_rfl
@[go_sem] theorem ag223 : aggOf Try.prog 223 = some false := by kernel_rfl
@[go_sem] theorem se223 : selOf Try.prog 223 = none := by kernel_rfl
@[go_sem] theorem ki223 : kindOf Try.prog 223 = some .u32 := by kernel_rfl
@[go_sem] theorem pl223 : placesOf Try.prog 223 = none := by kernel_rfl
@[go_sem] theorem ty225 : tyOf Try.prog 225 = some (1, 8, [.int .u64 0]) := by kernel_rfl
@[go_sem] theorem ag225 : aggOf Try.prog 225 = some false := by kernel_rfl
@[go_sem] theorem se225 : selOf Try.prog 225 = none := by kernel_rfl
@[go_sem] theorem ki225 : kindOf Try.prog 225 = some .u64 := by kernel_rfl
@[go_sem] theorem pl225 : placesOf Try.prog 225 = none := by kernel_rfl
@[go_sem] theorem ty229 : tyOf Try.prog 229 = some (1, 8, [.pointer none]) := by kernel_rfl
@[go_sem] theorem ag229 : aggOf Try.prog 229 = some false := by kernel_rfl
@[go_sem] theorem se229 : selOf Try.prog 229 = none := by kernel_rfl
@[go_sem] theorem pl229 : placesOf Try.prog 229 = none := by kernel_rfl
@[go_sem] theorem ip229 : isPtrT Try.prog 229 = true := by kernel_rfl
end Go.Proofs.Ytabojpkmfkjjkaa
