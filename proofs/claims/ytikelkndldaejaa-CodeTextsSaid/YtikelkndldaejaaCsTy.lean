import Derived.Test.YtikelkndldaejaaProg
import Derived.Test.YtikelkndldaejaaPwT
set_option linter.all false
namespace Go.Proofs.Ytikelkndldaejaa
open Go.PW
theorem mixed : Try.prog.follows .mixedOrders = true := by kernel_rfl
@[go_sem] theorem ty3 : tyOf Try.prog 3 = some (1, 8, [.int .i64 0]) := by kernel_rfl
@[go_sem] theorem ag3 : aggOf Try.prog 3 = some false := by kernel_rfl
@[go_sem] theorem se3 : selOf Try.prog 3 = none := by kernel_rfl
@[go_sem] theorem ki3 : kindOf Try.prog 3 = some .i64 := by kernel_rfl
@[go_sem] theorem pl3 : placesOf Try.prog 3 = none := by kernel_rfl
@[go_sem] theorem ty4 : tyOf Try.prog 4 = some (1, 1, [.bool false]) := by kernel_rfl
@[go_sem] theorem ag4 : aggOf Try.prog 4 = some false := by kernel_rfl
@[go_sem] theorem se4 : selOf Try.prog 4 = none := by kernel_rfl
@[go_sem] theorem bo4 : isBoolT Try.prog 4 = true := by kernel_rfl
@[go_sem] theorem pl4 : placesOf Try.prog 4 = none := by kernel_rfl
@[go_sem] theorem ty5 : tyOf Try.prog 5 = some (1, 1, [.int .u8 0]) := by kernel_rfl
@[go_sem] theorem ag5 : aggOf Try.prog 5 = some false := by kernel_rfl
@[go_sem] theorem se5 : selOf Try.prog 5 = none := by kernel_rfl
@[go_sem] theorem ki5 : kindOf Try.prog 5 = some .u8 := by kernel_rfl
@[go_sem] theorem pl5 : placesOf Try.prog 5 = none := by kernel_rfl
@[go_sem] theorem ty9 : tyOf Try.prog 9 = some (1, 16, [.string ⟨#[]⟩]) := by kernel_rfl
@[go_sem] theorem ag9 : aggOf Try.prog 9 = some false := by kernel_rfl
@[go_sem] theorem se9 : selOf Try.prog 9 = none := by kernel_rfl
@[go_sem] theorem st9 : isStrT Try.prog 9 = true := by kernel_rfl
@[go_sem] theorem pl9 : placesOf Try.prog 9 = none := by kernel_rfl
@[go_sem] theorem ty22 : tyOf Try.prog 22 = some (1, 24, [.slice none 0 0]) := by kernel_rfl
@[go_sem] theorem ag22 : aggOf Try.prog 22 = some false := by kernel_rfl
@[go_sem] theorem se22 : selOf Try.prog 22 = some 3 := by kernel_rfl
@[go_sem] theorem pl22 : placesOf Try.prog 22 = none := by kernel_rfl
@[go_sem] theorem ty24 : tyOf Try.prog 24 = some (2, 32, [.int .i64 0, .slice none 0 0]) := by kernel_rfl
@[go_sem] theorem ag24 : aggOf Try.prog 24 = some true := by kernel_rfl
@[go_sem] theorem se24 : selOf Try.prog 24 = none := by kernel_rfl
@[go_sem] theorem pl24 : placesOf Try.prog 24 = some [(0, 1), (1, 1)] := by kernel_rfl
@[go_sem] theorem fo24_0 : fldOff Try.prog 24 0 = some (0, 3) := by kernel_rfl
@[go_sem] theorem fo24_1 : fldOff Try.prog 24 1 = some (1, 22) := by kernel_rfl
@[go_sem] theorem ty29 : tyOf Try.prog 29 = some (1, 8, [.int .i64 0]) := by kernel_rfl
@[go_sem] theorem ag29 : aggOf Try.prog 29 = some false := by kernel_rfl
@[go_sem] theorem se29 : selOf Try.prog 29 = none := by kernel_rfl
@[go_sem] theorem ki29 : kindOf Try.prog 29 = some .i64 := by kernel_rfl
@[go_sem] theorem pl29 : placesOf Try.prog 29 = none := by kernel_rfl
@[go_sem] theorem ty39 : tyOf Try.prog 39 = some (3, 24, [.int .i64 0, .int .i64 0, .int .i64 0]) := by kernel_rfl
@[go_sem] theorem ag39 : aggOf Try.prog 39 = some true := by kernel_rfl
@[go_sem] theorem se39 : selOf Try.prog 39 = none := by kernel_rfl
@[go_sem] theorem pl39 : placesOf Try.prog 39 = some [(0, 1), (1, 1), (2, 1)] := by kernel_rfl
@[go_sem] theorem fo39_0 : fldOff Try.prog 39 0 = some (0, 3) := by kernel_rfl
@[go_sem] theorem fo39_1 : fldOff Try.prog 39 1 = some (1, 3) := by kernel_rfl
@[go_sem] theorem fo39_2 : fldOff Try.prog 39 2 = some (2, 3) := by kernel_rfl
@[go_sem] theorem ty56 : tyOf Try.prog 56 = some (2, 16, [.int .i64 0, .int .i64 0]) := by kernel_rfl
@[go_sem] theorem ag56 : aggOf Try.prog 56 = some true := by kernel_rfl
@[go_sem] theorem se56 : selOf Try.prog 56 = none := by kernel_rfl
@[go_sem] theorem pl56 : placesOf Try.prog 56 = some [(0, 1), (1, 1)] := by kernel_rfl
@[go_sem] theorem fo56_0 : fldOff Try.prog 56 0 = some (0, 3) := by kernel_rfl
@[go_sem] theorem fo56_1 : fldOff Try.prog 56 1 = some (1, 3) := by kernel_rfl
@[go_sem] theorem ty64 : tyOf Try.prog 64 = some (2, 16, [.int .i64 0, .int .i64 0]) := by kernel_rfl
@[go_sem] theorem ag64 : aggOf Try.prog 64 = some true := by kernel_rfl
@[go_sem] theorem se64 : selOf Try.prog 64 = none := by kernel_rfl
@[go_sem] theorem ar64 : arrOf Try.prog 64 = some (2, 3) := by kernel_rfl
@[go_sem] theorem pl64 : placesOf Try.prog 64 = none := by kernel_rfl
@[go_sem] theorem ty68 : tyOf Try.prog 68 = some (5, 56, [.int .i64 0, .int .i64 0, .int .i64 0, .slice none 0 0, .int .i64 0]) := by kernel_rfl
@[go_sem] theorem ag68 : aggOf Try.prog 68 = some true := by kernel_rfl
@[go_sem] theorem se68 : selOf Try.prog 68 = none := by kernel_rfl
@[go_sem] theorem pl68 : placesOf Try.prog 68 = some [(0, 2), (2, 2), (4, 1)] := by kernel_rfl
@[go_sem] theorem fo68_0 : fldOff Try.prog 68 0 = some (0, 56) := by kernel_rfl
@[go_sem] theorem fo68_1 : fldOff Try.prog 68 1 = some (2, 24) := by kernel_rfl
@[go_sem] theorem fo68_2 : fldOff Try.prog 68 2 = some (4, 3) := by kernel_rfl
@[go_sem] theorem ty76 : tyOf Try.prog 76 = some (1, 24, [.slice none 0 0]) := by kernel_rfl
@[go_sem] theorem ag76 : aggOf Try.prog 76 = some false := by kernel_rfl
@[go_sem] theorem se76 : selOf Try.prog 76 = some 82 := by kernel_rfl
@[go_sem] theorem pl76 : placesOf Try.prog 76 = none := by kernel_rfl
@[go_sem] theorem ty78 : tyOf Try.prog 78 = some (2, 32, [.int .i64 0, .slice none 0 0]) := by kernel_rfl
@[go_sem] theorem ag78 : aggOf Try.prog 78 = some true := by kernel_rfl
@[go_sem] theorem se78 : selOf Try.prog 78 = none := by kernel_rfl
@[go_sem] theorem pl78 : placesOf Try.prog 78 = some [(0, 1), (1, 1)] := by kernel_rfl
@[go_sem] theorem fo78_0 : fldOff Try.prog 78 0 = some (0, 3) := by kernel_rfl
@[go_sem] theorem fo78_1 : fldOff Try.prog 78 1 = some (1, 76) := by kernel_rfl
@[go_sem] theorem ty80 : tyOf Try.prog 80 = some (4, 48, [.int .i64 0, .int .i64 0, .int .i64 0, .slice none 0 0]) := by kernel_rfl
@[go_sem] theorem ag80 : aggOf Try.prog 80 = some true := by kernel_rfl
@[go_sem] theorem se80 : selOf Try.prog 80 = none := by kernel_rfl
@[go_sem] theorem pl80 : placesOf Try.prog 80 = some [(0, 1), (1, 1), (2, 1), (3, 1)] := by kernel_rfl
@[go_sem] theorem fo80_0 : fldOff Try.prog 80 0 = some (0, 3) := by kernel_rfl
@[go_sem] theorem fo80_1 : fldOff Try.prog 80 1 = some (1, 3) := by kernel_rfl
@[go_sem] theorem fo80_2 : fldOff Try.prog 80 2 = some (2, 3) := by kernel_rfl
@[go_sem] theorem fo80_3 : fldOff Try.prog 80 3 = some (3, 22) := by kernel_rfl
@[go_sem] theorem ty82 : tyOf Try.prog 82 = some (3, 40, [.int .i64 0, .int .i64 0, .slice none 0 0]) := by kernel_rfl
@[go_sem] theorem ag82 : aggOf Try.prog 82 = some true := by kernel_rfl
@[go_sem] theorem se82 : selOf Try.prog 82 = none := by kernel_rfl
@[go_sem] theorem pl82 : placesOf Try.prog 82 = some [(0, 1), (1, 1), (2, 1)] := by kernel_rfl
@[go_sem] theorem fo82_0 : fldOff Try.prog 82 0 = some (0, 3) := by kernel_rfl
@[go_sem] theorem fo82_1 : fldOff Try.prog 82 1 = some (1, 3) := by kernel_rfl
@[go_sem] theorem fo82_2 : fldOff Try.prog 82 2 = some (2, 22) := by kernel_rfl
@[go_sem] theorem ty94 : tyOf Try.prog 94 = some (1, 24, [.slice none 0 0]) := by kernel_rfl
@[go_sem] theorem ag94 : aggOf Try.prog 94 = some false := by kernel_rfl
@[go_sem] theorem se94 : selOf Try.prog 94 = some 80 := by kernel_rfl
@[go_sem] theorem pl94 : placesOf Try.prog 94 = none := by kernel_rfl
@[go_sem] theorem ty95 : tyOf Try.prog 95 = some (1, 24, [.slice none 0 0]) := by kernel_rfl
@[go_sem] theorem ag95 : aggOf Try.prog 95 = some false := by kernel_rfl
@[go_sem] theorem se95 : selOf Try.prog 95 = some 22 := by kernel_rfl
@[go_sem] theorem pl95 : placesOf Try.prog 95 = none := by kernel_rfl
@[go_sem] theorem ty98 : tyOf Try.prog 98 = some (2, 32, [.int .i64 0, .slice none 0 0]) := by kernel_rfl
@[go_sem] theorem ag98 : aggOf Try.prog 98 = some true := by kernel_rfl
@[go_sem] theorem se98 : selOf Try.prog 98 = none := by kernel_rfl
@[go_sem] theorem pl98 : placesOf Try.prog 98 = some [(0, 1), (1, 1)] := by kernel_rfl
@[go_sem] theorem fo98_0 : fldOff Try.prog 98 0 = some (0, 3) := by kernel_rfl
@[go_sem] theorem fo98_1 : fldOff Try.prog 98 1 = some (1, 95) := by kernel_rfl
@[go_sem] theorem ty113 : tyOf Try.prog 113 = some (3, 24, [.int .i64 0, .int .i64 0, .int .i64 0]) := by kernel_rfl
@[go_sem] theorem ag113 : aggOf Try.prog 113 = some true := by kernel_rfl
@[go_sem] theorem se113 : selOf Try.prog 113 = none := by kernel_rfl
@[go_sem] theorem pl113 : placesOf Try.prog 113 = some [(0, 2), (2, 1)] := by kernel_rfl
@[go_sem] theorem fo113_0 : fldOff Try.prog 113 0 = some (0, 56) := by kernel_rfl
@[go_sem] theorem fo113_1 : fldOff Try.prog 113 1 = some (2, 3) := by kernel_rfl
@[go_sem] theorem ty115 : tyOf Try.prog 115 = some (2, 32, [.slice none 0 0, .int .i64 0]) := by kernel_rfl
@[go_sem] theorem ag115 : aggOf Try.prog 115 = some true := by kernel_rfl
@[go_sem] theorem se115 : selOf Try.prog 115 = none := by kernel_rfl
@[go_sem] theorem pl115 : placesOf Try.prog 115 = some [(0, 1), (1, 1)] := by kernel_rfl
@[go_sem] theorem fo115_0 : fldOff Try.prog 115 0 = some (0, 95) := by kernel_rfl
@[go_sem] theorem fo115_1 : fldOff Try.prog 115 1 = some (1, 3) := by kernel_rfl
@[go_sem] theorem ty127 : tyOf Try.prog 127 = some (2, 48, [.slice none 0 0, .slice none 0 0]) := by kernel_rfl
@[go_sem] theorem ag127 : aggOf Try.prog 127 = some true := by kernel_rfl
@[go_sem] theorem se127 : selOf Try.prog 127 = none := by kernel_rfl
@[go_sem] theorem pl127 : placesOf Try.prog 127 = some [(0, 1), (1, 1)] := by kernel_rfl
@[go_sem] theorem fo127_0 : fldOff Try.prog 127 0 = some (0, 22) := by kernel_rfl
@[go_sem] theorem fo127_1 : fldOff Try.prog 127 1 = some (1, 22) := by kernel_rfl
@[go_sem] theorem ty132 : tyOf Try.prog 132 = some (3, 40, [.slice none 0 0, .int .i64 0, .int .i64 0]) := by kernel_rfl
@[go_sem] theorem ag132 : aggOf Try.prog 132 = some true := by kernel_rfl
@[go_sem] theorem se132 : selOf Try.prog 132 = none := by kernel_rfl
@[go_sem] theorem pl132 : placesOf Try.prog 132 = some [(0, 1), (1, 1), (2, 1)] := by kernel_rfl
@[go_sem] theorem fo132_0 : fldOff Try.prog 132 0 = some (0, 22) := by kernel_rfl
@[go_sem] theorem fo132_1 : fldOff Try.prog 132 1 = some (1, 3) := by kernel_rfl
@[go_sem] theorem fo132_2 : fldOff Try.prog 132 2 = some (2, 3) := by kernel_rfl
@[go_sem] theorem ty141 : tyOf Try.prog 141 = some (1, 8, [.nilFunc]) := by kernel_rfl
@[go_sem] theorem ag141 : aggOf Try.prog 141 = some false := by kernel_rfl
@[go_sem] theorem se141 : selOf Try.prog 141 = none := by kernel_rfl
@[go_sem] theorem pl141 : placesOf Try.prog 141 = none := by kernel_rfl
@[go_sem] theorem ty144 : tyOf Try.prog 144 = some (1, 8, [.pointer none]) := by kernel_rfl
@[go_sem] theorem ag144 : aggOf Try.prog 144 = some false := by kernel_rfl
@[go_sem] theorem se144 : selOf Try.prog 144 = none := by kernel_rfl
@[go_sem] theorem pl144 : placesOf Try.prog 144 = none := by kernel_rfl
@[go_sem] theorem ty145 : tyOf Try.prog 145 = some (1, 24, [.slice none 0 0]) := by kernel_rfl
@[go_sem] theorem ag145 : aggOf Try.prog 145 = some false := by kernel_rfl
@[go_sem] theorem se145 : selOf Try.prog 145 = some 5 := by kernel_rfl
@[go_sem] theorem pl145 : placesOf Try.prog 145 = none := by kernel_rfl
@[go_sem] theorem ty147 : tyOf Try.prog 147 = some (2, 32, [.pointer none, .slice none 0 0]) := by kernel_rfl
@[go_sem] theorem ag147 : aggOf Try.prog 147 = some true := by kernel_rfl
@[go_sem] theorem se147 : selOf Try.prog 147 = none := by kernel_rfl
@[go_sem] theorem pl147 : placesOf Try.prog 147 = some [(0, 1), (1, 1)] := by kernel_rfl
@[go_sem] theorem fo147_0 : fldOff Try.prog 147 0 = some (0, 144) := by kernel_rfl
@[go_sem] theorem fo147_1 : fldOff Try.prog 147 1 = some (1, 145) := by kernel_rfl
@[go_sem] theorem ty160 : tyOf Try.prog 160 = some (3, 24, [.int .i64 0, .int .i64 0, .int .i64 0]) := by kernel_rfl
@[go_sem] theorem ag160 : aggOf Try.prog 160 = some true := by kernel_rfl
@[go_sem] theorem se160 : selOf Try.prog 160 = none := by kernel_rfl
@[go_sem] theorem pl160 : placesOf Try.prog 160 = some [(0, 1), (1, 1), (2, 1)] := by kernel_rfl
@[go_sem] theorem fo160_0 : fldOff Try.prog 160 0 = some (0, 3) := by kernel_rfl
@[go_sem] theorem fo160_1 : fldOff Try.prog 160 1 = some (1, 3) := by kernel_rfl
@[go_sem] theorem fo160_2 : fldOff Try.prog 160 2 = some (2, 3) := by kernel_rfl
@[go_sem] theorem ty167 : tyOf Try.prog 167 = some (1, 24, [.slice none 0 0]) := by kernel_rfl
@[go_sem] theorem ag167 : aggOf Try.prog 167 = some false := by kernel_rfl
@[go_sem] theorem se167 : selOf Try.prog 167 = some 29 := by kernel_rfl
@[go_sem] theorem pl167 : placesOf Try.prog 167 = none := by kernel_rfl
@[go_sem] theorem ty175 : tyOf Try.prog 175 = some (1, 8, [.pointer none]) := by kernel_rfl
@[go_sem] theorem ag175 : aggOf Try.prog 175 = some false := by kernel_rfl
@[go_sem] theorem se175 : selOf Try.prog 175 = none := by kernel_rfl
@[go_sem] theorem pl175 : placesOf Try.prog 175 = none := by kernel_rfl
@[go_sem] theorem ty177 : tyOf Try.prog 177 = some (1, 8, [.int .u64 0]) := by kernel_rfl
@[go_sem] theorem ag177 : aggOf Try.prog 177 = some false := by kernel_rfl
@[go_sem] theorem se177 : selOf Try.prog 177 = none := by kernel_rfl
@[go_sem] theorem ki177 : kindOf Try.prog 177 = some .u64 := by kernel_rfl
@[go_sem] theorem pl177 : placesOf Try.prog 177 = none := by kernel_rfl
@[go_sem] theorem ty184 : tyOf Try.prog 184 = some (1, 8, [.pointer none]) := by kernel_rfl
@[go_sem] theorem ag184 : aggOf Try.prog 184 = some false := by kernel_rfl
@[go_sem] theorem se184 : selOf Try.prog 184 = none := by kernel_rfl
@[go_sem] theorem pl184 : placesOf Try.prog 184 = none := by kernel_rfl
@[go_sem] theorem ty187 : tyOf Try.prog 187 = some (1, 4, [.int .u32 0]) := by kernel_rfl
@[go_sem] theorem ag187 : aggOf Try.prog 187 = some false := by kernel_rfl
@[go_sem] theorem se187 : selOf Try.prog 187 = none := by kernel_rfl
@[go_sem] theorem ki187 : kindOf Try.prog 187 = some .u32 := by kernel_rfl
@[go_sem] theorem pl187 : placesOf Try.prog 187 = none := by kernel_rfl
@[go_sem] theorem ty189 : tyOf Try.prog 189 = some (1, 8, [.int .u64 0]) := by kernel_rfl
@[go_sem] theorem ag189 : aggOf Try.prog 189 = some false := by kernel_rfl
@[go_sem] theorem se189 : selOf Try.prog 189 = none := by kernel_rfl
@[go_sem] theorem ki189 : kindOf Try.prog 189 = some .u64 := by kernel_rfl
@[go_sem] theorem pl189 : placesOf Try.prog 189 = none := by kernel_rfl
end Go.Proofs.Ytikelkndldaejaa
