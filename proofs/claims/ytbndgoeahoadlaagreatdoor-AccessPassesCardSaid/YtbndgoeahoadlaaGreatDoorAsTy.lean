import Derived.Test.YtbndgoeahoadlaaGreatDoorProg
import Derived.Test.YtbndgoeahoadlaaGreatDoorPlA
set_option linter.all false
namespace Go.Proofs.YtbndgoeahoadlaaGreatDoor
open Go.PW
theorem mixed : Tryz.prog.follows .mixedOrders = true := by kernel_rfl
@[go_sem] theorem ty3 : F3 Tryz.prog 3 = some (1, 8, [.int .i64 0]) := by kernel_rfl
@[go_sem] theorem ag3 : aggOf Tryz.prog 3 = some false := by kernel_rfl
@[go_sem] theorem ty4 : F3 Tryz.prog 4 = some (1, 1, [.bool false]) := by kernel_rfl
@[go_sem] theorem ag4 : aggOf Tryz.prog 4 = some false := by kernel_rfl
@[go_sem] theorem ty23 : F3 Tryz.prog 23 = some (7, 56, [.int .i64 0, .int .i64 0, .int .i64 0, .int .i64 0, .int .i64 0, .int .i64 0, .int .i64 0]) := by kernel_rfl
@[go_sem] theorem ag23 : aggOf Tryz.prog 23 = some true := by kernel_rfl
@[go_sem] theorem fo23_0 : o4 Tryz.prog 23 0 = some (0, 3) := by kernel_rfl
@[go_sem] theorem fo23_1 : o4 Tryz.prog 23 1 = some (1, 3) := by kernel_rfl
@[go_sem] theorem fo23_2 : o4 Tryz.prog 23 2 = some (2, 3) := by kernel_rfl
@[go_sem] theorem fo23_3 : o4 Tryz.prog 23 3 = some (3, 3) := by kernel_rfl
@[go_sem] theorem fo23_4 : o4 Tryz.prog 23 4 = some (4, 3) := by kernel_rfl
@[go_sem] theorem fo23_5 : o4 Tryz.prog 23 5 = some (5, 3) := by kernel_rfl
@[go_sem] theorem fo23_6 : o4 Tryz.prog 23 6 = some (6, 3) := by kernel_rfl
@[go_sem] theorem se24 : C4 Tryz.prog 24 = some 3 := by kernel_rfl
@[go_sem] theorem ty26 : F3 Tryz.prog 26 = some (1, 8, [.int .i64 0]) := by kernel_rfl
@[go_sem] theorem ag26 : aggOf Tryz.prog 26 = some false := by kernel_rfl
@[go_sem] theorem ty28 : F3 Tryz.prog 28 = some (1, 24, [.slice none 0 0]) := by kernel_rfl
@[go_sem] theorem ag28 : aggOf Tryz.prog 28 = some false := by kernel_rfl
@[go_sem] theorem se28 : C4 Tryz.prog 28 = some 71 := by kernel_rfl
@[go_sem] theorem ty30 : F3 Tryz.prog 30 = some (2, 32, [.int .i64 0, .slice none 0 0]) := by kernel_rfl
@[go_sem] theorem ag30 : aggOf Tryz.prog 30 = some true := by kernel_rfl
@[go_sem] theorem pl30 : E7 Tryz.prog 30 = some [(0, 1), (1, 1)] := by kernel_rfl
@[go_sem] theorem fo30_0 : o4 Tryz.prog 30 0 = some (0, 3) := by kernel_rfl
@[go_sem] theorem fo30_1 : o4 Tryz.prog 30 1 = some (1, 28) := by kernel_rfl
@[go_sem] theorem ty48 : F3 Tryz.prog 48 = some (6, 48, [.int .i64 0, .int .i64 0, .int .i64 0, .int .i64 0, .int .i64 0, .int .i64 0]) := by kernel_rfl
@[go_sem] theorem ag48 : aggOf Tryz.prog 48 = some true := by kernel_rfl
@[go_sem] theorem pl48 : E7 Tryz.prog 48 = some [(0, 1), (1, 1), (2, 1), (3, 1), (4, 1), (5, 1)] := by kernel_rfl
@[go_sem] theorem fo48_0 : o4 Tryz.prog 48 0 = some (0, 3) := by kernel_rfl
@[go_sem] theorem fo48_1 : o4 Tryz.prog 48 1 = some (1, 3) := by kernel_rfl
@[go_sem] theorem fo48_2 : o4 Tryz.prog 48 2 = some (2, 3) := by kernel_rfl
@[go_sem] theorem fo48_3 : o4 Tryz.prog 48 3 = some (3, 3) := by kernel_rfl
@[go_sem] theorem fo48_4 : o4 Tryz.prog 48 4 = some (4, 3) := by kernel_rfl
@[go_sem] theorem fo48_5 : o4 Tryz.prog 48 5 = some (5, 3) := by kernel_rfl
@[go_sem] theorem eq48 : eqPlanT Tryz.prog 48 = some [(0, .int), (1, .int), (2, .int), (3, .int), (4, .int), (5, .int)] := by kernel_rfl
@[go_sem] theorem fo69_0 : o4 Tryz.prog 69 0 = some (0, 48) := by kernel_rfl
@[go_sem] theorem fo69_1 : o4 Tryz.prog 69 1 = some (6, 3) := by kernel_rfl
@[go_sem] theorem ty71 : F3 Tryz.prog 71 = some (7, 56, [.int .i64 0, .int .i64 0, .int .i64 0, .int .i64 0, .int .i64 0, .int .i64 0, .int .i64 0]) := by kernel_rfl
@[go_sem] theorem ag71 : aggOf Tryz.prog 71 = some true := by kernel_rfl
@[go_sem] theorem pl71 : E7 Tryz.prog 71 = some [(0, 1), (1, 1), (2, 1), (3, 1), (4, 1), (5, 1), (6, 1)] := by kernel_rfl
@[go_sem] theorem fo71_0 : o4 Tryz.prog 71 0 = some (0, 3) := by kernel_rfl
@[go_sem] theorem fo71_1 : o4 Tryz.prog 71 1 = some (1, 3) := by kernel_rfl
@[go_sem] theorem fo71_2 : o4 Tryz.prog 71 2 = some (2, 3) := by kernel_rfl
@[go_sem] theorem fo71_3 : o4 Tryz.prog 71 3 = some (3, 3) := by kernel_rfl
@[go_sem] theorem fo71_4 : o4 Tryz.prog 71 4 = some (4, 3) := by kernel_rfl
@[go_sem] theorem fo71_5 : o4 Tryz.prog 71 5 = some (5, 3) := by kernel_rfl
@[go_sem] theorem fo71_6 : o4 Tryz.prog 71 6 = some (6, 3) := by kernel_rfl
@[go_sem] theorem eq71 : eqPlanT Tryz.prog 71 = some [(0, .int), (1, .int), (2, .int), (3, .int), (4, .int), (5, .int), (6, .int)] := by kernel_rfl
@[go_sem] theorem ty131 : F3 Tryz.prog 131 = some (3, 24, [.int .i64 0, .int .i64 0, .int .i64 0]) := by kernel_rfl
@[go_sem] theorem ag131 : aggOf Tryz.prog 131 = some true := by kernel_rfl
@[go_sem] theorem pl131 : E7 Tryz.prog 131 = some [(0, 1), (1, 1), (2, 1)] := by kernel_rfl
@[go_sem] theorem fo131_0 : o4 Tryz.prog 131 0 = some (0, 3) := by kernel_rfl
@[go_sem] theorem fo131_1 : o4 Tryz.prog 131 1 = some (1, 3) := by kernel_rfl
@[go_sem] theorem fo131_2 : o4 Tryz.prog 131 2 = some (2, 3) := by kernel_rfl
@[go_sem] theorem ty132 : F3 Tryz.prog 132 = some (21, 168, [.int .i64 0, .int .i64 0, .int .i64 0, .int .i64 0, .int .i64 0, .int .i64 0, .int .i64 0, .int .i64 0, .int .i64 0, .int .i64 0, .int .i64 0, .int .i64 0, .int .i64 0, .int .i64 0, .int .i64 0, .int .i64 0, .int .i64 0, .int .i64 0, .int .i64 0, .int .i64 0, .int .i64 0]) := by kernel_rfl
@[go_sem] theorem ar132 : arrOf Tryz.prog 132 = some (7, 131) := by kernel_rfl
@[go_sem] theorem pl132 : E7 Tryz.prog 132 = none := by kernel_rfl
@[go_sem] theorem ty142 : F3 Tryz.prog 142 = some (9, 88, [.int .i64 0, .int .i64 0, .int .i64 0, .int .i64 0, .int .i64 0, .int .i64 0, .int .i64 0, .int .i64 0, .slice none 0 0]) := by kernel_rfl
@[go_sem] theorem pl142 : E7 Tryz.prog 142 = some [(0, 7), (7, 1), (8, 1)] := by kernel_rfl
@[go_sem] theorem fo142_0 : o4 Tryz.prog 142 0 = some (0, 23) := by kernel_rfl
@[go_sem] theorem fo142_1 : o4 Tryz.prog 142 1 = some (7, 3) := by kernel_rfl
@[go_sem] theorem fo142_2 : o4 Tryz.prog 142 2 = some (8, 28) := by kernel_rfl
@[go_sem] theorem ty168 : F3 Tryz.prog 168 = some (1, 8, [.pointer none]) := by kernel_rfl
@[go_sem] theorem ag168 : aggOf Tryz.prog 168 = some false := by kernel_rfl
@[go_sem] theorem se172 : C4 Tryz.prog 172 = some 26 := by kernel_rfl
@[go_sem] theorem ty176 : F3 Tryz.prog 176 = some (1, 24, [.slice none 0 0]) := by kernel_rfl
@[go_sem] theorem ag176 : aggOf Tryz.prog 176 = some false := by kernel_rfl
@[go_sem] theorem se176 : C4 Tryz.prog 176 = some 181 := by kernel_rfl
@[go_sem] theorem ty177 : F3 Tryz.prog 177 = some (1, 8, [.nilFunc]) := by kernel_rfl
@[go_sem] theorem ag177 : aggOf Tryz.prog 177 = some false := by kernel_rfl
@[go_sem] theorem ty179 : F3 Tryz.prog 179 = some (3, 48, [.string ⟨#[]⟩, .slice none 0 0, .nilFunc]) := by kernel_rfl
@[go_sem] theorem ag179 : aggOf Tryz.prog 179 = some true := by kernel_rfl
@[go_sem] theorem pl179 : E7 Tryz.prog 179 = some [(0, 1), (1, 1), (2, 1)] := by kernel_rfl
@[go_sem] theorem fo179_1 : o4 Tryz.prog 179 1 = some (1, 176) := by kernel_rfl
@[go_sem] theorem fo179_2 : o4 Tryz.prog 179 2 = some (2, 177) := by kernel_rfl
@[go_sem] theorem ty181 : F3 Tryz.prog 181 = some (1, 8, [.int .i64 0]) := by kernel_rfl
@[go_sem] theorem ag181 : aggOf Tryz.prog 181 = some false := by kernel_rfl
@[go_sem] theorem ty184 : F3 Tryz.prog 184 = some (4, 32, [.int .i64 0, .int .i64 0, .int .i64 0, .int .i64 0]) := by kernel_rfl
@[go_sem] theorem se184 : C4 Tryz.prog 184 = none := by kernel_rfl
@[go_sem] theorem ar184 : arrOf Tryz.prog 184 = some (4, 3) := by kernel_rfl
@[go_sem] theorem pl184 : E7 Tryz.prog 184 = none := by kernel_rfl
@[go_sem] theorem ty205 : F3 Tryz.prog 205 = some (15, 240, [.string ⟨#[]⟩, .slice none 0 0, .nilFunc, .string ⟨#[]⟩, .slice none 0 0, .nilFunc, .string ⟨#[]⟩, .slice none 0 0, .nilFunc, .string ⟨#[]⟩, .slice none 0 0, .nilFunc, .string ⟨#[]⟩, .slice none 0 0, .nilFunc]) := by kernel_rfl
@[go_sem] theorem ar205 : arrOf Tryz.prog 205 = some (5, 179) := by kernel_rfl
@[go_sem] theorem pl205 : E7 Tryz.prog 205 = none := by kernel_rfl
@[go_sem] theorem ty206 : F3 Tryz.prog 206 = some (4, 32, [.pointer none, .pointer none, .pointer none, .pointer none]) := by kernel_rfl
@[go_sem] theorem ar206 : arrOf Tryz.prog 206 = some (4, 168) := by kernel_rfl
@[go_sem] theorem pl206 : E7 Tryz.prog 206 = none := by kernel_rfl
@[go_sem] theorem ty215 : F3 Tryz.prog 215 = some (4, 4, [.bool false, .bool false, .bool false, .bool false]) := by kernel_rfl
@[go_sem] theorem ag215 : aggOf Tryz.prog 215 = some true := by kernel_rfl
@[go_sem] theorem fo215_0 : o4 Tryz.prog 215 0 = some (0, 4) := by kernel_rfl
@[go_sem] theorem fo215_1 : o4 Tryz.prog 215 1 = some (1, 4) := by kernel_rfl
@[go_sem] theorem fo215_2 : o4 Tryz.prog 215 2 = some (2, 4) := by kernel_rfl
@[go_sem] theorem fo215_3 : o4 Tryz.prog 215 3 = some (3, 4) := by kernel_rfl
@[go_sem] theorem se216 : C4 Tryz.prog 216 = none := by kernel_rfl
@[go_sem] theorem ar216 : arrOf Tryz.prog 216 = some (6, 215) := by kernel_rfl
end Go.Proofs.YtbndgoeahoadlaaGreatDoor
