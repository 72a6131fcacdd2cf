/-
  The tied card 'AccessPassesCardSaid' is proved: the function 'AccessPasses' returns true for every input, and its arguments read as they did; the listed package variables start as the text of the program lays them.
-/
import Derived.Test.YtbndgoeahoadlaaGreatDoorRdX
import Derived.Test.YtbndgoeahoadlaaGreatDoorAsK
import Derived.Test.YtbndgoeahoadlaaGreatDoorRows
import Derived.Test.YtbndgoeahoadlaaGreatDoorAsW16
import Derived.Test.YtbndgoeahoadlaaGreatDoorPlain
import Derived.Test.YtbndgoeahoadlaaGreatDoorCards
import Derived.Test.YtbndgoeahoadlaaGreatDoorTie
import Derived.OpenShut
import Derived.Stop.Joined
set_option linter.all false
namespace Go.Proofs.YtbndgoeahoadlaaGreatDoor
open Go.PW Go.RowKit Go.ChangeShapes Go.WideShapes Go.ChangeAt
theorem br_own : ownKnob Tryz.prog.godebug = none := by kernel_rfl
theorem br_laid : laidOutB Tryz.prog = true := by kernel_rfl
theorem br_at74_0 : 1 = 0 + Tryz.prog.cellsOf 3 := by kernel_rfl
theorem br_at74_1 : 2 = 1 + Tryz.prog.cellsOf 3 := by kernel_rfl
theorem br_at74_2 : 3 = 2 + Tryz.prog.cellsOf 3 := by kernel_rfl
theorem br_at74_3 : 4 = 3 + Tryz.prog.cellsOf 3 := by kernel_rfl
theorem br_arr75 : (List.range 3).map (fun i => (3, i * Tryz.prog.cellsOf 3)) = [(3, 0), (3, 1), (3, 2)] := by kernel_rfl
theorem br_at75_0 : 1 = 0 + Tryz.prog.cellsOf 3 := by kernel_rfl
theorem br_at75_1 : 2 = 1 + Tryz.prog.cellsOf 3 := by kernel_rfl
theorem br_at75_2 : 3 = 2 + Tryz.prog.cellsOf 3 := by kernel_rfl
theorem br_at77_0 : 1 = 0 + Tryz.prog.cellsOf 3 := by kernel_rfl
theorem br_at77_1 : 2 = 1 + Tryz.prog.cellsOf 3 := by kernel_rfl
theorem br_at77_2 : 3 = 2 + Tryz.prog.cellsOf 3 := by kernel_rfl
theorem br_at81_0 : 1 = 0 + Tryz.prog.cellsOf 3 := by kernel_rfl
theorem br_at81_1 : 2 = 1 + Tryz.prog.cellsOf 3 := by kernel_rfl
theorem br_at88_0 : 1 = 0 + Tryz.prog.cellsOf 3 := by kernel_rfl
theorem br_at88_1 : 2 = 1 + Tryz.prog.cellsOf 3 := by kernel_rfl
theorem br_at88_2 : 4 = 2 + Tryz.prog.cellsOf 81 := by kernel_rfl
theorem br_at88_4 : 7 = 4 + Tryz.prog.cellsOf 77 := by kernel_rfl
theorem br_at99_0 : 1 = 0 + Tryz.prog.cellsOf 3 := by kernel_rfl
theorem br_at99_1 : 2 = 1 + Tryz.prog.cellsOf 3 := by kernel_rfl
theorem br_at99_2 : 3 = 2 + Tryz.prog.cellsOf 3 := by kernel_rfl
theorem br_at99_3 : 4 = 3 + Tryz.prog.cellsOf 3 := by kernel_rfl
theorem br_arr100 : (List.range 2).map (fun i => (3, i * Tryz.prog.cellsOf 3)) = [(3, 0), (3, 1)] := by kernel_rfl
theorem br_at100_0 : 1 = 0 + Tryz.prog.cellsOf 3 := by kernel_rfl
theorem br_at100_1 : 2 = 1 + Tryz.prog.cellsOf 3 := by kernel_rfl
theorem br_at102_0 : 1 = 0 + Tryz.prog.cellsOf 3 := by kernel_rfl
theorem br_at102_1 : 2 = 1 + Tryz.prog.cellsOf 3 := by kernel_rfl
theorem br_at23_0 : 1 = 0 + Tryz.prog.cellsOf 3 := by kernel_rfl
theorem br_at23_1 : 2 = 1 + Tryz.prog.cellsOf 3 := by kernel_rfl
theorem br_at23_2 : 3 = 2 + Tryz.prog.cellsOf 3 := by kernel_rfl
theorem br_at23_3 : 4 = 3 + Tryz.prog.cellsOf 3 := by kernel_rfl
theorem br_at23_4 : 5 = 4 + Tryz.prog.cellsOf 3 := by kernel_rfl
theorem br_at23_5 : 6 = 5 + Tryz.prog.cellsOf 3 := by kernel_rfl
theorem br_at23_6 : 7 = 6 + Tryz.prog.cellsOf 3 := by kernel_rfl
theorem br_at69_0 : 6 = 0 + Tryz.prog.cellsOf 48 := by kernel_rfl
theorem br_at69_6 : 7 = 6 + Tryz.prog.cellsOf 3 := by kernel_rfl
theorem br_size48 : Tryz.prog.cellsOf 48 = 6 := by kernel_rfl
theorem br_pos48 : 0 < Tryz.prog.cellsOf 48 := by rw [br_size48]; decide
theorem br_size3 : Tryz.prog.cellsOf 3 = 1 := by kernel_rfl
theorem br_pos3 : 0 < Tryz.prog.cellsOf 3 := by rw [br_size3]; decide
theorem br_one24_3 : Tryz.prog.cellsOf 3 = 1 := by kernel_rfl
theorem br_at71_0 : 1 = 0 + Tryz.prog.cellsOf 3 := by kernel_rfl
theorem br_at71_1 : 2 = 1 + Tryz.prog.cellsOf 3 := by kernel_rfl
theorem br_at71_2 : 3 = 2 + Tryz.prog.cellsOf 3 := by kernel_rfl
theorem br_at71_3 : 4 = 3 + Tryz.prog.cellsOf 3 := by kernel_rfl
theorem br_at71_4 : 5 = 4 + Tryz.prog.cellsOf 3 := by kernel_rfl
theorem br_at71_5 : 6 = 5 + Tryz.prog.cellsOf 3 := by kernel_rfl
theorem br_at71_6 : 7 = 6 + Tryz.prog.cellsOf 3 := by kernel_rfl
theorem br_size71 : Tryz.prog.cellsOf 71 = 7 := by kernel_rfl
theorem br_pos71 : 0 < Tryz.prog.cellsOf 71 := by rw [br_size71]; decide
theorem br_at30_0 : 1 = 0 + Tryz.prog.cellsOf 3 := by kernel_rfl
theorem br_at30_1 : 2 = 1 + Tryz.prog.cellsOf 28 := by kernel_rfl
theorem br_at48_0 : 1 = 0 + Tryz.prog.cellsOf 3 := by kernel_rfl
theorem br_at48_1 : 2 = 1 + Tryz.prog.cellsOf 3 := by kernel_rfl
theorem br_at48_2 : 3 = 2 + Tryz.prog.cellsOf 3 := by kernel_rfl
theorem br_at48_3 : 4 = 3 + Tryz.prog.cellsOf 3 := by kernel_rfl
theorem br_at48_4 : 5 = 4 + Tryz.prog.cellsOf 3 := by kernel_rfl
theorem br_at48_5 : 6 = 5 + Tryz.prog.cellsOf 3 := by kernel_rfl
theorem br_at50_0 : 6 = 0 + Tryz.prog.cellsOf 48 := by kernel_rfl
theorem br_at50_6 : 7 = 6 + Tryz.prog.cellsOf 3 := by kernel_rfl
section
variable {H : Type} {enc : TypeId × Value → H} {w : World}
theorem rd_3 : Rd enc Tryz.prog w 3 (fun x : Int => [I x]) (fun x => -9223372036854775808 ≤ x ∧ x ≤ 9223372036854775807) := 
  Rd.i64 Tryz.underlying3
theorem rd_74 : Rd enc Tryz.prog w 74 (fun x : Int × Int × Int × Int × Unit => ([I x.1] ++ ([I x.2.1] ++ ([I x.2.2.1] ++ ([I x.2.2.2.1] ++ []))))) (fun x => (-9223372036854775808 ≤ x.1 ∧ x.1 ≤ 9223372036854775807) ∧ (-9223372036854775808 ≤ x.2.1 ∧ x.2.1 ≤ 9223372036854775807) ∧ (-9223372036854775808 ≤ x.2.2.1 ∧ x.2.2.1 ≤ 9223372036854775807) ∧ (-9223372036854775808 ≤ x.2.2.2.1 ∧ x.2.2.2.1 ≤ 9223372036854775807) ∧ True) := 
  C0 Tryz.underlying74 rfl (by kernel_rfl) (RdF.cons br_at74_0 rd_3 (RdF.cons br_at74_1 rd_3 (RdF.cons br_at74_2 rd_3 (RdF.cons br_at74_3 rd_3 RdF.nil))))
theorem rd_75 : Rd enc Tryz.prog w 75 (fun x : Int × Int × Int × Unit => ([I x.1] ++ ([I x.2.1] ++ ([I x.2.2.1] ++ [])))) (fun x => (-9223372036854775808 ≤ x.1 ∧ x.1 ≤ 9223372036854775807) ∧ (-9223372036854775808 ≤ x.2.1 ∧ x.2.1 ≤ 9223372036854775807) ∧ (-9223372036854775808 ≤ x.2.2.1 ∧ x.2.2.1 ≤ 9223372036854775807) ∧ True) := 
  Rd.array Tryz.underlying75 br_arr75 (by kernel_rfl) (RdF.cons br_at75_0 rd_3 (RdF.cons br_at75_1 rd_3 (RdF.cons br_at75_2 rd_3 RdF.nil)))
theorem rd_77 : Rd enc Tryz.prog w 77 (fun x : Int × Int × Int × Unit => ([I x.1] ++ ([I x.2.1] ++ ([I x.2.2.1] ++ [])))) (fun x => (-9223372036854775808 ≤ x.1 ∧ x.1 ≤ 9223372036854775807) ∧ (-9223372036854775808 ≤ x.2.1 ∧ x.2.1 ≤ 9223372036854775807) ∧ (-9223372036854775808 ≤ x.2.2.1 ∧ x.2.2.1 ≤ 9223372036854775807) ∧ True) := 
  C0 Tryz.underlying77 rfl (by kernel_rfl) (RdF.cons br_at77_0 rd_3 (RdF.cons br_at77_1 rd_3 (RdF.cons br_at77_2 rd_3 RdF.nil)))
theorem rd_81 : Rd enc Tryz.prog w 81 (fun x : Int × Int × Unit => ([I x.1] ++ ([I x.2.1] ++ []))) (fun x => (-9223372036854775808 ≤ x.1 ∧ x.1 ≤ 9223372036854775807) ∧ (-9223372036854775808 ≤ x.2.1 ∧ x.2.1 ≤ 9223372036854775807) ∧ True) := 
  C0 Tryz.underlying81 rfl (by kernel_rfl) (RdF.cons br_at81_0 rd_3 (RdF.cons br_at81_1 rd_3 RdF.nil))
theorem rd_88 : Rd enc Tryz.prog w 88 (fun x : Int × Int × (Int × Int × Unit) × (Int × Int × Int × Unit) × Unit => ([I x.1] ++ ([I x.2.1] ++ (([I x.2.2.1.1] ++ ([I x.2.2.1.2.1] ++ [])) ++ (([I x.2.2.2.1.1] ++ ([I x.2.2.2.1.2.1] ++ ([I x.2.2.2.1.2.2.1] ++ []))) ++ []))))) (fun x => (-9223372036854775808 ≤ x.1 ∧ x.1 ≤ 9223372036854775807) ∧ (-9223372036854775808 ≤ x.2.1 ∧ x.2.1 ≤ 9223372036854775807) ∧ ((-9223372036854775808 ≤ x.2.2.1.1 ∧ x.2.2.1.1 ≤ 9223372036854775807) ∧ (-9223372036854775808 ≤ x.2.2.1.2.1 ∧ x.2.2.1.2.1 ≤ 9223372036854775807) ∧ True) ∧ ((-9223372036854775808 ≤ x.2.2.2.1.1 ∧ x.2.2.2.1.1 ≤ 9223372036854775807) ∧ (-9223372036854775808 ≤ x.2.2.2.1.2.1 ∧ x.2.2.2.1.2.1 ≤ 9223372036854775807) ∧ (-9223372036854775808 ≤ x.2.2.2.1.2.2.1 ∧ x.2.2.2.1.2.2.1 ≤ 9223372036854775807) ∧ True) ∧ True) := 
  C0 Tryz.underlying88 rfl (by kernel_rfl) (RdF.cons br_at88_0 rd_3 (RdF.cons br_at88_1 rd_3 (RdF.cons br_at88_2 rd_81 (RdF.cons br_at88_4 rd_77 RdF.nil))))
theorem rd_99 : Rd enc Tryz.prog w 99 (fun x : Int × Int × Int × Int × Unit => ([I x.1] ++ ([I x.2.1] ++ ([I x.2.2.1] ++ ([I x.2.2.2.1] ++ []))))) (fun x => (-9223372036854775808 ≤ x.1 ∧ x.1 ≤ 9223372036854775807) ∧ (-9223372036854775808 ≤ x.2.1 ∧ x.2.1 ≤ 9223372036854775807) ∧ (-9223372036854775808 ≤ x.2.2.1 ∧ x.2.2.1 ≤ 9223372036854775807) ∧ (-9223372036854775808 ≤ x.2.2.2.1 ∧ x.2.2.2.1 ≤ 9223372036854775807) ∧ True) := 
  C0 Tryz.underlying99 rfl (by kernel_rfl) (RdF.cons br_at99_0 rd_3 (RdF.cons br_at99_1 rd_3 (RdF.cons br_at99_2 rd_3 (RdF.cons br_at99_3 rd_3 RdF.nil))))
theorem rd_100 : Rd enc Tryz.prog w 100 (fun x : Int × Int × Unit => ([I x.1] ++ ([I x.2.1] ++ []))) (fun x => (-9223372036854775808 ≤ x.1 ∧ x.1 ≤ 9223372036854775807) ∧ (-9223372036854775808 ≤ x.2.1 ∧ x.2.1 ≤ 9223372036854775807) ∧ True) := 
  Rd.array Tryz.underlying100 br_arr100 (by kernel_rfl) (RdF.cons br_at100_0 rd_3 (RdF.cons br_at100_1 rd_3 RdF.nil))
theorem rd_102 : Rd enc Tryz.prog w 102 (fun x : Int × Int × Unit => ([I x.1] ++ ([I x.2.1] ++ []))) (fun x => (-9223372036854775808 ≤ x.1 ∧ x.1 ≤ 9223372036854775807) ∧ (-9223372036854775808 ≤ x.2.1 ∧ x.2.1 ≤ 9223372036854775807) ∧ True) := 
  C0 Tryz.underlying102 rfl (by kernel_rfl) (RdF.cons br_at102_0 rd_3 (RdF.cons br_at102_1 rd_3 RdF.nil))
theorem rd_23 : Rd enc Tryz.prog w 23 (fun x : Int × Int × Int × Int × Int × Int × Int × Unit => ([I x.1] ++ ([I x.2.1] ++ ([I x.2.2.1] ++ ([I x.2.2.2.1] ++ ([I x.2.2.2.2.1] ++ ([I x.2.2.2.2.2.1] ++ ([I x.2.2.2.2.2.2.1] ++ [])))))))) (fun x => (-9223372036854775808 ≤ x.1 ∧ x.1 ≤ 9223372036854775807) ∧ (-9223372036854775808 ≤ x.2.1 ∧ x.2.1 ≤ 9223372036854775807) ∧ (-9223372036854775808 ≤ x.2.2.1 ∧ x.2.2.1 ≤ 9223372036854775807) ∧ (-9223372036854775808 ≤ x.2.2.2.1 ∧ x.2.2.2.1 ≤ 9223372036854775807) ∧ (-9223372036854775808 ≤ x.2.2.2.2.1 ∧ x.2.2.2.2.1 ≤ 9223372036854775807) ∧ (-9223372036854775808 ≤ x.2.2.2.2.2.1 ∧ x.2.2.2.2.2.1 ≤ 9223372036854775807) ∧ (-9223372036854775808 ≤ x.2.2.2.2.2.2.1 ∧ x.2.2.2.2.2.2.1 ≤ 9223372036854775807) ∧ True) := 
  C0 Tryz.underlying23 rfl (by kernel_rfl) (RdF.cons br_at23_0 rd_3 (RdF.cons br_at23_1 rd_3 (RdF.cons br_at23_2 rd_3 (RdF.cons br_at23_3 rd_3 (RdF.cons br_at23_4 rd_3 (RdF.cons br_at23_5 rd_3 (RdF.cons br_at23_6 rd_3 RdF.nil)))))))
theorem rd_24 : Rd enc Tryz.prog w 24 (fun x : List Int => [L x]) (fun x => x.length ≤ maxLen ∧ ∀ y ∈ x, -9223372036854775808 ≤ y ∧ y ≤ 9223372036854775807) := 
  Rd.ints Tryz.underlying24 Tryz.underlying3 br_one24_3
theorem rd_71 : Rd enc Tryz.prog w 71 (fun x : Int × Int × Int × Int × Int × Int × Int × Unit => ([I x.1] ++ ([I x.2.1] ++ ([I x.2.2.1] ++ ([I x.2.2.2.1] ++ ([I x.2.2.2.2.1] ++ ([I x.2.2.2.2.2.1] ++ ([I x.2.2.2.2.2.2.1] ++ [])))))))) (fun x => (-9223372036854775808 ≤ x.1 ∧ x.1 ≤ 9223372036854775807) ∧ (-9223372036854775808 ≤ x.2.1 ∧ x.2.1 ≤ 9223372036854775807) ∧ (-9223372036854775808 ≤ x.2.2.1 ∧ x.2.2.1 ≤ 9223372036854775807) ∧ (-9223372036854775808 ≤ x.2.2.2.1 ∧ x.2.2.2.1 ≤ 9223372036854775807) ∧ (-9223372036854775808 ≤ x.2.2.2.2.1 ∧ x.2.2.2.2.1 ≤ 9223372036854775807) ∧ (-9223372036854775808 ≤ x.2.2.2.2.2.1 ∧ x.2.2.2.2.2.1 ≤ 9223372036854775807) ∧ (-9223372036854775808 ≤ x.2.2.2.2.2.2.1 ∧ x.2.2.2.2.2.2.1 ≤ 9223372036854775807) ∧ True) := 
  C0 Tryz.underlying71 rfl (by kernel_rfl) (RdF.cons br_at71_0 rd_3 (RdF.cons br_at71_1 rd_3 (RdF.cons br_at71_2 rd_3 (RdF.cons br_at71_3 rd_3 (RdF.cons br_at71_4 rd_3 (RdF.cons br_at71_5 rd_3 (RdF.cons br_at71_6 rd_3 RdF.nil)))))))
theorem rd_28 : Rd enc Tryz.prog w 28 (fun x : List (Int × Int × Int × Int × Int × Int × Int) => [.list x.length (x.flatMap fun y => [I y.1, I y.2.1, I y.2.2.1, I y.2.2.2.1, I y.2.2.2.2.1, I y.2.2.2.2.2.1, I y.2.2.2.2.2.2])]) (fun x => x.length ≤ maxLen) := 
  (Rd.slice Tryz.underlying28 br_pos71 rd_71).turn (List.map fun y => (y.1, y.2.1, y.2.2.1, y.2.2.2.1, y.2.2.2.2.1, y.2.2.2.2.2.1, y.2.2.2.2.2.2.1)) (fun xs => by simp [List.flatMap_map]) fun xs h => by simpa using h.1
theorem rd_30 : Rd enc Tryz.prog w 30 (fun x : Int × (List (Int × Int × Int × Int × Int × Int × Int)) × Unit => ([I x.1] ++ ([.list x.2.1.length (x.2.1.flatMap fun y => [I y.1, I y.2.1, I y.2.2.1, I y.2.2.2.1, I y.2.2.2.2.1, I y.2.2.2.2.2.1, I y.2.2.2.2.2.2])] ++ []))) (fun x => (-9223372036854775808 ≤ x.1 ∧ x.1 ≤ 9223372036854775807) ∧ (x.2.1.length ≤ maxLen) ∧ True) := 
  C0 Tryz.underlying30 rfl (by kernel_rfl) (RdF.cons br_at30_0 rd_3 (RdF.cons br_at30_1 rd_28 RdF.nil))
theorem rd_48 : Rd enc Tryz.prog w 48 (fun x : Int × Int × Int × Int × Int × Int × Unit => ([I x.1] ++ ([I x.2.1] ++ ([I x.2.2.1] ++ ([I x.2.2.2.1] ++ ([I x.2.2.2.2.1] ++ ([I x.2.2.2.2.2.1] ++ []))))))) (fun x => (-9223372036854775808 ≤ x.1 ∧ x.1 ≤ 9223372036854775807) ∧ (-9223372036854775808 ≤ x.2.1 ∧ x.2.1 ≤ 9223372036854775807) ∧ (-9223372036854775808 ≤ x.2.2.1 ∧ x.2.2.1 ≤ 9223372036854775807) ∧ (-9223372036854775808 ≤ x.2.2.2.1 ∧ x.2.2.2.1 ≤ 9223372036854775807) ∧ (-9223372036854775808 ≤ x.2.2.2.2.1 ∧ x.2.2.2.2.1 ≤ 9223372036854775807) ∧ (-9223372036854775808 ≤ x.2.2.2.2.2.1 ∧ x.2.2.2.2.2.1 ≤ 9223372036854775807) ∧ True) := 
  C0 Tryz.underlying48 rfl (by kernel_rfl) (RdF.cons br_at48_0 rd_3 (RdF.cons br_at48_1 rd_3 (RdF.cons br_at48_2 rd_3 (RdF.cons br_at48_3 rd_3 (RdF.cons br_at48_4 rd_3 (RdF.cons br_at48_5 rd_3 RdF.nil))))))
theorem rd_50 : Rd enc Tryz.prog w 50 (fun x : (Int × Int × Int × Int × Int × Int × Unit) × Int × Unit => (([I x.1.1] ++ ([I x.1.2.1] ++ ([I x.1.2.2.1] ++ ([I x.1.2.2.2.1] ++ ([I x.1.2.2.2.2.1] ++ ([I x.1.2.2.2.2.2.1] ++ [])))))) ++ ([I x.2.1] ++ []))) (fun x => ((-9223372036854775808 ≤ x.1.1 ∧ x.1.1 ≤ 9223372036854775807) ∧ (-9223372036854775808 ≤ x.1.2.1 ∧ x.1.2.1 ≤ 9223372036854775807) ∧ (-9223372036854775808 ≤ x.1.2.2.1 ∧ x.1.2.2.1 ≤ 9223372036854775807) ∧ (-9223372036854775808 ≤ x.1.2.2.2.1 ∧ x.1.2.2.2.1 ≤ 9223372036854775807) ∧ (-9223372036854775808 ≤ x.1.2.2.2.2.1 ∧ x.1.2.2.2.2.1 ≤ 9223372036854775807) ∧ (-9223372036854775808 ≤ x.1.2.2.2.2.2.1 ∧ x.1.2.2.2.2.2.1 ≤ 9223372036854775807) ∧ True) ∧ (-9223372036854775808 ≤ x.2.1 ∧ x.2.1 ≤ 9223372036854775807) ∧ True) := 
  C0 Tryz.underlying50 rfl (by kernel_rfl) (RdF.cons br_at50_0 rd_48 (RdF.cons br_at50_6 rd_3 RdF.nil))
theorem rd_69 : Rd enc Tryz.prog w 69 (fun x : (Int × Int × Int × Int × Int × Int × Unit) × Int × Unit => (([I x.1.1] ++ ([I x.1.2.1] ++ ([I x.1.2.2.1] ++ ([I x.1.2.2.2.1] ++ ([I x.1.2.2.2.2.1] ++ ([I x.1.2.2.2.2.2.1] ++ [])))))) ++ ([I x.2.1] ++ []))) (fun x => ((-9223372036854775808 ≤ x.1.1 ∧ x.1.1 ≤ 9223372036854775807) ∧ (-9223372036854775808 ≤ x.1.2.1 ∧ x.1.2.1 ≤ 9223372036854775807) ∧ (-9223372036854775808 ≤ x.1.2.2.1 ∧ x.1.2.2.1 ≤ 9223372036854775807) ∧ (-9223372036854775808 ≤ x.1.2.2.2.1 ∧ x.1.2.2.2.1 ≤ 9223372036854775807) ∧ (-9223372036854775808 ≤ x.1.2.2.2.2.1 ∧ x.1.2.2.2.2.1 ≤ 9223372036854775807) ∧ (-9223372036854775808 ≤ x.1.2.2.2.2.2.1 ∧ x.1.2.2.2.2.2.1 ≤ 9223372036854775807) ∧ True) ∧ (-9223372036854775808 ≤ x.2.1 ∧ x.2.1 ≤ 9223372036854775807) ∧ True) := 
  C0 Tryz.underlying69 rfl (by kernel_rfl) (RdF.cons br_at69_0 rd_48 (RdF.cons br_at69_6 rd_3 RdF.nil))
theorem rd_39 : Rd enc Tryz.prog w 39 (fun x : List (Int × Int × Int × Int × Int × Int) => [.list x.length (x.flatMap fun y => [I y.1, I y.2.1, I y.2.2.1, I y.2.2.2.1, I y.2.2.2.2.1, I y.2.2.2.2.2])]) (fun x => x.length ≤ maxLen) := 
  (Rd.slice Tryz.underlying39 br_pos48 rd_48).turn (List.map fun y => (y.1, y.2.1, y.2.2.1, y.2.2.2.1, y.2.2.2.2.1, y.2.2.2.2.2.1)) (fun xs => by simp [List.flatMap_map]) fun xs h => by simpa using h.1
end
theorem ex_4 {w : World} : Ex (fun _ => ()) Tryz.prog w 4 exB := Ex.bool Tryz.underlying4
theorem ex_215 {w : World} : Ex (fun _ => ()) Tryz.prog w 215 (exA exB) := Ex.struct (n := 4) Tryz.underlying215 (by kernel_rfl) (by kernel_rfl) ex_4
theorem ex_216 {w : World} : Ex (fun _ => ()) Tryz.prog w 216 (exA (exA exB)) := Ex.array Tryz.underlying216 (by kernel_rfl) ex_215
theorem ex_228 {w : World} : Ex (fun _ => ()) Tryz.prog w 228 exI := Ex.int Tryz.underlying228
theorem ex_243 {w : World} : Ex (fun _ => ()) Tryz.prog w 243 (exA exI) := Ex.array Tryz.underlying243 (by kernel_rfl) ex_228
theorem gi_of {W : World} (h : laidMetH Tryz.prog Rows.accessSleepsRow.laid W) : GI W.heap.size W (fun _ => True) :=
  GI.cons_of (List.forall_mem_cons.2 ⟨laid_cells (by kernel_rfl) h 3 rfl (by kernel_rfl) (by kernel_rfl) ex_216 (by first | rfl | kernel_rfl), List.forall_mem_cons.2 ⟨laid_cells (by kernel_rfl) h 2 rfl (by kernel_rfl) (by kernel_rfl) ex_243 (by first | rfl | kernel_rfl), List.forall_mem_nil _⟩⟩) rfl
/-- The heap that the door's own run leaves. -/
theorem door_met (os : Os) (args : Array Value) : laidMetH Tryz.prog Rows.accessSleepsRow.laid ((World.doorLaid Tryz.prog 400 os).forCall (fun _ _ => 0) ⟨#[], args, []⟩).memory :=
  laidMetH_of_parts3 (fuel := 8) (laidMet_of_run' 8 (by kernel_rfl) (by kernel_rfl)) (by kernel_rfl) (by kernel_rfl)
end Go.Proofs.YtbndgoeahoadlaaGreatDoor

namespace Go.Proofs.YtbndgoeahoadlaaGreatDoor.AccessPasses
open Go.PW Go.RowKit Go.ChangeShapes Go.WideShapes Go.ChangeAt Go.Sh
theorem call (Pr Ev Wi Wa Tr Ba Id a : Int) (l : List Ph) (k t p m s i xa : Int) : CallOK Tryz.prog 8 [.agg [I Pr, I Ev, I Wi, I Wa, I Tr, I Ba, I Id], .agg [I a, .list l.length (l.flatMap fun y => [I y.1, I y.2.1, I y.2.2.1, I y.2.2.2.1, I y.2.2.2.2.1, I y.2.2.2.2.2.1, I y.2.2.2.2.2.2])], .agg [I k, I t, I p, I m, I s, I i, I xa]] (.d (Bo true)) [] :=
  law07_AccessPasses_ok 30000 Pr Ev Wi Wa Tr Ba Id a l k t p m s i xa true (law_AccessPasses (by decide) a l k t p m s i xa)
set_option maxRecDepth 100000 in
theorem lifted (os : Os) (started : os.Started) (H : Type) (enc : TypeId × Value → H) :
    ReturnsInHanded {} Tryz.checked os 8 .any (fun w args => (Rows.accessPassesSpec.pre enc Tryz.prog Tryz.f8 [] false w args ∧ laidMetH Tryz.prog Rows.accessPassesRow.laid w) ∧ sizedMet enc Tryz.prog Tryz.f8 (OpenSpec.ofChange Rows.accessPassesSpec) false w args)
      (Rows.accessPassesSpec.post enc Tryz.prog Tryz.f8 false true false false) := by
  refine returnsInHanded_of_change_and (C := Tryz.checked) (X := fun w _ => laidMetH Tryz.prog Rows.accessPassesRow.laid w) (fun _ _ _ hh h => h.of_heap hh) br_own started (by kernel_rfl) Tryz.func8
    (ChangeSpec.witness_shaped (enc := enc) (C := Tryz.checked) (os := os) (X := fun w _ => laidMetH Tryz.prog Rows.accessPassesRow.laid w) false (World.doorLaid Tryz.prog 400 os) #[.agg #[.int .i64 0, .int .i64 0, .int .i64 0, .int .i64 0, .int .i64 0, .int .i64 0, .int .i64 0], .agg #[.int .i64 0, .slice none 0 0], .agg #[.int .i64 0, .int .i64 0, .int .i64 0, .int .i64 0, .int .i64 0, .int .i64 0, .int .i64 0]] 8 rfl (World.shaped_of_RefB (by kernel_rfl) (by kernel_rfl)) (by kernel_rfl) (by kernel_rfl) (by kernel_rfl) (door_met os _)) ?_
  intro W base args ds gs before hval0 hW _ _ hL _
  have hval : ∀ (j : Nat) t v, Tryz.f8.params[j]? = some t → args[j]? = some v → Value.okWide Tryz.prog W .any base t v := hval0
  have hW' := hW
  obtain ⟨p, q, hA0, _, _, _, _⟩ := hW
  have hA : DataW.TrodAll enc Tryz.prog W 0 (fun _ => true) true Tryz.f8.params.toList args.toList ds p := hA0
  rw [Tryz.params8] at hA hval
  obtain ⟨v0, v1, v2, d0, d1, d2, p0, p1, p2, rfl, rfl, _, h0, h1, h2⟩ := trodAll_three hA
  obtain ⟨x0, r0, g0⟩ := rd_23.agg h0 (hval 0 23 v0 rfl rfl) (is_agg_struct Tryz.underlying23 base)
  obtain ⟨x1, r1, g1⟩ := rd_30.agg h1 (hval 1 30 v1 rfl rfl) (is_agg_struct Tryz.underlying30 base)
  obtain ⟨x2, r2, g2⟩ := rd_69.agg h2 (hval 2 69 v2 rfl rfl) (is_agg_struct Tryz.underlying69 base)
  exact law_post br_laid (by rw [Tryz.params8]; decide) (by kernel_rfl) Tryz.underlying4 rfl (fun gs' hg => by subst hg; exact ⟨rfl, rfl, rfl⟩) hW' (call x0.1 x0.2.1 x0.2.2.1 x0.2.2.2.1 x0.2.2.2.2.1 x0.2.2.2.2.2.1 x0.2.2.2.2.2.2.1 x1.1 x1.2.1 x2.1.1 x2.1.2.1 x2.1.2.2.1 x2.1.2.2.2.1 x2.1.2.2.2.2.1 x2.1.2.2.2.2.2.1 x2.2.1)
    ⟨_, _, rfl, r0, _, _, rfl, r1, _, _, rfl, r2, rfl⟩ (gi_of hL)

theorem row_holds : Rows.AccessPassesSaid :=
  OpenClaim.holds_of_wide 8 Tryz.f8 rfl rfl rfl rfl rfl rfl rfl ⟨rfl, rfl, rfl, rfl, rfl⟩ rfl rfl rfl rfl rfl (by kernel_rfl) Tryz.func8 (by kernel_rfl)
    (of_decide_eq_true (by kernel_rfl)) (by unfold Func.isWrapper; first | (rw [if_pos (by decide +kernel)]; kernel_rfl) | (rw [if_neg (by decide +kernel)]; exact ⟨rfl, rfl⟩))
    (fun os started H enc _ => lifted os started H enc)
theorem holds : Rows.AccessPassesCardSaid :=
  Claim7.holds_tied_plain_at .later [] [.data, .data, .data, .data] true Rows.accessPassesCard.stood.harness false
    row_holds (fun _ h => by cases h) (by kernel_rfl) (fun _ h => by cases h) accessPasses_row_tie rfl ⟨rfl, rfl⟩ (by kernel_rfl) rfl
    (fun f fn hf hfn => by
      obtain rfl : f = 8 := Option.some.inj ((show Tryz.prog.funcNamed Rows.accessPassesRow.func = some 8 by kernel_rfl).symm.trans hf) |>.symm
      obtain rfl : fn = Tryz.f8 := (Option.some.inj (Tryz.func8.symm.trans hfn)).symm
      exact ⟨by kernel_rfl, fun j t ht => by
        rw [Tryz.params8] at ht
        match j, ht with
        | 0, ht => simp at ht; subst ht; exact (show Tryz.prog.wantsStandIn 23 = false by kernel_rfl)
        | 1, ht => simp at ht; subst ht; exact (show Tryz.prog.wantsStandIn 30 = false by kernel_rfl)
        | 2, ht => simp at ht; subst ht; exact (show Tryz.prog.wantsStandIn 69 = false by kernel_rfl)
        | j + 3, ht => simp at ht⟩)
    (by kernel_rfl)
#print axioms holds
end Go.Proofs.YtbndgoeahoadlaaGreatDoor.AccessPasses
