/-
  The bridge of this seat: types as data. (For the rows of the code chapter.)
-/
import Derived.Test.YtikelkndldaejaaPwY
import Derived.Test.YtikelkndldaejaaCsBase
import Derived.Test.YtikelkndldaejaaRows
set_option linter.all false
namespace Go.Proofs.Ytikelkndldaejaa
open Go.PW Go.RowKit Go.ChangeShapes Go.WideShapes Go.ChangeAt
theorem br_own : ownKnob Try.prog.godebug = none := by kernel_rfl
theorem br_laid : laidOutB Try.prog = true := by kernel_rfl
theorem br_cells3 : Try.prog.cellsOf 3 = 1 := by kernel_rfl
theorem br_cells22 : Try.prog.cellsOf 22 = 1 := by kernel_rfl

theorem br_at_0_3 : 1 = 0 + Try.prog.cellsOf 3 := by kernel_rfl
theorem br_at_1_22 : 2 = 1 + Try.prog.cellsOf 22 := by kernel_rfl
section
variable {H : Type} {enc : TypeId × Value → H} {w : World}
theorem rd_3 : Rd enc Try.prog w 3 (fun n : Int => [I n]) (fun n => -9223372036854775808 ≤ n ∧ n ≤ 9223372036854775807) := Rd.i64 Try.underlying3
theorem rd_22 : Rd enc Try.prog w 22 (fun xs : List Int => [L xs]) (fun xs => xs.length ≤ maxLen ∧ ∀ n ∈ xs, -9223372036854775808 ≤ n ∧ n ≤ 9223372036854775807) := Rd.ints Try.underlying22 Try.underlying3 br_cells3
theorem rd_24 : Rd enc Try.prog w 24 (fun x : Int × List Int × Unit => [I x.1] ++ ([L x.2.1] ++ [])) (fun x => (-9223372036854775808 ≤ x.1 ∧ x.1 ≤ 9223372036854775807) ∧ (x.2.1.length ≤ maxLen ∧ ∀ n ∈ x.2.1, -9223372036854775808 ≤ n ∧ n ≤ 9223372036854775807) ∧ True) :=
  Rd.struct Try.underlying24 rfl (by kernel_rfl) (RdF.cons br_at_0_3 rd_3 (RdF.cons br_at_1_22 rd_22 RdF.nil))
end
end Go.Proofs.Ytikelkndldaejaa
