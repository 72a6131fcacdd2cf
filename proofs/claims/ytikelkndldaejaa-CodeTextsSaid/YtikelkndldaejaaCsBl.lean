/-
  The seat's strings.Builder: its copy check, and its string, as the kit's contracts tell it.
-/
import Derived.Shelf.Strings.Builder1
import Derived.Lib.Strings
import Derived.Lib.Slices
import Derived.Lib.Walk
import Derived.Lib.AppendStr
import Derived.Lib.MakeNoZero
import Derived.WalkKit
import Derived.Laws.Externs
import Derived.Laws.IdiomCopy
import Derived.Laws.BitsLemmas
import Derived.Test.YtikelkndldaejaaCsTy
import Derived.Test.YtikelkndldaejaaPwBl
set_option linter.all false
namespace Go.Proofs.Ytikelkndldaejaa
open Go.RowKit
theorem infoBld : (Try.prog.info? 147).map (·.size) = some 2 := by kernel_rfl
theorem liesBld : liesAt Try.prog Try.prog.depth 147 (2 / Try.prog.cellsOf 147) 0 147 1 = true := by kernel_rfl
set_option maxHeartbeats 1000000 in
set_option maxRecDepth 100000 in
theorem copyCheck_used (b : Nat) (w : World) (h0 : w.cell? ⟨b, 0, none⟩ = some (.pointer (some ⟨b, 0, none⟩))) :
    Calls Try.prog 150 #[.pointer (some ⟨b, 0, none⟩)] w fun e w' => e = .returned (.tuple #[]) ∧ w' = w := by
  obtain ⟨j, hj, _⟩ := Option.map_eq_some_iff.1 infoBld
  have mixed := mixed
  have t72 := Try.underlying147; have a72 := Try.isAgg147; have z72 := Try.sizeOf147; have v72 := Try.zeroValue147; have u72 := run_underlying Try.underlying147
  have t70 := Try.underlying144; have a70 := Try.isAgg144; have z70 := Try.sizeOf144; have v70 := Try.zeroValue144; have u70 := run_underlying Try.underlying144
  have t4 := Try.underlying4; have a4 := Try.isAgg4; have z4 := Try.sizeOf4; have v4 := Try.zeroValue4; have u4 := run_underlying Try.underlying4
  have t164 := Try.underlying184; have a164 := Try.isAgg184; have z164 := Try.sizeOf184; have v164 := Try.zeroValue184; have u164 := run_underlying Try.underlying184
  go_enter Try.func150, Try.ntmps150
  go_wp2
  rw [Lib.run_neq_ptr_same w _ Try.underlying144 hj]
  go_wp2
  go_end0
  exact ⟨rfl, rfl⟩
set_option maxHeartbeats 1000000 in
set_option maxRecDepth 100000 in
theorem copyCheck_fresh (b : Nat) (w : World) (h0 : w.cell? ⟨b, 0, none⟩ = some (.pointer none)) (hsh : w.shape? b = some (147, 2)) (hfz : w.frozen? ⟨b, 0, none⟩ = false) :
    Calls Try.prog 150 #[.pointer (some ⟨b, 0, none⟩)] w fun e w' => e = .returned (.tuple #[]) ∧ w' = w.setCell ⟨b, 0, none⟩ (.pointer (some ⟨b, 0, none⟩)) := by
  obtain ⟨j, hj, hjs⟩ := Option.map_eq_some_iff.1 infoBld
  have mixed := mixed
  have t72 := Try.underlying147; have a72 := Try.isAgg147; have z72 := Try.sizeOf147; have v72 := Try.zeroValue147; have u72 := run_underlying Try.underlying147
  have t70 := Try.underlying144; have a70 := Try.isAgg144; have z70 := Try.sizeOf144; have v70 := Try.zeroValue144; have u70 := run_underlying Try.underlying144
  have t4 := Try.underlying4; have a4 := Try.isAgg4; have z4 := Try.sizeOf4; have v4 := Try.zeroValue4; have u4 := run_underlying Try.underlying4
  have t164 := Try.underlying184; have a164 := Try.isAgg184; have z164 := Try.sizeOf184; have v164 := Try.zeroValue184; have u164 := run_underlying Try.underlying184
  go_enter Try.func150, Try.ntmps150
  go_wp2
  rw [Lib.run_to_unsafe w ⟨b, 0, none⟩ Try.underlying144 Try.underlying184 hj (by rw [hjs]; decide) hsh (Nat.zero_lt_succ 1)]
  simp only [Result.andThen]
  rw [Oper.upon_value]
  go_wp2
  rw [run_callFunc_extern Try.func168 (by kernel_rfl) (by kernel_rfl) (by kernel_rfl) (e := Extern.AbiNoEscape.same) (by kernel_rfl)]
  rw [Lib.run_noEscape]
  simp only [Result.andThen]
  rw [Oper.upon_value]
  go_wp2
  rw [Lib.run_from_unsafe w ⟨b, 0, none⟩ Try.underlying184 Try.underlying144 hj hsh liesBld]
  simp only [Result.andThen]
  rw [Oper.upon_value]
  go_wp2
  go_end0
  exact ⟨rfl, rfl⟩
theorem copyCheckOK : Go.PW.CopyOK Try.prog 150 147 := ⟨Try.call150, copyCheck_used, copyCheck_fresh⟩
def ren115 : Go.Shelf.Ren := ⟨fun | 169 => 115 | n => n, fun | 70 => 144 | 9 => 9 | 0 => 0 | 72 => 147 | 37 => 145 | 127 => 175 | 3 => 3 | 5 => 5 | n => n, fun n => n⟩
theorem lays115 : Go.Proofs.Lays.n169 Try.prog ren115 := {
  mixed := mixed,
  f169 := Try.func115.trans (congrArg some (by kernel_rfl)),
  t0 := Try.underlying0,
  a0 := Try.isAgg0,
  z0 := Try.sizeOf0,
  v0 := Try.zeroValue0,
  t3 := Try.underlying3,
  a3 := Try.isAgg3,
  z3 := Try.sizeOf3,
  v3 := Try.zeroValue3,
  t9 := Try.underlying9,
  a9 := Try.isAgg9,
  z9 := Try.sizeOf9,
  v9 := Try.zeroValue9,
  t37 := Try.underlying145,
  a37 := Try.isAgg145,
  z37 := Try.sizeOf145,
  v37 := Try.zeroValue145,
  t70 := Try.underlying144,
  a70 := Try.isAgg144,
  z70 := Try.sizeOf144,
  v70 := Try.zeroValue144,
  t72 := Try.underlying147,
  a72 := Try.isAgg147,
  z72 := Try.sizeOf147,
  v72 := Try.zeroValue147,
  t127 := Try.underlying175,
  a127 := Try.isAgg175,
  z127 := Try.sizeOf175,
  v127 := Try.zeroValue175 }
theorem extra115 : Go.Proofs.Builder.Extra Try.prog ren115 := {
  sizeBuilder := by kernel_rfl,
  liesBuilder := by kernel_rfl,
  t5 := Try.underlying5,
  a5 := Try.isAgg5,
  z5 := Try.sizeOf5,
  v5 := Try.zeroValue5,
  infoByte := by kernel_rfl,
  cellsByte := by kernel_rfl,
  sizeByte := by kernel_rfl,
  neB5 := by decide }
theorem stringOK : Go.PW.StringOK Try.prog 115 147 5 := ⟨Try.call115, fun B b l w h hB => Go.Proofs.Any.Builder_String_any lays115 extra115 B b l w h hB⟩
end Go.Proofs.Ytikelkndldaejaa
