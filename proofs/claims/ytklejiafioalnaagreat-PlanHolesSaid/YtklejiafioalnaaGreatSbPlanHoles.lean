/-
  The statement 'PlanHolesSaid' is proved, for every input, without a condition: the function 'PlanHoles' returns true, and its arguments read as they did.
-/
import Derived.Test.YtklejiafioalnaaGreatBrZ
import Derived.Test.YtklejiafioalnaaGreatZsW5
import Derived.Test.YtklejiafioalnaaGreatPlain
set_option linter.all false
namespace Go.Proofs.YtklejiafioalnaaGreat.PlanHoles
open Go.PW Go.RowKit Go.ChangeShapes Go.WideShapes Go.ChangeAt Go.Sh
theorem call (rows : List (List Int)) (cells : List (ByteArray × Int × Int × Int × Int × Int × Int)) (losses : List (Int × Int)) (h s l : Int) : CallOK Tryz.prog 4 [.agg [LL rows, .list cells.length (cells.flatMap fun y => [Sx y.1, I y.2.1, I y.2.2.1, I y.2.2.2.1, I y.2.2.2.2.1, I y.2.2.2.2.2.1, I y.2.2.2.2.2.2]), .list losses.length (losses.flatMap fun y => [I y.1, I y.2]), I h, I s, I l]] (.d (Bo true)) [] :=
  law09_PlanHoles_ok 1000 rows cells losses h s l true (law_PlanHoles (by decide) (by decide) rows cells losses h s l)
set_option maxRecDepth 100000 in
theorem lifted (os : Os) (started : os.Started) (H : Type) (enc : TypeId × Value → H) :
    ReturnsInHanded {} Tryz.checked os 4 .any (Rows.planHolesSpec.pre6 enc Tryz.prog Tryz.f4 Rows.planHolesRow.domain false) (Rows.planHolesSpec.post enc Tryz.prog Tryz.f4 false true false false) := by
  refine returnsInHanded_of_change (C := Tryz.checked) br_own started (by kernel_rfl) Tryz.func4
    (ChangeSpec.witness6 (enc := enc) (C := Tryz.checked) false ⟨#[], #[.agg #[.slice none 0 0, .slice none 0 0, .slice none 0 0, .int .i64 0, .int .i64 0, .int .i64 0]], []⟩ 8 (by kernel_rfl) (by kernel_rfl) (by kernel_rfl) (by kernel_rfl)) ?_
  intro W base args ds gs before hval0 hW _ _
  have hval : ∀ (j : Nat) t v, Tryz.f4.params[j]? = some t → args[j]? = some v → Value.okWide Tryz.prog W .any base t v := hval0
  have hW' := hW
  obtain ⟨p, q, hA0, _, _, _, _⟩ := hW
  have hA : DataW.TrodAll enc Tryz.prog W 0 (fun _ => true) true Tryz.f4.params.toList args.toList ds p := hA0
  rw [Tryz.params4] at hA hval
  obtain ⟨v0, d0, rfl, rfl, h0⟩ := trodAll_one hA
  obtain ⟨x0, r0, g0⟩ := rd_28.agg h0 (hval 0 28 v0 rfl rfl) (is_agg_struct Tryz.underlying28 base)
  exact law_post br_laid (by rw [Tryz.params4]; decide) (by kernel_rfl) Tryz.underlying4 rfl (fun gs' hg => by subst hg; exact ⟨rfl, rfl, rfl⟩) hW' (call x0.1.1 x0.2.1 x0.2.2.1 x0.2.2.2.1 x0.2.2.2.2.1 x0.2.2.2.2.2.1)
    ⟨_, _, rfl, r0, rfl⟩

theorem holds : Rows.PlanHolesSaid :=
  OpenClaim.holds_of_wide 4 Tryz.f4 rfl rfl rfl rfl rfl rfl rfl ⟨rfl, rfl, rfl, rfl, rfl⟩ rfl rfl rfl rfl rfl (by kernel_rfl) Tryz.func4 (by kernel_rfl)
    (of_decide_eq_true (by kernel_rfl)) (by unfold Func.isWrapper; first | (rw [if_pos (by decide +kernel)]; kernel_rfl) | (rw [if_neg (by decide +kernel)]; exact ⟨rfl, rfl⟩))
    (fun os started H enc _ => lifted os started H enc)
#print axioms holds
end Go.Proofs.YtklejiafioalnaaGreat.PlanHoles
