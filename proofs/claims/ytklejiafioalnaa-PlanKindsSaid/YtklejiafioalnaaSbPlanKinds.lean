/-
  The statement 'PlanKindsSaid' is proved, for every input, without a condition: the function 'PlanKinds' returns true, and its arguments read as they did.
-/
import Derived.Test.YtklejiafioalnaaBrN
import Derived.Test.YtklejiafioalnaaNsW13
import Derived.Test.YtklejiafioalnaaPlain
set_option linter.all false
namespace Go.Proofs.Ytklejiafioalnaa.PlanKinds
open Go.PW Go.RowKit Go.ChangeShapes Go.WideShapes Go.ChangeAt Go.Sh
theorem call (c : Int) (ps : List (Int × Int)) (l : List Int) : CallOK Try.prog 4 [.agg [I c, .list ps.length (ps.flatMap fun y => [I y.1, I y.2])], L l] (.d (Bo true)) [] :=
  law09_PlanKinds_ok 1000 c ps l true (law_PlanKinds (by decide) (by decide) c ps l)
set_option maxRecDepth 100000 in
theorem lifted (os : Os) (started : os.Started) (H : Type) (enc : TypeId × Value → H) :
    ReturnsInHanded {} Try.checked os 4 .any (Rows.planKindsSpec.pre6 enc Try.prog Try.f4 Rows.planKindsRow.domain false) (Rows.planKindsSpec.post enc Try.prog Try.f4 false true false false) := by
  refine returnsInHanded_of_change (C := Try.checked) br_own started (by kernel_rfl) Try.func4
    (ChangeSpec.witness6 (enc := enc) (C := Try.checked) false ⟨#[], #[.agg #[.int .i64 0, .slice none 0 0], .slice none 0 0], []⟩ 8 (by kernel_rfl) (by kernel_rfl) (by kernel_rfl) (by kernel_rfl)) ?_
  intro W base args ds gs before hval0 hW _ _
  have hval : ∀ (j : Nat) t v, Try.f4.params[j]? = some t → args[j]? = some v → Value.okWide Try.prog W .any base t v := hval0
  have hW' := hW
  obtain ⟨p, q, hA0, _, _, _, _⟩ := hW
  have hA : DataW.TrodAll enc Try.prog W 0 (fun _ => true) true Try.f4.params.toList args.toList ds p := hA0
  rw [Try.params4] at hA hval
  obtain ⟨v0, v1, d0, d1, p0, p1, rfl, rfl, _, h0, h1⟩ := trodAll_two hA
  obtain ⟨x0, r0, g0⟩ := rd_24.agg h0 (hval 0 24 v0 rfl rfl) (is_agg_struct Try.underlying24 base)
  obtain ⟨x1, r1, g1⟩ := rd_25.one h1 (hval 1 25 v1 rfl rfl) (no_agg_slice Try.underlying25 base)
  exact law_post br_laid (by rw [Try.params4]; decide) (by kernel_rfl) Try.underlying4 rfl (fun gs' hg => by subst hg; exact ⟨rfl, rfl, rfl⟩) hW' (call x0.1 x0.2.1 x1)
    ⟨_, _, rfl, r0, _, _, rfl, r1, rfl⟩

theorem holds : Rows.PlanKindsSaid :=
  OpenClaim.holds_of_wide 4 Try.f4 rfl rfl rfl rfl rfl rfl rfl ⟨rfl, rfl, rfl, rfl, rfl⟩ rfl rfl rfl rfl rfl (by kernel_rfl) Try.func4 (by kernel_rfl)
    (of_decide_eq_true (by kernel_rfl)) (by unfold Func.isWrapper; first | (rw [if_pos (by decide +kernel)]; kernel_rfl) | (rw [if_neg (by decide +kernel)]; exact ⟨rfl, rfl⟩))
    (fun os started H enc _ => lifted os started H enc)
#print axioms holds
end Go.Proofs.Ytklejiafioalnaa.PlanKinds
