/-
  The statement 'PlanRootsSaid' is proved, for every input, without a condition: the function 'PlanRoots' returns true, and its arguments read as they did.
-/
import Derived.Test.YtklejiafioalnaaBrN
import Derived.Test.YtklejiafioalnaaNsW10
import Derived.Test.YtklejiafioalnaaPlain
set_option linter.all false
namespace Go.Proofs.Ytklejiafioalnaa.PlanRoots
open Go.PW Go.RowKit Go.ChangeShapes Go.WideShapes Go.ChangeAt Go.Sh
theorem call (c : Int) (ps : List (Int × Int)) (nd F : List Int) (al : Int) : CallOK Try.prog 9 [.agg [I c, .list ps.length (ps.flatMap fun y => [I y.1, I y.2])], .agg [L nd, L F], I al] (.d (Bo true)) [] :=
  law09_PlanRoots_ok 1000 c ps nd F al true (law_PlanRoots (by decide) (by decide) c ps nd F al)
set_option maxRecDepth 100000 in
theorem lifted (os : Os) (started : os.Started) (H : Type) (enc : TypeId × Value → H) :
    ReturnsInHanded {} Try.checked os 9 .any (Rows.planRootsSpec.pre6 enc Try.prog Try.f9 Rows.planRootsRow.domain false) (Rows.planRootsSpec.post enc Try.prog Try.f9 false true false false) := by
  refine returnsInHanded_of_change (C := Try.checked) br_own started (by kernel_rfl) Try.func9
    (ChangeSpec.witness6 (enc := enc) (C := Try.checked) false ⟨#[], #[.agg #[.int .i64 0, .slice none 0 0], .agg #[.slice none 0 0, .slice none 0 0], .int .i64 0], []⟩ 8 (by kernel_rfl) (by kernel_rfl) (by kernel_rfl) (by kernel_rfl)) ?_
  intro W base args ds gs before hval0 hW _ _
  have hval : ∀ (j : Nat) t v, Try.f9.params[j]? = some t → args[j]? = some v → Value.okWide Try.prog W .any base t v := hval0
  have hW' := hW
  obtain ⟨p, q, hA0, _, _, _, _⟩ := hW
  have hA : DataW.TrodAll enc Try.prog W 0 (fun _ => true) true Try.f9.params.toList args.toList ds p := hA0
  rw [Try.params9] at hA hval
  obtain ⟨v0, v1, v2, d0, d1, d2, p0, p1, p2, rfl, rfl, _, h0, h1, h2⟩ := trodAll_three hA
  obtain ⟨x0, r0, g0⟩ := rd_24.agg h0 (hval 0 24 v0 rfl rfl) (is_agg_struct Try.underlying24 base)
  obtain ⟨x1, r1, g1⟩ := rd_83.agg h1 (hval 1 83 v1 rfl rfl) (is_agg_struct Try.underlying83 base)
  obtain ⟨x2, r2, g2⟩ := rd_3.one h2 (hval 2 3 v2 rfl rfl) (no_agg_int Try.underlying3 base)
  exact law_post br_laid (by rw [Try.params9]; decide) (by kernel_rfl) Try.underlying4 rfl (fun gs' hg => by subst hg; exact ⟨rfl, rfl, rfl⟩) hW' (call x0.1 x0.2.1 x1.1 x1.2.1 x2)
    ⟨_, _, rfl, r0, _, _, rfl, r1, _, _, rfl, r2, rfl⟩

theorem holds : Rows.PlanRootsSaid :=
  OpenClaim.holds_of_wide 9 Try.f9 rfl rfl rfl rfl rfl rfl rfl ⟨rfl, rfl, rfl, rfl, rfl⟩ rfl rfl rfl rfl rfl (by kernel_rfl) Try.func9 (by kernel_rfl)
    (of_decide_eq_true (by kernel_rfl)) (by unfold Func.isWrapper; first | (rw [if_pos (by decide +kernel)]; kernel_rfl) | (rw [if_neg (by decide +kernel)]; exact ⟨rfl, rfl⟩))
    (fun os started H enc _ => lifted os started H enc)
#print axioms holds
end Go.Proofs.Ytklejiafioalnaa.PlanRoots
