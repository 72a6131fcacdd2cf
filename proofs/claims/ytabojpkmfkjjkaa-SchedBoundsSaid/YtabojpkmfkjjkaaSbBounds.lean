/-
  The statement 'SchedBoundsSaid' is proved, for every input, without a condition: the function 'SchedBounds' returns true, and its arguments read as they did.
-/
import Derived.Test.YtabojpkmfkjjkaaBrS
import Derived.Test.YtabojpkmfkjjkaaSsW12
import Derived.Test.YtabojpkmfkjjkaaPlain
set_option linter.all false
namespace Go.Proofs.Ytabojpkmfkjjkaa.SchedBounds
open Go.PW Go.RowKit Go.ChangeShapes Go.WideShapes Go.ChangeAt Go.Sh
theorem call (r : List (List Int)) (w : List Int) (t : List Int) : CallOK Try.prog 12 [LL r, L w, L t] (.d (Bo true)) [] :=
  law06_SchedBounds_ok 5000 r w t true (law_SchedBounds (by decide) (by decide) awake_true r w t)
set_option maxRecDepth 100000 in
theorem lifted (os : Os) (started : os.Started) (H : Type) (enc : TypeId × Value → H) :
    ReturnsInHanded {} Try.checked os 12 .any (Rows.schedBoundsSpec.pre6 enc Try.prog Try.f12 Rows.schedBoundsRow.domain false) (Rows.schedBoundsSpec.post enc Try.prog Try.f12 false true false false) := by
  refine returnsInHanded_of_change (C := Try.checked) br_own started (by kernel_rfl) Try.func12
    (ChangeSpec.witness6 (enc := enc) (C := Try.checked) false ⟨#[], #[.slice none 0 0, .slice none 0 0, .slice none 0 0], []⟩ 8 (by kernel_rfl) (by kernel_rfl) (by kernel_rfl) (by kernel_rfl)) ?_
  intro W base args ds gs before hval0 hW _ _
  have hval : ∀ (j : Nat) t v, Try.f12.params[j]? = some t → args[j]? = some v → Value.okWide Try.prog W .any base t v := hval0
  have hW' := hW
  obtain ⟨p, q, hA0, _, _, _, _⟩ := hW
  have hA : DataW.TrodAll enc Try.prog W 0 (fun _ => true) true Try.f12.params.toList args.toList ds p := hA0
  rw [Try.params12] at hA hval
  obtain ⟨v0, v1, v2, d0, d1, d2, p0, p1, p2, rfl, rfl, _, h0, h1, h2⟩ := trodAll_three hA
  obtain ⟨x0, r0, g0⟩ := rd_50.one h0 (hval 0 50 v0 rfl rfl) (no_agg_slice Try.underlying50 base)
  obtain ⟨x1, r1, g1⟩ := rd_22.one h1 (hval 1 22 v1 rfl rfl) (no_agg_slice Try.underlying22 base)
  obtain ⟨x2, r2, g2⟩ := rd_22.one h2 (hval 2 22 v2 rfl rfl) (no_agg_slice Try.underlying22 base)
  exact law_post br_laid (by rw [Try.params12]; decide) (by kernel_rfl) Try.underlying4 rfl (fun gs' hg => by subst hg; exact ⟨rfl, rfl, rfl⟩) hW' (call x0 x1 x2)
    ⟨_, _, rfl, r0, _, _, rfl, r1, _, _, rfl, r2, rfl⟩

theorem holds : Rows.SchedBoundsSaid :=
  OpenClaim.holds_of_wide 12 Try.f12 rfl rfl rfl rfl rfl rfl rfl ⟨rfl, rfl, rfl, rfl, rfl⟩ rfl rfl rfl rfl rfl (by kernel_rfl) Try.func12 (by kernel_rfl)
    (of_decide_eq_true (by kernel_rfl)) (by unfold Func.isWrapper; first | (rw [if_pos (by decide +kernel)]; kernel_rfl) | (rw [if_neg (by decide +kernel)]; exact ⟨rfl, rfl⟩))
    (fun os started H enc _ => lifted os started H enc)
#print axioms holds
end Go.Proofs.Ytabojpkmfkjjkaa.SchedBounds
