/-
  The statement 'CodeTextsSaid' is proved, for every input, without a condition: the function 'CodeTexts' returns true, and its arguments read as they did.
-/
import Derived.Test.YtikelkndldaejaaBrA
import Derived.Test.YtikelkndldaejaaCsW3
import Derived.Test.YtikelkndldaejaaPlain
set_option linter.all false
namespace Go.Proofs.Ytikelkndldaejaa.CodeTexts
open Go.PW Go.RowKit Go.ChangeShapes Go.WideShapes Go.ChangeAt Go.Sh
theorem call (l : List Int) (s : ByteArray) : CallOK Try.prog 5 [L l, Sx s] (.d (Bo true)) [] :=
  law02_CodeTexts_ok 3000 l s true (law_CodeTexts l s (by decide))
set_option maxRecDepth 100000 in
theorem lifted (os : Os) (started : os.Started) (H : Type) (enc : TypeId × Value → H) :
    ReturnsInHanded {} Try.checked os 5 .any (Rows.codeTextsSpec.pre6 enc Try.prog Try.f5 Rows.codeTextsRow.domain false) (Rows.codeTextsSpec.post enc Try.prog Try.f5 false true false false) := by
  refine returnsInHanded_of_change (C := Try.checked) br_own started (by kernel_rfl) Try.func5
    (ChangeSpec.witness6 (enc := enc) (C := Try.checked) false ⟨#[], #[.slice none 0 0, .string ⟨#[]⟩], []⟩ 8 (by kernel_rfl) (by kernel_rfl) (by kernel_rfl) (by kernel_rfl)) ?_
  intro W base args ds gs before hval0 hW _ _
  have hval : ∀ (j : Nat) t v, Try.f5.params[j]? = some t → args[j]? = some v → Value.okWide Try.prog W .any base t v := hval0
  have hW' := hW
  obtain ⟨p, q, hA0, _, _, _, _⟩ := hW
  have hA : DataW.TrodAll enc Try.prog W 0 (fun _ => true) true Try.f5.params.toList args.toList ds p := hA0
  rw [Try.params5] at hA hval
  obtain ⟨v0, v1, d0, d1, p0, p1, rfl, rfl, _, h0, h1⟩ := trodAll_two hA
  obtain ⟨x0, r0, g0⟩ := rd_22.one h0 (hval 0 22 v0 rfl rfl) (no_agg_slice Try.underlying22 base)
  obtain ⟨x1, r1, g1⟩ := rd_9.one h1 (hval 1 9 v1 rfl rfl) (no_agg_string Try.underlying9 base)
  exact law_post br_laid (by rw [Try.params5]; decide) (by kernel_rfl) Try.underlying4 rfl (fun gs' hg => by subst hg; exact ⟨rfl, rfl, rfl⟩) hW' (call x0 x1)
    ⟨_, _, rfl, r0, _, _, rfl, r1, rfl⟩

theorem holds : Rows.CodeTextsSaid :=
  OpenClaim.holds_of_wide 5 Try.f5 rfl rfl rfl rfl rfl rfl rfl ⟨rfl, rfl, rfl, rfl, rfl⟩ rfl rfl rfl rfl rfl (by kernel_rfl) Try.func5 (by kernel_rfl)
    (of_decide_eq_true (by kernel_rfl)) (by unfold Func.isWrapper; first | (rw [if_pos (by decide +kernel)]; kernel_rfl) | (rw [if_neg (by decide +kernel)]; exact ⟨rfl, rfl⟩))
    (fun os started H enc _ => lifted os started H enc)
#print axioms holds
end Go.Proofs.Ytikelkndldaejaa.CodeTexts
