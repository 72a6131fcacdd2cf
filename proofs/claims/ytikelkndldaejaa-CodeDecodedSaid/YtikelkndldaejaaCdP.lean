/-
  The statement 'CodeDecodedSaid' is proved, for every input, without a condition: the function 'CodeDecoded' returns true, and its arguments read as they did.
-/
import Derived.Test.YtikelkndldaejaaBrA
import Derived.Test.YtikelkndldaejaaCsW2
import Derived.Test.YtikelkndldaejaaPlain
set_option linter.all false
namespace Go.Proofs.Ytikelkndldaejaa.CodeDecoded
open Go.PW Go.RowKit Go.ChangeShapes Go.WideShapes Go.ChangeAt Go.Sh

theorem call (p : Int) (info bits sizes : List Int) (h2 : ∀ n ∈ sizes, -9223372036854775808 ≤ n ∧ n ≤ 9223372036854775807) :
    CallOK Try.prog 3 [.agg [I p, L info], L bits, L sizes] (.d (Bo true)) [] := by
  refine law02_CodeDecoded_ok 2000 p info bits sizes true (law_CodeDecoded p info bits sizes (fun i hi => ?_) (by decide))
  rw [getD_eq hi]
  exact h2 _ (List.getElem_mem hi)

set_option maxRecDepth 100000 in
theorem lifted (os : Os) (started : os.Started) (H : Type) (enc : TypeId × Value → H) :
    ReturnsInHanded {} Try.checked os 3 .any (Rows.codeDecodedSpec.pre6 enc Try.prog Try.f3 Rows.codeDecodedRow.domain false) (Rows.codeDecodedSpec.post enc Try.prog Try.f3 false true false false) := by
  refine returnsInHanded_of_change (C := Try.checked) br_own started (by kernel_rfl) Try.func3
    (ChangeSpec.witness6 (enc := enc) (C := Try.checked) false ⟨#[], #[.agg #[.int .i64 0, .slice none 0 0], .slice none 0 0, .slice none 0 0], []⟩ 8 (by kernel_rfl) (by kernel_rfl) (by kernel_rfl) (by kernel_rfl)) ?_
  intro W base args ds gs before hval0 hW _ _
  have hval : ∀ (j : Nat) t v, Try.f3.params[j]? = some t → args[j]? = some v → Value.okWide Try.prog W .any base t v := hval0
  have hW' := hW
  obtain ⟨p, q, hA0, _, _, _, _⟩ := hW
  have hA : DataW.TrodAll enc Try.prog W 0 (fun _ => true) true Try.f3.params.toList args.toList ds p := hA0
  rw [Try.params3] at hA hval
  obtain ⟨v0, v1, v2, d0, d1, d2, p0, p1, p2, rfl, rfl, _, h0, h1, h2⟩ := trodAll_three hA
  obtain ⟨x0, r0, g0⟩ := rd_24.agg h0 (hval 0 24 v0 rfl rfl) (is_agg_struct Try.underlying24 base)
  obtain ⟨x1, r1, g1⟩ := rd_22.one h1 (hval 1 22 v1 rfl rfl) (no_agg_slice Try.underlying22 base)
  obtain ⟨x2, r2, g2⟩ := rd_22.one h2 (hval 2 22 v2 rfl rfl) (no_agg_slice Try.underlying22 base)
  exact law_post br_laid (by rw [Try.params3]; decide) (by kernel_rfl) Try.underlying4 rfl (fun gs' hg => by subst hg; exact ⟨rfl, rfl, rfl⟩) hW' (call x0.1 x0.2.1 x1 x2 g2.2)
    ⟨_, _, rfl, r0, _, _, rfl, r1, _, _, rfl, r2, rfl⟩

theorem code_decoded_holds : Rows.CodeDecodedSaid :=
  OpenClaim.holds_of_wide 3 Try.f3 rfl rfl rfl rfl rfl rfl rfl ⟨rfl, rfl, rfl, rfl, rfl⟩ rfl rfl rfl rfl rfl (by kernel_rfl) Try.func3 (by kernel_rfl)
    (of_decide_eq_true (by kernel_rfl)) (by unfold Func.isWrapper; first | (rw [if_pos (by decide +kernel)]; kernel_rfl) | (rw [if_neg (by decide +kernel)]; exact ⟨rfl, rfl⟩))
    (fun os started H enc _ => lifted os started H enc)
#print axioms code_decoded_holds
end Go.Proofs.Ytikelkndldaejaa.CodeDecoded
