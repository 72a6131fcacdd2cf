/-
  The statement 'CodeBuffersSaid' is proved, for every input, without a condition: the function 'CodeBuffers' returns true, and its arguments read as they did.
-/
import Derived.Test.YtikelkndldaejaaBrA
import Derived.Test.YtikelkndldaejaaCsW5
import Derived.Test.YtikelkndldaejaaPlain
set_option linter.all false
namespace Go.Proofs.Ytikelkndldaejaa.CodeBuffers
open Go.PW Go.RowKit Go.ChangeShapes Go.WideShapes Go.ChangeAt Go.Sh
theorem call (n : Int) (ps : List (Int × Int × List Int)) (i t v : Int) (soft : List Int) (b0 b1 : Int) : CallOK Try.prog 10 [.agg [I n, .list ps.length (ps.flatMap fun y => [I y.1, I y.2.1, L y.2.2])], .agg [I i, I t, I v, L soft], .agg [I b0, I b1]] (.d (Bo true)) [] :=
  law02_CodeBuffers_ok 3000 n ps i t v soft b0 b1 true (law_CodeBuffers n ps i t v soft b0 b1 (by decide))
set_option maxRecDepth 100000 in
theorem lifted (os : Os) (started : os.Started) (H : Type) (enc : TypeId × Value → H) :
    ReturnsInHanded {} Try.checked os 10 .any (Rows.codeBuffersSpec.pre6 enc Try.prog Try.f10 Rows.codeBuffersRow.domain false) (Rows.codeBuffersSpec.post enc Try.prog Try.f10 false true false false) := by
  refine returnsInHanded_of_change (C := Try.checked) br_own started (by kernel_rfl) Try.func10
    (ChangeSpec.witness6 (enc := enc) (C := Try.checked) false ⟨#[], #[.agg #[.int .i64 0, .slice none 0 0], .agg #[.int .i64 0, .int .i64 0, .int .i64 0, .slice none 0 0], .agg #[.int .i64 0, .int .i64 0]], []⟩ 8 (by kernel_rfl) (by kernel_rfl) (by kernel_rfl) (by kernel_rfl)) ?_
  intro W base args ds gs before hval0 hW _ _
  have hval : ∀ (j : Nat) t v, Try.f10.params[j]? = some t → args[j]? = some v → Value.okWide Try.prog W .any base t v := hval0
  have hW' := hW
  obtain ⟨p, q, hA0, _, _, _, _⟩ := hW
  have hA : DataW.TrodAll enc Try.prog W 0 (fun _ => true) true Try.f10.params.toList args.toList ds p := hA0
  rw [Try.params10] at hA hval
  obtain ⟨v0, v1, v2, d0, d1, d2, p0, p1, p2, rfl, rfl, _, h0, h1, h2⟩ := trodAll_three hA
  obtain ⟨x0, r0, g0⟩ := rd_78.agg h0 (hval 0 78 v0 rfl rfl) (is_agg_struct Try.underlying78 base)
  obtain ⟨x1, r1, g1⟩ := rd_80.agg h1 (hval 1 80 v1 rfl rfl) (is_agg_struct Try.underlying80 base)
  obtain ⟨x2, r2, g2⟩ := rd_64.agg h2 (hval 2 64 v2 rfl rfl) (is_agg_array Try.underlying64 base)
  exact law_post br_laid (by rw [Try.params10]; decide) (by kernel_rfl) Try.underlying4 rfl (fun gs' hg => by subst hg; exact ⟨rfl, rfl, rfl⟩) hW' (call x0.1 x0.2.1 x1.1 x1.2.1 x1.2.2.1 x1.2.2.2.1 x2.1 x2.2.1)
    ⟨_, _, rfl, r0, _, _, rfl, r1, _, _, rfl, r2, rfl⟩

theorem holds : Rows.CodeBuffersSaid :=
  OpenClaim.holds_of_wide 10 Try.f10 rfl rfl rfl rfl rfl rfl rfl ⟨rfl, rfl, rfl, rfl, rfl⟩ rfl rfl rfl rfl rfl (by kernel_rfl) Try.func10 (by kernel_rfl)
    (of_decide_eq_true (by kernel_rfl)) (by unfold Func.isWrapper; first | (rw [if_pos (by decide +kernel)]; kernel_rfl) | (rw [if_neg (by decide +kernel)]; exact ⟨rfl, rfl⟩))
    (fun os started H enc _ => lifted os started H enc)
#print axioms holds
end Go.Proofs.Ytikelkndldaejaa.CodeBuffers
