/-
  The statement 'TopCodeRecoveredSaid' is proved, for every input, without a condition: the function 'TopCodeRecovered' returns true, and its arguments read as they did.
-/
import Derived.Test.YtikelkndldaejaaBrA
import Derived.Test.YtikelkndldaejaaCsW7
import Derived.Test.YtikelkndldaejaaPlain
set_option linter.all false
namespace Go.Proofs.Ytikelkndldaejaa.TopCodeRecovered
open Go.PW Go.RowKit Go.ChangeShapes Go.WideShapes Go.ChangeAt Go.Sh
theorem call (d t p : Int) (info : List Int) (cnt : Int) (l vs sizes : List Int) : CallOK Try.prog 15 [.agg [I d, I t, I p, L info, I cnt], L l, .agg [L vs, L sizes]] (.d (Bo true)) [] :=
  top_TopCodeRecovered_ok 3000 d t p info cnt l vs sizes true (law_TopCodeRecovered d t p info cnt l vs sizes (by decide))
set_option maxRecDepth 100000 in
theorem lifted (os : Os) (started : os.Started) (H : Type) (enc : TypeId × Value → H) :
    ReturnsInHanded {} Try.checked os 15 .any (Rows.topCodeRecoveredSpec.pre6 enc Try.prog Try.f15 Rows.topCodeRecoveredRow.domain false) (Rows.topCodeRecoveredSpec.post enc Try.prog Try.f15 false true false false) := by
  refine returnsInHanded_of_change (C := Try.checked) br_own started (by kernel_rfl) Try.func15
    (ChangeSpec.witness6 (enc := enc) (C := Try.checked) false ⟨#[], #[.agg #[.int .i64 0, .int .i64 0, .int .i64 0, .slice none 0 0, .int .i64 0], .slice none 0 0, .agg #[.slice none 0 0, .slice none 0 0]], []⟩ 8 (by kernel_rfl) (by kernel_rfl) (by kernel_rfl) (by kernel_rfl)) ?_
  intro W base args ds gs before hval0 hW _ _
  have hval : ∀ (j : Nat) t v, Try.f15.params[j]? = some t → args[j]? = some v → Value.okWide Try.prog W .any base t v := hval0
  have hW' := hW
  obtain ⟨p, q, hA0, _, _, _, _⟩ := hW
  have hA : DataW.TrodAll enc Try.prog W 0 (fun _ => true) true Try.f15.params.toList args.toList ds p := hA0
  rw [Try.params15] at hA hval
  obtain ⟨v0, v1, v2, d0, d1, d2, p0, p1, p2, rfl, rfl, _, h0, h1, h2⟩ := trodAll_three hA
  obtain ⟨x0, r0, g0⟩ := rd_68.agg h0 (hval 0 68 v0 rfl rfl) (is_agg_struct Try.underlying68 base)
  obtain ⟨x1, r1, g1⟩ := rd_22.one h1 (hval 1 22 v1 rfl rfl) (no_agg_slice Try.underlying22 base)
  obtain ⟨x2, r2, g2⟩ := rd_127.agg h2 (hval 2 127 v2 rfl rfl) (is_agg_struct Try.underlying127 base)
  exact law_post br_laid (by rw [Try.params15]; decide) (by kernel_rfl) Try.underlying4 rfl (fun gs' hg => by subst hg; exact ⟨rfl, rfl, rfl⟩) hW' (call x0.1.1 x0.1.2.1 x0.2.1.1 x0.2.1.2.1 x0.2.2.1 x1 x2.1 x2.2.1)
    ⟨_, _, rfl, r0, _, _, rfl, r1, _, _, rfl, r2, rfl⟩

theorem holds : Rows.TopCodeRecoveredSaid :=
  OpenClaim.holds_of_wide 15 Try.f15 rfl rfl rfl rfl rfl rfl rfl ⟨rfl, rfl, rfl, rfl, rfl⟩ rfl rfl rfl rfl rfl (by kernel_rfl) Try.func15 (by kernel_rfl)
    (of_decide_eq_true (by kernel_rfl)) (by unfold Func.isWrapper; first | (rw [if_pos (by decide +kernel)]; kernel_rfl) | (rw [if_neg (by decide +kernel)]; exact ⟨rfl, rfl⟩))
    (fun os started H enc _ => lifted os started H enc)
#print axioms holds
end Go.Proofs.Ytikelkndldaejaa.TopCodeRecovered
