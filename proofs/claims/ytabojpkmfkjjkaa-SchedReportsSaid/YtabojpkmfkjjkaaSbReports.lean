/-
  The statement 'SchedReportsSaid' is proved, for every input, without a condition: the function 'SchedReports' returns true, and its arguments read as they did.
-/
import Derived.Test.YtabojpkmfkjjkaaBrT
import Derived.Test.YtabojpkmfkjjkaaSsW19
import Derived.Test.YtabojpkmfkjjkaaPlain
set_option linter.all false
namespace Go.Proofs.Ytabojpkmfkjjkaa.SchedReports
open Go.PW Go.RowKit Go.ChangeShapes Go.WideShapes Go.ChangeAt Go.Sh
theorem call (b c p : Int) (t : List Int) (o u d lo hi r : Int) (l : List Bool) : CallOK Try.prog 13 [.agg [I b, I c, I p, L t], .agg [I o, I u, I d, I lo, I hi], .agg [I r, .list l.length (l.flatMap fun y => [Bo y])]] (.d (Bo true)) [] := by
  have e : (l.flatMap fun y => [Bo y]) = l.map Bo := by induction l with
    | nil => rfl
    | cons a l ih => rw [List.flatMap_cons, ih]; rfl
  rw [e]
  exact law06_SchedReports_ok 5000 b c p t o u d lo hi r l true (law_SchedReports (by decide) (by decide) awake_true b c p t o u d lo hi r l)
set_option maxRecDepth 100000 in
theorem lifted (os : Os) (started : os.Started) (H : Type) (enc : TypeId × Value → H) :
    ReturnsInHanded {} Try.checked os 13 .any (Rows.schedReportsSpec.pre6 enc Try.prog Try.f13 Rows.schedReportsRow.domain false) (Rows.schedReportsSpec.post enc Try.prog Try.f13 false true false false) := by
  refine returnsInHanded_of_change (C := Try.checked) br_own started (by kernel_rfl) Try.func13
    (ChangeSpec.witness6 (enc := enc) (C := Try.checked) false ⟨#[], #[.agg #[.int .i64 0, .int .i64 0, .int .i64 0, .slice none 0 0], .agg #[.int .i64 0, .int .i64 0, .int .i64 0, .int .i64 0, .int .i64 0], .agg #[.int .i64 0, .slice none 0 0]], []⟩ 8 (by kernel_rfl) (by kernel_rfl) (by kernel_rfl) (by kernel_rfl)) ?_
  intro W base args ds gs before hval0 hW _ _
  have hval : ∀ (j : Nat) t v, Try.f13.params[j]? = some t → args[j]? = some v → Value.okWide Try.prog W .any base t v := hval0
  have hW' := hW
  obtain ⟨p, q, hA0, _, _, _, _⟩ := hW
  have hA : DataW.TrodAll enc Try.prog W 0 (fun _ => true) true Try.f13.params.toList args.toList ds p := hA0
  rw [Try.params13] at hA hval
  obtain ⟨v0, v1, v2, d0, d1, d2, p0, p1, p2, rfl, rfl, _, h0, h1, h2⟩ := trodAll_three hA
  obtain ⟨x0, r0, g0⟩ := rd_24.agg h0 (hval 0 24 v0 rfl rfl) (is_agg_struct Try.underlying24 base)
  obtain ⟨x1, r1, g1⟩ := rd_96.agg h1 (hval 1 96 v1 rfl rfl) (is_agg_struct Try.underlying96 base)
  obtain ⟨x2, r2, g2⟩ := rd_112.agg h2 (hval 2 112 v2 rfl rfl) (is_agg_struct Try.underlying112 base)
  exact law_post br_laid (by rw [Try.params13]; decide) (by kernel_rfl) Try.underlying4 rfl (fun gs' hg => by subst hg; exact ⟨rfl, rfl, rfl⟩) hW' (call x0.1 x0.2.1 x0.2.2.1 x0.2.2.2.1 x1.1 x1.2.1 x1.2.2.1 x1.2.2.2.1.1 x1.2.2.2.1.2.1 x2.1 x2.2.1)
    ⟨_, _, rfl, r0, _, _, rfl, r1, _, _, rfl, r2, rfl⟩

theorem holds : Rows.SchedReportsSaid :=
  OpenClaim.holds_of_wide 13 Try.f13 rfl rfl rfl rfl rfl rfl rfl ⟨rfl, rfl, rfl, rfl, rfl⟩ rfl rfl rfl rfl rfl (by kernel_rfl) Try.func13 (by kernel_rfl)
    (of_decide_eq_true (by kernel_rfl)) (by unfold Func.isWrapper; first | (rw [if_pos (by decide +kernel)]; kernel_rfl) | (rw [if_neg (by decide +kernel)]; exact ⟨rfl, rfl⟩))
    (fun os started H enc _ => lifted os started H enc)
#print axioms holds
end Go.Proofs.Ytabojpkmfkjjkaa.SchedReports
