/-
  The statement 'SchedKeptSaid' is proved, for every input, without a condition: the function 'SchedKept' returns true, and its arguments read as they did.
-/
import Derived.Test.YtabojpkmfkjjkaaBrS
import Derived.Test.YtabojpkmfkjjkaaSsW11
import Derived.Test.YtabojpkmfkjjkaaPlain
set_option linter.all false
namespace Go.Proofs.Ytabojpkmfkjjkaa.SchedKept
open Go.PW Go.RowKit Go.ChangeShapes Go.WideShapes Go.ChangeAt Go.Sh
theorem call (b c p : Int) (t : List Int) (l : List j5) (sl : List (List Int × List Int)) : CallOK Try.prog 14 [.agg [I b, I c, I p, L t], .list l.length (l.flatMap fun y => [Sx y.1, I y.2.1, I y.2.2.1, I y.2.2.2.1, I y.2.2.2.2.1, I y.2.2.2.2.2.1, I y.2.2.2.2.2.2.1, I y.2.2.2.2.2.2.2.1, I y.2.2.2.2.2.2.2.2]), .list sl.length (sl.flatMap fun y => [L y.1, L y.2])] (.d (Bo true)) [] :=
  law06_SchedKept_ok 5000 b c p t l sl true (law_SchedKept (by decide) (by decide) awake_true b c p t l sl)
set_option maxRecDepth 100000 in
theorem lifted (os : Os) (started : os.Started) (H : Type) (enc : TypeId × Value → H) :
    ReturnsInHanded {} Try.checked os 14 .any (Rows.schedKeptSpec.pre6 enc Try.prog Try.f14 Rows.schedKeptRow.domain false) (Rows.schedKeptSpec.post enc Try.prog Try.f14 false true false false) := by
  refine returnsInHanded_of_change (C := Try.checked) br_own started (by kernel_rfl) Try.func14
    (ChangeSpec.witness6 (enc := enc) (C := Try.checked) false ⟨#[], #[.agg #[.int .i64 0, .int .i64 0, .int .i64 0, .slice none 0 0], .slice none 0 0, .slice none 0 0], []⟩ 8 (by kernel_rfl) (by kernel_rfl) (by kernel_rfl) (by kernel_rfl)) ?_
  intro W base args ds gs before hval0 hW _ _
  have hval : ∀ (j : Nat) t v, Try.f14.params[j]? = some t → args[j]? = some v → Value.okWide Try.prog W .any base t v := hval0
  have hW' := hW
  obtain ⟨p, q, hA0, _, _, _, _⟩ := hW
  have hA : DataW.TrodAll enc Try.prog W 0 (fun _ => true) true Try.f14.params.toList args.toList ds p := hA0
  rw [Try.params14] at hA hval
  obtain ⟨v0, v1, v2, d0, d1, d2, p0, p1, p2, rfl, rfl, _, h0, h1, h2⟩ := trodAll_three hA
  obtain ⟨x0, r0, g0⟩ := rd_24.agg h0 (hval 0 24 v0 rfl rfl) (is_agg_struct Try.underlying24 base)
  obtain ⟨x1, r1, g1⟩ := rd_25.one h1 (hval 1 25 v1 rfl rfl) (no_agg_slice Try.underlying25 base)
  obtain ⟨x2, r2, g2⟩ := rd_47.one h2 (hval 2 47 v2 rfl rfl) (no_agg_slice Try.underlying47 base)
  exact law_post br_laid (by rw [Try.params14]; decide) (by kernel_rfl) Try.underlying4 rfl (fun gs' hg => by subst hg; exact ⟨rfl, rfl, rfl⟩) hW' (call x0.1 x0.2.1 x0.2.2.1 x0.2.2.2.1 x1 x2)
    ⟨_, _, rfl, r0, _, _, rfl, r1, _, _, rfl, r2, rfl⟩

theorem holds : Rows.SchedKeptSaid :=
  OpenClaim.holds_of_wide 14 Try.f14 rfl rfl rfl rfl rfl rfl rfl ⟨rfl, rfl, rfl, rfl, rfl⟩ rfl rfl rfl rfl rfl (by kernel_rfl) Try.func14 (by kernel_rfl)
    (of_decide_eq_true (by kernel_rfl)) (by unfold Func.isWrapper; first | (rw [if_pos (by decide +kernel)]; kernel_rfl) | (rw [if_neg (by decide +kernel)]; exact ⟨rfl, rfl⟩))
    (fun os started H enc _ => lifted os started H enc)
#print axioms holds
end Go.Proofs.Ytabojpkmfkjjkaa.SchedKept
