/-
  The statement 'SchedLoopsSaid' is proved, for every input, without a condition: the function 'SchedLoops' returns true, and its arguments read as they did.
-/
import Derived.Test.YtabojpkmfkjjkaaBrT
import Derived.Test.YtabojpkmfkjjkaaSsW18
import Derived.Test.YtabojpkmfkjjkaaPlain
set_option linter.all false
namespace Go.Proofs.Ytabojpkmfkjjkaa.SchedLoops
open Go.PW Go.RowKit Go.ChangeShapes Go.WideShapes Go.ChangeAt Go.Sh
theorem call (o u d lo hi : Int) (l : List Bool) : CallOK Try.prog 10 [.agg [I o, I u, I d, I lo, I hi], .list l.length (l.flatMap fun y => [Bo y])] (.d (Bo true)) [] := by
  have e : (l.flatMap fun y => [Bo y]) = l.map Bo := by induction l with
    | nil => rfl
    | cons a l ih => rw [List.flatMap_cons, ih]; rfl
  rw [e]
  exact law06_SchedLoops_ok 5000 o u d lo hi l true (law_SchedLoops (by decide) (by decide) awake_true o u d lo hi l)
set_option maxRecDepth 100000 in
theorem lifted (os : Os) (started : os.Started) (H : Type) (enc : TypeId × Value → H) :
    ReturnsInHanded {} Try.checked os 10 .any (Rows.schedLoopsSpec.pre6 enc Try.prog Try.f10 Rows.schedLoopsRow.domain false) (Rows.schedLoopsSpec.post enc Try.prog Try.f10 false true false false) := by
  refine returnsInHanded_of_change (C := Try.checked) br_own started (by kernel_rfl) Try.func10
    (ChangeSpec.witness6 (enc := enc) (C := Try.checked) false ⟨#[], #[.agg #[.int .i64 0, .int .i64 0, .int .i64 0, .int .i64 0, .int .i64 0], .slice none 0 0], []⟩ 8 (by kernel_rfl) (by kernel_rfl) (by kernel_rfl) (by kernel_rfl)) ?_
  intro W base args ds gs before hval0 hW _ _
  have hval : ∀ (j : Nat) t v, Try.f10.params[j]? = some t → args[j]? = some v → Value.okWide Try.prog W .any base t v := hval0
  have hW' := hW
  obtain ⟨p, q, hA0, _, _, _, _⟩ := hW
  have hA : DataW.TrodAll enc Try.prog W 0 (fun _ => true) true Try.f10.params.toList args.toList ds p := hA0
  rw [Try.params10] at hA hval
  obtain ⟨v0, v1, d0, d1, p0, p1, rfl, rfl, _, h0, h1⟩ := trodAll_two hA
  obtain ⟨x0, r0, g0⟩ := rd_96.agg h0 (hval 0 96 v0 rfl rfl) (is_agg_struct Try.underlying96 base)
  obtain ⟨x1, r1, g1⟩ := rd_97.one h1 (hval 1 97 v1 rfl rfl) (no_agg_slice Try.underlying97 base)
  exact law_post br_laid (by rw [Try.params10]; decide) (by kernel_rfl) Try.underlying4 rfl (fun gs' hg => by subst hg; exact ⟨rfl, rfl, rfl⟩) hW' (call x0.1 x0.2.1 x0.2.2.1 x0.2.2.2.1.1 x0.2.2.2.1.2.1 x1)
    ⟨_, _, rfl, r0, _, _, rfl, r1, rfl⟩

theorem holds : Rows.SchedLoopsSaid :=
  OpenClaim.holds_of_wide 10 Try.f10 rfl rfl rfl rfl rfl rfl rfl ⟨rfl, rfl, rfl, rfl, rfl⟩ rfl rfl rfl rfl rfl (by kernel_rfl) Try.func10 (by kernel_rfl)
    (of_decide_eq_true (by kernel_rfl)) (by unfold Func.isWrapper; first | (rw [if_pos (by decide +kernel)]; kernel_rfl) | (rw [if_neg (by decide +kernel)]; exact ⟨rfl, rfl⟩))
    (fun os started H enc _ => lifted os started H enc)
#print axioms holds
end Go.Proofs.Ytabojpkmfkjjkaa.SchedLoops
