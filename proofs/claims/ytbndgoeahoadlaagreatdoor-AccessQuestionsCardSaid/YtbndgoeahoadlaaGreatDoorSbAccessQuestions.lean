/-
  The tied card 'AccessQuestionsCardSaid' is proved: the function 'AccessQuestions' returns true for every input, and its arguments read as they did; the listed package variables start as the text of the program lays them.
-/
import Derived.Test.YtbndgoeahoadlaaGreatDoorBrAs
import Derived.Test.YtbndgoeahoadlaaGreatDoorAsW6
import Derived.Test.YtbndgoeahoadlaaGreatDoorPlain
import Derived.Test.YtbndgoeahoadlaaGreatDoorCards
import Derived.Test.YtbndgoeahoadlaaGreatDoorTie
import Derived.OpenShut
import Derived.Stop.Joined
set_option linter.all false
namespace Go.Proofs.YtbndgoeahoadlaaGreatDoor.AccessQuestions
open Go.PW Go.RowKit Go.ChangeShapes Go.WideShapes Go.ChangeAt Go.Sh
theorem call (Pr Ev Wi Wa Tr Ba Id a : Int) (l : List Ph) (t n : Int) : CallOK Tryz.prog 13 [.agg [I Pr, I Ev, I Wi, I Wa, I Tr, I Ba, I Id], .agg [I a, .list l.length (l.flatMap fun y => [I y.1, I y.2.1, I y.2.2.1, I y.2.2.2.1, I y.2.2.2.2.1, I y.2.2.2.2.2.1, I y.2.2.2.2.2.2])], .agg [I t, I n]] (.d (Bo true)) [] :=
  law07_AccessQuestions_ok 30000 Pr Ev Wi Wa Tr Ba Id a l t n true (law_AccessQuestions (by decide) a l t n)
set_option maxRecDepth 100000 in
theorem lifted (os : Os) (started : os.Started) (H : Type) (enc : TypeId × Value → H) :
    ReturnsInHanded {} Tryz.checked os 13 .any (fun w args => (Rows.accessQuestionsSpec.pre enc Tryz.prog Tryz.f13 [] false w args ∧ laidMetH Tryz.prog Rows.accessQuestionsRow.laid w) ∧ sizedMet enc Tryz.prog Tryz.f13 (OpenSpec.ofChange Rows.accessQuestionsSpec) false w args)
      (Rows.accessQuestionsSpec.post enc Tryz.prog Tryz.f13 false true false false) := by
  refine returnsInHanded_of_change_and (C := Tryz.checked) (X := fun w _ => laidMetH Tryz.prog Rows.accessQuestionsRow.laid w) (fun _ _ _ hh h => h.of_heap hh) br_own started (by kernel_rfl) Tryz.func13
    (ChangeSpec.witness_shaped (enc := enc) (C := Tryz.checked) (os := os) (X := fun w _ => laidMetH Tryz.prog Rows.accessQuestionsRow.laid w) false (World.doorLaid Tryz.prog 400 os) #[.agg #[.int .i64 0, .int .i64 0, .int .i64 0, .int .i64 0, .int .i64 0, .int .i64 0, .int .i64 0], .agg #[.int .i64 0, .slice none 0 0], .agg #[.int .i64 0, .int .i64 0]] 8 rfl (World.shaped_of_RefB (by kernel_rfl) (by kernel_rfl)) (by kernel_rfl) (by kernel_rfl) (by kernel_rfl) (door_met os _)) ?_
  intro W base args ds gs before hval0 hW _ _ hL _
  have hval : ∀ (j : Nat) t v, Tryz.f13.params[j]? = some t → args[j]? = some v → Value.okWide Tryz.prog W .any base t v := hval0
  have hW' := hW
  obtain ⟨p, q, hA0, _, _, _, _⟩ := hW
  have hA : DataW.TrodAll enc Tryz.prog W 0 (fun _ => true) true Tryz.f13.params.toList args.toList ds p := hA0
  rw [Tryz.params13] at hA hval
  obtain ⟨v0, v1, v2, d0, d1, d2, p0, p1, p2, rfl, rfl, _, h0, h1, h2⟩ := trodAll_three hA
  obtain ⟨x0, r0, g0⟩ := rd_23.agg h0 (hval 0 23 v0 rfl rfl) (is_agg_struct Tryz.underlying23 base)
  obtain ⟨x1, r1, g1⟩ := rd_30.agg h1 (hval 1 30 v1 rfl rfl) (is_agg_struct Tryz.underlying30 base)
  obtain ⟨x2, r2, g2⟩ := rd_100.agg h2 (hval 2 100 v2 rfl rfl) (is_agg_array Tryz.underlying100 base)
  exact law_post br_laid (by rw [Tryz.params13]; decide) (by kernel_rfl) Tryz.underlying4 rfl (fun gs' hg => by subst hg; exact ⟨rfl, rfl, rfl⟩) hW' (call x0.1 x0.2.1 x0.2.2.1 x0.2.2.2.1 x0.2.2.2.2.1 x0.2.2.2.2.2.1 x0.2.2.2.2.2.2.1 x1.1 x1.2.1 x2.1 x2.2.1)
    ⟨_, _, rfl, r0, _, _, rfl, r1, _, _, rfl, r2, rfl⟩ (gi_of hL)

theorem row_holds : Rows.AccessQuestionsSaid :=
  OpenClaim.holds_of_wide 13 Tryz.f13 rfl rfl rfl rfl rfl rfl rfl ⟨rfl, rfl, rfl, rfl, rfl⟩ rfl rfl rfl rfl rfl (by kernel_rfl) Tryz.func13 (by kernel_rfl)
    (of_decide_eq_true (by kernel_rfl)) (by unfold Func.isWrapper; first | (rw [if_pos (by decide +kernel)]; kernel_rfl) | (rw [if_neg (by decide +kernel)]; exact ⟨rfl, rfl⟩))
    (fun os started H enc _ => lifted os started H enc)
theorem holds : Rows.AccessQuestionsCardSaid :=
  Claim7.holds_tied_plain_at .later [] [.data, .data, .data, .data] true Rows.accessQuestionsCard.stood.harness false
    row_holds (fun _ h => by cases h) (by kernel_rfl) (fun _ h => by cases h) accessQuestions_row_tie rfl ⟨rfl, rfl⟩ (by kernel_rfl) rfl
    (fun f fn hf hfn => by
      obtain rfl : f = 13 := Option.some.inj ((show Tryz.prog.funcNamed Rows.accessQuestionsRow.func = some 13 by kernel_rfl).symm.trans hf) |>.symm
      obtain rfl : fn = Tryz.f13 := (Option.some.inj (Tryz.func13.symm.trans hfn)).symm
      exact ⟨by kernel_rfl, fun j t ht => by
        rw [Tryz.params13] at ht
        match j, ht with
        | 0, ht => simp at ht; subst ht; exact (show Tryz.prog.wantsStandIn 23 = false by kernel_rfl)
        | 1, ht => simp at ht; subst ht; exact (show Tryz.prog.wantsStandIn 30 = false by kernel_rfl)
        | 2, ht => simp at ht; subst ht; exact (show Tryz.prog.wantsStandIn 100 = false by kernel_rfl)
        | j + 3, ht => simp at ht⟩)
    (by kernel_rfl)
#print axioms holds
end Go.Proofs.YtbndgoeahoadlaaGreatDoor.AccessQuestions
