/-
  The tied card 'TopAccessAlikeCardSaid' is proved: the function 'TopAccessAlike' returns true for every input, and its arguments read as they did; the listed package variables start as the text of the program lays them.
-/
import Derived.Test.YtbndgoeahoadlaaDoorBrDs
import Derived.Test.YtbndgoeahoadlaaDoorDsW1
import Derived.Test.YtbndgoeahoadlaaDoorPlain
import Derived.Test.YtbndgoeahoadlaaDoorCards
import Derived.Test.YtbndgoeahoadlaaDoorTie
import Derived.OpenShut
import Derived.Stop.Joined
set_option linter.all false
namespace Go.Proofs.YtbndgoeahoadlaaDoor.TopAccessAlike
open Go.PW Go.RowKit Go.ChangeShapes Go.WideShapes Go.ChangeAt Go.Sh
theorem call (C F O P a b aw z w : Int) : CallOK Tryd.prog 3 [.agg [I C, I F, I O, I P], .agg [I a, I b], .agg [I aw, I z, I w]] (.d (Bo true)) [] :=
  top_TopAccessAlike_ok 30000 C F O P a b aw z w true (law_TopAccessAlike (by decide) a b aw z w)
set_option maxRecDepth 100000 in
theorem lifted (os : Os) (started : os.Started) (H : Type) (enc : TypeId × Value → H) :
    ReturnsInHanded {} Tryd.checked os 3 .any (fun w args => (Rows.topAccessAlikeSpec.pre enc Tryd.prog Tryd.f3 [] false w args ∧ laidMetH Tryd.prog Rows.topAccessAlikeRow.laid w) ∧ sizedMet enc Tryd.prog Tryd.f3 (OpenSpec.ofChange Rows.topAccessAlikeSpec) false w args)
      (Rows.topAccessAlikeSpec.post enc Tryd.prog Tryd.f3 false true false false) := by
  refine returnsInHanded_of_change_and (C := Tryd.checked) (X := fun w _ => laidMetH Tryd.prog Rows.topAccessAlikeRow.laid w) (fun _ _ _ hh h => h.of_heap hh) br_own started (by kernel_rfl) Tryd.func3
    (ChangeSpec.witness_shaped (enc := enc) (C := Tryd.checked) (os := os) (X := fun w _ => laidMetH Tryd.prog Rows.topAccessAlikeRow.laid w) false (World.doorLaid Tryd.prog 400 os) #[.agg #[.int .i64 0, .int .i64 0, .int .i64 0, .int .i64 0], .agg #[.int .i64 0, .int .i64 0], .agg #[.int .i64 0, .int .i64 0, .int .i64 0]] 8 rfl (World.shaped_of_RefB (by kernel_rfl) (by kernel_rfl)) (by kernel_rfl) (by kernel_rfl) (by kernel_rfl) (door_met os _)) ?_
  intro W base args ds gs before hval0 hW _ _ hL _
  have hval : ∀ (j : Nat) t v, Tryd.f3.params[j]? = some t → args[j]? = some v → Value.okWide Tryd.prog W .any base t v := hval0
  have hW' := hW
  obtain ⟨p, q, hA0, _, _, _, _⟩ := hW
  have hA : DataW.TrodAll enc Tryd.prog W 0 (fun _ => true) true Tryd.f3.params.toList args.toList ds p := hA0
  rw [Tryd.params3] at hA hval
  obtain ⟨v0, v1, v2, d0, d1, d2, p0, p1, p2, rfl, rfl, _, h0, h1, h2⟩ := trodAll_three hA
  obtain ⟨x0, r0, g0⟩ := rd_23.agg h0 (hval 0 23 v0 rfl rfl) (is_agg_struct Tryd.underlying23 base)
  obtain ⟨x1, r1, g1⟩ := rd_24.agg h1 (hval 1 24 v1 rfl rfl) (is_agg_array Tryd.underlying24 base)
  obtain ⟨x2, r2, g2⟩ := rd_26.agg h2 (hval 2 26 v2 rfl rfl) (is_agg_struct Tryd.underlying26 base)
  exact law_post br_laid (by rw [Tryd.params3]; decide) (by kernel_rfl) Tryd.underlying4 rfl (fun gs' hg => by subst hg; exact ⟨rfl, rfl, rfl⟩) hW' (call x0.1 x0.2.1 x0.2.2.1 x0.2.2.2.1 x1.1 x1.2.1 x2.1 x2.2.1 x2.2.2.1)
    ⟨_, _, rfl, r0, _, _, rfl, r1, _, _, rfl, r2, rfl⟩ (gi_of hL)

theorem row_holds : Rows.TopAccessAlikeSaid :=
  OpenClaim.holds_of_wide 3 Tryd.f3 rfl rfl rfl rfl rfl rfl rfl ⟨rfl, rfl, rfl, rfl, rfl⟩ rfl rfl rfl rfl rfl (by kernel_rfl) Tryd.func3 (by kernel_rfl)
    (of_decide_eq_true (by kernel_rfl)) (by unfold Func.isWrapper; first | (rw [if_pos (by decide +kernel)]; kernel_rfl) | (rw [if_neg (by decide +kernel)]; exact ⟨rfl, rfl⟩))
    (fun os started H enc _ => lifted os started H enc)
theorem holds : Rows.TopAccessAlikeCardSaid :=
  Claim7.holds_tied_plain_at .later [] [.data, .data, .data] true Rows.topAccessAlikeCard.stood.harness false
    row_holds (fun _ h => by cases h) (by kernel_rfl) (fun _ h => by cases h) topAccessAlike_row_tie rfl ⟨rfl, rfl⟩ (by kernel_rfl) rfl
    (fun f fn hf hfn => by
      obtain rfl : f = 3 := Option.some.inj ((show Tryd.prog.funcNamed Rows.topAccessAlikeRow.func = some 3 by kernel_rfl).symm.trans hf) |>.symm
      obtain rfl : fn = Tryd.f3 := (Option.some.inj (Tryd.func3.symm.trans hfn)).symm
      exact ⟨by kernel_rfl, fun j t ht => by
        rw [Tryd.params3] at ht
        match j, ht with
        | 0, ht => simp at ht; subst ht; exact (show Tryd.prog.wantsStandIn 23 = false by kernel_rfl)
        | 1, ht => simp at ht; subst ht; exact (show Tryd.prog.wantsStandIn 24 = false by kernel_rfl)
        | 2, ht => simp at ht; subst ht; exact (show Tryd.prog.wantsStandIn 26 = false by kernel_rfl)
        | j + 3, ht => simp at ht⟩)
    (by kernel_rfl)
#print axioms holds
end Go.Proofs.YtbndgoeahoadlaaDoor.TopAccessAlike
