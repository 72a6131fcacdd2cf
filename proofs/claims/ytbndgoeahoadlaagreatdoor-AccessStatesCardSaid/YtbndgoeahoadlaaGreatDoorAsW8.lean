import Derived.Test.YtbndgoeahoadlaaGreatDoorAsBase
import Derived.Test.YtbndgoeahoadlaaGreatDoorAsY
import Derived.Test.YtbndgoeahoadlaaGreatDoorAsS2
import Derived.Test.YtbndgoeahoadlaaGreatDoorAsW0
import Derived.Test.YtbndgoeahoadlaaGreatDoorAsW2
import Derived.Test.YtbndgoeahoadlaaGreatDoorAsW7
set_option linter.all false
namespace Go.Proofs.YtbndgoeahoadlaaGreatDoor
open Go.PW Go.Sh
set_option maxRecDepth 20000 in
set_option maxHeartbeats 8000000 in
theorem access_eventErr_ok (N : Nat) (r_Preambles : Int) (r_Every : Int) (r_Window : Int) (r_Wait : Int) (r_Tries : Int) (r_Backoff : Int) (r_Identities : Int) (phones : Int) (e_Kind : Int) (e_At : Int) (e_Phone : Int) (e_Preamble : Int) (e_Sent : Int) (e_Identity : Int) (r : Int) (hrun : access_eventErr N r_Preambles r_Every r_Window r_Wait r_Tries r_Backoff r_Identities phones e_Kind e_At e_Phone e_Preamble e_Sent e_Identity = some r) : CallOK Tryz.prog 87 [(.agg [(I r_Preambles), (I r_Every), (I r_Window), (I r_Wait), (I r_Tries), (I r_Backoff), (I r_Identities)]), (I phones), (.agg [(I e_Kind), (I e_At), (I e_Phone), (I e_Preamble), (I e_Sent), (I e_Identity)])] (.d (I r)) [] := by
 refine CallOK.of_PW Tryz.func87 rfl (by rw [Tryz.results87]) Tryz.ntmps87 Tryz.call87 ?_
 change PW _ _ _ _ _
 try simp only [go_sem, ↓reduceIte, Nat.reduceEqDiff, Nat.reduceLT, Nat.reduceLeDiff, Nat.reduceAdd, Nat.reduceMul, Nat.reduceSub, Nat.reduceBEq]
 unfold access_eventErr at hrun
 refine PW.seq ?_
 refine PW.regionK fun K hK => ?_
 refine OW.run [1, 3, 5] ?_
 simp (config := { maxSteps := 2000000 }) only [go_sem, ↓reduceIte, Nat.reduceEqDiff, Nat.reduceLT, Nat.reduceLeDiff, Nat.reduceAdd, Nat.reduceMul, Nat.reduceSub, Nat.reduceBEq, Int.reduceToNat, and_assoc, sw0]
 refine OW.nil (hK _ ?_)
 clear hK K
 change PW _ _ _ _ _
 refine PW.seq ?_
 refine PW.seq ?_
 obtain ⟨x1, e1, hrun⟩ := bnd_some hrun
 obtain ⟨x2, e2, hrun⟩ := bnd_some hrun
 obtain ⟨x3, e3, hrun⟩ := bnd_some hrun
 obtain ⟨x4, e4, hrun⟩ := bnd_some hrun
 refine PW.drawK 6 mixed (by kernel_rfl) fun K hK => ?_
 change FW _ _ _ _ _
 refine FW.run ?_
 simp (config := { maxSteps := 2000000 }) only [go_sem, ↓reduceIte, Nat.reduceEqDiff, Nat.reduceLT, Nat.reduceLeDiff, Nat.reduceAdd, Nat.reduceMul, Nat.reduceSub, Nat.reduceBEq, Int.reduceToNat, and_assoc, sw0]
 refine And.intro (by omega) ?_
 refine FW.call' 4 rfl rfl rfl (by ((simp only [go_sem, List.toList_toArray, ↓reduceIte, Nat.reduceEqDiff, Nat.reduceLT, Nat.reduceBEq]); exact rfl)) ?_ (access_isKind_ok N _ _ e1) ?_ ?_ ?_ ?_
 · rfl
 · exact okD_all rfl
 · exact .inl rfl
 · (simp only [go_sem, Nat.reduceLT])
 refine FW.run ?_
 simp (config := { maxSteps := 2000000 }) only [go_sem, ↓reduceIte, Nat.reduceEqDiff, Nat.reduceLT, Nat.reduceLeDiff, Nat.reduceAdd, Nat.reduceMul, Nat.reduceSub, Nat.reduceBEq, Int.reduceToNat, and_assoc, sw0]
 refine FW.call' 4 rfl rfl rfl (by ((simp only [go_sem, List.toList_toArray, ↓reduceIte, Nat.reduceEqDiff, Nat.reduceLT, Nat.reduceBEq]); exact rfl)) ?_ (access_unless_ok N _ _ _ e2) ?_ ?_ ?_ ?_
 · rfl
 · exact okD_all rfl
 · exact .inl rfl
 · (simp only [go_sem, Nat.reduceLT])
 refine FW.run ?_
 simp (config := { maxSteps := 2000000 }) only [go_sem, ↓reduceIte, Nat.reduceEqDiff, Nat.reduceLT, Nat.reduceLeDiff, Nat.reduceAdd, Nat.reduceMul, Nat.reduceSub, Nat.reduceBEq, Int.reduceToNat, and_assoc, sw0]
 refine And.intro (by omega) ?_
 refine FW.nil ?_
 change OW _ _ _ _ _ _
 refine OW.run [1, 3, 5, 7] ?_
 simp (config := { maxSteps := 2000000 }) only [go_sem, ↓reduceIte, Nat.reduceEqDiff, Nat.reduceLT, Nat.reduceLeDiff, Nat.reduceAdd, Nat.reduceMul, Nat.reduceSub, Nat.reduceBEq, Int.reduceToNat, and_assoc, sw0]
 refine OW.call' 4 rfl rfl rfl (by ((simp only [go_sem, List.toList_toArray, ↓reduceIte, Nat.reduceEqDiff, Nat.reduceLT, Nat.reduceBEq]); exact rfl)) ?_ (access_tickErr_ok N _ _ e3) ?_ ?_ ?_ ?_
 · rfl
 · exact okD_all rfl
 · exact .inl rfl
 · (simp only [go_sem, Nat.reduceLT])
 refine OW.run [1, 3, 5, 7] ?_
 simp (config := { maxSteps := 2000000 }) only [go_sem, ↓reduceIte, Nat.reduceEqDiff, Nat.reduceLT, Nat.reduceLeDiff, Nat.reduceAdd, Nat.reduceMul, Nat.reduceSub, Nat.reduceBEq, Int.reduceToNat, and_assoc, sw0]
 refine OW.call' 4 rfl rfl rfl (by ((simp only [go_sem, List.toList_toArray, ↓reduceIte, Nat.reduceEqDiff, Nat.reduceLT, Nat.reduceBEq]); exact rfl)) ?_ (access_first_ok N _ _ e4) ?_ ?_ ?_ ?_
 · rfl
 · (refine okAll_intro ?_; (simp only [go_sem, sw2, List.length_set, List.length_replicate, and_true, true_and, Nat.le_refl, ↓reduceIte, Nat.reduceEqDiff, Nat.reduceLT, Nat.reduceLeDiff, Nat.reduceAdd, Nat.reduceMul, Nat.reduceSub, Nat.reduceBEq]; simp only [seg, go_sem, sw2, List.length_set, List.length_replicate, and_true, true_and, Nat.le_refl, ↓reduceIte, Nat.reduceEqDiff, Nat.reduceLT, Nat.reduceLeDiff, Nat.reduceAdd, Nat.reduceMul, Nat.reduceSub, Nat.reduceBEq]; done))
 · exact .inr ⟨rfl, rfl⟩
 · (simp only [go_sem, Nat.reduceLT])
 refine OW.run [1, 3, 5, 7] ?_
 simp (config := { maxSteps := 2000000 }) only [go_sem, ↓reduceIte, Nat.reduceEqDiff, Nat.reduceLT, Nat.reduceLeDiff, Nat.reduceAdd, Nat.reduceMul, Nat.reduceSub, Nat.reduceBEq, Int.reduceToNat, and_assoc, sw0]
 refine OW.nil (hK _ ?_)
 clear hK K
 change PW _ _ _ _ _
 refine PW.seq ?_
 refine PW.regionK fun K hK => ?_
 refine OW.run [1, 3, 5, 7, 25] ?_
 simp (config := { maxSteps := 2000000 }) only [go_sem, ↓reduceIte, Nat.reduceEqDiff, Nat.reduceLT, Nat.reduceLeDiff, Nat.reduceAdd, Nat.reduceMul, Nat.reduceSub, Nat.reduceBEq, Int.reduceToNat, and_assoc, sw0]
 refine OW.nil (hK _ ?_)
 clear hK K
 change PW _ _ _ _ _
 refine PW.cond rfl (fun h1 => ?_) (fun h1 => ?_)
 ·
  replace hrun := br_t h1 hrun
  refine PW.seq ?_
  refine PW.regionK fun K hK => ?_
  refine OW.run [6] ?_
  simp (config := { maxSteps := 2000000 }) only [go_sem, ↓reduceIte, Nat.reduceEqDiff, Nat.reduceLT, Nat.reduceLeDiff, Nat.reduceAdd, Nat.reduceMul, Nat.reduceSub, Nat.reduceBEq, Int.reduceToNat, and_assoc, sw0]
  refine OW.nil (hK _ ?_)
  clear hK K
  change PW _ _ _ _ _
  refine PW.ret ?_
  change PW.Ends _ _ _ _ _ _
  refine PW.Ends.intro (.inr rfl) ?_
  simp (config := { maxSteps := 2000000 }) only [go_sem, ↓reduceIte, Nat.reduceEqDiff, Nat.reduceLT, Nat.reduceLeDiff, Nat.reduceAdd, Nat.reduceMul, Nat.reduceSub, Nat.reduceBEq, Int.reduceToNat, and_assoc, sw0]
  obtain rfl := Option.some.inj hrun
  refine RetOK.data' 4 (by exact trivial) ?_
  rfl
 ·
  replace hrun := br_f h1 hrun
  refine PW.skip ?_
  change PW _ _ _ _ _
  refine PW.seq ?_
  obtain ⟨hsp, hrun⟩ := chk_some hrun
  have hsp2 : e_Kind = 0 ∨ e_Kind = 1 ∨ e_Kind = 2 ∨ e_Kind = 3 ∨ e_Kind = 4 := by omega
  clear hsp
  rcases hsp2 with rfl | rfl | rfl | rfl | rfl
  ·
   replace hrun := br_t (by decide) hrun
   refine PW.regionK fun K hK => ?_
   refine OW.run [1, 3, 5, 8] ?_
   simp (config := { maxSteps := 2000000 }) only [go_sem, ↓reduceIte, Nat.reduceEqDiff, Nat.reduceLT, Nat.reduceLeDiff, Nat.reduceAdd, Nat.reduceMul, Nat.reduceSub, Nat.reduceBEq, Int.reduceToNat, and_assoc, sw0]
   refine And.intro (by omega) ?_
   refine OW.inlineA rfl rfl rfl (by ((simp only [go_sem, List.toList_toArray, ↓reduceIte, Nat.reduceEqDiff, Nat.reduceLT, Nat.reduceBEq]); exact rfl)) Tryz.func122 rfl (by rw [Tryz.results122]) Tryz.ntmps122 Tryz.call122 (by (simp only [go_sem, Nat.reduceLT])) ?_
   intro p G
   change PW _ _ _ _ _
   try simp only [go_sem, ↓reduceIte, Nat.reduceEqDiff, Nat.reduceLT, Nat.reduceLeDiff, Nat.reduceAdd, Nat.reduceMul, Nat.reduceSub, Nat.reduceBEq]
   refine PW.seq ?_
   refine PW.regionK fun K hK => ?_
   refine OW.run [0, 2] ?_
   simp (config := { maxSteps := 2000000 }) only [go_sem, ↓reduceIte, Nat.reduceEqDiff, Nat.reduceLT, Nat.reduceLeDiff, Nat.reduceAdd, Nat.reduceMul, Nat.reduceSub, Nat.reduceBEq, Int.reduceToNat, and_assoc, sw0]
   refine OW.nil (hK _ ?_)
   clear hK K
   change PW _ _ _ _ _
   refine PW.seq ?_
   refine PW.regionK fun K hK => ?_
   refine OW.run [2] ?_
   simp (config := { maxSteps := 2000000 }) only [go_sem, ↓reduceIte, Nat.reduceEqDiff, Nat.reduceLT, Nat.reduceLeDiff, Nat.reduceAdd, Nat.reduceMul, Nat.reduceSub, Nat.reduceBEq, Int.reduceToNat, and_assoc, sw0]
   refine And.intro (by omega) (And.intro (by omega) ?_)
   refine OW.nil (hK _ ?_)
   clear hK K
   change PW _ _ _ _ _
   refine PW.ret ?_
   refine ⟨.inr rfl, rfl, rfl, ?_⟩
   simp (config := { maxSteps := 2000000 }) only [go_sem, ↓reduceIte, Nat.reduceEqDiff, Nat.reduceLT, Nat.reduceLeDiff, Nat.reduceAdd, Nat.reduceMul, Nat.reduceSub, Nat.reduceBEq, Int.reduceToNat, and_assoc, sw0]
   change OW _ _ _ _ _ _
   refine OW.run [1, 3, 5, 8] ?_
   simp (config := { maxSteps := 2000000 }) only [go_sem, ↓reduceIte, Nat.reduceEqDiff, Nat.reduceLT, Nat.reduceLeDiff, Nat.reduceAdd, Nat.reduceMul, Nat.reduceSub, Nat.reduceBEq, Int.reduceToNat, and_assoc, sw0]
   refine OW.nil (hK _ ?_)
   clear hK K
   change PW _ _ _ _ _
   refine PW.seq ?_
   refine PW.regionK fun K hK => ?_
   refine OW.run [1, 3, 5, 8, 9] ?_
   simp (config := { maxSteps := 2000000 }) only [go_sem, ↓reduceIte, Nat.reduceEqDiff, Nat.reduceLT, Nat.reduceLeDiff, Nat.reduceAdd, Nat.reduceMul, Nat.reduceSub, Nat.reduceBEq, Int.reduceToNat, and_assoc, sw0]
   refine And.intro (by omega) (And.intro (by omega) ?_)
   refine OW.nil (hK _ ?_)
   clear hK K
   change PW _ _ _ _ _
   refine PW.joinS (τ := Unit) [1, 3, 5, 8, 9] 9 (fun _ => []) (fun _ => [{ cells := [.d (I r_Preambles), .d (I r_Every), .d (I r_Window), .d (I r_Wait), .d (I r_Tries), .d (I r_Backoff), .d (I r_Identities)], e := 23 }, { cells := [.d (I (0 : Int)), .d (I e_At), .d (I e_Phone), .d (I e_Preamble), .d (I e_Sent), .d (I e_Identity)], e := 48 }, { cells := [.d (I x2), .d (I x3)], e := 26 }, { cells := [.d (Sx (⟨#[115, 101, 110, 100]⟩ : ByteArray)), .own 4 0 2 1, .d (.clo 147 [])], e := 179 }, { cells := [.d (I (0 : Int)), .d (I (1 : Int))], e := 181 }, { cells := [.d (I (1 : Int)), .d (I (2 : Int))], e := 181 }, { cells := [.d (I (3 : Int)), .d (I (0 : Int))], e := 181 }, { cells := [.d (I (0 : Int))], e := 181 }, { cells := [.d (I (0 : Int)), .d (I e_At), .d (I e_Phone), .d (I e_Preamble), .d (I (0 : Int)), .d (I (0 : Int))], e := 48 }]) _ _ r (by exact Nat.zero_le _) hrun ?_ ?_
   ·
    intro K_ hrun N2 hN2
    refine PW.seq ?_
    refine PW.regionK fun K hK => ?_
    refine OW.run [1, 3, 5, 8, 9, 36, 37, 38] ?_
    simp (config := { maxSteps := 2000000 }) only [go_sem, ↓reduceIte, Nat.reduceEqDiff, Nat.reduceLT, Nat.reduceLeDiff, Nat.reduceAdd, Nat.reduceMul, Nat.reduceSub, Nat.reduceBEq, Int.reduceToNat, and_assoc, sw0]
    refine OW.nil (hK _ ?_)
    clear hK K
    change PW _ _ _ _ _
    refine PW.block ?_
    refine PW.loopN 3 ?_
    change PW _ _ _ _ _
    refine PW.seq ?_
    refine PW.regionK fun K hK => ?_
    refine OW.run [1, 3, 5, 8, 9, 36, 37, 38, 39] ?_
    simp (config := { maxSteps := 2000000 }) only [go_sem, ↓reduceIte, Nat.reduceEqDiff, Nat.reduceLT, Nat.reduceLeDiff, Nat.reduceAdd, Nat.reduceMul, Nat.reduceSub, Nat.reduceBEq, Int.reduceToNat, and_assoc, sw0]
    refine OW.nil (hK _ ?_)
    clear hK K
    change PW _ _ _ _ _
    refine PW.seq ?_
    refine PW.cond rfl (fun h3 => ?_) (fun h3 => ?_)
    ·
     refine PW.skip ?_
     change PW _ _ _ _ _
     refine PW.seq ?_
     refine PW.block ?_
     refine PW.seq ?_
     obtain ⟨c4, hrun⟩ := chk_some hrun
     refine PW.regionK fun K hK => ?_
     refine OW.run [1, 3, 5, 8, 9, 11, 36, 37, 38] ?_
     simp (config := { maxSteps := 2000000 }) only [go_sem, ↓reduceIte, Nat.reduceEqDiff, Nat.reduceLT, Nat.reduceLeDiff, Nat.reduceAdd, Nat.reduceMul, Nat.reduceSub, Nat.reduceBEq, Int.reduceToNat, and_assoc, sw0]
     refine And.intro (by omega) (And.intro (by omega) ?_)
     refine OW.nil (hK _ ?_)
     clear hK K
     change PW _ _ _ _ _
     refine PW.regionK fun K hK => ?_
     refine OW.run [1, 3, 5, 8, 9, 36, 37, 38] ?_
     simp (config := { maxSteps := 2000000 }) only [go_sem, ↓reduceIte, Nat.reduceEqDiff, Nat.reduceLT, Nat.reduceLeDiff, Nat.reduceAdd, Nat.reduceMul, Nat.reduceSub, Nat.reduceBEq, Int.reduceToNat, and_assoc, sw0]
     refine OW.inlineA rfl rfl rfl (by ((simp only [go_sem, List.toList_toArray, ↓reduceIte, Nat.reduceEqDiff, Nat.reduceLT, Nat.reduceBEq]); exact rfl)) Tryz.func125 rfl (by rw [Tryz.results125]) Tryz.ntmps125 Tryz.call125 (by (simp only [go_sem, Nat.reduceLT])) ?_
     intro p G
     change PW _ _ _ _ _
     try simp only [go_sem, ↓reduceIte, Nat.reduceEqDiff, Nat.reduceLT, Nat.reduceLeDiff, Nat.reduceAdd, Nat.reduceMul, Nat.reduceSub, Nat.reduceBEq]
     refine PW.seq ?_
     refine PW.regionK fun K hK => ?_
     refine OW.run [0, 1] ?_
     simp (config := { maxSteps := 2000000 }) only [go_sem, ↓reduceIte, Nat.reduceEqDiff, Nat.reduceLT, Nat.reduceLeDiff, Nat.reduceAdd, Nat.reduceMul, Nat.reduceSub, Nat.reduceBEq, Int.reduceToNat, and_assoc, sw0]
     refine OW.nil (hK _ ?_)
     clear hK K
     change PW _ _ _ _ _
     refine PW.seq ?_
     refine PW.drawK 14 mixed (by kernel_rfl) fun K hK => ?_
     change FW _ _ _ _ _
     refine FW.run ?_
     simp (config := { maxSteps := 2000000 }) only [go_sem, ↓reduceIte, Nat.reduceEqDiff, Nat.reduceLT, Nat.reduceLeDiff, Nat.reduceAdd, Nat.reduceMul, Nat.reduceSub, Nat.reduceBEq, Int.reduceToNat, and_assoc, sw0]
     refine And.intro (by omega) (And.intro (by omega) (And.intro (by omega) (And.intro (by omega) ?_)))
     refine FW.nil ?_
     change OW _ _ _ _ _ _
     refine OW.run [4] ?_
     simp (config := { maxSteps := 2000000 }) only [go_sem, ↓reduceIte, Nat.reduceEqDiff, Nat.reduceLT, Nat.reduceLeDiff, Nat.reduceAdd, Nat.reduceMul, Nat.reduceSub, Nat.reduceBEq, Int.reduceToNat, and_assoc, sw0]
     refine And.intro (by omega) (And.intro (by omega) ?_)
     refine OW.nil (hK _ ?_)
     clear hK K
     change PW _ _ _ _ _
     refine PW.ret ?_
     refine ⟨.inr rfl, rfl, rfl, ?_⟩
     simp (config := { maxSteps := 2000000 }) only [go_sem, ↓reduceIte, Nat.reduceEqDiff, Nat.reduceLT, Nat.reduceLeDiff, Nat.reduceAdd, Nat.reduceMul, Nat.reduceSub, Nat.reduceBEq, Int.reduceToNat, and_assoc, sw0]
     change OW _ _ _ _ _ _
     refine OW.run [1, 3, 5, 8, 9, 36, 37, 38] ?_
     simp (config := { maxSteps := 2000000 }) only [go_sem, ↓reduceIte, Nat.reduceEqDiff, Nat.reduceLT, Nat.reduceLeDiff, Nat.reduceAdd, Nat.reduceMul, Nat.reduceSub, Nat.reduceBEq, Int.reduceToNat, and_assoc, sw0]
     refine OW.inlineA rfl rfl rfl (by ((simp only [go_sem, List.toList_toArray, ↓reduceIte, Nat.reduceEqDiff, Nat.reduceLT, Nat.reduceBEq]); exact rfl)) Tryz.func125 rfl (by rw [Tryz.results125]) Tryz.ntmps125 Tryz.call125 (by (simp only [go_sem, Nat.reduceLT])) ?_
     intro p G
     change PW _ _ _ _ _
     try simp only [go_sem, ↓reduceIte, Nat.reduceEqDiff, Nat.reduceLT, Nat.reduceLeDiff, Nat.reduceAdd, Nat.reduceMul, Nat.reduceSub, Nat.reduceBEq]
     refine PW.seq ?_
     refine PW.regionK fun K hK => ?_
     refine OW.run [0, 1] ?_
     simp (config := { maxSteps := 2000000 }) only [go_sem, ↓reduceIte, Nat.reduceEqDiff, Nat.reduceLT, Nat.reduceLeDiff, Nat.reduceAdd, Nat.reduceMul, Nat.reduceSub, Nat.reduceBEq, Int.reduceToNat, and_assoc, sw0]
     refine OW.nil (hK _ ?_)
     clear hK K
     change PW _ _ _ _ _
     refine PW.seq ?_
     refine PW.drawK 14 mixed (by kernel_rfl) fun K hK => ?_
     change FW _ _ _ _ _
     refine FW.run ?_
     simp (config := { maxSteps := 2000000 }) only [go_sem, ↓reduceIte, Nat.reduceEqDiff, Nat.reduceLT, Nat.reduceLeDiff, Nat.reduceAdd, Nat.reduceMul, Nat.reduceSub, Nat.reduceBEq, Int.reduceToNat, and_assoc, sw0]
     refine And.intro (by omega) (And.intro (by omega) (And.intro (by omega) (And.intro (by omega) ?_)))
     refine FW.nil ?_
     change OW _ _ _ _ _ _
     refine OW.run [4] ?_
     simp (config := { maxSteps := 2000000 }) only [go_sem, ↓reduceIte, Nat.reduceEqDiff, Nat.reduceLT, Nat.reduceLeDiff, Nat.reduceAdd, Nat.reduceMul, Nat.reduceSub, Nat.reduceBEq, Int.reduceToNat, and_assoc, sw0]
     refine And.intro (by omega) (And.intro (by omega) ?_)
     refine OW.nil (hK _ ?_)
     clear hK K
     change PW _ _ _ _ _
     refine PW.ret ?_
     refine ⟨.inr rfl, rfl, rfl, ?_⟩
     simp (config := { maxSteps := 2000000 }) only [go_sem, ↓reduceIte, Nat.reduceEqDiff, Nat.reduceLT, Nat.reduceLeDiff, Nat.reduceAdd, Nat.reduceMul, Nat.reduceSub, Nat.reduceBEq, Int.reduceToNat, and_assoc, sw0]
     change OW _ _ _ _ _ _
     refine OW.run [1, 3, 5, 8, 9, 36, 37, 38] ?_
     simp (config := { maxSteps := 2000000 }) only [go_sem, ↓reduceIte, Nat.reduceEqDiff, Nat.reduceLT, Nat.reduceLeDiff, Nat.reduceAdd, Nat.reduceMul, Nat.reduceSub, Nat.reduceBEq, Int.reduceToNat, and_assoc, sw0]
     refine OW.nil (hK _ ?_)
     clear hK K
     change PW _ _ _ _ _
     refine PW.regionK fun K hK => ?_
     refine OW.run [1, 3, 5, 8, 9, 36, 37, 38] ?_
     simp (config := { maxSteps := 2000000 }) only [go_sem, ↓reduceIte, Nat.reduceEqDiff, Nat.reduceLT, Nat.reduceLeDiff, Nat.reduceAdd, Nat.reduceMul, Nat.reduceSub, Nat.reduceBEq, Int.reduceToNat, and_assoc, sw0]
     refine OW.nil (hK _ ?_)
     clear hK K
     change PW _ _ _ _ _
     refine PW.seq ?_
     refine PW.regionK fun K hK => ?_
     refine OW.run [1, 3, 5, 8, 9, 36, 37, 38, 39] ?_
     simp (config := { maxSteps := 2000000 }) only [go_sem, ↓reduceIte, Nat.reduceEqDiff, Nat.reduceLT, Nat.reduceLeDiff, Nat.reduceAdd, Nat.reduceMul, Nat.reduceSub, Nat.reduceBEq, Int.reduceToNat, and_assoc, sw0]
     refine OW.nil (hK _ ?_)
     clear hK K
     change PW _ _ _ _ _
     refine PW.seq ?_
     refine PW.cond rfl (fun h5 => ?_) (fun h5 => ?_)
     ·
      refine PW.skip ?_
      change PW _ _ _ _ _
      refine PW.seq ?_
      refine PW.block ?_
      refine PW.seq ?_
      obtain ⟨c6, hrun⟩ := chk_some hrun
      refine PW.regionK fun K hK => ?_
      refine OW.run [1, 3, 5, 8, 9, 11, 36, 37, 38] ?_
      simp (config := { maxSteps := 2000000 }) only [go_sem, ↓reduceIte, Nat.reduceEqDiff, Nat.reduceLT, Nat.reduceLeDiff, Nat.reduceAdd, Nat.reduceMul, Nat.reduceSub, Nat.reduceBEq, Int.reduceToNat, and_assoc, sw0]
      refine And.intro (by omega) (And.intro (by omega) ?_)
      refine OW.nil (hK _ ?_)
      clear hK K
      change PW _ _ _ _ _
      refine PW.regionK fun K hK => ?_
      refine OW.run [1, 3, 5, 8, 9, 36, 37, 38] ?_
      simp (config := { maxSteps := 2000000 }) only [go_sem, ↓reduceIte, Nat.reduceEqDiff, Nat.reduceLT, Nat.reduceLeDiff, Nat.reduceAdd, Nat.reduceMul, Nat.reduceSub, Nat.reduceBEq, Int.reduceToNat, and_assoc, sw0]
      refine OW.inlineA rfl rfl rfl (by ((simp only [go_sem, List.toList_toArray, ↓reduceIte, Nat.reduceEqDiff, Nat.reduceLT, Nat.reduceBEq]); exact rfl)) Tryz.func125 rfl (by rw [Tryz.results125]) Tryz.ntmps125 Tryz.call125 (by (simp only [go_sem, Nat.reduceLT])) ?_
      intro p G
      change PW _ _ _ _ _
      try simp only [go_sem, ↓reduceIte, Nat.reduceEqDiff, Nat.reduceLT, Nat.reduceLeDiff, Nat.reduceAdd, Nat.reduceMul, Nat.reduceSub, Nat.reduceBEq]
      refine PW.seq ?_
      refine PW.regionK fun K hK => ?_
      refine OW.run [0, 1] ?_
      simp (config := { maxSteps := 2000000 }) only [go_sem, ↓reduceIte, Nat.reduceEqDiff, Nat.reduceLT, Nat.reduceLeDiff, Nat.reduceAdd, Nat.reduceMul, Nat.reduceSub, Nat.reduceBEq, Int.reduceToNat, and_assoc, sw0]
      refine OW.nil (hK _ ?_)
      clear hK K
      change PW _ _ _ _ _
      refine PW.seq ?_
      refine PW.drawK 14 mixed (by kernel_rfl) fun K hK => ?_
      change FW _ _ _ _ _
      refine FW.run ?_
      simp (config := { maxSteps := 2000000 }) only [go_sem, ↓reduceIte, Nat.reduceEqDiff, Nat.reduceLT, Nat.reduceLeDiff, Nat.reduceAdd, Nat.reduceMul, Nat.reduceSub, Nat.reduceBEq, Int.reduceToNat, and_assoc, sw0]
      refine And.intro (by omega) (And.intro (by omega) (And.intro (by omega) (And.intro (by omega) ?_)))
      refine FW.nil ?_
      change OW _ _ _ _ _ _
      refine OW.run [4] ?_
      simp (config := { maxSteps := 2000000 }) only [go_sem, ↓reduceIte, Nat.reduceEqDiff, Nat.reduceLT, Nat.reduceLeDiff, Nat.reduceAdd, Nat.reduceMul, Nat.reduceSub, Nat.reduceBEq, Int.reduceToNat, and_assoc, sw0]
      refine And.intro (by omega) (And.intro (by omega) ?_)
      refine OW.nil (hK _ ?_)
      clear hK K
      change PW _ _ _ _ _
      refine PW.ret ?_
      refine ⟨.inr rfl, rfl, rfl, ?_⟩
      simp (config := { maxSteps := 2000000 }) only [go_sem, ↓reduceIte, Nat.reduceEqDiff, Nat.reduceLT, Nat.reduceLeDiff, Nat.reduceAdd, Nat.reduceMul, Nat.reduceSub, Nat.reduceBEq, Int.reduceToNat, and_assoc, sw0]
      change OW _ _ _ _ _ _
      refine OW.run [1, 3, 5, 8, 9, 36, 37, 38] ?_
      simp (config := { maxSteps := 2000000 }) only [go_sem, ↓reduceIte, Nat.reduceEqDiff, Nat.reduceLT, Nat.reduceLeDiff, Nat.reduceAdd, Nat.reduceMul, Nat.reduceSub, Nat.reduceBEq, Int.reduceToNat, and_assoc, sw0]
      refine OW.inlineA rfl rfl rfl (by ((simp only [go_sem, List.toList_toArray, ↓reduceIte, Nat.reduceEqDiff, Nat.reduceLT, Nat.reduceBEq]); exact rfl)) Tryz.func125 rfl (by rw [Tryz.results125]) Tryz.ntmps125 Tryz.call125 (by (simp only [go_sem, Nat.reduceLT])) ?_
      intro p G
      change PW _ _ _ _ _
      try simp only [go_sem, ↓reduceIte, Nat.reduceEqDiff, Nat.reduceLT, Nat.reduceLeDiff, Nat.reduceAdd, Nat.reduceMul, Nat.reduceSub, Nat.reduceBEq]
      refine PW.seq ?_
      refine PW.regionK fun K hK => ?_
      refine OW.run [0, 1] ?_
      simp (config := { maxSteps := 2000000 }) only [go_sem, ↓reduceIte, Nat.reduceEqDiff, Nat.reduceLT, Nat.reduceLeDiff, Nat.reduceAdd, Nat.reduceMul, Nat.reduceSub, Nat.reduceBEq, Int.reduceToNat, and_assoc, sw0]
      refine OW.nil (hK _ ?_)
      clear hK K
      change PW _ _ _ _ _
      refine PW.seq ?_
      refine PW.drawK 14 mixed (by kernel_rfl) fun K hK => ?_
      change FW _ _ _ _ _
      refine FW.run ?_
      simp (config := { maxSteps := 2000000 }) only [go_sem, ↓reduceIte, Nat.reduceEqDiff, Nat.reduceLT, Nat.reduceLeDiff, Nat.reduceAdd, Nat.reduceMul, Nat.reduceSub, Nat.reduceBEq, Int.reduceToNat, and_assoc, sw0]
      refine And.intro (by omega) (And.intro (by omega) (And.intro (by omega) (And.intro (by omega) ?_)))
      refine FW.nil ?_
      change OW _ _ _ _ _ _
      refine OW.run [4] ?_
      simp (config := { maxSteps := 2000000 }) only [go_sem, ↓reduceIte, Nat.reduceEqDiff, Nat.reduceLT, Nat.reduceLeDiff, Nat.reduceAdd, Nat.reduceMul, Nat.reduceSub, Nat.reduceBEq, Int.reduceToNat, and_assoc, sw0]
      refine And.intro (by omega) (And.intro (by omega) ?_)
      refine OW.nil (hK _ ?_)
      clear hK K
      change PW _ _ _ _ _
      refine PW.ret ?_
      refine ⟨.inr rfl, rfl, rfl, ?_⟩
      simp (config := { maxSteps := 2000000 }) only [go_sem, ↓reduceIte, Nat.reduceEqDiff, Nat.reduceLT, Nat.reduceLeDiff, Nat.reduceAdd, Nat.reduceMul, Nat.reduceSub, Nat.reduceBEq, Int.reduceToNat, and_assoc, sw0]
      change OW _ _ _ _ _ _
      refine OW.run [1, 3, 5, 8, 9, 36, 37, 38] ?_
      simp (config := { maxSteps := 2000000 }) only [go_sem, ↓reduceIte, Nat.reduceEqDiff, Nat.reduceLT, Nat.reduceLeDiff, Nat.reduceAdd, Nat.reduceMul, Nat.reduceSub, Nat.reduceBEq, Int.reduceToNat, and_assoc, sw0]
      refine OW.nil (hK _ ?_)
      clear hK K
      change PW _ _ _ _ _
      refine PW.regionK fun K hK => ?_
      refine OW.run [1, 3, 5, 8, 9, 36, 37, 38] ?_
      simp (config := { maxSteps := 2000000 }) only [go_sem, ↓reduceIte, Nat.reduceEqDiff, Nat.reduceLT, Nat.reduceLeDiff, Nat.reduceAdd, Nat.reduceMul, Nat.reduceSub, Nat.reduceBEq, Int.reduceToNat, and_assoc, sw0]
      refine OW.nil (hK _ ?_)
      clear hK K
      change PW _ _ _ _ _
      refine PW.seq ?_
      refine PW.regionK fun K hK => ?_
      refine OW.run [1, 3, 5, 8, 9, 36, 37, 38, 39] ?_
      simp (config := { maxSteps := 2000000 }) only [go_sem, ↓reduceIte, Nat.reduceEqDiff, Nat.reduceLT, Nat.reduceLeDiff, Nat.reduceAdd, Nat.reduceMul, Nat.reduceSub, Nat.reduceBEq, Int.reduceToNat, and_assoc, sw0]
      refine OW.nil (hK _ ?_)
      clear hK K
      change PW _ _ _ _ _
      refine PW.seq ?_
      refine PW.cond rfl (fun h7 => ?_) (fun h7 => ?_)
      · exact absurd h7 (by decide)
      ·
       refine PW.exit ?_
       refine hN2 [] () _ hrun (by exact trivial) ?_
       (simp only [Env.frzL, Env.frz, frzOb, V.frz, V.frz.frzs, asD, map_asD, sw1, go_sem, ↓reduceIte, Nat.reduceEqDiff, Nat.reduceLT, Nat.reduceLeDiff, Nat.reduceAdd, Nat.reduceMul, Nat.reduceSub, Nat.reduceBEq]; done)
     · exact absurd h5 (by decide)
    · exact absurd h3 (by decide)
   ·
    rintro _ hrun
    try simp only [go_sem, ↓reduceIte, Nat.reduceEqDiff, Nat.reduceLT, Nat.reduceLeDiff, Nat.reduceAdd, Nat.reduceMul, Nat.reduceSub, Nat.reduceBEq]
    refine PW.seq ?_
    refine PW.seq ?_
    refine PW.regionK fun K hK => ?_
    refine OW.run [1, 3, 5, 8, 52] ?_
    simp (config := { maxSteps := 2000000 }) only [go_sem, ↓reduceIte, Nat.reduceEqDiff, Nat.reduceLT, Nat.reduceLeDiff, Nat.reduceAdd, Nat.reduceMul, Nat.reduceSub, Nat.reduceBEq, Int.reduceToNat, and_assoc, sw0]
    refine OW.nil (hK _ ?_)
    clear hK K
    change PW _ _ _ _ _
    refine PW.cond rfl (fun h8 => ?_) (fun h8 => ?_)
    ·
     replace hrun := br_t h8 hrun
     refine PW.seq ?_
     refine PW.regionK fun K hK => ?_
     refine OW.run [6] ?_
     simp (config := { maxSteps := 2000000 }) only [go_sem, ↓reduceIte, Nat.reduceEqDiff, Nat.reduceLT, Nat.reduceLeDiff, Nat.reduceAdd, Nat.reduceMul, Nat.reduceSub, Nat.reduceBEq, Int.reduceToNat, and_assoc, sw0]
     refine OW.nil (hK _ ?_)
     clear hK K
     change PW _ _ _ _ _
     refine PW.ret ?_
     change PW.Ends _ _ _ _ _ _
     refine PW.Ends.intro (.inr rfl) ?_
     simp (config := { maxSteps := 2000000 }) only [go_sem, ↓reduceIte, Nat.reduceEqDiff, Nat.reduceLT, Nat.reduceLeDiff, Nat.reduceAdd, Nat.reduceMul, Nat.reduceSub, Nat.reduceBEq, Int.reduceToNat, and_assoc, sw0]
     obtain rfl := Option.some.inj hrun
     refine RetOK.data' 4 (by exact trivial) ?_
     rfl
    ·
     replace hrun := br_f h8 hrun
     refine PW.skip ?_
     change PW _ _ _ _ _
     refine PW.seq ?_
     refine PW.regionK fun K hK => ?_
     refine OW.run [5, 8, 12] ?_
     simp (config := { maxSteps := 2000000 }) only [go_sem, ↓reduceIte, Nat.reduceEqDiff, Nat.reduceLT, Nat.reduceLeDiff, Nat.reduceAdd, Nat.reduceMul, Nat.reduceSub, Nat.reduceBEq, Int.reduceToNat, and_assoc, sw0]
     refine And.intro (by omega) (And.intro (by omega) ?_)
     refine OW.nil (hK _ ?_)
     clear hK K
     change PW _ _ _ _ _
     refine PW.joinS (τ := Unit) [5] 0 (fun _ => [(5, .d (.ref [(I (0 : Int)), (I e_At), (I e_Phone), (I e_Preamble), (I e_Sent), (I e_Identity)]))]) (fun _ => []) _ _ r (by exact Nat.le_refl _) hrun ?_ ?_
     ·
      intro K_1 hrun N9 hN9
      refine PW.seq ?_
      refine PW.regionK fun K hK => ?_
      refine OW.run [5, 12, 59, 60, 61] ?_
      simp (config := { maxSteps := 2000000 }) only [go_sem, ↓reduceIte, Nat.reduceEqDiff, Nat.reduceLT, Nat.reduceLeDiff, Nat.reduceAdd, Nat.reduceMul, Nat.reduceSub, Nat.reduceBEq, Int.reduceToNat, and_assoc, sw0]
      refine OW.nil (hK _ ?_)
      clear hK K
      change PW _ _ _ _ _
      refine PW.block ?_
      refine PW.loopN 3 ?_
      change PW _ _ _ _ _
      refine PW.seq ?_
      refine PW.regionK fun K hK => ?_
      refine OW.run [5, 12, 59, 60, 61, 62] ?_
      simp (config := { maxSteps := 2000000 }) only [go_sem, ↓reduceIte, Nat.reduceEqDiff, Nat.reduceLT, Nat.reduceLeDiff, Nat.reduceAdd, Nat.reduceMul, Nat.reduceSub, Nat.reduceBEq, Int.reduceToNat, and_assoc, sw0]
      refine OW.nil (hK _ ?_)
      clear hK K
      change PW _ _ _ _ _
      refine PW.seq ?_
      refine PW.cond rfl (fun h10 => ?_) (fun h10 => ?_)
      ·
       refine PW.skip ?_
       change PW _ _ _ _ _
       refine PW.seq ?_
       refine PW.block ?_
       refine PW.seq ?_
       obtain ⟨c11, hrun⟩ := chk_some hrun
       refine PW.regionK fun K hK => ?_
       refine OW.run [5, 12, 14, 59, 60, 61] ?_
       simp (config := { maxSteps := 2000000 }) only [go_sem, ↓reduceIte, Nat.reduceEqDiff, Nat.reduceLT, Nat.reduceLeDiff, Nat.reduceAdd, Nat.reduceMul, Nat.reduceSub, Nat.reduceBEq, Int.reduceToNat, and_assoc, sw0]
       refine And.intro (by omega) (And.intro (by omega) ?_)
       refine OW.nil (hK _ ?_)
       clear hK K
       change PW _ _ _ _ _
       refine PW.seq ?_
       refine PW.frz 1 (by exact Nat.zero_le _) (by rfl) ?_
       simp only [Env.frzL, Env.frz, frzOb, V.frz, V.frz.frzs, asD, map_asD, map_nz_I, map_nz_Bo, map_nz_Sx, map_nz_L, nz_int, nz_bool, nz_str, nz_list, nz_ref, nz_nil, go_sem, ↓reduceIte, Nat.reduceEqDiff, Nat.reduceLT, Nat.reduceLeDiff, Nat.reduceAdd, Nat.reduceMul, Nat.reduceSub, Nat.reduceBEq]
       change PW _ _ _ _ _
       obtain ⟨x5, e5, hrun⟩ := bnd_some hrun
       obtain ⟨x6, e6, hrun⟩ := bnd_some hrun
       refine PW.drawK 11 mixed (by kernel_rfl) fun K hK => ?_
       change FW _ _ _ _ _
       refine FW.run ?_
       simp (config := { maxSteps := 2000000 }) only [go_sem, ↓reduceIte, Nat.reduceEqDiff, Nat.reduceLT, Nat.reduceLeDiff, Nat.reduceAdd, Nat.reduceMul, Nat.reduceSub, Nat.reduceBEq, Int.reduceToNat, and_assoc, sw0]
       refine FW.callG' (g := ((0 : Int) != (2 : Int))) 4 rfl rfl ?_ (fun hg => by first | rfl | (simp only [go_sem, ↓reduceIte]; rfl)) (fun hg => by ((simp only [go_sem, List.toList_toArray, ↓reduceIte, Nat.reduceEqDiff, Nat.reduceLT, Nat.reduceBEq]); exact rfl)) (fun hg => ?_) (fun hg => (access_use_of_ok N _ _ _ _ _ _ _ _ (grd_t hg e5))) ?_ ?_ ?_ ?_
       · rfl
       · rfl
       · exact okD_all rfl
       · exact .inl rfl
       · (simp only [go_sem, Nat.reduceLT])
       refine FW.run ?_
       simp (config := { maxSteps := 2000000 }) only [go_sem, ↓reduceIte, Nat.reduceEqDiff, Nat.reduceLT, Nat.reduceLeDiff, Nat.reduceAdd, Nat.reduceMul, Nat.reduceSub, Nat.reduceBEq, Int.reduceToNat, and_assoc, sw0]
       refine And.intro (by omega) ?_
       refine FW.nil ?_
       change OW _ _ _ _ _ _
       refine OW.run [5, 12, 59, 60, 61, 78] ?_
       simp (config := { maxSteps := 2000000 }) only [go_sem, ↓reduceIte, Nat.reduceEqDiff, Nat.reduceLT, Nat.reduceLeDiff, Nat.reduceAdd, Nat.reduceMul, Nat.reduceSub, Nat.reduceBEq, Int.reduceToNat, and_assoc, sw0]
       refine OW.callG' (g := ((0 : Int) != (2 : Int))) 4 rfl rfl ?_ (fun hg => by first | rfl | (simp only [go_sem, ↓reduceIte]; rfl)) (fun hg => by ((simp only [go_sem, List.toList_toArray, ↓reduceIte, Nat.reduceEqDiff, Nat.reduceLT, Nat.reduceBEq]); exact rfl)) (fun hg => ?_) (fun hg => (access_within_ok N _ _ _ _ (grd_t hg e6))) ?_ ?_ ?_ ?_
       · rfl
       · rfl
       · exact okD_all rfl
       · exact .inl rfl
       · (simp only [go_sem, Nat.reduceLT])
       refine OW.run [5, 12, 59, 60, 61, 78] ?_
       simp (config := { maxSteps := 2000000 }) only [go_sem, ↓reduceIte, Nat.reduceEqDiff, Nat.reduceLT, Nat.reduceLeDiff, Nat.reduceAdd, Nat.reduceMul, Nat.reduceSub, Nat.reduceBEq, Int.reduceToNat, and_assoc, sw0]
       refine OW.nil (hK _ ?_)
       clear hK K
       change PW _ _ _ _ _
       refine PW.cond rfl (fun h12 => ?_) (fun h12 => ?_)
       ·
        replace hrun := br_t h12 hrun
        refine PW.seq ?_
        refine PW.regionK fun K hK => ?_
        refine OW.run [6] ?_
        simp (config := { maxSteps := 2000000 }) only [go_sem, ↓reduceIte, Nat.reduceEqDiff, Nat.reduceLT, Nat.reduceLeDiff, Nat.reduceAdd, Nat.reduceMul, Nat.reduceSub, Nat.reduceBEq, Int.reduceToNat, and_assoc, sw0]
        refine OW.nil (hK _ ?_)
        clear hK K
        change PW _ _ _ _ _
        refine PW.ret ?_
        change PW.Ends _ _ _ _ _ _
        refine PW.Ends.intro (.inr rfl) ?_
        simp (config := { maxSteps := 2000000 }) only [go_sem, ↓reduceIte, Nat.reduceEqDiff, Nat.reduceLT, Nat.reduceLeDiff, Nat.reduceAdd, Nat.reduceMul, Nat.reduceSub, Nat.reduceBEq, Int.reduceToNat, and_assoc, sw0]
        obtain rfl := Option.some.inj hrun
        refine RetOK.data' 4 (by exact trivial) ?_
        rfl
       ·
        replace hrun := br_f h12 hrun
        refine PW.skip ?_
        change PW _ _ _ _ _
        refine PW.regionK fun K hK => ?_
        refine OW.run [5, 12, 59, 60, 61] ?_
        simp (config := { maxSteps := 2000000 }) only [go_sem, ↓reduceIte, Nat.reduceEqDiff, Nat.reduceLT, Nat.reduceLeDiff, Nat.reduceAdd, Nat.reduceMul, Nat.reduceSub, Nat.reduceBEq, Int.reduceToNat, and_assoc, sw0]
        refine OW.nil (hK _ ?_)
        clear hK K
        change PW _ _ _ _ _
        refine PW.seq ?_
        refine PW.regionK fun K hK => ?_
        refine OW.run [5, 12, 59, 60, 61, 62] ?_
        simp (config := { maxSteps := 2000000 }) only [go_sem, ↓reduceIte, Nat.reduceEqDiff, Nat.reduceLT, Nat.reduceLeDiff, Nat.reduceAdd, Nat.reduceMul, Nat.reduceSub, Nat.reduceBEq, Int.reduceToNat, and_assoc, sw0]
        refine OW.nil (hK _ ?_)
        clear hK K
        change PW _ _ _ _ _
        refine PW.seq ?_
        refine PW.cond rfl (fun h13 => ?_) (fun h13 => ?_)
        ·
         refine PW.skip ?_
         change PW _ _ _ _ _
         refine PW.seq ?_
         refine PW.block ?_
         refine PW.seq ?_
         obtain ⟨c14, hrun⟩ := chk_some hrun
         refine PW.regionK fun K hK => ?_
         refine OW.run [5, 12, 14, 59, 60, 61] ?_
         simp (config := { maxSteps := 2000000 }) only [go_sem, ↓reduceIte, Nat.reduceEqDiff, Nat.reduceLT, Nat.reduceLeDiff, Nat.reduceAdd, Nat.reduceMul, Nat.reduceSub, Nat.reduceBEq, Int.reduceToNat, and_assoc, sw0]
         refine And.intro (by omega) (And.intro (by omega) ?_)
         refine OW.nil (hK _ ?_)
         clear hK K
         change PW _ _ _ _ _
         refine PW.seq ?_
         obtain ⟨x7, e7, hrun⟩ := bnd_some hrun
         obtain ⟨x8, e8, hrun⟩ := bnd_some hrun
         refine PW.drawK 11 mixed (by kernel_rfl) fun K hK => ?_
         change FW _ _ _ _ _
         refine FW.run ?_
         simp (config := { maxSteps := 2000000 }) only [go_sem, ↓reduceIte, Nat.reduceEqDiff, Nat.reduceLT, Nat.reduceLeDiff, Nat.reduceAdd, Nat.reduceMul, Nat.reduceSub, Nat.reduceBEq, Int.reduceToNat, and_assoc, sw0]
         refine FW.callG' (g := ((1 : Int) != (2 : Int))) 4 rfl rfl ?_ (fun hg => by first | rfl | (simp only [go_sem, ↓reduceIte]; rfl)) (fun hg => by ((simp only [go_sem, List.toList_toArray, ↓reduceIte, Nat.reduceEqDiff, Nat.reduceLT, Nat.reduceBEq]); exact rfl)) (fun hg => ?_) (fun hg => (access_use_of_ok N _ _ _ _ _ _ _ _ (grd_t hg e7))) ?_ ?_ ?_ ?_
         · rfl
         · rfl
         · exact okD_all rfl
         · exact .inl rfl
         · (simp only [go_sem, Nat.reduceLT])
         refine FW.run ?_
         simp (config := { maxSteps := 2000000 }) only [go_sem, ↓reduceIte, Nat.reduceEqDiff, Nat.reduceLT, Nat.reduceLeDiff, Nat.reduceAdd, Nat.reduceMul, Nat.reduceSub, Nat.reduceBEq, Int.reduceToNat, and_assoc, sw0]
         refine And.intro (by omega) ?_
         refine FW.nil ?_
         change OW _ _ _ _ _ _
         refine OW.run [5, 12, 59, 60, 61, 78] ?_
         simp (config := { maxSteps := 2000000 }) only [go_sem, ↓reduceIte, Nat.reduceEqDiff, Nat.reduceLT, Nat.reduceLeDiff, Nat.reduceAdd, Nat.reduceMul, Nat.reduceSub, Nat.reduceBEq, Int.reduceToNat, and_assoc, sw0]
         refine OW.callG' (g := ((1 : Int) != (2 : Int))) 4 rfl rfl ?_ (fun hg => by first | rfl | (simp only [go_sem, ↓reduceIte]; rfl)) (fun hg => by ((simp only [go_sem, List.toList_toArray, ↓reduceIte, Nat.reduceEqDiff, Nat.reduceLT, Nat.reduceBEq]); exact rfl)) (fun hg => ?_) (fun hg => (access_within_ok N _ _ _ _ (grd_t hg e8))) ?_ ?_ ?_ ?_
         · rfl
         · rfl
         · exact okD_all rfl
         · exact .inl rfl
         · (simp only [go_sem, Nat.reduceLT])
         refine OW.run [5, 12, 59, 60, 61, 78] ?_
         simp (config := { maxSteps := 2000000 }) only [go_sem, ↓reduceIte, Nat.reduceEqDiff, Nat.reduceLT, Nat.reduceLeDiff, Nat.reduceAdd, Nat.reduceMul, Nat.reduceSub, Nat.reduceBEq, Int.reduceToNat, and_assoc, sw0]
         refine OW.nil (hK _ ?_)
         clear hK K
         change PW _ _ _ _ _
         refine PW.cond rfl (fun h15 => ?_) (fun h15 => ?_)
         ·
          replace hrun := br_t h15 hrun
          refine PW.seq ?_
          refine PW.regionK fun K hK => ?_
          refine OW.run [6] ?_
          simp (config := { maxSteps := 2000000 }) only [go_sem, ↓reduceIte, Nat.reduceEqDiff, Nat.reduceLT, Nat.reduceLeDiff, Nat.reduceAdd, Nat.reduceMul, Nat.reduceSub, Nat.reduceBEq, Int.reduceToNat, and_assoc, sw0]
          refine OW.nil (hK _ ?_)
          clear hK K
          change PW _ _ _ _ _
          refine PW.ret ?_
          change PW.Ends _ _ _ _ _ _
          refine PW.Ends.intro (.inr rfl) ?_
          simp (config := { maxSteps := 2000000 }) only [go_sem, ↓reduceIte, Nat.reduceEqDiff, Nat.reduceLT, Nat.reduceLeDiff, Nat.reduceAdd, Nat.reduceMul, Nat.reduceSub, Nat.reduceBEq, Int.reduceToNat, and_assoc, sw0]
          obtain rfl := Option.some.inj hrun
          refine RetOK.data' 4 (by exact trivial) ?_
          rfl
         ·
          replace hrun := br_f h15 hrun
          refine PW.skip ?_
          change PW _ _ _ _ _
          refine PW.regionK fun K hK => ?_
          refine OW.run [5, 12, 59, 60, 61] ?_
          simp (config := { maxSteps := 2000000 }) only [go_sem, ↓reduceIte, Nat.reduceEqDiff, Nat.reduceLT, Nat.reduceLeDiff, Nat.reduceAdd, Nat.reduceMul, Nat.reduceSub, Nat.reduceBEq, Int.reduceToNat, and_assoc, sw0]
          refine OW.nil (hK _ ?_)
          clear hK K
          change PW _ _ _ _ _
          refine PW.seq ?_
          refine PW.regionK fun K hK => ?_
          refine OW.run [5, 12, 59, 60, 61, 62] ?_
          simp (config := { maxSteps := 2000000 }) only [go_sem, ↓reduceIte, Nat.reduceEqDiff, Nat.reduceLT, Nat.reduceLeDiff, Nat.reduceAdd, Nat.reduceMul, Nat.reduceSub, Nat.reduceBEq, Int.reduceToNat, and_assoc, sw0]
          refine OW.nil (hK _ ?_)
          clear hK K
          change PW _ _ _ _ _
          refine PW.seq ?_
          refine PW.cond rfl (fun h16 => ?_) (fun h16 => ?_)
          · exact absurd h16 (by decide)
          ·
           refine PW.exit ?_
           refine hN9 [] () _ hrun (by exact trivial) ?_
           (simp only [Env.frzL, Env.frz, frzOb, V.frz, V.frz.frzs, asD, map_asD, sw1, go_sem, ↓reduceIte, Nat.reduceEqDiff, Nat.reduceLT, Nat.reduceLeDiff, Nat.reduceAdd, Nat.reduceMul, Nat.reduceSub, Nat.reduceBEq]; done)
        · exact absurd h13 (by decide)
      · exact absurd h10 (by decide)
     ·
      rintro _ hrun
      try simp only [go_sem, ↓reduceIte, Nat.reduceEqDiff, Nat.reduceLT, Nat.reduceLeDiff, Nat.reduceAdd, Nat.reduceMul, Nat.reduceSub, Nat.reduceBEq]
      refine PW.seq ?_
      obtain ⟨x9, e9, hrun⟩ := bnd_some hrun
      obtain ⟨x10, e10, hrun⟩ := bnd_some hrun
      refine PW.regionK fun K hK => ?_
      refine OW.run [6] ?_
      simp (config := { maxSteps := 2000000 }) only [go_sem, ↓reduceIte, Nat.reduceEqDiff, Nat.reduceLT, Nat.reduceLeDiff, Nat.reduceAdd, Nat.reduceMul, Nat.reduceSub, Nat.reduceBEq, Int.reduceToNat, and_assoc, sw0]
      refine And.intro (by omega) (And.intro (by omega) ?_)
      refine OW.call' 4 rfl rfl rfl (by ((simp only [go_sem, List.toList_toArray, ↓reduceIte, Nat.reduceEqDiff, Nat.reduceLT, Nat.reduceBEq]); exact rfl)) ?_ (access_within_ok N _ _ _ _ e9) ?_ ?_ ?_ ?_
      · rfl
      · exact okD_all rfl
      · exact .inl rfl
      · (simp only [go_sem, Nat.reduceLT])
      refine OW.run [6] ?_
      simp (config := { maxSteps := 2000000 }) only [go_sem, ↓reduceIte, Nat.reduceEqDiff, Nat.reduceLT, Nat.reduceLeDiff, Nat.reduceAdd, Nat.reduceMul, Nat.reduceSub, Nat.reduceBEq, Int.reduceToNat, and_assoc, sw0]
      refine OW.call' 4 rfl rfl rfl (by ((simp only [go_sem, List.toList_toArray, ↓reduceIte, Nat.reduceEqDiff, Nat.reduceLT, Nat.reduceBEq]); exact rfl)) ?_ (access_unless_ok N _ _ _ e10) ?_ ?_ ?_ ?_
      · rfl
      · exact okD_all rfl
      · exact .inl rfl
      · (simp only [go_sem, Nat.reduceLT])
      refine OW.run [6] ?_
      simp (config := { maxSteps := 2000000 }) only [go_sem, ↓reduceIte, Nat.reduceEqDiff, Nat.reduceLT, Nat.reduceLeDiff, Nat.reduceAdd, Nat.reduceMul, Nat.reduceSub, Nat.reduceBEq, Int.reduceToNat, and_assoc, sw0]
      refine OW.nil (hK _ ?_)
      clear hK K
      change PW _ _ _ _ _
      refine PW.ret ?_
      change PW.Ends _ _ _ _ _ _
      refine PW.Ends.intro (.inr rfl) ?_
      simp (config := { maxSteps := 2000000 }) only [go_sem, ↓reduceIte, Nat.reduceEqDiff, Nat.reduceLT, Nat.reduceLeDiff, Nat.reduceAdd, Nat.reduceMul, Nat.reduceSub, Nat.reduceBEq, Int.reduceToNat, and_assoc, sw0]
      obtain rfl := Option.some.inj hrun
      refine RetOK.data' 4 (by exact trivial) ?_
      rfl
  ·
   replace hrun := br_f (by decide) hrun
   replace hrun := br_t (by decide) hrun
   refine PW.regionK fun K hK => ?_
   refine OW.run [1, 3, 5, 8] ?_
   simp (config := { maxSteps := 2000000 }) only [go_sem, ↓reduceIte, Nat.reduceEqDiff, Nat.reduceLT, Nat.reduceLeDiff, Nat.reduceAdd, Nat.reduceMul, Nat.reduceSub, Nat.reduceBEq, Int.reduceToNat, and_assoc, sw0]
   refine And.intro (by omega) ?_
   refine OW.inlineA rfl rfl rfl (by ((simp only [go_sem, List.toList_toArray, ↓reduceIte, Nat.reduceEqDiff, Nat.reduceLT, Nat.reduceBEq]); exact rfl)) Tryz.func122 rfl (by rw [Tryz.results122]) Tryz.ntmps122 Tryz.call122 (by (simp only [go_sem, Nat.reduceLT])) ?_
   intro p G
   change PW _ _ _ _ _
   try simp only [go_sem, ↓reduceIte, Nat.reduceEqDiff, Nat.reduceLT, Nat.reduceLeDiff, Nat.reduceAdd, Nat.reduceMul, Nat.reduceSub, Nat.reduceBEq]
   refine PW.seq ?_
   refine PW.regionK fun K hK => ?_
   refine OW.run [0, 2] ?_
   simp (config := { maxSteps := 2000000 }) only [go_sem, ↓reduceIte, Nat.reduceEqDiff, Nat.reduceLT, Nat.reduceLeDiff, Nat.reduceAdd, Nat.reduceMul, Nat.reduceSub, Nat.reduceBEq, Int.reduceToNat, and_assoc, sw0]
   refine OW.nil (hK _ ?_)
   clear hK K
   change PW _ _ _ _ _
   refine PW.seq ?_
   refine PW.regionK fun K hK => ?_
   refine OW.run [2] ?_
   simp (config := { maxSteps := 2000000 }) only [go_sem, ↓reduceIte, Nat.reduceEqDiff, Nat.reduceLT, Nat.reduceLeDiff, Nat.reduceAdd, Nat.reduceMul, Nat.reduceSub, Nat.reduceBEq, Int.reduceToNat, and_assoc, sw0]
   refine And.intro (by omega) (And.intro (by omega) ?_)
   refine OW.nil (hK _ ?_)
   clear hK K
   change PW _ _ _ _ _
   refine PW.ret ?_
   refine ⟨.inr rfl, rfl, rfl, ?_⟩
   simp (config := { maxSteps := 2000000 }) only [go_sem, ↓reduceIte, Nat.reduceEqDiff, Nat.reduceLT, Nat.reduceLeDiff, Nat.reduceAdd, Nat.reduceMul, Nat.reduceSub, Nat.reduceBEq, Int.reduceToNat, and_assoc, sw0]
   change OW _ _ _ _ _ _
   refine OW.run [1, 3, 5, 8] ?_
   simp (config := { maxSteps := 2000000 }) only [go_sem, ↓reduceIte, Nat.reduceEqDiff, Nat.reduceLT, Nat.reduceLeDiff, Nat.reduceAdd, Nat.reduceMul, Nat.reduceSub, Nat.reduceBEq, Int.reduceToNat, and_assoc, sw0]
   refine OW.nil (hK _ ?_)
   clear hK K
   change PW _ _ _ _ _
   refine PW.seq ?_
   refine PW.regionK fun K hK => ?_
   refine OW.run [1, 3, 5, 8, 9] ?_
   simp (config := { maxSteps := 2000000 }) only [go_sem, ↓reduceIte, Nat.reduceEqDiff, Nat.reduceLT, Nat.reduceLeDiff, Nat.reduceAdd, Nat.reduceMul, Nat.reduceSub, Nat.reduceBEq, Int.reduceToNat, and_assoc, sw0]
   refine And.intro (by omega) (And.intro (by omega) ?_)
   refine OW.nil (hK _ ?_)
   clear hK K
   change PW _ _ _ _ _
   refine PW.joinS (τ := Unit) [1, 3, 5, 8, 9] 9 (fun _ => []) (fun _ => [{ cells := [.d (I r_Preambles), .d (I r_Every), .d (I r_Window), .d (I r_Wait), .d (I r_Tries), .d (I r_Backoff), .d (I r_Identities)], e := 23 }, { cells := [.d (I (1 : Int)), .d (I e_At), .d (I e_Phone), .d (I e_Preamble), .d (I e_Sent), .d (I e_Identity)], e := 48 }, { cells := [.d (I x2), .d (I x3)], e := 26 }, { cells := [.d (Sx (⟨#[97, 110, 115, 119, 101, 114]⟩ : ByteArray)), .own 5 0 2 1, .d (.clo 148 [])], e := 179 }, { cells := [.d (I (0 : Int)), .d (I (1 : Int))], e := 181 }, { cells := [.d (I (1 : Int)), .d (I (2 : Int))], e := 181 }, { cells := [.d (I (3 : Int)), .d (I (0 : Int))], e := 181 }, { cells := [.d (I (0 : Int))], e := 181 }, { cells := [.d (I (1 : Int)), .d (I e_At), .d (I (0 : Int)), .d (I e_Preamble), .d (I e_Sent), .d (I (0 : Int))], e := 48 }]) _ _ r (by exact Nat.zero_le _) hrun ?_ ?_
   ·
    intro K_2 hrun N17 hN17
    refine PW.seq ?_
    refine PW.regionK fun K hK => ?_
    refine OW.run [1, 3, 5, 8, 9, 36, 37, 38] ?_
    simp (config := { maxSteps := 2000000 }) only [go_sem, ↓reduceIte, Nat.reduceEqDiff, Nat.reduceLT, Nat.reduceLeDiff, Nat.reduceAdd, Nat.reduceMul, Nat.reduceSub, Nat.reduceBEq, Int.reduceToNat, and_assoc, sw0]
    refine OW.nil (hK _ ?_)
    clear hK K
    change PW _ _ _ _ _
    refine PW.block ?_
    refine PW.loopN 3 ?_
    change PW _ _ _ _ _
    refine PW.seq ?_
    refine PW.regionK fun K hK => ?_
    refine OW.run [1, 3, 5, 8, 9, 36, 37, 38, 39] ?_
    simp (config := { maxSteps := 2000000 }) only [go_sem, ↓reduceIte, Nat.reduceEqDiff, Nat.reduceLT, Nat.reduceLeDiff, Nat.reduceAdd, Nat.reduceMul, Nat.reduceSub, Nat.reduceBEq, Int.reduceToNat, and_assoc, sw0]
    refine OW.nil (hK _ ?_)
    clear hK K
    change PW _ _ _ _ _
    refine PW.seq ?_
    refine PW.cond rfl (fun h18 => ?_) (fun h18 => ?_)
    ·
     refine PW.skip ?_
     change PW _ _ _ _ _
     refine PW.seq ?_
     refine PW.block ?_
     refine PW.seq ?_
     obtain ⟨c19, hrun⟩ := chk_some hrun
     refine PW.regionK fun K hK => ?_
     refine OW.run [1, 3, 5, 8, 9, 11, 36, 37, 38] ?_
     simp (config := { maxSteps := 2000000 }) only [go_sem, ↓reduceIte, Nat.reduceEqDiff, Nat.reduceLT, Nat.reduceLeDiff, Nat.reduceAdd, Nat.reduceMul, Nat.reduceSub, Nat.reduceBEq, Int.reduceToNat, and_assoc, sw0]
     refine And.intro (by omega) (And.intro (by omega) ?_)
     refine OW.nil (hK _ ?_)
     clear hK K
     change PW _ _ _ _ _
     refine PW.regionK fun K hK => ?_
     refine OW.run [1, 3, 5, 8, 9, 36, 37, 38] ?_
     simp (config := { maxSteps := 2000000 }) only [go_sem, ↓reduceIte, Nat.reduceEqDiff, Nat.reduceLT, Nat.reduceLeDiff, Nat.reduceAdd, Nat.reduceMul, Nat.reduceSub, Nat.reduceBEq, Int.reduceToNat, and_assoc, sw0]
     refine OW.inlineA rfl rfl rfl (by ((simp only [go_sem, List.toList_toArray, ↓reduceIte, Nat.reduceEqDiff, Nat.reduceLT, Nat.reduceBEq]); exact rfl)) Tryz.func125 rfl (by rw [Tryz.results125]) Tryz.ntmps125 Tryz.call125 (by (simp only [go_sem, Nat.reduceLT])) ?_
     intro p G
     change PW _ _ _ _ _
     try simp only [go_sem, ↓reduceIte, Nat.reduceEqDiff, Nat.reduceLT, Nat.reduceLeDiff, Nat.reduceAdd, Nat.reduceMul, Nat.reduceSub, Nat.reduceBEq]
     refine PW.seq ?_
     refine PW.regionK fun K hK => ?_
     refine OW.run [0, 1] ?_
     simp (config := { maxSteps := 2000000 }) only [go_sem, ↓reduceIte, Nat.reduceEqDiff, Nat.reduceLT, Nat.reduceLeDiff, Nat.reduceAdd, Nat.reduceMul, Nat.reduceSub, Nat.reduceBEq, Int.reduceToNat, and_assoc, sw0]
     refine OW.nil (hK _ ?_)
     clear hK K
     change PW _ _ _ _ _
     refine PW.seq ?_
     refine PW.drawK 14 mixed (by kernel_rfl) fun K hK => ?_
     change FW _ _ _ _ _
     refine FW.run ?_
     simp (config := { maxSteps := 2000000 }) only [go_sem, ↓reduceIte, Nat.reduceEqDiff, Nat.reduceLT, Nat.reduceLeDiff, Nat.reduceAdd, Nat.reduceMul, Nat.reduceSub, Nat.reduceBEq, Int.reduceToNat, and_assoc, sw0]
     refine And.intro (by omega) (And.intro (by omega) (And.intro (by omega) (And.intro (by omega) ?_)))
     refine FW.nil ?_
     change OW _ _ _ _ _ _
     refine OW.run [4] ?_
     simp (config := { maxSteps := 2000000 }) only [go_sem, ↓reduceIte, Nat.reduceEqDiff, Nat.reduceLT, Nat.reduceLeDiff, Nat.reduceAdd, Nat.reduceMul, Nat.reduceSub, Nat.reduceBEq, Int.reduceToNat, and_assoc, sw0]
     refine And.intro (by omega) (And.intro (by omega) ?_)
     refine OW.nil (hK _ ?_)
     clear hK K
     change PW _ _ _ _ _
     refine PW.ret ?_
     refine ⟨.inr rfl, rfl, rfl, ?_⟩
     simp (config := { maxSteps := 2000000 }) only [go_sem, ↓reduceIte, Nat.reduceEqDiff, Nat.reduceLT, Nat.reduceLeDiff, Nat.reduceAdd, Nat.reduceMul, Nat.reduceSub, Nat.reduceBEq, Int.reduceToNat, and_assoc, sw0]
     change OW _ _ _ _ _ _
     refine OW.run [1, 3, 5, 8, 9, 36, 37, 38] ?_
     simp (config := { maxSteps := 2000000 }) only [go_sem, ↓reduceIte, Nat.reduceEqDiff, Nat.reduceLT, Nat.reduceLeDiff, Nat.reduceAdd, Nat.reduceMul, Nat.reduceSub, Nat.reduceBEq, Int.reduceToNat, and_assoc, sw0]
     refine OW.inlineA rfl rfl rfl (by ((simp only [go_sem, List.toList_toArray, ↓reduceIte, Nat.reduceEqDiff, Nat.reduceLT, Nat.reduceBEq]); exact rfl)) Tryz.func125 rfl (by rw [Tryz.results125]) Tryz.ntmps125 Tryz.call125 (by (simp only [go_sem, Nat.reduceLT])) ?_
     intro p G
     change PW _ _ _ _ _
     try simp only [go_sem, ↓reduceIte, Nat.reduceEqDiff, Nat.reduceLT, Nat.reduceLeDiff, Nat.reduceAdd, Nat.reduceMul, Nat.reduceSub, Nat.reduceBEq]
     refine PW.seq ?_
     refine PW.regionK fun K hK => ?_
     refine OW.run [0, 1] ?_
     simp (config := { maxSteps := 2000000 }) only [go_sem, ↓reduceIte, Nat.reduceEqDiff, Nat.reduceLT, Nat.reduceLeDiff, Nat.reduceAdd, Nat.reduceMul, Nat.reduceSub, Nat.reduceBEq, Int.reduceToNat, and_assoc, sw0]
     refine OW.nil (hK _ ?_)
     clear hK K
     change PW _ _ _ _ _
     refine PW.seq ?_
     refine PW.drawK 14 mixed (by kernel_rfl) fun K hK => ?_
     change FW _ _ _ _ _
     refine FW.run ?_
     simp (config := { maxSteps := 2000000 }) only [go_sem, ↓reduceIte, Nat.reduceEqDiff, Nat.reduceLT, Nat.reduceLeDiff, Nat.reduceAdd, Nat.reduceMul, Nat.reduceSub, Nat.reduceBEq, Int.reduceToNat, and_assoc, sw0]
     refine And.intro (by omega) (And.intro (by omega) (And.intro (by omega) (And.intro (by omega) ?_)))
     refine FW.nil ?_
     change OW _ _ _ _ _ _
     refine OW.run [4] ?_
     simp (config := { maxSteps := 2000000 }) only [go_sem, ↓reduceIte, Nat.reduceEqDiff, Nat.reduceLT, Nat.reduceLeDiff, Nat.reduceAdd, Nat.reduceMul, Nat.reduceSub, Nat.reduceBEq, Int.reduceToNat, and_assoc, sw0]
     refine And.intro (by omega) (And.intro (by omega) ?_)
     refine OW.nil (hK _ ?_)
     clear hK K
     change PW _ _ _ _ _
     refine PW.ret ?_
     refine ⟨.inr rfl, rfl, rfl, ?_⟩
     simp (config := { maxSteps := 2000000 }) only [go_sem, ↓reduceIte, Nat.reduceEqDiff, Nat.reduceLT, Nat.reduceLeDiff, Nat.reduceAdd, Nat.reduceMul, Nat.reduceSub, Nat.reduceBEq, Int.reduceToNat, and_assoc, sw0]
     change OW _ _ _ _ _ _
     refine OW.run [1, 3, 5, 8, 9, 36, 37, 38] ?_
     simp (config := { maxSteps := 2000000 }) only [go_sem, ↓reduceIte, Nat.reduceEqDiff, Nat.reduceLT, Nat.reduceLeDiff, Nat.reduceAdd, Nat.reduceMul, Nat.reduceSub, Nat.reduceBEq, Int.reduceToNat, and_assoc, sw0]
     refine OW.nil (hK _ ?_)
     clear hK K
     change PW _ _ _ _ _
     refine PW.regionK fun K hK => ?_
     refine OW.run [1, 3, 5, 8, 9, 36, 37, 38] ?_
     simp (config := { maxSteps := 2000000 }) only [go_sem, ↓reduceIte, Nat.reduceEqDiff, Nat.reduceLT, Nat.reduceLeDiff, Nat.reduceAdd, Nat.reduceMul, Nat.reduceSub, Nat.reduceBEq, Int.reduceToNat, and_assoc, sw0]
     refine OW.nil (hK _ ?_)
     clear hK K
     change PW _ _ _ _ _
     refine PW.seq ?_
     refine PW.regionK fun K hK => ?_
     refine OW.run [1, 3, 5, 8, 9, 36, 37, 38, 39] ?_
     simp (config := { maxSteps := 2000000 }) only [go_sem, ↓reduceIte, Nat.reduceEqDiff, Nat.reduceLT, Nat.reduceLeDiff, Nat.reduceAdd, Nat.reduceMul, Nat.reduceSub, Nat.reduceBEq, Int.reduceToNat, and_assoc, sw0]
     refine OW.nil (hK _ ?_)
     clear hK K
     change PW _ _ _ _ _
     refine PW.seq ?_
     refine PW.cond rfl (fun h20 => ?_) (fun h20 => ?_)
     ·
      refine PW.skip ?_
      change PW _ _ _ _ _
      refine PW.seq ?_
      refine PW.block ?_
      refine PW.seq ?_
      obtain ⟨c21, hrun⟩ := chk_some hrun
      refine PW.regionK fun K hK => ?_
      refine OW.run [1, 3, 5, 8, 9, 11, 36, 37, 38] ?_
      simp (config := { maxSteps := 2000000 }) only [go_sem, ↓reduceIte, Nat.reduceEqDiff, Nat.reduceLT, Nat.reduceLeDiff, Nat.reduceAdd, Nat.reduceMul, Nat.reduceSub, Nat.reduceBEq, Int.reduceToNat, and_assoc, sw0]
      refine And.intro (by omega) (And.intro (by omega) ?_)
      refine OW.nil (hK _ ?_)
      clear hK K
      change PW _ _ _ _ _
      refine PW.regionK fun K hK => ?_
      refine OW.run [1, 3, 5, 8, 9, 36, 37, 38] ?_
      simp (config := { maxSteps := 2000000 }) only [go_sem, ↓reduceIte, Nat.reduceEqDiff, Nat.reduceLT, Nat.reduceLeDiff, Nat.reduceAdd, Nat.reduceMul, Nat.reduceSub, Nat.reduceBEq, Int.reduceToNat, and_assoc, sw0]
      refine OW.inlineA rfl rfl rfl (by ((simp only [go_sem, List.toList_toArray, ↓reduceIte, Nat.reduceEqDiff, Nat.reduceLT, Nat.reduceBEq]); exact rfl)) Tryz.func125 rfl (by rw [Tryz.results125]) Tryz.ntmps125 Tryz.call125 (by (simp only [go_sem, Nat.reduceLT])) ?_
      intro p G
      change PW _ _ _ _ _
      try simp only [go_sem, ↓reduceIte, Nat.reduceEqDiff, Nat.reduceLT, Nat.reduceLeDiff, Nat.reduceAdd, Nat.reduceMul, Nat.reduceSub, Nat.reduceBEq]
      refine PW.seq ?_
      refine PW.regionK fun K hK => ?_
      refine OW.run [0, 1] ?_
      simp (config := { maxSteps := 2000000 }) only [go_sem, ↓reduceIte, Nat.reduceEqDiff, Nat.reduceLT, Nat.reduceLeDiff, Nat.reduceAdd, Nat.reduceMul, Nat.reduceSub, Nat.reduceBEq, Int.reduceToNat, and_assoc, sw0]
      refine OW.nil (hK _ ?_)
      clear hK K
      change PW _ _ _ _ _
      refine PW.seq ?_
      refine PW.drawK 14 mixed (by kernel_rfl) fun K hK => ?_
      change FW _ _ _ _ _
      refine FW.run ?_
      simp (config := { maxSteps := 2000000 }) only [go_sem, ↓reduceIte, Nat.reduceEqDiff, Nat.reduceLT, Nat.reduceLeDiff, Nat.reduceAdd, Nat.reduceMul, Nat.reduceSub, Nat.reduceBEq, Int.reduceToNat, and_assoc, sw0]
      refine And.intro (by omega) (And.intro (by omega) (And.intro (by omega) (And.intro (by omega) ?_)))
      refine FW.nil ?_
      change OW _ _ _ _ _ _
      refine OW.run [4] ?_
      simp (config := { maxSteps := 2000000 }) only [go_sem, ↓reduceIte, Nat.reduceEqDiff, Nat.reduceLT, Nat.reduceLeDiff, Nat.reduceAdd, Nat.reduceMul, Nat.reduceSub, Nat.reduceBEq, Int.reduceToNat, and_assoc, sw0]
      refine And.intro (by omega) (And.intro (by omega) ?_)
      refine OW.nil (hK _ ?_)
      clear hK K
      change PW _ _ _ _ _
      refine PW.ret ?_
      refine ⟨.inr rfl, rfl, rfl, ?_⟩
      simp (config := { maxSteps := 2000000 }) only [go_sem, ↓reduceIte, Nat.reduceEqDiff, Nat.reduceLT, Nat.reduceLeDiff, Nat.reduceAdd, Nat.reduceMul, Nat.reduceSub, Nat.reduceBEq, Int.reduceToNat, and_assoc, sw0]
      change OW _ _ _ _ _ _
      refine OW.run [1, 3, 5, 8, 9, 36, 37, 38] ?_
      simp (config := { maxSteps := 2000000 }) only [go_sem, ↓reduceIte, Nat.reduceEqDiff, Nat.reduceLT, Nat.reduceLeDiff, Nat.reduceAdd, Nat.reduceMul, Nat.reduceSub, Nat.reduceBEq, Int.reduceToNat, and_assoc, sw0]
      refine OW.inlineA rfl rfl rfl (by ((simp only [go_sem, List.toList_toArray, ↓reduceIte, Nat.reduceEqDiff, Nat.reduceLT, Nat.reduceBEq]); exact rfl)) Tryz.func125 rfl (by rw [Tryz.results125]) Tryz.ntmps125 Tryz.call125 (by (simp only [go_sem, Nat.reduceLT])) ?_
      intro p G
      change PW _ _ _ _ _
      try simp only [go_sem, ↓reduceIte, Nat.reduceEqDiff, Nat.reduceLT, Nat.reduceLeDiff, Nat.reduceAdd, Nat.reduceMul, Nat.reduceSub, Nat.reduceBEq]
      refine PW.seq ?_
      refine PW.regionK fun K hK => ?_
      refine OW.run [0, 1] ?_
      simp (config := { maxSteps := 2000000 }) only [go_sem, ↓reduceIte, Nat.reduceEqDiff, Nat.reduceLT, Nat.reduceLeDiff, Nat.reduceAdd, Nat.reduceMul, Nat.reduceSub, Nat.reduceBEq, Int.reduceToNat, and_assoc, sw0]
      refine OW.nil (hK _ ?_)
      clear hK K
      change PW _ _ _ _ _
      refine PW.seq ?_
      refine PW.drawK 14 mixed (by kernel_rfl) fun K hK => ?_
      change FW _ _ _ _ _
      refine FW.run ?_
      simp (config := { maxSteps := 2000000 }) only [go_sem, ↓reduceIte, Nat.reduceEqDiff, Nat.reduceLT, Nat.reduceLeDiff, Nat.reduceAdd, Nat.reduceMul, Nat.reduceSub, Nat.reduceBEq, Int.reduceToNat, and_assoc, sw0]
      refine And.intro (by omega) (And.intro (by omega) (And.intro (by omega) (And.intro (by omega) ?_)))
      refine FW.nil ?_
      change OW _ _ _ _ _ _
      refine OW.run [4] ?_
      simp (config := { maxSteps := 2000000 }) only [go_sem, ↓reduceIte, Nat.reduceEqDiff, Nat.reduceLT, Nat.reduceLeDiff, Nat.reduceAdd, Nat.reduceMul, Nat.reduceSub, Nat.reduceBEq, Int.reduceToNat, and_assoc, sw0]
      refine And.intro (by omega) (And.intro (by omega) ?_)
      refine OW.nil (hK _ ?_)
      clear hK K
      change PW _ _ _ _ _
      refine PW.ret ?_
      refine ⟨.inr rfl, rfl, rfl, ?_⟩
      simp (config := { maxSteps := 2000000 }) only [go_sem, ↓reduceIte, Nat.reduceEqDiff, Nat.reduceLT, Nat.reduceLeDiff, Nat.reduceAdd, Nat.reduceMul, Nat.reduceSub, Nat.reduceBEq, Int.reduceToNat, and_assoc, sw0]
      change OW _ _ _ _ _ _
      refine OW.run [1, 3, 5, 8, 9, 36, 37, 38] ?_
      simp (config := { maxSteps := 2000000 }) only [go_sem, ↓reduceIte, Nat.reduceEqDiff, Nat.reduceLT, Nat.reduceLeDiff, Nat.reduceAdd, Nat.reduceMul, Nat.reduceSub, Nat.reduceBEq, Int.reduceToNat, and_assoc, sw0]
      refine OW.nil (hK _ ?_)
      clear hK K
      change PW _ _ _ _ _
      refine PW.regionK fun K hK => ?_
      refine OW.run [1, 3, 5, 8, 9, 36, 37, 38] ?_
      simp (config := { maxSteps := 2000000 }) only [go_sem, ↓reduceIte, Nat.reduceEqDiff, Nat.reduceLT, Nat.reduceLeDiff, Nat.reduceAdd, Nat.reduceMul, Nat.reduceSub, Nat.reduceBEq, Int.reduceToNat, and_assoc, sw0]
      refine OW.nil (hK _ ?_)
      clear hK K
      change PW _ _ _ _ _
      refine PW.seq ?_
      refine PW.regionK fun K hK => ?_
      refine OW.run [1, 3, 5, 8, 9, 36, 37, 38, 39] ?_
      simp (config := { maxSteps := 2000000 }) only [go_sem, ↓reduceIte, Nat.reduceEqDiff, Nat.reduceLT, Nat.reduceLeDiff, Nat.reduceAdd, Nat.reduceMul, Nat.reduceSub, Nat.reduceBEq, Int.reduceToNat, and_assoc, sw0]
      refine OW.nil (hK _ ?_)
      clear hK K
      change PW _ _ _ _ _
      refine PW.seq ?_
      refine PW.cond rfl (fun h22 => ?_) (fun h22 => ?_)
      · exact absurd h22 (by decide)
      ·
       refine PW.exit ?_
       refine hN17 [] () _ hrun (by exact trivial) ?_
       (simp only [Env.frzL, Env.frz, frzOb, V.frz, V.frz.frzs, asD, map_asD, sw1, go_sem, ↓reduceIte, Nat.reduceEqDiff, Nat.reduceLT, Nat.reduceLeDiff, Nat.reduceAdd, Nat.reduceMul, Nat.reduceSub, Nat.reduceBEq]; done)
     · exact absurd h20 (by decide)
    · exact absurd h18 (by decide)
   ·
    rintro _ hrun
    try simp only [go_sem, ↓reduceIte, Nat.reduceEqDiff, Nat.reduceLT, Nat.reduceLeDiff, Nat.reduceAdd, Nat.reduceMul, Nat.reduceSub, Nat.reduceBEq]
    refine PW.seq ?_
    refine PW.seq ?_
    refine PW.regionK fun K hK => ?_
    refine OW.run [1, 3, 5, 8, 52] ?_
    simp (config := { maxSteps := 2000000 }) only [go_sem, ↓reduceIte, Nat.reduceEqDiff, Nat.reduceLT, Nat.reduceLeDiff, Nat.reduceAdd, Nat.reduceMul, Nat.reduceSub, Nat.reduceBEq, Int.reduceToNat, and_assoc, sw0]
    refine OW.nil (hK _ ?_)
    clear hK K
    change PW _ _ _ _ _
    refine PW.cond rfl (fun h23 => ?_) (fun h23 => ?_)
    ·
     replace hrun := br_t h23 hrun
     refine PW.seq ?_
     refine PW.regionK fun K hK => ?_
     refine OW.run [6] ?_
     simp (config := { maxSteps := 2000000 }) only [go_sem, ↓reduceIte, Nat.reduceEqDiff, Nat.reduceLT, Nat.reduceLeDiff, Nat.reduceAdd, Nat.reduceMul, Nat.reduceSub, Nat.reduceBEq, Int.reduceToNat, and_assoc, sw0]
     refine OW.nil (hK _ ?_)
     clear hK K
     change PW _ _ _ _ _
     refine PW.ret ?_
     change PW.Ends _ _ _ _ _ _
     refine PW.Ends.intro (.inr rfl) ?_
     simp (config := { maxSteps := 2000000 }) only [go_sem, ↓reduceIte, Nat.reduceEqDiff, Nat.reduceLT, Nat.reduceLeDiff, Nat.reduceAdd, Nat.reduceMul, Nat.reduceSub, Nat.reduceBEq, Int.reduceToNat, and_assoc, sw0]
     obtain rfl := Option.some.inj hrun
     refine RetOK.data' 4 (by exact trivial) ?_
     rfl
    ·
     replace hrun := br_f h23 hrun
     refine PW.skip ?_
     change PW _ _ _ _ _
     refine PW.seq ?_
     refine PW.regionK fun K hK => ?_
     refine OW.run [5, 8, 12] ?_
     simp (config := { maxSteps := 2000000 }) only [go_sem, ↓reduceIte, Nat.reduceEqDiff, Nat.reduceLT, Nat.reduceLeDiff, Nat.reduceAdd, Nat.reduceMul, Nat.reduceSub, Nat.reduceBEq, Int.reduceToNat, and_assoc, sw0]
     refine And.intro (by omega) (And.intro (by omega) ?_)
     refine OW.nil (hK _ ?_)
     clear hK K
     change PW _ _ _ _ _
     refine PW.joinS (τ := Unit) [5] 0 (fun _ => [(5, .d (.ref [(I (1 : Int)), (I e_At), (I e_Phone), (I e_Preamble), (I e_Sent), (I e_Identity)]))]) (fun _ => []) _ _ r (by exact Nat.le_refl _) hrun ?_ ?_
     ·
      intro K_3 hrun N24 hN24
      refine PW.seq ?_
      refine PW.regionK fun K hK => ?_
      refine OW.run [5, 12, 59, 60, 61] ?_
      simp (config := { maxSteps := 2000000 }) only [go_sem, ↓reduceIte, Nat.reduceEqDiff, Nat.reduceLT, Nat.reduceLeDiff, Nat.reduceAdd, Nat.reduceMul, Nat.reduceSub, Nat.reduceBEq, Int.reduceToNat, and_assoc, sw0]
      refine OW.nil (hK _ ?_)
      clear hK K
      change PW _ _ _ _ _
      refine PW.block ?_
      refine PW.loopN 3 ?_
      change PW _ _ _ _ _
      refine PW.seq ?_
      refine PW.regionK fun K hK => ?_
      refine OW.run [5, 12, 59, 60, 61, 62] ?_
      simp (config := { maxSteps := 2000000 }) only [go_sem, ↓reduceIte, Nat.reduceEqDiff, Nat.reduceLT, Nat.reduceLeDiff, Nat.reduceAdd, Nat.reduceMul, Nat.reduceSub, Nat.reduceBEq, Int.reduceToNat, and_assoc, sw0]
      refine OW.nil (hK _ ?_)
      clear hK K
      change PW _ _ _ _ _
      refine PW.seq ?_
      refine PW.cond rfl (fun h25 => ?_) (fun h25 => ?_)
      ·
       refine PW.skip ?_
       change PW _ _ _ _ _
       refine PW.seq ?_
       refine PW.block ?_
       refine PW.seq ?_
       obtain ⟨c26, hrun⟩ := chk_some hrun
       refine PW.regionK fun K hK => ?_
       refine OW.run [5, 12, 14, 59, 60, 61] ?_
       simp (config := { maxSteps := 2000000 }) only [go_sem, ↓reduceIte, Nat.reduceEqDiff, Nat.reduceLT, Nat.reduceLeDiff, Nat.reduceAdd, Nat.reduceMul, Nat.reduceSub, Nat.reduceBEq, Int.reduceToNat, and_assoc, sw0]
       refine And.intro (by omega) (And.intro (by omega) ?_)
       refine OW.nil (hK _ ?_)
       clear hK K
       change PW _ _ _ _ _
       refine PW.seq ?_
       refine PW.frz 1 (by exact Nat.zero_le _) (by rfl) ?_
       simp only [Env.frzL, Env.frz, frzOb, V.frz, V.frz.frzs, asD, map_asD, map_nz_I, map_nz_Bo, map_nz_Sx, map_nz_L, nz_int, nz_bool, nz_str, nz_list, nz_ref, nz_nil, go_sem, ↓reduceIte, Nat.reduceEqDiff, Nat.reduceLT, Nat.reduceLeDiff, Nat.reduceAdd, Nat.reduceMul, Nat.reduceSub, Nat.reduceBEq]
       change PW _ _ _ _ _
       obtain ⟨x11, e11, hrun⟩ := bnd_some hrun
       obtain ⟨x12, e12, hrun⟩ := bnd_some hrun
       refine PW.drawK 11 mixed (by kernel_rfl) fun K hK => ?_
       change FW _ _ _ _ _
       refine FW.run ?_
       simp (config := { maxSteps := 2000000 }) only [go_sem, ↓reduceIte, Nat.reduceEqDiff, Nat.reduceLT, Nat.reduceLeDiff, Nat.reduceAdd, Nat.reduceMul, Nat.reduceSub, Nat.reduceBEq, Int.reduceToNat, and_assoc, sw0]
       refine FW.callG' (g := ((1 : Int) != (2 : Int))) 4 rfl rfl ?_ (fun hg => by first | rfl | (simp only [go_sem, ↓reduceIte]; rfl)) (fun hg => by ((simp only [go_sem, List.toList_toArray, ↓reduceIte, Nat.reduceEqDiff, Nat.reduceLT, Nat.reduceBEq]); exact rfl)) (fun hg => ?_) (fun hg => (access_use_of_ok N _ _ _ _ _ _ _ _ (grd_t hg e11))) ?_ ?_ ?_ ?_
       · rfl
       · rfl
       · exact okD_all rfl
       · exact .inl rfl
       · (simp only [go_sem, Nat.reduceLT])
       refine FW.run ?_
       simp (config := { maxSteps := 2000000 }) only [go_sem, ↓reduceIte, Nat.reduceEqDiff, Nat.reduceLT, Nat.reduceLeDiff, Nat.reduceAdd, Nat.reduceMul, Nat.reduceSub, Nat.reduceBEq, Int.reduceToNat, and_assoc, sw0]
       refine And.intro (by omega) ?_
       refine FW.nil ?_
       change OW _ _ _ _ _ _
       refine OW.run [5, 12, 59, 60, 61, 78] ?_
       simp (config := { maxSteps := 2000000 }) only [go_sem, ↓reduceIte, Nat.reduceEqDiff, Nat.reduceLT, Nat.reduceLeDiff, Nat.reduceAdd, Nat.reduceMul, Nat.reduceSub, Nat.reduceBEq, Int.reduceToNat, and_assoc, sw0]
       refine OW.callG' (g := ((1 : Int) != (2 : Int))) 4 rfl rfl ?_ (fun hg => by first | rfl | (simp only [go_sem, ↓reduceIte]; rfl)) (fun hg => by ((simp only [go_sem, List.toList_toArray, ↓reduceIte, Nat.reduceEqDiff, Nat.reduceLT, Nat.reduceBEq]); exact rfl)) (fun hg => ?_) (fun hg => (access_within_ok N _ _ _ _ (grd_t hg e12))) ?_ ?_ ?_ ?_
       · rfl
       · rfl
       · exact okD_all rfl
       · exact .inl rfl
       · (simp only [go_sem, Nat.reduceLT])
       refine OW.run [5, 12, 59, 60, 61, 78] ?_
       simp (config := { maxSteps := 2000000 }) only [go_sem, ↓reduceIte, Nat.reduceEqDiff, Nat.reduceLT, Nat.reduceLeDiff, Nat.reduceAdd, Nat.reduceMul, Nat.reduceSub, Nat.reduceBEq, Int.reduceToNat, and_assoc, sw0]
       refine OW.nil (hK _ ?_)
       clear hK K
       change PW _ _ _ _ _
       refine PW.cond rfl (fun h27 => ?_) (fun h27 => ?_)
       ·
        replace hrun := br_t h27 hrun
        refine PW.seq ?_
        refine PW.regionK fun K hK => ?_
        refine OW.run [6] ?_
        simp (config := { maxSteps := 2000000 }) only [go_sem, ↓reduceIte, Nat.reduceEqDiff, Nat.reduceLT, Nat.reduceLeDiff, Nat.reduceAdd, Nat.reduceMul, Nat.reduceSub, Nat.reduceBEq, Int.reduceToNat, and_assoc, sw0]
        refine OW.nil (hK _ ?_)
        clear hK K
        change PW _ _ _ _ _
        refine PW.ret ?_
        change PW.Ends _ _ _ _ _ _
        refine PW.Ends.intro (.inr rfl) ?_
        simp (config := { maxSteps := 2000000 }) only [go_sem, ↓reduceIte, Nat.reduceEqDiff, Nat.reduceLT, Nat.reduceLeDiff, Nat.reduceAdd, Nat.reduceMul, Nat.reduceSub, Nat.reduceBEq, Int.reduceToNat, and_assoc, sw0]
        obtain rfl := Option.some.inj hrun
        refine RetOK.data' 4 (by exact trivial) ?_
        rfl
       ·
        replace hrun := br_f h27 hrun
        refine PW.skip ?_
        change PW _ _ _ _ _
        refine PW.regionK fun K hK => ?_
        refine OW.run [5, 12, 59, 60, 61] ?_
        simp (config := { maxSteps := 2000000 }) only [go_sem, ↓reduceIte, Nat.reduceEqDiff, Nat.reduceLT, Nat.reduceLeDiff, Nat.reduceAdd, Nat.reduceMul, Nat.reduceSub, Nat.reduceBEq, Int.reduceToNat, and_assoc, sw0]
        refine OW.nil (hK _ ?_)
        clear hK K
        change PW _ _ _ _ _
        refine PW.seq ?_
        refine PW.regionK fun K hK => ?_
        refine OW.run [5, 12, 59, 60, 61, 62] ?_
        simp (config := { maxSteps := 2000000 }) only [go_sem, ↓reduceIte, Nat.reduceEqDiff, Nat.reduceLT, Nat.reduceLeDiff, Nat.reduceAdd, Nat.reduceMul, Nat.reduceSub, Nat.reduceBEq, Int.reduceToNat, and_assoc, sw0]
        refine OW.nil (hK _ ?_)
        clear hK K
        change PW _ _ _ _ _
        refine PW.seq ?_
        refine PW.cond rfl (fun h28 => ?_) (fun h28 => ?_)
        ·
         refine PW.skip ?_
         change PW _ _ _ _ _
         refine PW.seq ?_
         refine PW.block ?_
         refine PW.seq ?_
         obtain ⟨c29, hrun⟩ := chk_some hrun
         refine PW.regionK fun K hK => ?_
         refine OW.run [5, 12, 14, 59, 60, 61] ?_
         simp (config := { maxSteps := 2000000 }) only [go_sem, ↓reduceIte, Nat.reduceEqDiff, Nat.reduceLT, Nat.reduceLeDiff, Nat.reduceAdd, Nat.reduceMul, Nat.reduceSub, Nat.reduceBEq, Int.reduceToNat, and_assoc, sw0]
         refine And.intro (by omega) (And.intro (by omega) ?_)
         refine OW.nil (hK _ ?_)
         clear hK K
         change PW _ _ _ _ _
         refine PW.seq ?_
         obtain ⟨x13, e13, hrun⟩ := bnd_some hrun
         obtain ⟨x14, e14, hrun⟩ := bnd_some hrun
         refine PW.drawK 11 mixed (by kernel_rfl) fun K hK => ?_
         change FW _ _ _ _ _
         refine FW.run ?_
         simp (config := { maxSteps := 2000000 }) only [go_sem, ↓reduceIte, Nat.reduceEqDiff, Nat.reduceLT, Nat.reduceLeDiff, Nat.reduceAdd, Nat.reduceMul, Nat.reduceSub, Nat.reduceBEq, Int.reduceToNat, and_assoc, sw0]
         refine FW.callG' (g := ((2 : Int) != (2 : Int))) 4 rfl rfl ?_ (fun hg => by first | rfl | (simp only [go_sem, ↓reduceIte]; rfl)) (fun hg => by ((simp only [go_sem, List.toList_toArray, ↓reduceIte, Nat.reduceEqDiff, Nat.reduceLT, Nat.reduceBEq]); exact rfl)) (fun hg => ?_) (fun hg => (access_use_of_ok N _ _ _ _ _ _ _ _ (grd_t hg e13))) ?_ ?_ ?_ ?_
         · rfl
         · rfl
         · exact okD_all rfl
         · exact .inl rfl
         · (simp only [go_sem, Nat.reduceLT])
         refine FW.run ?_
         simp (config := { maxSteps := 2000000 }) only [go_sem, ↓reduceIte, Nat.reduceEqDiff, Nat.reduceLT, Nat.reduceLeDiff, Nat.reduceAdd, Nat.reduceMul, Nat.reduceSub, Nat.reduceBEq, Int.reduceToNat, and_assoc, sw0]
         refine And.intro (by omega) ?_
         refine FW.nil ?_
         change OW _ _ _ _ _ _
         refine OW.run [5, 12, 59, 60, 61, 78] ?_
         simp (config := { maxSteps := 2000000 }) only [go_sem, ↓reduceIte, Nat.reduceEqDiff, Nat.reduceLT, Nat.reduceLeDiff, Nat.reduceAdd, Nat.reduceMul, Nat.reduceSub, Nat.reduceBEq, Int.reduceToNat, and_assoc, sw0]
         refine OW.callG' (g := ((2 : Int) != (2 : Int))) 4 rfl rfl ?_ (fun hg => by first | rfl | (simp only [go_sem, ↓reduceIte]; rfl)) (fun hg => by ((simp only [go_sem, List.toList_toArray, ↓reduceIte, Nat.reduceEqDiff, Nat.reduceLT, Nat.reduceBEq]); exact rfl)) (fun hg => ?_) (fun hg => (access_within_ok N _ _ _ _ (grd_t hg e14))) ?_ ?_ ?_ ?_
         · rfl
         · rfl
         · exact okD_all rfl
         · exact .inl rfl
         · (simp only [go_sem, Nat.reduceLT])
         refine OW.run [5, 12, 59, 60, 61, 78] ?_
         simp (config := { maxSteps := 2000000 }) only [go_sem, ↓reduceIte, Nat.reduceEqDiff, Nat.reduceLT, Nat.reduceLeDiff, Nat.reduceAdd, Nat.reduceMul, Nat.reduceSub, Nat.reduceBEq, Int.reduceToNat, and_assoc, sw0]
         refine OW.nil (hK _ ?_)
         clear hK K
         change PW _ _ _ _ _
         refine PW.cond rfl (fun h30 => ?_) (fun h30 => ?_)
         ·
          replace hrun := br_t h30 hrun
          refine PW.seq ?_
          refine PW.regionK fun K hK => ?_
          refine OW.run [6] ?_
          simp (config := { maxSteps := 2000000 }) only [go_sem, ↓reduceIte, Nat.reduceEqDiff, Nat.reduceLT, Nat.reduceLeDiff, Nat.reduceAdd, Nat.reduceMul, Nat.reduceSub, Nat.reduceBEq, Int.reduceToNat, and_assoc, sw0]
          refine OW.nil (hK _ ?_)
          clear hK K
          change PW _ _ _ _ _
          refine PW.ret ?_
          change PW.Ends _ _ _ _ _ _
          refine PW.Ends.intro (.inr rfl) ?_
          simp (config := { maxSteps := 2000000 }) only [go_sem, ↓reduceIte, Nat.reduceEqDiff, Nat.reduceLT, Nat.reduceLeDiff, Nat.reduceAdd, Nat.reduceMul, Nat.reduceSub, Nat.reduceBEq, Int.reduceToNat, and_assoc, sw0]
          obtain rfl := Option.some.inj hrun
          refine RetOK.data' 4 (by exact trivial) ?_
          rfl
         ·
          replace hrun := br_f h30 hrun
          refine PW.skip ?_
          change PW _ _ _ _ _
          refine PW.regionK fun K hK => ?_
          refine OW.run [5, 12, 59, 60, 61] ?_
          simp (config := { maxSteps := 2000000 }) only [go_sem, ↓reduceIte, Nat.reduceEqDiff, Nat.reduceLT, Nat.reduceLeDiff, Nat.reduceAdd, Nat.reduceMul, Nat.reduceSub, Nat.reduceBEq, Int.reduceToNat, and_assoc, sw0]
          refine OW.nil (hK _ ?_)
          clear hK K
          change PW _ _ _ _ _
          refine PW.seq ?_
          refine PW.regionK fun K hK => ?_
          refine OW.run [5, 12, 59, 60, 61, 62] ?_
          simp (config := { maxSteps := 2000000 }) only [go_sem, ↓reduceIte, Nat.reduceEqDiff, Nat.reduceLT, Nat.reduceLeDiff, Nat.reduceAdd, Nat.reduceMul, Nat.reduceSub, Nat.reduceBEq, Int.reduceToNat, and_assoc, sw0]
          refine OW.nil (hK _ ?_)
          clear hK K
          change PW _ _ _ _ _
          refine PW.seq ?_
          refine PW.cond rfl (fun h31 => ?_) (fun h31 => ?_)
          · exact absurd h31 (by decide)
          ·
           refine PW.exit ?_
           refine hN24 [] () _ hrun (by exact trivial) ?_
           (simp only [Env.frzL, Env.frz, frzOb, V.frz, V.frz.frzs, asD, map_asD, sw1, go_sem, ↓reduceIte, Nat.reduceEqDiff, Nat.reduceLT, Nat.reduceLeDiff, Nat.reduceAdd, Nat.reduceMul, Nat.reduceSub, Nat.reduceBEq]; done)
        · exact absurd h28 (by decide)
      · exact absurd h25 (by decide)
     ·
      rintro _ hrun
      try simp only [go_sem, ↓reduceIte, Nat.reduceEqDiff, Nat.reduceLT, Nat.reduceLeDiff, Nat.reduceAdd, Nat.reduceMul, Nat.reduceSub, Nat.reduceBEq]
      refine PW.seq ?_
      obtain ⟨x15, e15, hrun⟩ := bnd_some hrun
      obtain ⟨x16, e16, hrun⟩ := bnd_some hrun
      refine PW.regionK fun K hK => ?_
      refine OW.run [6] ?_
      simp (config := { maxSteps := 2000000 }) only [go_sem, ↓reduceIte, Nat.reduceEqDiff, Nat.reduceLT, Nat.reduceLeDiff, Nat.reduceAdd, Nat.reduceMul, Nat.reduceSub, Nat.reduceBEq, Int.reduceToNat, and_assoc, sw0]
      refine And.intro (by omega) (And.intro (by omega) ?_)
      refine OW.call' 4 rfl rfl rfl (by ((simp only [go_sem, List.toList_toArray, ↓reduceIte, Nat.reduceEqDiff, Nat.reduceLT, Nat.reduceBEq]); exact rfl)) ?_ (access_within_ok N _ _ _ _ e15) ?_ ?_ ?_ ?_
      · rfl
      · exact okD_all rfl
      · exact .inl rfl
      · (simp only [go_sem, Nat.reduceLT])
      refine OW.run [6] ?_
      simp (config := { maxSteps := 2000000 }) only [go_sem, ↓reduceIte, Nat.reduceEqDiff, Nat.reduceLT, Nat.reduceLeDiff, Nat.reduceAdd, Nat.reduceMul, Nat.reduceSub, Nat.reduceBEq, Int.reduceToNat, and_assoc, sw0]
      refine OW.call' 4 rfl rfl rfl (by ((simp only [go_sem, List.toList_toArray, ↓reduceIte, Nat.reduceEqDiff, Nat.reduceLT, Nat.reduceBEq]); exact rfl)) ?_ (access_unless_ok N _ _ _ e16) ?_ ?_ ?_ ?_
      · rfl
      · exact okD_all rfl
      · exact .inl rfl
      · (simp only [go_sem, Nat.reduceLT])
      refine OW.run [6] ?_
      simp (config := { maxSteps := 2000000 }) only [go_sem, ↓reduceIte, Nat.reduceEqDiff, Nat.reduceLT, Nat.reduceLeDiff, Nat.reduceAdd, Nat.reduceMul, Nat.reduceSub, Nat.reduceBEq, Int.reduceToNat, and_assoc, sw0]
      refine OW.nil (hK _ ?_)
      clear hK K
      change PW _ _ _ _ _
      refine PW.ret ?_
      change PW.Ends _ _ _ _ _ _
      refine PW.Ends.intro (.inr rfl) ?_
      simp (config := { maxSteps := 2000000 }) only [go_sem, ↓reduceIte, Nat.reduceEqDiff, Nat.reduceLT, Nat.reduceLeDiff, Nat.reduceAdd, Nat.reduceMul, Nat.reduceSub, Nat.reduceBEq, Int.reduceToNat, and_assoc, sw0]
      obtain rfl := Option.some.inj hrun
      refine RetOK.data' 4 (by exact trivial) ?_
      rfl
  ·
   replace hrun := br_f (by decide) hrun
   replace hrun := br_f (by decide) hrun
   replace hrun := br_t (by decide) hrun
   refine PW.regionK fun K hK => ?_
   refine OW.run [1, 3, 5, 8] ?_
   simp (config := { maxSteps := 2000000 }) only [go_sem, ↓reduceIte, Nat.reduceEqDiff, Nat.reduceLT, Nat.reduceLeDiff, Nat.reduceAdd, Nat.reduceMul, Nat.reduceSub, Nat.reduceBEq, Int.reduceToNat, and_assoc, sw0]
   refine And.intro (by omega) ?_
   refine OW.inlineA rfl rfl rfl (by ((simp only [go_sem, List.toList_toArray, ↓reduceIte, Nat.reduceEqDiff, Nat.reduceLT, Nat.reduceBEq]); exact rfl)) Tryz.func122 rfl (by rw [Tryz.results122]) Tryz.ntmps122 Tryz.call122 (by (simp only [go_sem, Nat.reduceLT])) ?_
   intro p G
   change PW _ _ _ _ _
   try simp only [go_sem, ↓reduceIte, Nat.reduceEqDiff, Nat.reduceLT, Nat.reduceLeDiff, Nat.reduceAdd, Nat.reduceMul, Nat.reduceSub, Nat.reduceBEq]
   refine PW.seq ?_
   refine PW.regionK fun K hK => ?_
   refine OW.run [0, 2] ?_
   simp (config := { maxSteps := 2000000 }) only [go_sem, ↓reduceIte, Nat.reduceEqDiff, Nat.reduceLT, Nat.reduceLeDiff, Nat.reduceAdd, Nat.reduceMul, Nat.reduceSub, Nat.reduceBEq, Int.reduceToNat, and_assoc, sw0]
   refine OW.nil (hK _ ?_)
   clear hK K
   change PW _ _ _ _ _
   refine PW.seq ?_
   refine PW.regionK fun K hK => ?_
   refine OW.run [2] ?_
   simp (config := { maxSteps := 2000000 }) only [go_sem, ↓reduceIte, Nat.reduceEqDiff, Nat.reduceLT, Nat.reduceLeDiff, Nat.reduceAdd, Nat.reduceMul, Nat.reduceSub, Nat.reduceBEq, Int.reduceToNat, and_assoc, sw0]
   refine And.intro (by omega) (And.intro (by omega) ?_)
   refine OW.nil (hK _ ?_)
   clear hK K
   change PW _ _ _ _ _
   refine PW.ret ?_
   refine ⟨.inr rfl, rfl, rfl, ?_⟩
   simp (config := { maxSteps := 2000000 }) only [go_sem, ↓reduceIte, Nat.reduceEqDiff, Nat.reduceLT, Nat.reduceLeDiff, Nat.reduceAdd, Nat.reduceMul, Nat.reduceSub, Nat.reduceBEq, Int.reduceToNat, and_assoc, sw0]
   change OW _ _ _ _ _ _
   refine OW.run [1, 3, 5, 8] ?_
   simp (config := { maxSteps := 2000000 }) only [go_sem, ↓reduceIte, Nat.reduceEqDiff, Nat.reduceLT, Nat.reduceLeDiff, Nat.reduceAdd, Nat.reduceMul, Nat.reduceSub, Nat.reduceBEq, Int.reduceToNat, and_assoc, sw0]
   refine OW.nil (hK _ ?_)
   clear hK K
   change PW _ _ _ _ _
   refine PW.seq ?_
   refine PW.regionK fun K hK => ?_
   refine OW.run [1, 3, 5, 8, 9] ?_
   simp (config := { maxSteps := 2000000 }) only [go_sem, ↓reduceIte, Nat.reduceEqDiff, Nat.reduceLT, Nat.reduceLeDiff, Nat.reduceAdd, Nat.reduceMul, Nat.reduceSub, Nat.reduceBEq, Int.reduceToNat, and_assoc, sw0]
   refine And.intro (by omega) (And.intro (by omega) ?_)
   refine OW.nil (hK _ ?_)
   clear hK K
   change PW _ _ _ _ _
   refine PW.joinS (τ := Unit) [1, 3, 5, 8, 9] 9 (fun _ => []) (fun _ => [{ cells := [.d (I r_Preambles), .d (I r_Every), .d (I r_Window), .d (I r_Wait), .d (I r_Tries), .d (I r_Backoff), .d (I r_Identities)], e := 23 }, { cells := [.d (I (2 : Int)), .d (I e_At), .d (I e_Phone), .d (I e_Preamble), .d (I e_Sent), .d (I e_Identity)], e := 48 }, { cells := [.d (I x2), .d (I x3)], e := 26 }, { cells := [.d (Sx (⟨#[114, 101, 115, 111, 108, 118, 101]⟩ : ByteArray)), .own 6 0 2 1, .d (.clo 149 [])], e := 179 }, { cells := [.d (I (0 : Int)), .d (I (1 : Int))], e := 181 }, { cells := [.d (I (1 : Int)), .d (I (2 : Int))], e := 181 }, { cells := [.d (I (3 : Int)), .d (I (0 : Int))], e := 181 }, { cells := [.d (I (0 : Int))], e := 181 }, { cells := [.d (I (2 : Int)), .d (I e_At), .d (I e_Phone), .d (I (0 : Int)), .d (I (0 : Int)), .d (I e_Identity)], e := 48 }]) _ _ r (by exact Nat.zero_le _) hrun ?_ ?_
   ·
    intro K_4 hrun N32 hN32
    refine PW.seq ?_
    refine PW.regionK fun K hK => ?_
    refine OW.run [1, 3, 5, 8, 9, 36, 37, 38] ?_
    simp (config := { maxSteps := 2000000 }) only [go_sem, ↓reduceIte, Nat.reduceEqDiff, Nat.reduceLT, Nat.reduceLeDiff, Nat.reduceAdd, Nat.reduceMul, Nat.reduceSub, Nat.reduceBEq, Int.reduceToNat, and_assoc, sw0]
    refine OW.nil (hK _ ?_)
    clear hK K
    change PW _ _ _ _ _
    refine PW.block ?_
    refine PW.loopN 3 ?_
    change PW _ _ _ _ _
    refine PW.seq ?_
    refine PW.regionK fun K hK => ?_
    refine OW.run [1, 3, 5, 8, 9, 36, 37, 38, 39] ?_
    simp (config := { maxSteps := 2000000 }) only [go_sem, ↓reduceIte, Nat.reduceEqDiff, Nat.reduceLT, Nat.reduceLeDiff, Nat.reduceAdd, Nat.reduceMul, Nat.reduceSub, Nat.reduceBEq, Int.reduceToNat, and_assoc, sw0]
    refine OW.nil (hK _ ?_)
    clear hK K
    change PW _ _ _ _ _
    refine PW.seq ?_
    refine PW.cond rfl (fun h33 => ?_) (fun h33 => ?_)
    ·
     refine PW.skip ?_
     change PW _ _ _ _ _
     refine PW.seq ?_
     refine PW.block ?_
     refine PW.seq ?_
     obtain ⟨c34, hrun⟩ := chk_some hrun
     refine PW.regionK fun K hK => ?_
     refine OW.run [1, 3, 5, 8, 9, 11, 36, 37, 38] ?_
     simp (config := { maxSteps := 2000000 }) only [go_sem, ↓reduceIte, Nat.reduceEqDiff, Nat.reduceLT, Nat.reduceLeDiff, Nat.reduceAdd, Nat.reduceMul, Nat.reduceSub, Nat.reduceBEq, Int.reduceToNat, and_assoc, sw0]
     refine And.intro (by omega) (And.intro (by omega) ?_)
     refine OW.nil (hK _ ?_)
     clear hK K
     change PW _ _ _ _ _
     refine PW.regionK fun K hK => ?_
     refine OW.run [1, 3, 5, 8, 9, 36, 37, 38] ?_
     simp (config := { maxSteps := 2000000 }) only [go_sem, ↓reduceIte, Nat.reduceEqDiff, Nat.reduceLT, Nat.reduceLeDiff, Nat.reduceAdd, Nat.reduceMul, Nat.reduceSub, Nat.reduceBEq, Int.reduceToNat, and_assoc, sw0]
     refine OW.inlineA rfl rfl rfl (by ((simp only [go_sem, List.toList_toArray, ↓reduceIte, Nat.reduceEqDiff, Nat.reduceLT, Nat.reduceBEq]); exact rfl)) Tryz.func125 rfl (by rw [Tryz.results125]) Tryz.ntmps125 Tryz.call125 (by (simp only [go_sem, Nat.reduceLT])) ?_
     intro p G
     change PW _ _ _ _ _
     try simp only [go_sem, ↓reduceIte, Nat.reduceEqDiff, Nat.reduceLT, Nat.reduceLeDiff, Nat.reduceAdd, Nat.reduceMul, Nat.reduceSub, Nat.reduceBEq]
     refine PW.seq ?_
     refine PW.regionK fun K hK => ?_
     refine OW.run [0, 1] ?_
     simp (config := { maxSteps := 2000000 }) only [go_sem, ↓reduceIte, Nat.reduceEqDiff, Nat.reduceLT, Nat.reduceLeDiff, Nat.reduceAdd, Nat.reduceMul, Nat.reduceSub, Nat.reduceBEq, Int.reduceToNat, and_assoc, sw0]
     refine OW.nil (hK _ ?_)
     clear hK K
     change PW _ _ _ _ _
     refine PW.seq ?_
     refine PW.drawK 14 mixed (by kernel_rfl) fun K hK => ?_
     change FW _ _ _ _ _
     refine FW.run ?_
     simp (config := { maxSteps := 2000000 }) only [go_sem, ↓reduceIte, Nat.reduceEqDiff, Nat.reduceLT, Nat.reduceLeDiff, Nat.reduceAdd, Nat.reduceMul, Nat.reduceSub, Nat.reduceBEq, Int.reduceToNat, and_assoc, sw0]
     refine And.intro (by omega) (And.intro (by omega) (And.intro (by omega) (And.intro (by omega) ?_)))
     refine FW.nil ?_
     change OW _ _ _ _ _ _
     refine OW.run [4] ?_
     simp (config := { maxSteps := 2000000 }) only [go_sem, ↓reduceIte, Nat.reduceEqDiff, Nat.reduceLT, Nat.reduceLeDiff, Nat.reduceAdd, Nat.reduceMul, Nat.reduceSub, Nat.reduceBEq, Int.reduceToNat, and_assoc, sw0]
     refine And.intro (by omega) (And.intro (by omega) ?_)
     refine OW.nil (hK _ ?_)
     clear hK K
     change PW _ _ _ _ _
     refine PW.ret ?_
     refine ⟨.inr rfl, rfl, rfl, ?_⟩
     simp (config := { maxSteps := 2000000 }) only [go_sem, ↓reduceIte, Nat.reduceEqDiff, Nat.reduceLT, Nat.reduceLeDiff, Nat.reduceAdd, Nat.reduceMul, Nat.reduceSub, Nat.reduceBEq, Int.reduceToNat, and_assoc, sw0]
     change OW _ _ _ _ _ _
     refine OW.run [1, 3, 5, 8, 9, 36, 37, 38] ?_
     simp (config := { maxSteps := 2000000 }) only [go_sem, ↓reduceIte, Nat.reduceEqDiff, Nat.reduceLT, Nat.reduceLeDiff, Nat.reduceAdd, Nat.reduceMul, Nat.reduceSub, Nat.reduceBEq, Int.reduceToNat, and_assoc, sw0]
     refine OW.inlineA rfl rfl rfl (by ((simp only [go_sem, List.toList_toArray, ↓reduceIte, Nat.reduceEqDiff, Nat.reduceLT, Nat.reduceBEq]); exact rfl)) Tryz.func125 rfl (by rw [Tryz.results125]) Tryz.ntmps125 Tryz.call125 (by (simp only [go_sem, Nat.reduceLT])) ?_
     intro p G
     change PW _ _ _ _ _
     try simp only [go_sem, ↓reduceIte, Nat.reduceEqDiff, Nat.reduceLT, Nat.reduceLeDiff, Nat.reduceAdd, Nat.reduceMul, Nat.reduceSub, Nat.reduceBEq]
     refine PW.seq ?_
     refine PW.regionK fun K hK => ?_
     refine OW.run [0, 1] ?_
     simp (config := { maxSteps := 2000000 }) only [go_sem, ↓reduceIte, Nat.reduceEqDiff, Nat.reduceLT, Nat.reduceLeDiff, Nat.reduceAdd, Nat.reduceMul, Nat.reduceSub, Nat.reduceBEq, Int.reduceToNat, and_assoc, sw0]
     refine OW.nil (hK _ ?_)
     clear hK K
     change PW _ _ _ _ _
     refine PW.seq ?_
     refine PW.drawK 14 mixed (by kernel_rfl) fun K hK => ?_
     change FW _ _ _ _ _
     refine FW.run ?_
     simp (config := { maxSteps := 2000000 }) only [go_sem, ↓reduceIte, Nat.reduceEqDiff, Nat.reduceLT, Nat.reduceLeDiff, Nat.reduceAdd, Nat.reduceMul, Nat.reduceSub, Nat.reduceBEq, Int.reduceToNat, and_assoc, sw0]
     refine And.intro (by omega) (And.intro (by omega) (And.intro (by omega) (And.intro (by omega) ?_)))
     refine FW.nil ?_
     change OW _ _ _ _ _ _
     refine OW.run [4] ?_
     simp (config := { maxSteps := 2000000 }) only [go_sem, ↓reduceIte, Nat.reduceEqDiff, Nat.reduceLT, Nat.reduceLeDiff, Nat.reduceAdd, Nat.reduceMul, Nat.reduceSub, Nat.reduceBEq, Int.reduceToNat, and_assoc, sw0]
     refine And.intro (by omega) (And.intro (by omega) ?_)
     refine OW.nil (hK _ ?_)
     clear hK K
     change PW _ _ _ _ _
     refine PW.ret ?_
     refine ⟨.inr rfl, rfl, rfl, ?_⟩
     simp (config := { maxSteps := 2000000 }) only [go_sem, ↓reduceIte, Nat.reduceEqDiff, Nat.reduceLT, Nat.reduceLeDiff, Nat.reduceAdd, Nat.reduceMul, Nat.reduceSub, Nat.reduceBEq, Int.reduceToNat, and_assoc, sw0]
     change OW _ _ _ _ _ _
     refine OW.run [1, 3, 5, 8, 9, 36, 37, 38] ?_
     simp (config := { maxSteps := 2000000 }) only [go_sem, ↓reduceIte, Nat.reduceEqDiff, Nat.reduceLT, Nat.reduceLeDiff, Nat.reduceAdd, Nat.reduceMul, Nat.reduceSub, Nat.reduceBEq, Int.reduceToNat, and_assoc, sw0]
     refine OW.nil (hK _ ?_)
     clear hK K
     change PW _ _ _ _ _
     refine PW.regionK fun K hK => ?_
     refine OW.run [1, 3, 5, 8, 9, 36, 37, 38] ?_
     simp (config := { maxSteps := 2000000 }) only [go_sem, ↓reduceIte, Nat.reduceEqDiff, Nat.reduceLT, Nat.reduceLeDiff, Nat.reduceAdd, Nat.reduceMul, Nat.reduceSub, Nat.reduceBEq, Int.reduceToNat, and_assoc, sw0]
     refine OW.nil (hK _ ?_)
     clear hK K
     change PW _ _ _ _ _
     refine PW.seq ?_
     refine PW.regionK fun K hK => ?_
     refine OW.run [1, 3, 5, 8, 9, 36, 37, 38, 39] ?_
     simp (config := { maxSteps := 2000000 }) only [go_sem, ↓reduceIte, Nat.reduceEqDiff, Nat.reduceLT, Nat.reduceLeDiff, Nat.reduceAdd, Nat.reduceMul, Nat.reduceSub, Nat.reduceBEq, Int.reduceToNat, and_assoc, sw0]
     refine OW.nil (hK _ ?_)
     clear hK K
     change PW _ _ _ _ _
     refine PW.seq ?_
     refine PW.cond rfl (fun h35 => ?_) (fun h35 => ?_)
     ·
      refine PW.skip ?_
      change PW _ _ _ _ _
      refine PW.seq ?_
      refine PW.block ?_
      refine PW.seq ?_
      obtain ⟨c36, hrun⟩ := chk_some hrun
      refine PW.regionK fun K hK => ?_
      refine OW.run [1, 3, 5, 8, 9, 11, 36, 37, 38] ?_
      simp (config := { maxSteps := 2000000 }) only [go_sem, ↓reduceIte, Nat.reduceEqDiff, Nat.reduceLT, Nat.reduceLeDiff, Nat.reduceAdd, Nat.reduceMul, Nat.reduceSub, Nat.reduceBEq, Int.reduceToNat, and_assoc, sw0]
      refine And.intro (by omega) (And.intro (by omega) ?_)
      refine OW.nil (hK _ ?_)
      clear hK K
      change PW _ _ _ _ _
      refine PW.regionK fun K hK => ?_
      refine OW.run [1, 3, 5, 8, 9, 36, 37, 38] ?_
      simp (config := { maxSteps := 2000000 }) only [go_sem, ↓reduceIte, Nat.reduceEqDiff, Nat.reduceLT, Nat.reduceLeDiff, Nat.reduceAdd, Nat.reduceMul, Nat.reduceSub, Nat.reduceBEq, Int.reduceToNat, and_assoc, sw0]
      refine OW.inlineA rfl rfl rfl (by ((simp only [go_sem, List.toList_toArray, ↓reduceIte, Nat.reduceEqDiff, Nat.reduceLT, Nat.reduceBEq]); exact rfl)) Tryz.func125 rfl (by rw [Tryz.results125]) Tryz.ntmps125 Tryz.call125 (by (simp only [go_sem, Nat.reduceLT])) ?_
      intro p G
      change PW _ _ _ _ _
      try simp only [go_sem, ↓reduceIte, Nat.reduceEqDiff, Nat.reduceLT, Nat.reduceLeDiff, Nat.reduceAdd, Nat.reduceMul, Nat.reduceSub, Nat.reduceBEq]
      refine PW.seq ?_
      refine PW.regionK fun K hK => ?_
      refine OW.run [0, 1] ?_
      simp (config := { maxSteps := 2000000 }) only [go_sem, ↓reduceIte, Nat.reduceEqDiff, Nat.reduceLT, Nat.reduceLeDiff, Nat.reduceAdd, Nat.reduceMul, Nat.reduceSub, Nat.reduceBEq, Int.reduceToNat, and_assoc, sw0]
      refine OW.nil (hK _ ?_)
      clear hK K
      change PW _ _ _ _ _
      refine PW.seq ?_
      refine PW.drawK 14 mixed (by kernel_rfl) fun K hK => ?_
      change FW _ _ _ _ _
      refine FW.run ?_
      simp (config := { maxSteps := 2000000 }) only [go_sem, ↓reduceIte, Nat.reduceEqDiff, Nat.reduceLT, Nat.reduceLeDiff, Nat.reduceAdd, Nat.reduceMul, Nat.reduceSub, Nat.reduceBEq, Int.reduceToNat, and_assoc, sw0]
      refine And.intro (by omega) (And.intro (by omega) (And.intro (by omega) (And.intro (by omega) ?_)))
      refine FW.nil ?_
      change OW _ _ _ _ _ _
      refine OW.run [4] ?_
      simp (config := { maxSteps := 2000000 }) only [go_sem, ↓reduceIte, Nat.reduceEqDiff, Nat.reduceLT, Nat.reduceLeDiff, Nat.reduceAdd, Nat.reduceMul, Nat.reduceSub, Nat.reduceBEq, Int.reduceToNat, and_assoc, sw0]
      refine And.intro (by omega) (And.intro (by omega) ?_)
      refine OW.nil (hK _ ?_)
      clear hK K
      change PW _ _ _ _ _
      refine PW.ret ?_
      refine ⟨.inr rfl, rfl, rfl, ?_⟩
      simp (config := { maxSteps := 2000000 }) only [go_sem, ↓reduceIte, Nat.reduceEqDiff, Nat.reduceLT, Nat.reduceLeDiff, Nat.reduceAdd, Nat.reduceMul, Nat.reduceSub, Nat.reduceBEq, Int.reduceToNat, and_assoc, sw0]
      change OW _ _ _ _ _ _
      refine OW.run [1, 3, 5, 8, 9, 36, 37, 38] ?_
      simp (config := { maxSteps := 2000000 }) only [go_sem, ↓reduceIte, Nat.reduceEqDiff, Nat.reduceLT, Nat.reduceLeDiff, Nat.reduceAdd, Nat.reduceMul, Nat.reduceSub, Nat.reduceBEq, Int.reduceToNat, and_assoc, sw0]
      refine OW.inlineA rfl rfl rfl (by ((simp only [go_sem, List.toList_toArray, ↓reduceIte, Nat.reduceEqDiff, Nat.reduceLT, Nat.reduceBEq]); exact rfl)) Tryz.func125 rfl (by rw [Tryz.results125]) Tryz.ntmps125 Tryz.call125 (by (simp only [go_sem, Nat.reduceLT])) ?_
      intro p G
      change PW _ _ _ _ _
      try simp only [go_sem, ↓reduceIte, Nat.reduceEqDiff, Nat.reduceLT, Nat.reduceLeDiff, Nat.reduceAdd, Nat.reduceMul, Nat.reduceSub, Nat.reduceBEq]
      refine PW.seq ?_
      refine PW.regionK fun K hK => ?_
      refine OW.run [0, 1] ?_
      simp (config := { maxSteps := 2000000 }) only [go_sem, ↓reduceIte, Nat.reduceEqDiff, Nat.reduceLT, Nat.reduceLeDiff, Nat.reduceAdd, Nat.reduceMul, Nat.reduceSub, Nat.reduceBEq, Int.reduceToNat, and_assoc, sw0]
      refine OW.nil (hK _ ?_)
      clear hK K
      change PW _ _ _ _ _
      refine PW.seq ?_
      refine PW.drawK 14 mixed (by kernel_rfl) fun K hK => ?_
      change FW _ _ _ _ _
      refine FW.run ?_
      simp (config := { maxSteps := 2000000 }) only [go_sem, ↓reduceIte, Nat.reduceEqDiff, Nat.reduceLT, Nat.reduceLeDiff, Nat.reduceAdd, Nat.reduceMul, Nat.reduceSub, Nat.reduceBEq, Int.reduceToNat, and_assoc, sw0]
      refine And.intro (by omega) (And.intro (by omega) (And.intro (by omega) (And.intro (by omega) ?_)))
      refine FW.nil ?_
      change OW _ _ _ _ _ _
      refine OW.run [4] ?_
      simp (config := { maxSteps := 2000000 }) only [go_sem, ↓reduceIte, Nat.reduceEqDiff, Nat.reduceLT, Nat.reduceLeDiff, Nat.reduceAdd, Nat.reduceMul, Nat.reduceSub, Nat.reduceBEq, Int.reduceToNat, and_assoc, sw0]
      refine And.intro (by omega) (And.intro (by omega) ?_)
      refine OW.nil (hK _ ?_)
      clear hK K
      change PW _ _ _ _ _
      refine PW.ret ?_
      refine ⟨.inr rfl, rfl, rfl, ?_⟩
      simp (config := { maxSteps := 2000000 }) only [go_sem, ↓reduceIte, Nat.reduceEqDiff, Nat.reduceLT, Nat.reduceLeDiff, Nat.reduceAdd, Nat.reduceMul, Nat.reduceSub, Nat.reduceBEq, Int.reduceToNat, and_assoc, sw0]
      change OW _ _ _ _ _ _
      refine OW.run [1, 3, 5, 8, 9, 36, 37, 38] ?_
      simp (config := { maxSteps := 2000000 }) only [go_sem, ↓reduceIte, Nat.reduceEqDiff, Nat.reduceLT, Nat.reduceLeDiff, Nat.reduceAdd, Nat.reduceMul, Nat.reduceSub, Nat.reduceBEq, Int.reduceToNat, and_assoc, sw0]
      refine OW.nil (hK _ ?_)
      clear hK K
      change PW _ _ _ _ _
      refine PW.regionK fun K hK => ?_
      refine OW.run [1, 3, 5, 8, 9, 36, 37, 38] ?_
      simp (config := { maxSteps := 2000000 }) only [go_sem, ↓reduceIte, Nat.reduceEqDiff, Nat.reduceLT, Nat.reduceLeDiff, Nat.reduceAdd, Nat.reduceMul, Nat.reduceSub, Nat.reduceBEq, Int.reduceToNat, and_assoc, sw0]
      refine OW.nil (hK _ ?_)
      clear hK K
      change PW _ _ _ _ _
      refine PW.seq ?_
      refine PW.regionK fun K hK => ?_
      refine OW.run [1, 3, 5, 8, 9, 36, 37, 38, 39] ?_
      simp (config := { maxSteps := 2000000 }) only [go_sem, ↓reduceIte, Nat.reduceEqDiff, Nat.reduceLT, Nat.reduceLeDiff, Nat.reduceAdd, Nat.reduceMul, Nat.reduceSub, Nat.reduceBEq, Int.reduceToNat, and_assoc, sw0]
      refine OW.nil (hK _ ?_)
      clear hK K
      change PW _ _ _ _ _
      refine PW.seq ?_
      refine PW.cond rfl (fun h37 => ?_) (fun h37 => ?_)
      · exact absurd h37 (by decide)
      ·
       refine PW.exit ?_
       refine hN32 [] () _ hrun (by exact trivial) ?_
       (simp only [Env.frzL, Env.frz, frzOb, V.frz, V.frz.frzs, asD, map_asD, sw1, go_sem, ↓reduceIte, Nat.reduceEqDiff, Nat.reduceLT, Nat.reduceLeDiff, Nat.reduceAdd, Nat.reduceMul, Nat.reduceSub, Nat.reduceBEq]; done)
     · exact absurd h35 (by decide)
    · exact absurd h33 (by decide)
   ·
    rintro _ hrun
    try simp only [go_sem, ↓reduceIte, Nat.reduceEqDiff, Nat.reduceLT, Nat.reduceLeDiff, Nat.reduceAdd, Nat.reduceMul, Nat.reduceSub, Nat.reduceBEq]
    refine PW.seq ?_
    refine PW.seq ?_
    refine PW.regionK fun K hK => ?_
    refine OW.run [1, 3, 5, 8, 52] ?_
    simp (config := { maxSteps := 2000000 }) only [go_sem, ↓reduceIte, Nat.reduceEqDiff, Nat.reduceLT, Nat.reduceLeDiff, Nat.reduceAdd, Nat.reduceMul, Nat.reduceSub, Nat.reduceBEq, Int.reduceToNat, and_assoc, sw0]
    refine OW.nil (hK _ ?_)
    clear hK K
    change PW _ _ _ _ _
    refine PW.cond rfl (fun h38 => ?_) (fun h38 => ?_)
    ·
     replace hrun := br_t h38 hrun
     refine PW.seq ?_
     refine PW.regionK fun K hK => ?_
     refine OW.run [6] ?_
     simp (config := { maxSteps := 2000000 }) only [go_sem, ↓reduceIte, Nat.reduceEqDiff, Nat.reduceLT, Nat.reduceLeDiff, Nat.reduceAdd, Nat.reduceMul, Nat.reduceSub, Nat.reduceBEq, Int.reduceToNat, and_assoc, sw0]
     refine OW.nil (hK _ ?_)
     clear hK K
     change PW _ _ _ _ _
     refine PW.ret ?_
     change PW.Ends _ _ _ _ _ _
     refine PW.Ends.intro (.inr rfl) ?_
     simp (config := { maxSteps := 2000000 }) only [go_sem, ↓reduceIte, Nat.reduceEqDiff, Nat.reduceLT, Nat.reduceLeDiff, Nat.reduceAdd, Nat.reduceMul, Nat.reduceSub, Nat.reduceBEq, Int.reduceToNat, and_assoc, sw0]
     obtain rfl := Option.some.inj hrun
     refine RetOK.data' 4 (by exact trivial) ?_
     rfl
    ·
     replace hrun := br_f h38 hrun
     refine PW.skip ?_
     change PW _ _ _ _ _
     refine PW.seq ?_
     refine PW.regionK fun K hK => ?_
     refine OW.run [5, 8, 12] ?_
     simp (config := { maxSteps := 2000000 }) only [go_sem, ↓reduceIte, Nat.reduceEqDiff, Nat.reduceLT, Nat.reduceLeDiff, Nat.reduceAdd, Nat.reduceMul, Nat.reduceSub, Nat.reduceBEq, Int.reduceToNat, and_assoc, sw0]
     refine And.intro (by omega) (And.intro (by omega) ?_)
     refine OW.nil (hK _ ?_)
     clear hK K
     change PW _ _ _ _ _
     refine PW.joinS (τ := Unit) [5] 0 (fun _ => [(5, .d (.ref [(I (2 : Int)), (I e_At), (I e_Phone), (I e_Preamble), (I e_Sent), (I e_Identity)]))]) (fun _ => []) _ _ r (by exact Nat.le_refl _) hrun ?_ ?_
     ·
      intro K_5 hrun N39 hN39
      refine PW.seq ?_
      refine PW.regionK fun K hK => ?_
      refine OW.run [5, 12, 59, 60, 61] ?_
      simp (config := { maxSteps := 2000000 }) only [go_sem, ↓reduceIte, Nat.reduceEqDiff, Nat.reduceLT, Nat.reduceLeDiff, Nat.reduceAdd, Nat.reduceMul, Nat.reduceSub, Nat.reduceBEq, Int.reduceToNat, and_assoc, sw0]
      refine OW.nil (hK _ ?_)
      clear hK K
      change PW _ _ _ _ _
      refine PW.block ?_
      refine PW.loopN 3 ?_
      change PW _ _ _ _ _
      refine PW.seq ?_
      refine PW.regionK fun K hK => ?_
      refine OW.run [5, 12, 59, 60, 61, 62] ?_
      simp (config := { maxSteps := 2000000 }) only [go_sem, ↓reduceIte, Nat.reduceEqDiff, Nat.reduceLT, Nat.reduceLeDiff, Nat.reduceAdd, Nat.reduceMul, Nat.reduceSub, Nat.reduceBEq, Int.reduceToNat, and_assoc, sw0]
      refine OW.nil (hK _ ?_)
      clear hK K
      change PW _ _ _ _ _
      refine PW.seq ?_
      refine PW.cond rfl (fun h40 => ?_) (fun h40 => ?_)
      ·
       refine PW.skip ?_
       change PW _ _ _ _ _
       refine PW.seq ?_
       refine PW.block ?_
       refine PW.seq ?_
       obtain ⟨c41, hrun⟩ := chk_some hrun
       refine PW.regionK fun K hK => ?_
       refine OW.run [5, 12, 14, 59, 60, 61] ?_
       simp (config := { maxSteps := 2000000 }) only [go_sem, ↓reduceIte, Nat.reduceEqDiff, Nat.reduceLT, Nat.reduceLeDiff, Nat.reduceAdd, Nat.reduceMul, Nat.reduceSub, Nat.reduceBEq, Int.reduceToNat, and_assoc, sw0]
       refine And.intro (by omega) (And.intro (by omega) ?_)
       refine OW.nil (hK _ ?_)
       clear hK K
       change PW _ _ _ _ _
       refine PW.seq ?_
       refine PW.frz 1 (by exact Nat.zero_le _) (by rfl) ?_
       simp only [Env.frzL, Env.frz, frzOb, V.frz, V.frz.frzs, asD, map_asD, map_nz_I, map_nz_Bo, map_nz_Sx, map_nz_L, nz_int, nz_bool, nz_str, nz_list, nz_ref, nz_nil, go_sem, ↓reduceIte, Nat.reduceEqDiff, Nat.reduceLT, Nat.reduceLeDiff, Nat.reduceAdd, Nat.reduceMul, Nat.reduceSub, Nat.reduceBEq]
       change PW _ _ _ _ _
       obtain ⟨x17, e17, hrun⟩ := bnd_some hrun
       obtain ⟨x18, e18, hrun⟩ := bnd_some hrun
       refine PW.drawK 11 mixed (by kernel_rfl) fun K hK => ?_
       change FW _ _ _ _ _
       refine FW.run ?_
       simp (config := { maxSteps := 2000000 }) only [go_sem, ↓reduceIte, Nat.reduceEqDiff, Nat.reduceLT, Nat.reduceLeDiff, Nat.reduceAdd, Nat.reduceMul, Nat.reduceSub, Nat.reduceBEq, Int.reduceToNat, and_assoc, sw0]
       refine FW.callG' (g := ((3 : Int) != (2 : Int))) 4 rfl rfl ?_ (fun hg => by first | rfl | (simp only [go_sem, ↓reduceIte]; rfl)) (fun hg => by ((simp only [go_sem, List.toList_toArray, ↓reduceIte, Nat.reduceEqDiff, Nat.reduceLT, Nat.reduceBEq]); exact rfl)) (fun hg => ?_) (fun hg => (access_use_of_ok N _ _ _ _ _ _ _ _ (grd_t hg e17))) ?_ ?_ ?_ ?_
       · rfl
       · rfl
       · exact okD_all rfl
       · exact .inl rfl
       · (simp only [go_sem, Nat.reduceLT])
       refine FW.run ?_
       simp (config := { maxSteps := 2000000 }) only [go_sem, ↓reduceIte, Nat.reduceEqDiff, Nat.reduceLT, Nat.reduceLeDiff, Nat.reduceAdd, Nat.reduceMul, Nat.reduceSub, Nat.reduceBEq, Int.reduceToNat, and_assoc, sw0]
       refine And.intro (by omega) ?_
       refine FW.nil ?_
       change OW _ _ _ _ _ _
       refine OW.run [5, 12, 59, 60, 61, 78] ?_
       simp (config := { maxSteps := 2000000 }) only [go_sem, ↓reduceIte, Nat.reduceEqDiff, Nat.reduceLT, Nat.reduceLeDiff, Nat.reduceAdd, Nat.reduceMul, Nat.reduceSub, Nat.reduceBEq, Int.reduceToNat, and_assoc, sw0]
       refine OW.callG' (g := ((3 : Int) != (2 : Int))) 4 rfl rfl ?_ (fun hg => by first | rfl | (simp only [go_sem, ↓reduceIte]; rfl)) (fun hg => by ((simp only [go_sem, List.toList_toArray, ↓reduceIte, Nat.reduceEqDiff, Nat.reduceLT, Nat.reduceBEq]); exact rfl)) (fun hg => ?_) (fun hg => (access_within_ok N _ _ _ _ (grd_t hg e18))) ?_ ?_ ?_ ?_
       · rfl
       · rfl
       · exact okD_all rfl
       · exact .inl rfl
       · (simp only [go_sem, Nat.reduceLT])
       refine OW.run [5, 12, 59, 60, 61, 78] ?_
       simp (config := { maxSteps := 2000000 }) only [go_sem, ↓reduceIte, Nat.reduceEqDiff, Nat.reduceLT, Nat.reduceLeDiff, Nat.reduceAdd, Nat.reduceMul, Nat.reduceSub, Nat.reduceBEq, Int.reduceToNat, and_assoc, sw0]
       refine OW.nil (hK _ ?_)
       clear hK K
       change PW _ _ _ _ _
       refine PW.cond rfl (fun h42 => ?_) (fun h42 => ?_)
       ·
        replace hrun := br_t h42 hrun
        refine PW.seq ?_
        refine PW.regionK fun K hK => ?_
        refine OW.run [6] ?_
        simp (config := { maxSteps := 2000000 }) only [go_sem, ↓reduceIte, Nat.reduceEqDiff, Nat.reduceLT, Nat.reduceLeDiff, Nat.reduceAdd, Nat.reduceMul, Nat.reduceSub, Nat.reduceBEq, Int.reduceToNat, and_assoc, sw0]
        refine OW.nil (hK _ ?_)
        clear hK K
        change PW _ _ _ _ _
        refine PW.ret ?_
        change PW.Ends _ _ _ _ _ _
        refine PW.Ends.intro (.inr rfl) ?_
        simp (config := { maxSteps := 2000000 }) only [go_sem, ↓reduceIte, Nat.reduceEqDiff, Nat.reduceLT, Nat.reduceLeDiff, Nat.reduceAdd, Nat.reduceMul, Nat.reduceSub, Nat.reduceBEq, Int.reduceToNat, and_assoc, sw0]
        obtain rfl := Option.some.inj hrun
        refine RetOK.data' 4 (by exact trivial) ?_
        rfl
       ·
        replace hrun := br_f h42 hrun
        refine PW.skip ?_
        change PW _ _ _ _ _
        refine PW.regionK fun K hK => ?_
        refine OW.run [5, 12, 59, 60, 61] ?_
        simp (config := { maxSteps := 2000000 }) only [go_sem, ↓reduceIte, Nat.reduceEqDiff, Nat.reduceLT, Nat.reduceLeDiff, Nat.reduceAdd, Nat.reduceMul, Nat.reduceSub, Nat.reduceBEq, Int.reduceToNat, and_assoc, sw0]
        refine OW.nil (hK _ ?_)
        clear hK K
        change PW _ _ _ _ _
        refine PW.seq ?_
        refine PW.regionK fun K hK => ?_
        refine OW.run [5, 12, 59, 60, 61, 62] ?_
        simp (config := { maxSteps := 2000000 }) only [go_sem, ↓reduceIte, Nat.reduceEqDiff, Nat.reduceLT, Nat.reduceLeDiff, Nat.reduceAdd, Nat.reduceMul, Nat.reduceSub, Nat.reduceBEq, Int.reduceToNat, and_assoc, sw0]
        refine OW.nil (hK _ ?_)
        clear hK K
        change PW _ _ _ _ _
        refine PW.seq ?_
        refine PW.cond rfl (fun h43 => ?_) (fun h43 => ?_)
        ·
         refine PW.skip ?_
         change PW _ _ _ _ _
         refine PW.seq ?_
         refine PW.block ?_
         refine PW.seq ?_
         obtain ⟨c44, hrun⟩ := chk_some hrun
         refine PW.regionK fun K hK => ?_
         refine OW.run [5, 12, 14, 59, 60, 61] ?_
         simp (config := { maxSteps := 2000000 }) only [go_sem, ↓reduceIte, Nat.reduceEqDiff, Nat.reduceLT, Nat.reduceLeDiff, Nat.reduceAdd, Nat.reduceMul, Nat.reduceSub, Nat.reduceBEq, Int.reduceToNat, and_assoc, sw0]
         refine And.intro (by omega) (And.intro (by omega) ?_)
         refine OW.nil (hK _ ?_)
         clear hK K
         change PW _ _ _ _ _
         refine PW.seq ?_
         obtain ⟨x19, e19, hrun⟩ := bnd_some hrun
         obtain ⟨x20, e20, hrun⟩ := bnd_some hrun
         refine PW.drawK 11 mixed (by kernel_rfl) fun K hK => ?_
         change FW _ _ _ _ _
         refine FW.run ?_
         simp (config := { maxSteps := 2000000 }) only [go_sem, ↓reduceIte, Nat.reduceEqDiff, Nat.reduceLT, Nat.reduceLeDiff, Nat.reduceAdd, Nat.reduceMul, Nat.reduceSub, Nat.reduceBEq, Int.reduceToNat, and_assoc, sw0]
         refine FW.callG' (g := ((0 : Int) != (2 : Int))) 4 rfl rfl ?_ (fun hg => by first | rfl | (simp only [go_sem, ↓reduceIte]; rfl)) (fun hg => by ((simp only [go_sem, List.toList_toArray, ↓reduceIte, Nat.reduceEqDiff, Nat.reduceLT, Nat.reduceBEq]); exact rfl)) (fun hg => ?_) (fun hg => (access_use_of_ok N _ _ _ _ _ _ _ _ (grd_t hg e19))) ?_ ?_ ?_ ?_
         · rfl
         · rfl
         · exact okD_all rfl
         · exact .inl rfl
         · (simp only [go_sem, Nat.reduceLT])
         refine FW.run ?_
         simp (config := { maxSteps := 2000000 }) only [go_sem, ↓reduceIte, Nat.reduceEqDiff, Nat.reduceLT, Nat.reduceLeDiff, Nat.reduceAdd, Nat.reduceMul, Nat.reduceSub, Nat.reduceBEq, Int.reduceToNat, and_assoc, sw0]
         refine And.intro (by omega) ?_
         refine FW.nil ?_
         change OW _ _ _ _ _ _
         refine OW.run [5, 12, 59, 60, 61, 78] ?_
         simp (config := { maxSteps := 2000000 }) only [go_sem, ↓reduceIte, Nat.reduceEqDiff, Nat.reduceLT, Nat.reduceLeDiff, Nat.reduceAdd, Nat.reduceMul, Nat.reduceSub, Nat.reduceBEq, Int.reduceToNat, and_assoc, sw0]
         refine OW.callG' (g := ((0 : Int) != (2 : Int))) 4 rfl rfl ?_ (fun hg => by first | rfl | (simp only [go_sem, ↓reduceIte]; rfl)) (fun hg => by ((simp only [go_sem, List.toList_toArray, ↓reduceIte, Nat.reduceEqDiff, Nat.reduceLT, Nat.reduceBEq]); exact rfl)) (fun hg => ?_) (fun hg => (access_within_ok N _ _ _ _ (grd_t hg e20))) ?_ ?_ ?_ ?_
         · rfl
         · rfl
         · exact okD_all rfl
         · exact .inl rfl
         · (simp only [go_sem, Nat.reduceLT])
         refine OW.run [5, 12, 59, 60, 61, 78] ?_
         simp (config := { maxSteps := 2000000 }) only [go_sem, ↓reduceIte, Nat.reduceEqDiff, Nat.reduceLT, Nat.reduceLeDiff, Nat.reduceAdd, Nat.reduceMul, Nat.reduceSub, Nat.reduceBEq, Int.reduceToNat, and_assoc, sw0]
         refine OW.nil (hK _ ?_)
         clear hK K
         change PW _ _ _ _ _
         refine PW.cond rfl (fun h45 => ?_) (fun h45 => ?_)
         ·
          replace hrun := br_t h45 hrun
          refine PW.seq ?_
          refine PW.regionK fun K hK => ?_
          refine OW.run [6] ?_
          simp (config := { maxSteps := 2000000 }) only [go_sem, ↓reduceIte, Nat.reduceEqDiff, Nat.reduceLT, Nat.reduceLeDiff, Nat.reduceAdd, Nat.reduceMul, Nat.reduceSub, Nat.reduceBEq, Int.reduceToNat, and_assoc, sw0]
          refine OW.nil (hK _ ?_)
          clear hK K
          change PW _ _ _ _ _
          refine PW.ret ?_
          change PW.Ends _ _ _ _ _ _
          refine PW.Ends.intro (.inr rfl) ?_
          simp (config := { maxSteps := 2000000 }) only [go_sem, ↓reduceIte, Nat.reduceEqDiff, Nat.reduceLT, Nat.reduceLeDiff, Nat.reduceAdd, Nat.reduceMul, Nat.reduceSub, Nat.reduceBEq, Int.reduceToNat, and_assoc, sw0]
          obtain rfl := Option.some.inj hrun
          refine RetOK.data' 4 (by exact trivial) ?_
          rfl
         ·
          replace hrun := br_f h45 hrun
          refine PW.skip ?_
          change PW _ _ _ _ _
          refine PW.regionK fun K hK => ?_
          refine OW.run [5, 12, 59, 60, 61] ?_
          simp (config := { maxSteps := 2000000 }) only [go_sem, ↓reduceIte, Nat.reduceEqDiff, Nat.reduceLT, Nat.reduceLeDiff, Nat.reduceAdd, Nat.reduceMul, Nat.reduceSub, Nat.reduceBEq, Int.reduceToNat, and_assoc, sw0]
          refine OW.nil (hK _ ?_)
          clear hK K
          change PW _ _ _ _ _
          refine PW.seq ?_
          refine PW.regionK fun K hK => ?_
          refine OW.run [5, 12, 59, 60, 61, 62] ?_
          simp (config := { maxSteps := 2000000 }) only [go_sem, ↓reduceIte, Nat.reduceEqDiff, Nat.reduceLT, Nat.reduceLeDiff, Nat.reduceAdd, Nat.reduceMul, Nat.reduceSub, Nat.reduceBEq, Int.reduceToNat, and_assoc, sw0]
          refine OW.nil (hK _ ?_)
          clear hK K
          change PW _ _ _ _ _
          refine PW.seq ?_
          refine PW.cond rfl (fun h46 => ?_) (fun h46 => ?_)
          · exact absurd h46 (by decide)
          ·
           refine PW.exit ?_
           refine hN39 [] () _ hrun (by exact trivial) ?_
           (simp only [Env.frzL, Env.frz, frzOb, V.frz, V.frz.frzs, asD, map_asD, sw1, go_sem, ↓reduceIte, Nat.reduceEqDiff, Nat.reduceLT, Nat.reduceLeDiff, Nat.reduceAdd, Nat.reduceMul, Nat.reduceSub, Nat.reduceBEq]; done)
        · exact absurd h43 (by decide)
      · exact absurd h40 (by decide)
     ·
      rintro _ hrun
      try simp only [go_sem, ↓reduceIte, Nat.reduceEqDiff, Nat.reduceLT, Nat.reduceLeDiff, Nat.reduceAdd, Nat.reduceMul, Nat.reduceSub, Nat.reduceBEq]
      refine PW.seq ?_
      obtain ⟨x21, e21, hrun⟩ := bnd_some hrun
      obtain ⟨x22, e22, hrun⟩ := bnd_some hrun
      refine PW.regionK fun K hK => ?_
      refine OW.run [6] ?_
      simp (config := { maxSteps := 2000000 }) only [go_sem, ↓reduceIte, Nat.reduceEqDiff, Nat.reduceLT, Nat.reduceLeDiff, Nat.reduceAdd, Nat.reduceMul, Nat.reduceSub, Nat.reduceBEq, Int.reduceToNat, and_assoc, sw0]
      refine And.intro (by omega) (And.intro (by omega) ?_)
      refine OW.call' 4 rfl rfl rfl (by ((simp only [go_sem, List.toList_toArray, ↓reduceIte, Nat.reduceEqDiff, Nat.reduceLT, Nat.reduceBEq]); exact rfl)) ?_ (access_within_ok N _ _ _ _ e21) ?_ ?_ ?_ ?_
      · rfl
      · exact okD_all rfl
      · exact .inl rfl
      · (simp only [go_sem, Nat.reduceLT])
      refine OW.run [6] ?_
      simp (config := { maxSteps := 2000000 }) only [go_sem, ↓reduceIte, Nat.reduceEqDiff, Nat.reduceLT, Nat.reduceLeDiff, Nat.reduceAdd, Nat.reduceMul, Nat.reduceSub, Nat.reduceBEq, Int.reduceToNat, and_assoc, sw0]
      refine OW.call' 4 rfl rfl rfl (by ((simp only [go_sem, List.toList_toArray, ↓reduceIte, Nat.reduceEqDiff, Nat.reduceLT, Nat.reduceBEq]); exact rfl)) ?_ (access_unless_ok N _ _ _ e22) ?_ ?_ ?_ ?_
      · rfl
      · exact okD_all rfl
      · exact .inl rfl
      · (simp only [go_sem, Nat.reduceLT])
      refine OW.run [6] ?_
      simp (config := { maxSteps := 2000000 }) only [go_sem, ↓reduceIte, Nat.reduceEqDiff, Nat.reduceLT, Nat.reduceLeDiff, Nat.reduceAdd, Nat.reduceMul, Nat.reduceSub, Nat.reduceBEq, Int.reduceToNat, and_assoc, sw0]
      refine OW.nil (hK _ ?_)
      clear hK K
      change PW _ _ _ _ _
      refine PW.ret ?_
      change PW.Ends _ _ _ _ _ _
      refine PW.Ends.intro (.inr rfl) ?_
      simp (config := { maxSteps := 2000000 }) only [go_sem, ↓reduceIte, Nat.reduceEqDiff, Nat.reduceLT, Nat.reduceLeDiff, Nat.reduceAdd, Nat.reduceMul, Nat.reduceSub, Nat.reduceBEq, Int.reduceToNat, and_assoc, sw0]
      obtain rfl := Option.some.inj hrun
      refine RetOK.data' 4 (by exact trivial) ?_
      rfl
  ·
   replace hrun := br_f (by decide) hrun
   replace hrun := br_f (by decide) hrun
   replace hrun := br_f (by decide) hrun
   replace hrun := br_t (by decide) hrun
   refine PW.regionK fun K hK => ?_
   refine OW.run [1, 3, 5, 8] ?_
   simp (config := { maxSteps := 2000000 }) only [go_sem, ↓reduceIte, Nat.reduceEqDiff, Nat.reduceLT, Nat.reduceLeDiff, Nat.reduceAdd, Nat.reduceMul, Nat.reduceSub, Nat.reduceBEq, Int.reduceToNat, and_assoc, sw0]
   refine And.intro (by omega) ?_
   refine OW.inlineA rfl rfl rfl (by ((simp only [go_sem, List.toList_toArray, ↓reduceIte, Nat.reduceEqDiff, Nat.reduceLT, Nat.reduceBEq]); exact rfl)) Tryz.func122 rfl (by rw [Tryz.results122]) Tryz.ntmps122 Tryz.call122 (by (simp only [go_sem, Nat.reduceLT])) ?_
   intro p G
   change PW _ _ _ _ _
   try simp only [go_sem, ↓reduceIte, Nat.reduceEqDiff, Nat.reduceLT, Nat.reduceLeDiff, Nat.reduceAdd, Nat.reduceMul, Nat.reduceSub, Nat.reduceBEq]
   refine PW.seq ?_
   refine PW.regionK fun K hK => ?_
   refine OW.run [0, 2] ?_
   simp (config := { maxSteps := 2000000 }) only [go_sem, ↓reduceIte, Nat.reduceEqDiff, Nat.reduceLT, Nat.reduceLeDiff, Nat.reduceAdd, Nat.reduceMul, Nat.reduceSub, Nat.reduceBEq, Int.reduceToNat, and_assoc, sw0]
   refine OW.nil (hK _ ?_)
   clear hK K
   change PW _ _ _ _ _
   refine PW.seq ?_
   refine PW.regionK fun K hK => ?_
   refine OW.run [2] ?_
   simp (config := { maxSteps := 2000000 }) only [go_sem, ↓reduceIte, Nat.reduceEqDiff, Nat.reduceLT, Nat.reduceLeDiff, Nat.reduceAdd, Nat.reduceMul, Nat.reduceSub, Nat.reduceBEq, Int.reduceToNat, and_assoc, sw0]
   refine And.intro (by omega) (And.intro (by omega) ?_)
   refine OW.nil (hK _ ?_)
   clear hK K
   change PW _ _ _ _ _
   refine PW.ret ?_
   refine ⟨.inr rfl, rfl, rfl, ?_⟩
   simp (config := { maxSteps := 2000000 }) only [go_sem, ↓reduceIte, Nat.reduceEqDiff, Nat.reduceLT, Nat.reduceLeDiff, Nat.reduceAdd, Nat.reduceMul, Nat.reduceSub, Nat.reduceBEq, Int.reduceToNat, and_assoc, sw0]
   change OW _ _ _ _ _ _
   refine OW.run [1, 3, 5, 8] ?_
   simp (config := { maxSteps := 2000000 }) only [go_sem, ↓reduceIte, Nat.reduceEqDiff, Nat.reduceLT, Nat.reduceLeDiff, Nat.reduceAdd, Nat.reduceMul, Nat.reduceSub, Nat.reduceBEq, Int.reduceToNat, and_assoc, sw0]
   refine OW.nil (hK _ ?_)
   clear hK K
   change PW _ _ _ _ _
   refine PW.seq ?_
   refine PW.regionK fun K hK => ?_
   refine OW.run [1, 3, 5, 8, 9] ?_
   simp (config := { maxSteps := 2000000 }) only [go_sem, ↓reduceIte, Nat.reduceEqDiff, Nat.reduceLT, Nat.reduceLeDiff, Nat.reduceAdd, Nat.reduceMul, Nat.reduceSub, Nat.reduceBEq, Int.reduceToNat, and_assoc, sw0]
   refine And.intro (by omega) (And.intro (by omega) ?_)
   refine OW.nil (hK _ ?_)
   clear hK K
   change PW _ _ _ _ _
   refine PW.joinS (τ := Unit) [1, 3, 5, 8, 9] 9 (fun _ => []) (fun _ => [{ cells := [.d (I r_Preambles), .d (I r_Every), .d (I r_Window), .d (I r_Wait), .d (I r_Tries), .d (I r_Backoff), .d (I r_Identities)], e := 23 }, { cells := [.d (I (3 : Int)), .d (I e_At), .d (I e_Phone), .d (I e_Preamble), .d (I e_Sent), .d (I e_Identity)], e := 48 }, { cells := [.d (I x2), .d (I x3)], e := 26 }, { cells := [.d (Sx (⟨#[114, 101, 108, 101, 97, 115, 101]⟩ : ByteArray)), .own 7 0 1 1, .d (.clo 150 [])], e := 179 }, { cells := [.d (I (0 : Int)), .d (I (1 : Int))], e := 181 }, { cells := [.d (I (1 : Int)), .d (I (2 : Int))], e := 181 }, { cells := [.d (I (3 : Int)), .d (I (0 : Int))], e := 181 }, { cells := [.d (I (0 : Int))], e := 181 }, { cells := [.d (I (3 : Int)), .d (I e_At), .d (I e_Phone), .d (I (0 : Int)), .d (I (0 : Int)), .d (I (0 : Int))], e := 48 }]) _ _ r (by exact Nat.zero_le _) hrun ?_ ?_
   ·
    intro K_6 hrun N47 hN47
    refine PW.seq ?_
    refine PW.regionK fun K hK => ?_
    refine OW.run [1, 3, 5, 8, 9, 36, 37, 38] ?_
    simp (config := { maxSteps := 2000000 }) only [go_sem, ↓reduceIte, Nat.reduceEqDiff, Nat.reduceLT, Nat.reduceLeDiff, Nat.reduceAdd, Nat.reduceMul, Nat.reduceSub, Nat.reduceBEq, Int.reduceToNat, and_assoc, sw0]
    refine OW.nil (hK _ ?_)
    clear hK K
    change PW _ _ _ _ _
    refine PW.block ?_
    refine PW.loopN 2 ?_
    change PW _ _ _ _ _
    refine PW.seq ?_
    refine PW.regionK fun K hK => ?_
    refine OW.run [1, 3, 5, 8, 9, 36, 37, 38, 39] ?_
    simp (config := { maxSteps := 2000000 }) only [go_sem, ↓reduceIte, Nat.reduceEqDiff, Nat.reduceLT, Nat.reduceLeDiff, Nat.reduceAdd, Nat.reduceMul, Nat.reduceSub, Nat.reduceBEq, Int.reduceToNat, and_assoc, sw0]
    refine OW.nil (hK _ ?_)
    clear hK K
    change PW _ _ _ _ _
    refine PW.seq ?_
    refine PW.cond rfl (fun h48 => ?_) (fun h48 => ?_)
    ·
     refine PW.skip ?_
     change PW _ _ _ _ _
     refine PW.seq ?_
     refine PW.block ?_
     refine PW.seq ?_
     obtain ⟨c49, hrun⟩ := chk_some hrun
     refine PW.regionK fun K hK => ?_
     refine OW.run [1, 3, 5, 8, 9, 11, 36, 37, 38] ?_
     simp (config := { maxSteps := 2000000 }) only [go_sem, ↓reduceIte, Nat.reduceEqDiff, Nat.reduceLT, Nat.reduceLeDiff, Nat.reduceAdd, Nat.reduceMul, Nat.reduceSub, Nat.reduceBEq, Int.reduceToNat, and_assoc, sw0]
     refine And.intro (by omega) (And.intro (by omega) ?_)
     refine OW.nil (hK _ ?_)
     clear hK K
     change PW _ _ _ _ _
     refine PW.regionK fun K hK => ?_
     refine OW.run [1, 3, 5, 8, 9, 36, 37, 38] ?_
     simp (config := { maxSteps := 2000000 }) only [go_sem, ↓reduceIte, Nat.reduceEqDiff, Nat.reduceLT, Nat.reduceLeDiff, Nat.reduceAdd, Nat.reduceMul, Nat.reduceSub, Nat.reduceBEq, Int.reduceToNat, and_assoc, sw0]
     refine OW.inlineA rfl rfl rfl (by ((simp only [go_sem, List.toList_toArray, ↓reduceIte, Nat.reduceEqDiff, Nat.reduceLT, Nat.reduceBEq]); exact rfl)) Tryz.func125 rfl (by rw [Tryz.results125]) Tryz.ntmps125 Tryz.call125 (by (simp only [go_sem, Nat.reduceLT])) ?_
     intro p G
     change PW _ _ _ _ _
     try simp only [go_sem, ↓reduceIte, Nat.reduceEqDiff, Nat.reduceLT, Nat.reduceLeDiff, Nat.reduceAdd, Nat.reduceMul, Nat.reduceSub, Nat.reduceBEq]
     refine PW.seq ?_
     refine PW.regionK fun K hK => ?_
     refine OW.run [0, 1] ?_
     simp (config := { maxSteps := 2000000 }) only [go_sem, ↓reduceIte, Nat.reduceEqDiff, Nat.reduceLT, Nat.reduceLeDiff, Nat.reduceAdd, Nat.reduceMul, Nat.reduceSub, Nat.reduceBEq, Int.reduceToNat, and_assoc, sw0]
     refine OW.nil (hK _ ?_)
     clear hK K
     change PW _ _ _ _ _
     refine PW.seq ?_
     refine PW.drawK 14 mixed (by kernel_rfl) fun K hK => ?_
     change FW _ _ _ _ _
     refine FW.run ?_
     simp (config := { maxSteps := 2000000 }) only [go_sem, ↓reduceIte, Nat.reduceEqDiff, Nat.reduceLT, Nat.reduceLeDiff, Nat.reduceAdd, Nat.reduceMul, Nat.reduceSub, Nat.reduceBEq, Int.reduceToNat, and_assoc, sw0]
     refine And.intro (by omega) (And.intro (by omega) (And.intro (by omega) (And.intro (by omega) ?_)))
     refine FW.nil ?_
     change OW _ _ _ _ _ _
     refine OW.run [4] ?_
     simp (config := { maxSteps := 2000000 }) only [go_sem, ↓reduceIte, Nat.reduceEqDiff, Nat.reduceLT, Nat.reduceLeDiff, Nat.reduceAdd, Nat.reduceMul, Nat.reduceSub, Nat.reduceBEq, Int.reduceToNat, and_assoc, sw0]
     refine And.intro (by omega) (And.intro (by omega) ?_)
     refine OW.nil (hK _ ?_)
     clear hK K
     change PW _ _ _ _ _
     refine PW.ret ?_
     refine ⟨.inr rfl, rfl, rfl, ?_⟩
     simp (config := { maxSteps := 2000000 }) only [go_sem, ↓reduceIte, Nat.reduceEqDiff, Nat.reduceLT, Nat.reduceLeDiff, Nat.reduceAdd, Nat.reduceMul, Nat.reduceSub, Nat.reduceBEq, Int.reduceToNat, and_assoc, sw0]
     change OW _ _ _ _ _ _
     refine OW.run [1, 3, 5, 8, 9, 36, 37, 38] ?_
     simp (config := { maxSteps := 2000000 }) only [go_sem, ↓reduceIte, Nat.reduceEqDiff, Nat.reduceLT, Nat.reduceLeDiff, Nat.reduceAdd, Nat.reduceMul, Nat.reduceSub, Nat.reduceBEq, Int.reduceToNat, and_assoc, sw0]
     refine OW.inlineA rfl rfl rfl (by ((simp only [go_sem, List.toList_toArray, ↓reduceIte, Nat.reduceEqDiff, Nat.reduceLT, Nat.reduceBEq]); exact rfl)) Tryz.func125 rfl (by rw [Tryz.results125]) Tryz.ntmps125 Tryz.call125 (by (simp only [go_sem, Nat.reduceLT])) ?_
     intro p G
     change PW _ _ _ _ _
     try simp only [go_sem, ↓reduceIte, Nat.reduceEqDiff, Nat.reduceLT, Nat.reduceLeDiff, Nat.reduceAdd, Nat.reduceMul, Nat.reduceSub, Nat.reduceBEq]
     refine PW.seq ?_
     refine PW.regionK fun K hK => ?_
     refine OW.run [0, 1] ?_
     simp (config := { maxSteps := 2000000 }) only [go_sem, ↓reduceIte, Nat.reduceEqDiff, Nat.reduceLT, Nat.reduceLeDiff, Nat.reduceAdd, Nat.reduceMul, Nat.reduceSub, Nat.reduceBEq, Int.reduceToNat, and_assoc, sw0]
     refine OW.nil (hK _ ?_)
     clear hK K
     change PW _ _ _ _ _
     refine PW.seq ?_
     refine PW.drawK 14 mixed (by kernel_rfl) fun K hK => ?_
     change FW _ _ _ _ _
     refine FW.run ?_
     simp (config := { maxSteps := 2000000 }) only [go_sem, ↓reduceIte, Nat.reduceEqDiff, Nat.reduceLT, Nat.reduceLeDiff, Nat.reduceAdd, Nat.reduceMul, Nat.reduceSub, Nat.reduceBEq, Int.reduceToNat, and_assoc, sw0]
     refine And.intro (by omega) (And.intro (by omega) (And.intro (by omega) (And.intro (by omega) ?_)))
     refine FW.nil ?_
     change OW _ _ _ _ _ _
     refine OW.run [4] ?_
     simp (config := { maxSteps := 2000000 }) only [go_sem, ↓reduceIte, Nat.reduceEqDiff, Nat.reduceLT, Nat.reduceLeDiff, Nat.reduceAdd, Nat.reduceMul, Nat.reduceSub, Nat.reduceBEq, Int.reduceToNat, and_assoc, sw0]
     refine And.intro (by omega) (And.intro (by omega) ?_)
     refine OW.nil (hK _ ?_)
     clear hK K
     change PW _ _ _ _ _
     refine PW.ret ?_
     refine ⟨.inr rfl, rfl, rfl, ?_⟩
     simp (config := { maxSteps := 2000000 }) only [go_sem, ↓reduceIte, Nat.reduceEqDiff, Nat.reduceLT, Nat.reduceLeDiff, Nat.reduceAdd, Nat.reduceMul, Nat.reduceSub, Nat.reduceBEq, Int.reduceToNat, and_assoc, sw0]
     change OW _ _ _ _ _ _
     refine OW.run [1, 3, 5, 8, 9, 36, 37, 38] ?_
     simp (config := { maxSteps := 2000000 }) only [go_sem, ↓reduceIte, Nat.reduceEqDiff, Nat.reduceLT, Nat.reduceLeDiff, Nat.reduceAdd, Nat.reduceMul, Nat.reduceSub, Nat.reduceBEq, Int.reduceToNat, and_assoc, sw0]
     refine OW.nil (hK _ ?_)
     clear hK K
     change PW _ _ _ _ _
     refine PW.regionK fun K hK => ?_
     refine OW.run [1, 3, 5, 8, 9, 36, 37, 38] ?_
     simp (config := { maxSteps := 2000000 }) only [go_sem, ↓reduceIte, Nat.reduceEqDiff, Nat.reduceLT, Nat.reduceLeDiff, Nat.reduceAdd, Nat.reduceMul, Nat.reduceSub, Nat.reduceBEq, Int.reduceToNat, and_assoc, sw0]
     refine OW.nil (hK _ ?_)
     clear hK K
     change PW _ _ _ _ _
     refine PW.seq ?_
     refine PW.regionK fun K hK => ?_
     refine OW.run [1, 3, 5, 8, 9, 36, 37, 38, 39] ?_
     simp (config := { maxSteps := 2000000 }) only [go_sem, ↓reduceIte, Nat.reduceEqDiff, Nat.reduceLT, Nat.reduceLeDiff, Nat.reduceAdd, Nat.reduceMul, Nat.reduceSub, Nat.reduceBEq, Int.reduceToNat, and_assoc, sw0]
     refine OW.nil (hK _ ?_)
     clear hK K
     change PW _ _ _ _ _
     refine PW.seq ?_
     refine PW.cond rfl (fun h50 => ?_) (fun h50 => ?_)
     · exact absurd h50 (by decide)
     ·
      refine PW.exit ?_
      refine hN47 [] () _ hrun (by exact trivial) ?_
      (simp only [Env.frzL, Env.frz, frzOb, V.frz, V.frz.frzs, asD, map_asD, sw1, go_sem, ↓reduceIte, Nat.reduceEqDiff, Nat.reduceLT, Nat.reduceLeDiff, Nat.reduceAdd, Nat.reduceMul, Nat.reduceSub, Nat.reduceBEq]; done)
    · exact absurd h48 (by decide)
   ·
    rintro _ hrun
    try simp only [go_sem, ↓reduceIte, Nat.reduceEqDiff, Nat.reduceLT, Nat.reduceLeDiff, Nat.reduceAdd, Nat.reduceMul, Nat.reduceSub, Nat.reduceBEq]
    refine PW.seq ?_
    refine PW.seq ?_
    refine PW.regionK fun K hK => ?_
    refine OW.run [1, 3, 5, 8, 52] ?_
    simp (config := { maxSteps := 2000000 }) only [go_sem, ↓reduceIte, Nat.reduceEqDiff, Nat.reduceLT, Nat.reduceLeDiff, Nat.reduceAdd, Nat.reduceMul, Nat.reduceSub, Nat.reduceBEq, Int.reduceToNat, and_assoc, sw0]
    refine OW.nil (hK _ ?_)
    clear hK K
    change PW _ _ _ _ _
    refine PW.cond rfl (fun h51 => ?_) (fun h51 => ?_)
    ·
     replace hrun := br_t h51 hrun
     refine PW.seq ?_
     refine PW.regionK fun K hK => ?_
     refine OW.run [6] ?_
     simp (config := { maxSteps := 2000000 }) only [go_sem, ↓reduceIte, Nat.reduceEqDiff, Nat.reduceLT, Nat.reduceLeDiff, Nat.reduceAdd, Nat.reduceMul, Nat.reduceSub, Nat.reduceBEq, Int.reduceToNat, and_assoc, sw0]
     refine OW.nil (hK _ ?_)
     clear hK K
     change PW _ _ _ _ _
     refine PW.ret ?_
     change PW.Ends _ _ _ _ _ _
     refine PW.Ends.intro (.inr rfl) ?_
     simp (config := { maxSteps := 2000000 }) only [go_sem, ↓reduceIte, Nat.reduceEqDiff, Nat.reduceLT, Nat.reduceLeDiff, Nat.reduceAdd, Nat.reduceMul, Nat.reduceSub, Nat.reduceBEq, Int.reduceToNat, and_assoc, sw0]
     obtain rfl := Option.some.inj hrun
     refine RetOK.data' 4 (by exact trivial) ?_
     rfl
    ·
     replace hrun := br_f h51 hrun
     refine PW.skip ?_
     change PW _ _ _ _ _
     refine PW.seq ?_
     refine PW.regionK fun K hK => ?_
     refine OW.run [5, 8, 12] ?_
     simp (config := { maxSteps := 2000000 }) only [go_sem, ↓reduceIte, Nat.reduceEqDiff, Nat.reduceLT, Nat.reduceLeDiff, Nat.reduceAdd, Nat.reduceMul, Nat.reduceSub, Nat.reduceBEq, Int.reduceToNat, and_assoc, sw0]
     refine And.intro (by omega) (And.intro (by omega) ?_)
     refine OW.nil (hK _ ?_)
     clear hK K
     change PW _ _ _ _ _
     refine PW.joinS (τ := Unit) [5] 0 (fun _ => [(5, .d (.ref [(I (3 : Int)), (I e_At), (I e_Phone), (I e_Preamble), (I e_Sent), (I e_Identity)]))]) (fun _ => []) _ _ r (by exact Nat.le_refl _) hrun ?_ ?_
     ·
      intro K_7 hrun N52 hN52
      refine PW.seq ?_
      refine PW.regionK fun K hK => ?_
      refine OW.run [5, 12, 59, 60, 61] ?_
      simp (config := { maxSteps := 2000000 }) only [go_sem, ↓reduceIte, Nat.reduceEqDiff, Nat.reduceLT, Nat.reduceLeDiff, Nat.reduceAdd, Nat.reduceMul, Nat.reduceSub, Nat.reduceBEq, Int.reduceToNat, and_assoc, sw0]
      refine OW.nil (hK _ ?_)
      clear hK K
      change PW _ _ _ _ _
      refine PW.block ?_
      refine PW.loopN 2 ?_
      change PW _ _ _ _ _
      refine PW.seq ?_
      refine PW.regionK fun K hK => ?_
      refine OW.run [5, 12, 59, 60, 61, 62] ?_
      simp (config := { maxSteps := 2000000 }) only [go_sem, ↓reduceIte, Nat.reduceEqDiff, Nat.reduceLT, Nat.reduceLeDiff, Nat.reduceAdd, Nat.reduceMul, Nat.reduceSub, Nat.reduceBEq, Int.reduceToNat, and_assoc, sw0]
      refine OW.nil (hK _ ?_)
      clear hK K
      change PW _ _ _ _ _
      refine PW.seq ?_
      refine PW.cond rfl (fun h53 => ?_) (fun h53 => ?_)
      ·
       refine PW.skip ?_
       change PW _ _ _ _ _
       refine PW.seq ?_
       refine PW.block ?_
       refine PW.seq ?_
       obtain ⟨c54, hrun⟩ := chk_some hrun
       refine PW.regionK fun K hK => ?_
       refine OW.run [5, 12, 14, 59, 60, 61] ?_
       simp (config := { maxSteps := 2000000 }) only [go_sem, ↓reduceIte, Nat.reduceEqDiff, Nat.reduceLT, Nat.reduceLeDiff, Nat.reduceAdd, Nat.reduceMul, Nat.reduceSub, Nat.reduceBEq, Int.reduceToNat, and_assoc, sw0]
       refine And.intro (by omega) (And.intro (by omega) ?_)
       refine OW.nil (hK _ ?_)
       clear hK K
       change PW _ _ _ _ _
       refine PW.seq ?_
       refine PW.frz 1 (by exact Nat.zero_le _) (by rfl) ?_
       simp only [Env.frzL, Env.frz, frzOb, V.frz, V.frz.frzs, asD, map_asD, map_nz_I, map_nz_Bo, map_nz_Sx, map_nz_L, nz_int, nz_bool, nz_str, nz_list, nz_ref, nz_nil, go_sem, ↓reduceIte, Nat.reduceEqDiff, Nat.reduceLT, Nat.reduceLeDiff, Nat.reduceAdd, Nat.reduceMul, Nat.reduceSub, Nat.reduceBEq]
       change PW _ _ _ _ _
       obtain ⟨x23, e23, hrun⟩ := bnd_some hrun
       obtain ⟨x24, e24, hrun⟩ := bnd_some hrun
       refine PW.drawK 11 mixed (by kernel_rfl) fun K hK => ?_
       change FW _ _ _ _ _
       refine FW.run ?_
       simp (config := { maxSteps := 2000000 }) only [go_sem, ↓reduceIte, Nat.reduceEqDiff, Nat.reduceLT, Nat.reduceLeDiff, Nat.reduceAdd, Nat.reduceMul, Nat.reduceSub, Nat.reduceBEq, Int.reduceToNat, and_assoc, sw0]
       refine FW.callG' (g := ((0 : Int) != (2 : Int))) 4 rfl rfl ?_ (fun hg => by first | rfl | (simp only [go_sem, ↓reduceIte]; rfl)) (fun hg => by ((simp only [go_sem, List.toList_toArray, ↓reduceIte, Nat.reduceEqDiff, Nat.reduceLT, Nat.reduceBEq]); exact rfl)) (fun hg => ?_) (fun hg => (access_use_of_ok N _ _ _ _ _ _ _ _ (grd_t hg e23))) ?_ ?_ ?_ ?_
       · rfl
       · rfl
       · exact okD_all rfl
       · exact .inl rfl
       · (simp only [go_sem, Nat.reduceLT])
       refine FW.run ?_
       simp (config := { maxSteps := 2000000 }) only [go_sem, ↓reduceIte, Nat.reduceEqDiff, Nat.reduceLT, Nat.reduceLeDiff, Nat.reduceAdd, Nat.reduceMul, Nat.reduceSub, Nat.reduceBEq, Int.reduceToNat, and_assoc, sw0]
       refine And.intro (by omega) ?_
       refine FW.nil ?_
       change OW _ _ _ _ _ _
       refine OW.run [5, 12, 59, 60, 61, 78] ?_
       simp (config := { maxSteps := 2000000 }) only [go_sem, ↓reduceIte, Nat.reduceEqDiff, Nat.reduceLT, Nat.reduceLeDiff, Nat.reduceAdd, Nat.reduceMul, Nat.reduceSub, Nat.reduceBEq, Int.reduceToNat, and_assoc, sw0]
       refine OW.callG' (g := ((0 : Int) != (2 : Int))) 4 rfl rfl ?_ (fun hg => by first | rfl | (simp only [go_sem, ↓reduceIte]; rfl)) (fun hg => by ((simp only [go_sem, List.toList_toArray, ↓reduceIte, Nat.reduceEqDiff, Nat.reduceLT, Nat.reduceBEq]); exact rfl)) (fun hg => ?_) (fun hg => (access_within_ok N _ _ _ _ (grd_t hg e24))) ?_ ?_ ?_ ?_
       · rfl
       · rfl
       · exact okD_all rfl
       · exact .inl rfl
       · (simp only [go_sem, Nat.reduceLT])
       refine OW.run [5, 12, 59, 60, 61, 78] ?_
       simp (config := { maxSteps := 2000000 }) only [go_sem, ↓reduceIte, Nat.reduceEqDiff, Nat.reduceLT, Nat.reduceLeDiff, Nat.reduceAdd, Nat.reduceMul, Nat.reduceSub, Nat.reduceBEq, Int.reduceToNat, and_assoc, sw0]
       refine OW.nil (hK _ ?_)
       clear hK K
       change PW _ _ _ _ _
       refine PW.cond rfl (fun h55 => ?_) (fun h55 => ?_)
       ·
        replace hrun := br_t h55 hrun
        refine PW.seq ?_
        refine PW.regionK fun K hK => ?_
        refine OW.run [6] ?_
        simp (config := { maxSteps := 2000000 }) only [go_sem, ↓reduceIte, Nat.reduceEqDiff, Nat.reduceLT, Nat.reduceLeDiff, Nat.reduceAdd, Nat.reduceMul, Nat.reduceSub, Nat.reduceBEq, Int.reduceToNat, and_assoc, sw0]
        refine OW.nil (hK _ ?_)
        clear hK K
        change PW _ _ _ _ _
        refine PW.ret ?_
        change PW.Ends _ _ _ _ _ _
        refine PW.Ends.intro (.inr rfl) ?_
        simp (config := { maxSteps := 2000000 }) only [go_sem, ↓reduceIte, Nat.reduceEqDiff, Nat.reduceLT, Nat.reduceLeDiff, Nat.reduceAdd, Nat.reduceMul, Nat.reduceSub, Nat.reduceBEq, Int.reduceToNat, and_assoc, sw0]
        obtain rfl := Option.some.inj hrun
        refine RetOK.data' 4 (by exact trivial) ?_
        rfl
       ·
        replace hrun := br_f h55 hrun
        refine PW.skip ?_
        change PW _ _ _ _ _
        refine PW.regionK fun K hK => ?_
        refine OW.run [5, 12, 59, 60, 61] ?_
        simp (config := { maxSteps := 2000000 }) only [go_sem, ↓reduceIte, Nat.reduceEqDiff, Nat.reduceLT, Nat.reduceLeDiff, Nat.reduceAdd, Nat.reduceMul, Nat.reduceSub, Nat.reduceBEq, Int.reduceToNat, and_assoc, sw0]
        refine OW.nil (hK _ ?_)
        clear hK K
        change PW _ _ _ _ _
        refine PW.seq ?_
        refine PW.regionK fun K hK => ?_
        refine OW.run [5, 12, 59, 60, 61, 62] ?_
        simp (config := { maxSteps := 2000000 }) only [go_sem, ↓reduceIte, Nat.reduceEqDiff, Nat.reduceLT, Nat.reduceLeDiff, Nat.reduceAdd, Nat.reduceMul, Nat.reduceSub, Nat.reduceBEq, Int.reduceToNat, and_assoc, sw0]
        refine OW.nil (hK _ ?_)
        clear hK K
        change PW _ _ _ _ _
        refine PW.seq ?_
        refine PW.cond rfl (fun h56 => ?_) (fun h56 => ?_)
        · exact absurd h56 (by decide)
        ·
         refine PW.exit ?_
         refine hN52 [] () _ hrun (by exact trivial) ?_
         (simp only [Env.frzL, Env.frz, frzOb, V.frz, V.frz.frzs, asD, map_asD, sw1, go_sem, ↓reduceIte, Nat.reduceEqDiff, Nat.reduceLT, Nat.reduceLeDiff, Nat.reduceAdd, Nat.reduceMul, Nat.reduceSub, Nat.reduceBEq]; done)
      · exact absurd h53 (by decide)
     ·
      rintro _ hrun
      try simp only [go_sem, ↓reduceIte, Nat.reduceEqDiff, Nat.reduceLT, Nat.reduceLeDiff, Nat.reduceAdd, Nat.reduceMul, Nat.reduceSub, Nat.reduceBEq]
      refine PW.seq ?_
      obtain ⟨x25, e25, hrun⟩ := bnd_some hrun
      obtain ⟨x26, e26, hrun⟩ := bnd_some hrun
      refine PW.regionK fun K hK => ?_
      refine OW.run [6] ?_
      simp (config := { maxSteps := 2000000 }) only [go_sem, ↓reduceIte, Nat.reduceEqDiff, Nat.reduceLT, Nat.reduceLeDiff, Nat.reduceAdd, Nat.reduceMul, Nat.reduceSub, Nat.reduceBEq, Int.reduceToNat, and_assoc, sw0]
      refine And.intro (by omega) (And.intro (by omega) ?_)
      refine OW.call' 4 rfl rfl rfl (by ((simp only [go_sem, List.toList_toArray, ↓reduceIte, Nat.reduceEqDiff, Nat.reduceLT, Nat.reduceBEq]); exact rfl)) ?_ (access_within_ok N _ _ _ _ e25) ?_ ?_ ?_ ?_
      · rfl
      · exact okD_all rfl
      · exact .inl rfl
      · (simp only [go_sem, Nat.reduceLT])
      refine OW.run [6] ?_
      simp (config := { maxSteps := 2000000 }) only [go_sem, ↓reduceIte, Nat.reduceEqDiff, Nat.reduceLT, Nat.reduceLeDiff, Nat.reduceAdd, Nat.reduceMul, Nat.reduceSub, Nat.reduceBEq, Int.reduceToNat, and_assoc, sw0]
      refine OW.call' 4 rfl rfl rfl (by ((simp only [go_sem, List.toList_toArray, ↓reduceIte, Nat.reduceEqDiff, Nat.reduceLT, Nat.reduceBEq]); exact rfl)) ?_ (access_unless_ok N _ _ _ e26) ?_ ?_ ?_ ?_
      · rfl
      · exact okD_all rfl
      · exact .inl rfl
      · (simp only [go_sem, Nat.reduceLT])
      refine OW.run [6] ?_
      simp (config := { maxSteps := 2000000 }) only [go_sem, ↓reduceIte, Nat.reduceEqDiff, Nat.reduceLT, Nat.reduceLeDiff, Nat.reduceAdd, Nat.reduceMul, Nat.reduceSub, Nat.reduceBEq, Int.reduceToNat, and_assoc, sw0]
      refine OW.nil (hK _ ?_)
      clear hK K
      change PW _ _ _ _ _
      refine PW.ret ?_
      change PW.Ends _ _ _ _ _ _
      refine PW.Ends.intro (.inr rfl) ?_
      simp (config := { maxSteps := 2000000 }) only [go_sem, ↓reduceIte, Nat.reduceEqDiff, Nat.reduceLT, Nat.reduceLeDiff, Nat.reduceAdd, Nat.reduceMul, Nat.reduceSub, Nat.reduceBEq, Int.reduceToNat, and_assoc, sw0]
      obtain rfl := Option.some.inj hrun
      refine RetOK.data' 4 (by exact trivial) ?_
      rfl
  ·
   replace hrun := br_f (by decide) hrun
   replace hrun := br_f (by decide) hrun
   replace hrun := br_f (by decide) hrun
   replace hrun := br_f (by decide) hrun
   replace hrun := br_t (by decide) hrun
   refine PW.regionK fun K hK => ?_
   refine OW.run [1, 3, 5, 8] ?_
   simp (config := { maxSteps := 2000000 }) only [go_sem, ↓reduceIte, Nat.reduceEqDiff, Nat.reduceLT, Nat.reduceLeDiff, Nat.reduceAdd, Nat.reduceMul, Nat.reduceSub, Nat.reduceBEq, Int.reduceToNat, and_assoc, sw0]
   refine And.intro (by omega) ?_
   refine OW.inlineA rfl rfl rfl (by ((simp only [go_sem, List.toList_toArray, ↓reduceIte, Nat.reduceEqDiff, Nat.reduceLT, Nat.reduceBEq]); exact rfl)) Tryz.func122 rfl (by rw [Tryz.results122]) Tryz.ntmps122 Tryz.call122 (by (simp only [go_sem, Nat.reduceLT])) ?_
   intro p G
   change PW _ _ _ _ _
   try simp only [go_sem, ↓reduceIte, Nat.reduceEqDiff, Nat.reduceLT, Nat.reduceLeDiff, Nat.reduceAdd, Nat.reduceMul, Nat.reduceSub, Nat.reduceBEq]
   refine PW.seq ?_
   refine PW.regionK fun K hK => ?_
   refine OW.run [0, 2] ?_
   simp (config := { maxSteps := 2000000 }) only [go_sem, ↓reduceIte, Nat.reduceEqDiff, Nat.reduceLT, Nat.reduceLeDiff, Nat.reduceAdd, Nat.reduceMul, Nat.reduceSub, Nat.reduceBEq, Int.reduceToNat, and_assoc, sw0]
   refine OW.nil (hK _ ?_)
   clear hK K
   change PW _ _ _ _ _
   refine PW.seq ?_
   refine PW.regionK fun K hK => ?_
   refine OW.run [2] ?_
   simp (config := { maxSteps := 2000000 }) only [go_sem, ↓reduceIte, Nat.reduceEqDiff, Nat.reduceLT, Nat.reduceLeDiff, Nat.reduceAdd, Nat.reduceMul, Nat.reduceSub, Nat.reduceBEq, Int.reduceToNat, and_assoc, sw0]
   refine And.intro (by omega) (And.intro (by omega) ?_)
   refine OW.nil (hK _ ?_)
   clear hK K
   change PW _ _ _ _ _
   refine PW.ret ?_
   refine ⟨.inr rfl, rfl, rfl, ?_⟩
   simp (config := { maxSteps := 2000000 }) only [go_sem, ↓reduceIte, Nat.reduceEqDiff, Nat.reduceLT, Nat.reduceLeDiff, Nat.reduceAdd, Nat.reduceMul, Nat.reduceSub, Nat.reduceBEq, Int.reduceToNat, and_assoc, sw0]
   change OW _ _ _ _ _ _
   refine OW.run [1, 3, 5, 8] ?_
   simp (config := { maxSteps := 2000000 }) only [go_sem, ↓reduceIte, Nat.reduceEqDiff, Nat.reduceLT, Nat.reduceLeDiff, Nat.reduceAdd, Nat.reduceMul, Nat.reduceSub, Nat.reduceBEq, Int.reduceToNat, and_assoc, sw0]
   refine OW.nil (hK _ ?_)
   clear hK K
   change PW _ _ _ _ _
   refine PW.seq ?_
   refine PW.regionK fun K hK => ?_
   refine OW.run [1, 3, 5, 8, 9] ?_
   simp (config := { maxSteps := 2000000 }) only [go_sem, ↓reduceIte, Nat.reduceEqDiff, Nat.reduceLT, Nat.reduceLeDiff, Nat.reduceAdd, Nat.reduceMul, Nat.reduceSub, Nat.reduceBEq, Int.reduceToNat, and_assoc, sw0]
   refine And.intro (by omega) (And.intro (by omega) ?_)
   refine OW.nil (hK _ ?_)
   clear hK K
   change PW _ _ _ _ _
   refine PW.joinS (τ := Unit) [1, 3, 5, 8, 9] 9 (fun _ => []) (fun _ => [{ cells := [.d (I r_Preambles), .d (I r_Every), .d (I r_Window), .d (I r_Wait), .d (I r_Tries), .d (I r_Backoff), .d (I r_Identities)], e := 23 }, { cells := [.d (I (4 : Int)), .d (I e_At), .d (I e_Phone), .d (I e_Preamble), .d (I e_Sent), .d (I e_Identity)], e := 48 }, { cells := [.d (I x2), .d (I x3)], e := 26 }, { cells := [.d (Sx (⟨#[112, 97, 115, 115]⟩ : ByteArray)), .d (.val (.slice none 0 0)), .d (.clo 151 [])], e := 179 }, { cells := [.d (I (0 : Int)), .d (I (1 : Int))], e := 181 }, { cells := [.d (I (1 : Int)), .d (I (2 : Int))], e := 181 }, { cells := [.d (I (3 : Int)), .d (I (0 : Int))], e := 181 }, { cells := [.d (I (0 : Int))], e := 181 }, { cells := [.d (I (4 : Int)), .d (I e_At), .d (I (0 : Int)), .d (I (0 : Int)), .d (I (0 : Int)), .d (I (0 : Int))], e := 48 }]) _ _ r (by exact Nat.zero_le _) hrun ?_ ?_
   ·
    intro K_8 hrun N57 hN57
    refine PW.seq ?_
    refine PW.regionK fun K hK => ?_
    refine OW.run [1, 3, 5, 8, 9, 36, 37, 38] ?_
    simp (config := { maxSteps := 2000000 }) only [go_sem, ↓reduceIte, Nat.reduceEqDiff, Nat.reduceLT, Nat.reduceLeDiff, Nat.reduceAdd, Nat.reduceMul, Nat.reduceSub, Nat.reduceBEq, Int.reduceToNat, and_assoc, sw0]
    refine OW.nil (hK _ ?_)
    clear hK K
    change PW _ _ _ _ _
    refine PW.block ?_
    refine PW.loopN 1 ?_
    change PW _ _ _ _ _
    refine PW.seq ?_
    refine PW.regionK fun K hK => ?_
    refine OW.run [1, 3, 5, 8, 9, 36, 37, 38, 39] ?_
    simp (config := { maxSteps := 2000000 }) only [go_sem, ↓reduceIte, Nat.reduceEqDiff, Nat.reduceLT, Nat.reduceLeDiff, Nat.reduceAdd, Nat.reduceMul, Nat.reduceSub, Nat.reduceBEq, Int.reduceToNat, and_assoc, sw0]
    refine OW.nil (hK _ ?_)
    clear hK K
    change PW _ _ _ _ _
    refine PW.seq ?_
    refine PW.cond rfl (fun h58 => ?_) (fun h58 => ?_)
    · exact absurd h58 (by decide)
    ·
     refine PW.exit ?_
     refine hN57 [] () _ hrun (by exact trivial) ?_
     (simp only [Env.frzL, Env.frz, frzOb, V.frz, V.frz.frzs, asD, map_asD, sw1, go_sem, ↓reduceIte, Nat.reduceEqDiff, Nat.reduceLT, Nat.reduceLeDiff, Nat.reduceAdd, Nat.reduceMul, Nat.reduceSub, Nat.reduceBEq]; done)
   ·
    rintro _ hrun
    try simp only [go_sem, ↓reduceIte, Nat.reduceEqDiff, Nat.reduceLT, Nat.reduceLeDiff, Nat.reduceAdd, Nat.reduceMul, Nat.reduceSub, Nat.reduceBEq]
    refine PW.seq ?_
    refine PW.seq ?_
    refine PW.regionK fun K hK => ?_
    refine OW.run [1, 3, 5, 8, 52] ?_
    simp (config := { maxSteps := 2000000 }) only [go_sem, ↓reduceIte, Nat.reduceEqDiff, Nat.reduceLT, Nat.reduceLeDiff, Nat.reduceAdd, Nat.reduceMul, Nat.reduceSub, Nat.reduceBEq, Int.reduceToNat, and_assoc, sw0]
    refine OW.nil (hK _ ?_)
    clear hK K
    change PW _ _ _ _ _
    refine PW.cond rfl (fun h59 => ?_) (fun h59 => ?_)
    ·
     replace hrun := br_t h59 hrun
     refine PW.seq ?_
     refine PW.regionK fun K hK => ?_
     refine OW.run [6] ?_
     simp (config := { maxSteps := 2000000 }) only [go_sem, ↓reduceIte, Nat.reduceEqDiff, Nat.reduceLT, Nat.reduceLeDiff, Nat.reduceAdd, Nat.reduceMul, Nat.reduceSub, Nat.reduceBEq, Int.reduceToNat, and_assoc, sw0]
     refine OW.nil (hK _ ?_)
     clear hK K
     change PW _ _ _ _ _
     refine PW.ret ?_
     change PW.Ends _ _ _ _ _ _
     refine PW.Ends.intro (.inr rfl) ?_
     simp (config := { maxSteps := 2000000 }) only [go_sem, ↓reduceIte, Nat.reduceEqDiff, Nat.reduceLT, Nat.reduceLeDiff, Nat.reduceAdd, Nat.reduceMul, Nat.reduceSub, Nat.reduceBEq, Int.reduceToNat, and_assoc, sw0]
     obtain rfl := Option.some.inj hrun
     refine RetOK.data' 4 (by exact trivial) ?_
     rfl
    ·
     replace hrun := br_f h59 hrun
     refine PW.skip ?_
     change PW _ _ _ _ _
     refine PW.seq ?_
     refine PW.regionK fun K hK => ?_
     refine OW.run [5, 8, 12] ?_
     simp (config := { maxSteps := 2000000 }) only [go_sem, ↓reduceIte, Nat.reduceEqDiff, Nat.reduceLT, Nat.reduceLeDiff, Nat.reduceAdd, Nat.reduceMul, Nat.reduceSub, Nat.reduceBEq, Int.reduceToNat, and_assoc, sw0]
     refine And.intro (by omega) (And.intro (by omega) ?_)
     refine OW.nil (hK _ ?_)
     clear hK K
     change PW _ _ _ _ _
     refine PW.joinS (τ := Unit) [5] 2 (fun _ => []) (fun _ => [{ cells := [.d (I r_Preambles), .d (I r_Every), .d (I r_Window), .d (I r_Wait), .d (I r_Tries), .d (I r_Backoff), .d (I r_Identities)], e := 23 }, { cells := [.d (I (4 : Int)), .d (I e_At), .d (I e_Phone), .d (I e_Preamble), .d (I e_Sent), .d (I e_Identity)], e := 48 }]) _ _ r (by exact Nat.zero_le _) hrun ?_ ?_
     ·
      intro K_9 hrun N60 hN60
      refine PW.seq ?_
      refine PW.regionK fun K hK => ?_
      refine OW.run [5, 12, 59, 60, 61] ?_
      simp (config := { maxSteps := 2000000 }) only [go_sem, ↓reduceIte, Nat.reduceEqDiff, Nat.reduceLT, Nat.reduceLeDiff, Nat.reduceAdd, Nat.reduceMul, Nat.reduceSub, Nat.reduceBEq, Int.reduceToNat, and_assoc, sw0]
      refine OW.nil (hK _ ?_)
      clear hK K
      change PW _ _ _ _ _
      refine PW.block ?_
      refine PW.loopN 1 ?_
      change PW _ _ _ _ _
      refine PW.seq ?_
      refine PW.regionK fun K hK => ?_
      refine OW.run [5, 12, 59, 60, 61, 62] ?_
      simp (config := { maxSteps := 2000000 }) only [go_sem, ↓reduceIte, Nat.reduceEqDiff, Nat.reduceLT, Nat.reduceLeDiff, Nat.reduceAdd, Nat.reduceMul, Nat.reduceSub, Nat.reduceBEq, Int.reduceToNat, and_assoc, sw0]
      refine OW.nil (hK _ ?_)
      clear hK K
      change PW _ _ _ _ _
      refine PW.seq ?_
      refine PW.cond rfl (fun h61 => ?_) (fun h61 => ?_)
      · exact absurd h61 (by decide)
      ·
       refine PW.exit ?_
       refine hN60 [] () _ hrun (by exact trivial) ?_
       (simp only [Env.frzL, Env.frz, frzOb, V.frz, V.frz.frzs, asD, map_asD, sw1, go_sem, ↓reduceIte, Nat.reduceEqDiff, Nat.reduceLT, Nat.reduceLeDiff, Nat.reduceAdd, Nat.reduceMul, Nat.reduceSub, Nat.reduceBEq]; done)
     ·
      rintro _ hrun
      try simp only [go_sem, ↓reduceIte, Nat.reduceEqDiff, Nat.reduceLT, Nat.reduceLeDiff, Nat.reduceAdd, Nat.reduceMul, Nat.reduceSub, Nat.reduceBEq]
      refine PW.seq ?_
      obtain ⟨x27, e27, hrun⟩ := bnd_some hrun
      obtain ⟨x28, e28, hrun⟩ := bnd_some hrun
      refine PW.regionK fun K hK => ?_
      refine OW.run [6] ?_
      simp (config := { maxSteps := 2000000 }) only [go_sem, ↓reduceIte, Nat.reduceEqDiff, Nat.reduceLT, Nat.reduceLeDiff, Nat.reduceAdd, Nat.reduceMul, Nat.reduceSub, Nat.reduceBEq, Int.reduceToNat, and_assoc, sw0]
      refine And.intro (by omega) (And.intro (by omega) ?_)
      refine OW.call' 4 rfl rfl rfl (by ((simp only [go_sem, List.toList_toArray, ↓reduceIte, Nat.reduceEqDiff, Nat.reduceLT, Nat.reduceBEq]); exact rfl)) ?_ (access_within_ok N _ _ _ _ e27) ?_ ?_ ?_ ?_
      · rfl
      · exact okD_all rfl
      · exact .inl rfl
      · (simp only [go_sem, Nat.reduceLT])
      refine OW.run [6] ?_
      simp (config := { maxSteps := 2000000 }) only [go_sem, ↓reduceIte, Nat.reduceEqDiff, Nat.reduceLT, Nat.reduceLeDiff, Nat.reduceAdd, Nat.reduceMul, Nat.reduceSub, Nat.reduceBEq, Int.reduceToNat, and_assoc, sw0]
      refine OW.call' 4 rfl rfl rfl (by ((simp only [go_sem, List.toList_toArray, ↓reduceIte, Nat.reduceEqDiff, Nat.reduceLT, Nat.reduceBEq]); exact rfl)) ?_ (access_unless_ok N _ _ _ e28) ?_ ?_ ?_ ?_
      · rfl
      · exact okD_all rfl
      · exact .inl rfl
      · (simp only [go_sem, Nat.reduceLT])
      refine OW.run [6] ?_
      simp (config := { maxSteps := 2000000 }) only [go_sem, ↓reduceIte, Nat.reduceEqDiff, Nat.reduceLT, Nat.reduceLeDiff, Nat.reduceAdd, Nat.reduceMul, Nat.reduceSub, Nat.reduceBEq, Int.reduceToNat, and_assoc, sw0]
      refine OW.nil (hK _ ?_)
      clear hK K
      change PW _ _ _ _ _
      refine PW.ret ?_
      change PW.Ends _ _ _ _ _ _
      refine PW.Ends.intro (.inr rfl) ?_
      simp (config := { maxSteps := 2000000 }) only [go_sem, ↓reduceIte, Nat.reduceEqDiff, Nat.reduceLT, Nat.reduceLeDiff, Nat.reduceAdd, Nat.reduceMul, Nat.reduceSub, Nat.reduceBEq, Int.reduceToNat, and_assoc, sw0]
      obtain rfl := Option.some.inj hrun
      refine RetOK.data' 4 (by exact trivial) ?_
      rfl

end Go.Proofs.YtbndgoeahoadlaaGreatDoor
