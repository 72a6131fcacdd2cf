import Derived.Test.YtbndgoeahoadlaaGreatDoorAsBase
import Derived.Test.YtbndgoeahoadlaaGreatDoorAsW0
import Derived.Test.YtbndgoeahoadlaaGreatDoorAsW1
set_option linter.all false
namespace Go.Proofs.YtbndgoeahoadlaaGreatDoor
open Go.PW Go.Sh
set_option maxRecDepth 20000 in
set_option maxHeartbeats 8000000 in
theorem access_CheckRules_ok (N : Nat) (r_Preambles : Int) (r_Every : Int) (r_Window : Int) (r_Wait : Int) (r_Tries : Int) (r_Backoff : Int) (r_Identities : Int) (r : Int) (hrun : access_CheckRules N r_Preambles r_Every r_Window r_Wait r_Tries r_Backoff r_Identities = some r) : CallOK Tryz.prog 16 [(.agg [(I r_Preambles), (I r_Every), (I r_Window), (I r_Wait), (I r_Tries), (I r_Backoff), (I r_Identities)])] (.d (I r)) [] := by
 refine CallOK.of_PW Tryz.func16 rfl (by rw [Tryz.results16]) Tryz.ntmps16 Tryz.call16 ?_
 change PW _ _ _ _ _
 try simp only [go_sem, ↓reduceIte, Nat.reduceEqDiff, Nat.reduceLT, Nat.reduceLeDiff, Nat.reduceAdd, Nat.reduceMul, Nat.reduceSub, Nat.reduceBEq]
 unfold access_CheckRules at hrun
 refine PW.seq ?_
 refine PW.regionK fun K hK => ?_
 refine OW.run [1] ?_
 simp (config := { maxSteps := 2000000 }) only [go_sem, ↓reduceIte, Nat.reduceEqDiff, Nat.reduceLT, Nat.reduceLeDiff, Nat.reduceAdd, Nat.reduceMul, Nat.reduceSub, Nat.reduceBEq, Int.reduceToNat, and_assoc, sw0]
 refine OW.nil (hK _ ?_)
 clear hK K
 change PW _ _ _ _ _
 refine PW.joinS (τ := Unit) [] 0 (fun _ => []) (fun _ => []) _ _ r (by exact Nat.le_refl _) hrun ?_ ?_
 ·
  intro K_ hrun N1 hN1
  refine PW.seq ?_
  refine PW.regionK fun K hK => ?_
  refine OW.run [26, 27] ?_
  simp (config := { maxSteps := 2000000 }) only [go_sem, ↓reduceIte, Nat.reduceEqDiff, Nat.reduceLT, Nat.reduceLeDiff, Nat.reduceAdd, Nat.reduceMul, Nat.reduceSub, Nat.reduceBEq, Int.reduceToNat, and_assoc, sw0]
  refine And.intro (by omega) (And.intro (by omega) (And.intro (by omega) (And.intro (by omega) (And.intro (by omega) (And.intro (by omega) (And.intro (by omega) ?_))))))
  refine OW.nil (hK _ ?_)
  clear hK K
  change PW _ _ _ _ _
  refine PW.block ?_
  refine PW.loopN 8 ?_
  change PW _ _ _ _ _
  refine PW.seq ?_
  refine PW.regionK fun K hK => ?_
  refine OW.run [26, 27, 28] ?_
  simp (config := { maxSteps := 2000000 }) only [go_sem, ↓reduceIte, Nat.reduceEqDiff, Nat.reduceLT, Nat.reduceLeDiff, Nat.reduceAdd, Nat.reduceMul, Nat.reduceSub, Nat.reduceBEq, Int.reduceToNat, and_assoc, sw0]
  refine OW.nil (hK _ ?_)
  clear hK K
  change PW _ _ _ _ _
  refine PW.seq ?_
  refine PW.cond rfl (fun h2 => ?_) (fun h2 => ?_)
  ·
   refine PW.skip ?_
   change PW _ _ _ _ _
   refine PW.seq ?_
   refine PW.block ?_
   refine PW.seq ?_
   refine PW.regionK fun K hK => ?_
   refine OW.run [4, 26, 27] ?_
   simp (config := { maxSteps := 2000000 }) only [go_sem, ↓reduceIte, Nat.reduceEqDiff, Nat.reduceLT, Nat.reduceLeDiff, Nat.reduceAdd, Nat.reduceMul, Nat.reduceSub, Nat.reduceBEq, Int.reduceToNat, and_assoc, sw0]
   refine And.intro (by omega) (And.intro (by omega) ?_)
   refine OW.nil (hK _ ?_)
   clear hK K
   change PW _ _ _ _ _
   refine PW.seq ?_
   obtain ⟨x1, e1, hrun⟩ := bnd_some hrun
   refine PW.regionK fun K hK => ?_
   refine OW.run [26, 27, 37] ?_
   simp (config := { maxSteps := 2000000 }) only [go_sem, ↓reduceIte, Nat.reduceEqDiff, Nat.reduceLT, Nat.reduceLeDiff, Nat.reduceAdd, Nat.reduceMul, Nat.reduceSub, Nat.reduceBEq, Int.reduceToNat, and_assoc, sw0]
   refine And.intro (by omega) (And.intro (by omega) (And.intro (by omega) ?_))
   refine OW.call' 4 rfl rfl rfl (by ((simp only [go_sem, List.toList_toArray, ↓reduceIte, Nat.reduceEqDiff, Nat.reduceLT, Nat.reduceBEq]); exact rfl)) ?_ (access_within_ok N _ _ _ _ e1) ?_ ?_ ?_ ?_
   · rfl
   · exact okD_all rfl
   · exact .inl rfl
   · (simp only [go_sem, Nat.reduceLT])
   refine OW.run [26, 27, 37] ?_
   simp (config := { maxSteps := 2000000 }) only [go_sem, ↓reduceIte, Nat.reduceEqDiff, Nat.reduceLT, Nat.reduceLeDiff, Nat.reduceAdd, Nat.reduceMul, Nat.reduceSub, Nat.reduceBEq, Int.reduceToNat, and_assoc, sw0]
   refine OW.nil (hK _ ?_)
   clear hK K
   change PW _ _ _ _ _
   refine PW.cond rfl (fun h3 => ?_) (fun h3 => ?_)
   ·
    replace hrun := br_t h3 hrun
    refine PW.seq ?_
    refine PW.regionK fun K hK => ?_
    refine OW.run [2] ?_
    simp (config := { maxSteps := 2000000 }) only [go_sem, ↓reduceIte, Nat.reduceEqDiff, Nat.reduceLT, Nat.reduceLeDiff, Nat.reduceAdd, Nat.reduceMul, Nat.reduceSub, Nat.reduceBEq, Int.reduceToNat, and_assoc, sw0]
    refine OW.nil (hK _ ?_)
    clear hK K
    change PW _ _ _ _ _
    refine PW.ret ?_
    change PW.Ends _ _ _ _ _ _
    refine PW.Ends.intro (.inr rfl) ?_
    simp (config := { maxSteps := 2000000 }) only [go_sem, ↓reduceIte, Nat.reduceEqDiff, Nat.reduceLT, Nat.reduceLeDiff, Nat.reduceAdd, Nat.reduceMul, Nat.reduceSub, Nat.reduceBEq, Int.reduceToNat, and_assoc, sw0]
    obtain rfl := Option.some.inj hrun
    refine RetOK.data' 4 (by exact trivial) ?_
    rfl
   ·
    replace hrun := br_f h3 hrun
    refine PW.skip ?_
    change PW _ _ _ _ _
    refine PW.regionK fun K hK => ?_
    refine OW.run [26, 27] ?_
    simp (config := { maxSteps := 2000000 }) only [go_sem, ↓reduceIte, Nat.reduceEqDiff, Nat.reduceLT, Nat.reduceLeDiff, Nat.reduceAdd, Nat.reduceMul, Nat.reduceSub, Nat.reduceBEq, Int.reduceToNat, and_assoc, sw0]
    refine OW.nil (hK _ ?_)
    clear hK K
    change PW _ _ _ _ _
    refine PW.seq ?_
    refine PW.regionK fun K hK => ?_
    refine OW.run [26, 27, 28] ?_
    simp (config := { maxSteps := 2000000 }) only [go_sem, ↓reduceIte, Nat.reduceEqDiff, Nat.reduceLT, Nat.reduceLeDiff, Nat.reduceAdd, Nat.reduceMul, Nat.reduceSub, Nat.reduceBEq, Int.reduceToNat, and_assoc, sw0]
    refine OW.nil (hK _ ?_)
    clear hK K
    change PW _ _ _ _ _
    refine PW.seq ?_
    refine PW.cond rfl (fun h4 => ?_) (fun h4 => ?_)
    ·
     refine PW.skip ?_
     change PW _ _ _ _ _
     refine PW.seq ?_
     refine PW.block ?_
     refine PW.seq ?_
     refine PW.regionK fun K hK => ?_
     refine OW.run [4, 26, 27] ?_
     simp (config := { maxSteps := 2000000 }) only [go_sem, ↓reduceIte, Nat.reduceEqDiff, Nat.reduceLT, Nat.reduceLeDiff, Nat.reduceAdd, Nat.reduceMul, Nat.reduceSub, Nat.reduceBEq, Int.reduceToNat, and_assoc, sw0]
     refine And.intro (by omega) (And.intro (by omega) ?_)
     refine OW.nil (hK _ ?_)
     clear hK K
     change PW _ _ _ _ _
     refine PW.seq ?_
     obtain ⟨x2, e2, hrun⟩ := bnd_some hrun
     refine PW.regionK fun K hK => ?_
     refine OW.run [26, 27, 37] ?_
     simp (config := { maxSteps := 2000000 }) only [go_sem, ↓reduceIte, Nat.reduceEqDiff, Nat.reduceLT, Nat.reduceLeDiff, Nat.reduceAdd, Nat.reduceMul, Nat.reduceSub, Nat.reduceBEq, Int.reduceToNat, and_assoc, sw0]
     refine And.intro (by omega) (And.intro (by omega) (And.intro (by omega) ?_))
     refine OW.call' 4 rfl rfl rfl (by ((simp only [go_sem, List.toList_toArray, ↓reduceIte, Nat.reduceEqDiff, Nat.reduceLT, Nat.reduceBEq]); exact rfl)) ?_ (access_within_ok N _ _ _ _ e2) ?_ ?_ ?_ ?_
     · rfl
     · exact okD_all rfl
     · exact .inl rfl
     · (simp only [go_sem, Nat.reduceLT])
     refine OW.run [26, 27, 37] ?_
     simp (config := { maxSteps := 2000000 }) only [go_sem, ↓reduceIte, Nat.reduceEqDiff, Nat.reduceLT, Nat.reduceLeDiff, Nat.reduceAdd, Nat.reduceMul, Nat.reduceSub, Nat.reduceBEq, Int.reduceToNat, and_assoc, sw0]
     refine OW.nil (hK _ ?_)
     clear hK K
     change PW _ _ _ _ _
     refine PW.cond rfl (fun h5 => ?_) (fun h5 => ?_)
     ·
      replace hrun := br_t h5 hrun
      refine PW.seq ?_
      refine PW.regionK fun K hK => ?_
      refine OW.run [2] ?_
      simp (config := { maxSteps := 2000000 }) only [go_sem, ↓reduceIte, Nat.reduceEqDiff, Nat.reduceLT, Nat.reduceLeDiff, Nat.reduceAdd, Nat.reduceMul, Nat.reduceSub, Nat.reduceBEq, Int.reduceToNat, and_assoc, sw0]
      refine OW.nil (hK _ ?_)
      clear hK K
      change PW _ _ _ _ _
      refine PW.ret ?_
      change PW.Ends _ _ _ _ _ _
      refine PW.Ends.intro (.inr rfl) ?_
      simp (config := { maxSteps := 2000000 }) only [go_sem, ↓reduceIte, Nat.reduceEqDiff, Nat.reduceLT, Nat.reduceLeDiff, Nat.reduceAdd, Nat.reduceMul, Nat.reduceSub, Nat.reduceBEq, Int.reduceToNat, and_assoc, sw0]
      obtain rfl := Option.some.inj hrun
      refine RetOK.data' 4 (by exact trivial) ?_
      rfl
     ·
      replace hrun := br_f h5 hrun
      refine PW.skip ?_
      change PW _ _ _ _ _
      refine PW.regionK fun K hK => ?_
      refine OW.run [26, 27] ?_
      simp (config := { maxSteps := 2000000 }) only [go_sem, ↓reduceIte, Nat.reduceEqDiff, Nat.reduceLT, Nat.reduceLeDiff, Nat.reduceAdd, Nat.reduceMul, Nat.reduceSub, Nat.reduceBEq, Int.reduceToNat, and_assoc, sw0]
      refine OW.nil (hK _ ?_)
      clear hK K
      change PW _ _ _ _ _
      refine PW.seq ?_
      refine PW.regionK fun K hK => ?_
      refine OW.run [26, 27, 28] ?_
      simp (config := { maxSteps := 2000000 }) only [go_sem, ↓reduceIte, Nat.reduceEqDiff, Nat.reduceLT, Nat.reduceLeDiff, Nat.reduceAdd, Nat.reduceMul, Nat.reduceSub, Nat.reduceBEq, Int.reduceToNat, and_assoc, sw0]
      refine OW.nil (hK _ ?_)
      clear hK K
      change PW _ _ _ _ _
      refine PW.seq ?_
      refine PW.cond rfl (fun h6 => ?_) (fun h6 => ?_)
      ·
       refine PW.skip ?_
       change PW _ _ _ _ _
       refine PW.seq ?_
       refine PW.block ?_
       refine PW.seq ?_
       refine PW.regionK fun K hK => ?_
       refine OW.run [4, 26, 27] ?_
       simp (config := { maxSteps := 2000000 }) only [go_sem, ↓reduceIte, Nat.reduceEqDiff, Nat.reduceLT, Nat.reduceLeDiff, Nat.reduceAdd, Nat.reduceMul, Nat.reduceSub, Nat.reduceBEq, Int.reduceToNat, and_assoc, sw0]
       refine And.intro (by omega) (And.intro (by omega) ?_)
       refine OW.nil (hK _ ?_)
       clear hK K
       change PW _ _ _ _ _
       refine PW.seq ?_
       obtain ⟨x3, e3, hrun⟩ := bnd_some hrun
       refine PW.regionK fun K hK => ?_
       refine OW.run [26, 27, 37] ?_
       simp (config := { maxSteps := 2000000 }) only [go_sem, ↓reduceIte, Nat.reduceEqDiff, Nat.reduceLT, Nat.reduceLeDiff, Nat.reduceAdd, Nat.reduceMul, Nat.reduceSub, Nat.reduceBEq, Int.reduceToNat, and_assoc, sw0]
       refine And.intro (by omega) (And.intro (by omega) (And.intro (by omega) ?_))
       refine OW.call' 4 rfl rfl rfl (by ((simp only [go_sem, List.toList_toArray, ↓reduceIte, Nat.reduceEqDiff, Nat.reduceLT, Nat.reduceBEq]); exact rfl)) ?_ (access_within_ok N _ _ _ _ e3) ?_ ?_ ?_ ?_
       · rfl
       · exact okD_all rfl
       · exact .inl rfl
       · (simp only [go_sem, Nat.reduceLT])
       refine OW.run [26, 27, 37] ?_
       simp (config := { maxSteps := 2000000 }) only [go_sem, ↓reduceIte, Nat.reduceEqDiff, Nat.reduceLT, Nat.reduceLeDiff, Nat.reduceAdd, Nat.reduceMul, Nat.reduceSub, Nat.reduceBEq, Int.reduceToNat, and_assoc, sw0]
       refine OW.nil (hK _ ?_)
       clear hK K
       change PW _ _ _ _ _
       refine PW.cond rfl (fun h7 => ?_) (fun h7 => ?_)
       ·
        replace hrun := br_t h7 hrun
        refine PW.seq ?_
        refine PW.regionK fun K hK => ?_
        refine OW.run [2] ?_
        simp (config := { maxSteps := 2000000 }) only [go_sem, ↓reduceIte, Nat.reduceEqDiff, Nat.reduceLT, Nat.reduceLeDiff, Nat.reduceAdd, Nat.reduceMul, Nat.reduceSub, Nat.reduceBEq, Int.reduceToNat, and_assoc, sw0]
        refine OW.nil (hK _ ?_)
        clear hK K
        change PW _ _ _ _ _
        refine PW.ret ?_
        change PW.Ends _ _ _ _ _ _
        refine PW.Ends.intro (.inr rfl) ?_
        simp (config := { maxSteps := 2000000 }) only [go_sem, ↓reduceIte, Nat.reduceEqDiff, Nat.reduceLT, Nat.reduceLeDiff, Nat.reduceAdd, Nat.reduceMul, Nat.reduceSub, Nat.reduceBEq, Int.reduceToNat, and_assoc, sw0]
        obtain rfl := Option.some.inj hrun
        refine RetOK.data' 4 (by exact trivial) ?_
        rfl
       ·
        replace hrun := br_f h7 hrun
        refine PW.skip ?_
        change PW _ _ _ _ _
        refine PW.regionK fun K hK => ?_
        refine OW.run [26, 27] ?_
        simp (config := { maxSteps := 2000000 }) only [go_sem, ↓reduceIte, Nat.reduceEqDiff, Nat.reduceLT, Nat.reduceLeDiff, Nat.reduceAdd, Nat.reduceMul, Nat.reduceSub, Nat.reduceBEq, Int.reduceToNat, and_assoc, sw0]
        refine OW.nil (hK _ ?_)
        clear hK K
        change PW _ _ _ _ _
        refine PW.seq ?_
        refine PW.regionK fun K hK => ?_
        refine OW.run [26, 27, 28] ?_
        simp (config := { maxSteps := 2000000 }) only [go_sem, ↓reduceIte, Nat.reduceEqDiff, Nat.reduceLT, Nat.reduceLeDiff, Nat.reduceAdd, Nat.reduceMul, Nat.reduceSub, Nat.reduceBEq, Int.reduceToNat, and_assoc, sw0]
        refine OW.nil (hK _ ?_)
        clear hK K
        change PW _ _ _ _ _
        refine PW.seq ?_
        refine PW.cond rfl (fun h8 => ?_) (fun h8 => ?_)
        ·
         refine PW.skip ?_
         change PW _ _ _ _ _
         refine PW.seq ?_
         refine PW.block ?_
         refine PW.seq ?_
         refine PW.regionK fun K hK => ?_
         refine OW.run [4, 26, 27] ?_
         simp (config := { maxSteps := 2000000 }) only [go_sem, ↓reduceIte, Nat.reduceEqDiff, Nat.reduceLT, Nat.reduceLeDiff, Nat.reduceAdd, Nat.reduceMul, Nat.reduceSub, Nat.reduceBEq, Int.reduceToNat, and_assoc, sw0]
         refine And.intro (by omega) (And.intro (by omega) ?_)
         refine OW.nil (hK _ ?_)
         clear hK K
         change PW _ _ _ _ _
         refine PW.seq ?_
         obtain ⟨x4, e4, hrun⟩ := bnd_some hrun
         refine PW.regionK fun K hK => ?_
         refine OW.run [26, 27, 37] ?_
         simp (config := { maxSteps := 2000000 }) only [go_sem, ↓reduceIte, Nat.reduceEqDiff, Nat.reduceLT, Nat.reduceLeDiff, Nat.reduceAdd, Nat.reduceMul, Nat.reduceSub, Nat.reduceBEq, Int.reduceToNat, and_assoc, sw0]
         refine And.intro (by omega) (And.intro (by omega) (And.intro (by omega) ?_))
         refine OW.call' 4 rfl rfl rfl (by ((simp only [go_sem, List.toList_toArray, ↓reduceIte, Nat.reduceEqDiff, Nat.reduceLT, Nat.reduceBEq]); exact rfl)) ?_ (access_within_ok N _ _ _ _ e4) ?_ ?_ ?_ ?_
         · rfl
         · exact okD_all rfl
         · exact .inl rfl
         · (simp only [go_sem, Nat.reduceLT])
         refine OW.run [26, 27, 37] ?_
         simp (config := { maxSteps := 2000000 }) only [go_sem, ↓reduceIte, Nat.reduceEqDiff, Nat.reduceLT, Nat.reduceLeDiff, Nat.reduceAdd, Nat.reduceMul, Nat.reduceSub, Nat.reduceBEq, Int.reduceToNat, and_assoc, sw0]
         refine OW.nil (hK _ ?_)
         clear hK K
         change PW _ _ _ _ _
         refine PW.cond rfl (fun h9 => ?_) (fun h9 => ?_)
         ·
          replace hrun := br_t h9 hrun
          refine PW.seq ?_
          refine PW.regionK fun K hK => ?_
          refine OW.run [2] ?_
          simp (config := { maxSteps := 2000000 }) only [go_sem, ↓reduceIte, Nat.reduceEqDiff, Nat.reduceLT, Nat.reduceLeDiff, Nat.reduceAdd, Nat.reduceMul, Nat.reduceSub, Nat.reduceBEq, Int.reduceToNat, and_assoc, sw0]
          refine OW.nil (hK _ ?_)
          clear hK K
          change PW _ _ _ _ _
          refine PW.ret ?_
          change PW.Ends _ _ _ _ _ _
          refine PW.Ends.intro (.inr rfl) ?_
          simp (config := { maxSteps := 2000000 }) only [go_sem, ↓reduceIte, Nat.reduceEqDiff, Nat.reduceLT, Nat.reduceLeDiff, Nat.reduceAdd, Nat.reduceMul, Nat.reduceSub, Nat.reduceBEq, Int.reduceToNat, and_assoc, sw0]
          obtain rfl := Option.some.inj hrun
          refine RetOK.data' 4 (by exact trivial) ?_
          rfl
         ·
          replace hrun := br_f h9 hrun
          refine PW.skip ?_
          change PW _ _ _ _ _
          refine PW.regionK fun K hK => ?_
          refine OW.run [26, 27] ?_
          simp (config := { maxSteps := 2000000 }) only [go_sem, ↓reduceIte, Nat.reduceEqDiff, Nat.reduceLT, Nat.reduceLeDiff, Nat.reduceAdd, Nat.reduceMul, Nat.reduceSub, Nat.reduceBEq, Int.reduceToNat, and_assoc, sw0]
          refine OW.nil (hK _ ?_)
          clear hK K
          change PW _ _ _ _ _
          refine PW.seq ?_
          refine PW.regionK fun K hK => ?_
          refine OW.run [26, 27, 28] ?_
          simp (config := { maxSteps := 2000000 }) only [go_sem, ↓reduceIte, Nat.reduceEqDiff, Nat.reduceLT, Nat.reduceLeDiff, Nat.reduceAdd, Nat.reduceMul, Nat.reduceSub, Nat.reduceBEq, Int.reduceToNat, and_assoc, sw0]
          refine OW.nil (hK _ ?_)
          clear hK K
          change PW _ _ _ _ _
          refine PW.seq ?_
          refine PW.cond rfl (fun h10 => ?_) (fun h10 => ?_)
          ·
           refine PW.skip ?_
           change PW _ _ _ _ _
           refine PW.seq ?_
           refine PW.block ?_
           refine PW.seq ?_
           refine PW.regionK fun K hK => ?_
           refine OW.run [4, 26, 27] ?_
           simp (config := { maxSteps := 2000000 }) only [go_sem, ↓reduceIte, Nat.reduceEqDiff, Nat.reduceLT, Nat.reduceLeDiff, Nat.reduceAdd, Nat.reduceMul, Nat.reduceSub, Nat.reduceBEq, Int.reduceToNat, and_assoc, sw0]
           refine And.intro (by omega) (And.intro (by omega) ?_)
           refine OW.nil (hK _ ?_)
           clear hK K
           change PW _ _ _ _ _
           refine PW.seq ?_
           obtain ⟨x5, e5, hrun⟩ := bnd_some hrun
           refine PW.regionK fun K hK => ?_
           refine OW.run [26, 27, 37] ?_
           simp (config := { maxSteps := 2000000 }) only [go_sem, ↓reduceIte, Nat.reduceEqDiff, Nat.reduceLT, Nat.reduceLeDiff, Nat.reduceAdd, Nat.reduceMul, Nat.reduceSub, Nat.reduceBEq, Int.reduceToNat, and_assoc, sw0]
           refine And.intro (by omega) (And.intro (by omega) (And.intro (by omega) ?_))
           refine OW.call' 4 rfl rfl rfl (by ((simp only [go_sem, List.toList_toArray, ↓reduceIte, Nat.reduceEqDiff, Nat.reduceLT, Nat.reduceBEq]); exact rfl)) ?_ (access_within_ok N _ _ _ _ e5) ?_ ?_ ?_ ?_
           · rfl
           · exact okD_all rfl
           · exact .inl rfl
           · (simp only [go_sem, Nat.reduceLT])
           refine OW.run [26, 27, 37] ?_
           simp (config := { maxSteps := 2000000 }) only [go_sem, ↓reduceIte, Nat.reduceEqDiff, Nat.reduceLT, Nat.reduceLeDiff, Nat.reduceAdd, Nat.reduceMul, Nat.reduceSub, Nat.reduceBEq, Int.reduceToNat, and_assoc, sw0]
           refine OW.nil (hK _ ?_)
           clear hK K
           change PW _ _ _ _ _
           refine PW.cond rfl (fun h11 => ?_) (fun h11 => ?_)
           ·
            replace hrun := br_t h11 hrun
            refine PW.seq ?_
            refine PW.regionK fun K hK => ?_
            refine OW.run [2] ?_
            simp (config := { maxSteps := 2000000 }) only [go_sem, ↓reduceIte, Nat.reduceEqDiff, Nat.reduceLT, Nat.reduceLeDiff, Nat.reduceAdd, Nat.reduceMul, Nat.reduceSub, Nat.reduceBEq, Int.reduceToNat, and_assoc, sw0]
            refine OW.nil (hK _ ?_)
            clear hK K
            change PW _ _ _ _ _
            refine PW.ret ?_
            change PW.Ends _ _ _ _ _ _
            refine PW.Ends.intro (.inr rfl) ?_
            simp (config := { maxSteps := 2000000 }) only [go_sem, ↓reduceIte, Nat.reduceEqDiff, Nat.reduceLT, Nat.reduceLeDiff, Nat.reduceAdd, Nat.reduceMul, Nat.reduceSub, Nat.reduceBEq, Int.reduceToNat, and_assoc, sw0]
            obtain rfl := Option.some.inj hrun
            refine RetOK.data' 4 (by exact trivial) ?_
            rfl
           ·
            replace hrun := br_f h11 hrun
            refine PW.skip ?_
            change PW _ _ _ _ _
            refine PW.regionK fun K hK => ?_
            refine OW.run [26, 27] ?_
            simp (config := { maxSteps := 2000000 }) only [go_sem, ↓reduceIte, Nat.reduceEqDiff, Nat.reduceLT, Nat.reduceLeDiff, Nat.reduceAdd, Nat.reduceMul, Nat.reduceSub, Nat.reduceBEq, Int.reduceToNat, and_assoc, sw0]
            refine OW.nil (hK _ ?_)
            clear hK K
            change PW _ _ _ _ _
            refine PW.seq ?_
            refine PW.regionK fun K hK => ?_
            refine OW.run [26, 27, 28] ?_
            simp (config := { maxSteps := 2000000 }) only [go_sem, ↓reduceIte, Nat.reduceEqDiff, Nat.reduceLT, Nat.reduceLeDiff, Nat.reduceAdd, Nat.reduceMul, Nat.reduceSub, Nat.reduceBEq, Int.reduceToNat, and_assoc, sw0]
            refine OW.nil (hK _ ?_)
            clear hK K
            change PW _ _ _ _ _
            refine PW.seq ?_
            refine PW.cond rfl (fun h12 => ?_) (fun h12 => ?_)
            ·
             refine PW.skip ?_
             change PW _ _ _ _ _
             refine PW.seq ?_
             refine PW.block ?_
             refine PW.seq ?_
             refine PW.regionK fun K hK => ?_
             refine OW.run [4, 26, 27] ?_
             simp (config := { maxSteps := 2000000 }) only [go_sem, ↓reduceIte, Nat.reduceEqDiff, Nat.reduceLT, Nat.reduceLeDiff, Nat.reduceAdd, Nat.reduceMul, Nat.reduceSub, Nat.reduceBEq, Int.reduceToNat, and_assoc, sw0]
             refine And.intro (by omega) (And.intro (by omega) ?_)
             refine OW.nil (hK _ ?_)
             clear hK K
             change PW _ _ _ _ _
             refine PW.seq ?_
             obtain ⟨x6, e6, hrun⟩ := bnd_some hrun
             refine PW.regionK fun K hK => ?_
             refine OW.run [26, 27, 37] ?_
             simp (config := { maxSteps := 2000000 }) only [go_sem, ↓reduceIte, Nat.reduceEqDiff, Nat.reduceLT, Nat.reduceLeDiff, Nat.reduceAdd, Nat.reduceMul, Nat.reduceSub, Nat.reduceBEq, Int.reduceToNat, and_assoc, sw0]
             refine And.intro (by omega) (And.intro (by omega) (And.intro (by omega) ?_))
             refine OW.call' 4 rfl rfl rfl (by ((simp only [go_sem, List.toList_toArray, ↓reduceIte, Nat.reduceEqDiff, Nat.reduceLT, Nat.reduceBEq]); exact rfl)) ?_ (access_within_ok N _ _ _ _ e6) ?_ ?_ ?_ ?_
             · rfl
             · exact okD_all rfl
             · exact .inl rfl
             · (simp only [go_sem, Nat.reduceLT])
             refine OW.run [26, 27, 37] ?_
             simp (config := { maxSteps := 2000000 }) only [go_sem, ↓reduceIte, Nat.reduceEqDiff, Nat.reduceLT, Nat.reduceLeDiff, Nat.reduceAdd, Nat.reduceMul, Nat.reduceSub, Nat.reduceBEq, Int.reduceToNat, and_assoc, sw0]
             refine OW.nil (hK _ ?_)
             clear hK K
             change PW _ _ _ _ _
             refine PW.cond rfl (fun h13 => ?_) (fun h13 => ?_)
             ·
              replace hrun := br_t h13 hrun
              refine PW.seq ?_
              refine PW.regionK fun K hK => ?_
              refine OW.run [2] ?_
              simp (config := { maxSteps := 2000000 }) only [go_sem, ↓reduceIte, Nat.reduceEqDiff, Nat.reduceLT, Nat.reduceLeDiff, Nat.reduceAdd, Nat.reduceMul, Nat.reduceSub, Nat.reduceBEq, Int.reduceToNat, and_assoc, sw0]
              refine OW.nil (hK _ ?_)
              clear hK K
              change PW _ _ _ _ _
              refine PW.ret ?_
              change PW.Ends _ _ _ _ _ _
              refine PW.Ends.intro (.inr rfl) ?_
              simp (config := { maxSteps := 2000000 }) only [go_sem, ↓reduceIte, Nat.reduceEqDiff, Nat.reduceLT, Nat.reduceLeDiff, Nat.reduceAdd, Nat.reduceMul, Nat.reduceSub, Nat.reduceBEq, Int.reduceToNat, and_assoc, sw0]
              obtain rfl := Option.some.inj hrun
              refine RetOK.data' 4 (by exact trivial) ?_
              rfl
             ·
              replace hrun := br_f h13 hrun
              refine PW.skip ?_
              change PW _ _ _ _ _
              refine PW.regionK fun K hK => ?_
              refine OW.run [26, 27] ?_
              simp (config := { maxSteps := 2000000 }) only [go_sem, ↓reduceIte, Nat.reduceEqDiff, Nat.reduceLT, Nat.reduceLeDiff, Nat.reduceAdd, Nat.reduceMul, Nat.reduceSub, Nat.reduceBEq, Int.reduceToNat, and_assoc, sw0]
              refine OW.nil (hK _ ?_)
              clear hK K
              change PW _ _ _ _ _
              refine PW.seq ?_
              refine PW.regionK fun K hK => ?_
              refine OW.run [26, 27, 28] ?_
              simp (config := { maxSteps := 2000000 }) only [go_sem, ↓reduceIte, Nat.reduceEqDiff, Nat.reduceLT, Nat.reduceLeDiff, Nat.reduceAdd, Nat.reduceMul, Nat.reduceSub, Nat.reduceBEq, Int.reduceToNat, and_assoc, sw0]
              refine OW.nil (hK _ ?_)
              clear hK K
              change PW _ _ _ _ _
              refine PW.seq ?_
              refine PW.cond rfl (fun h14 => ?_) (fun h14 => ?_)
              ·
               refine PW.skip ?_
               change PW _ _ _ _ _
               refine PW.seq ?_
               refine PW.block ?_
               refine PW.seq ?_
               refine PW.regionK fun K hK => ?_
               refine OW.run [4, 26, 27] ?_
               simp (config := { maxSteps := 2000000 }) only [go_sem, ↓reduceIte, Nat.reduceEqDiff, Nat.reduceLT, Nat.reduceLeDiff, Nat.reduceAdd, Nat.reduceMul, Nat.reduceSub, Nat.reduceBEq, Int.reduceToNat, and_assoc, sw0]
               refine And.intro (by omega) (And.intro (by omega) ?_)
               refine OW.nil (hK _ ?_)
               clear hK K
               change PW _ _ _ _ _
               refine PW.seq ?_
               obtain ⟨x7, e7, hrun⟩ := bnd_some hrun
               refine PW.regionK fun K hK => ?_
               refine OW.run [26, 27, 37] ?_
               simp (config := { maxSteps := 2000000 }) only [go_sem, ↓reduceIte, Nat.reduceEqDiff, Nat.reduceLT, Nat.reduceLeDiff, Nat.reduceAdd, Nat.reduceMul, Nat.reduceSub, Nat.reduceBEq, Int.reduceToNat, and_assoc, sw0]
               refine And.intro (by omega) (And.intro (by omega) (And.intro (by omega) ?_))
               refine OW.call' 4 rfl rfl rfl (by ((simp only [go_sem, List.toList_toArray, ↓reduceIte, Nat.reduceEqDiff, Nat.reduceLT, Nat.reduceBEq]); exact rfl)) ?_ (access_within_ok N _ _ _ _ e7) ?_ ?_ ?_ ?_
               · rfl
               · exact okD_all rfl
               · exact .inl rfl
               · (simp only [go_sem, Nat.reduceLT])
               refine OW.run [26, 27, 37] ?_
               simp (config := { maxSteps := 2000000 }) only [go_sem, ↓reduceIte, Nat.reduceEqDiff, Nat.reduceLT, Nat.reduceLeDiff, Nat.reduceAdd, Nat.reduceMul, Nat.reduceSub, Nat.reduceBEq, Int.reduceToNat, and_assoc, sw0]
               refine OW.nil (hK _ ?_)
               clear hK K
               change PW _ _ _ _ _
               refine PW.cond rfl (fun h15 => ?_) (fun h15 => ?_)
               ·
                replace hrun := br_t h15 hrun
                refine PW.seq ?_
                refine PW.regionK fun K hK => ?_
                refine OW.run [2] ?_
                simp (config := { maxSteps := 2000000 }) only [go_sem, ↓reduceIte, Nat.reduceEqDiff, Nat.reduceLT, Nat.reduceLeDiff, Nat.reduceAdd, Nat.reduceMul, Nat.reduceSub, Nat.reduceBEq, Int.reduceToNat, and_assoc, sw0]
                refine OW.nil (hK _ ?_)
                clear hK K
                change PW _ _ _ _ _
                refine PW.ret ?_
                change PW.Ends _ _ _ _ _ _
                refine PW.Ends.intro (.inr rfl) ?_
                simp (config := { maxSteps := 2000000 }) only [go_sem, ↓reduceIte, Nat.reduceEqDiff, Nat.reduceLT, Nat.reduceLeDiff, Nat.reduceAdd, Nat.reduceMul, Nat.reduceSub, Nat.reduceBEq, Int.reduceToNat, and_assoc, sw0]
                obtain rfl := Option.some.inj hrun
                refine RetOK.data' 4 (by exact trivial) ?_
                rfl
               ·
                replace hrun := br_f h15 hrun
                refine PW.skip ?_
                change PW _ _ _ _ _
                refine PW.regionK fun K hK => ?_
                refine OW.run [26, 27] ?_
                simp (config := { maxSteps := 2000000 }) only [go_sem, ↓reduceIte, Nat.reduceEqDiff, Nat.reduceLT, Nat.reduceLeDiff, Nat.reduceAdd, Nat.reduceMul, Nat.reduceSub, Nat.reduceBEq, Int.reduceToNat, and_assoc, sw0]
                refine OW.nil (hK _ ?_)
                clear hK K
                change PW _ _ _ _ _
                refine PW.seq ?_
                refine PW.regionK fun K hK => ?_
                refine OW.run [26, 27, 28] ?_
                simp (config := { maxSteps := 2000000 }) only [go_sem, ↓reduceIte, Nat.reduceEqDiff, Nat.reduceLT, Nat.reduceLeDiff, Nat.reduceAdd, Nat.reduceMul, Nat.reduceSub, Nat.reduceBEq, Int.reduceToNat, and_assoc, sw0]
                refine OW.nil (hK _ ?_)
                clear hK K
                change PW _ _ _ _ _
                refine PW.seq ?_
                refine PW.cond rfl (fun h16 => ?_) (fun h16 => ?_)
                · exact absurd h16 (by decide)
                ·
                 refine PW.exit ?_
                 refine hN1 [] () _ hrun (by exact trivial) ?_
                 (simp only [Env.frzL, Env.frz, frzOb, V.frz, V.frz.frzs, asD, map_asD, sw1, go_sem, ↓reduceIte, Nat.reduceEqDiff, Nat.reduceLT, Nat.reduceLeDiff, Nat.reduceAdd, Nat.reduceMul, Nat.reduceSub, Nat.reduceBEq]; done)
              · exact absurd h14 (by decide)
            · exact absurd h12 (by decide)
          · exact absurd h10 (by decide)
        · exact absurd h8 (by decide)
      · exact absurd h6 (by decide)
    · exact absurd h4 (by decide)
  · exact absurd h2 (by decide)
 ·
  rintro _ hrun
  try simp only [go_sem, ↓reduceIte, Nat.reduceEqDiff, Nat.reduceLT, Nat.reduceLeDiff, Nat.reduceAdd, Nat.reduceMul, Nat.reduceSub, Nat.reduceBEq]
  refine PW.seq ?_
  refine PW.regionK fun K hK => ?_
  refine OW.run [2] ?_
  simp (config := { maxSteps := 2000000 }) only [go_sem, ↓reduceIte, Nat.reduceEqDiff, Nat.reduceLT, Nat.reduceLeDiff, Nat.reduceAdd, Nat.reduceMul, Nat.reduceSub, Nat.reduceBEq, Int.reduceToNat, and_assoc, sw0]
  refine OW.nil (hK _ ?_)
  clear hK K
  change PW _ _ _ _ _
  refine PW.ret ?_
  change PW.Ends _ _ _ _ _ _
  refine PW.Ends.intro (.inr rfl) ?_
  simp (config := { maxSteps := 2000000 }) only [go_sem, ↓reduceIte, Nat.reduceEqDiff, Nat.reduceLT, Nat.reduceLeDiff, Nat.reduceAdd, Nat.reduceMul, Nat.reduceSub, Nat.reduceBEq, Int.reduceToNat, and_assoc, sw0]
  obtain rfl := Option.some.inj hrun
  refine RetOK.data' 4 (by exact trivial) ?_
  rfl

set_option maxRecDepth 20000 in
set_option maxHeartbeats 8000000 in
theorem base_CopyInts_ok (N : Nat) (l : List Int) (r : List Int) (hrun : base_CopyInts N l = some r) : CallOK Tryz.prog 18 [(L l)] (.d (L r)) [] := by
 refine CallOK.of_PW Tryz.func18 rfl (by rw [Tryz.results18]) Tryz.ntmps18 Tryz.call18 ?_
 change PW _ _ _ _ _
 try simp only [go_sem, ↓reduceIte, Nat.reduceEqDiff, Nat.reduceLT, Nat.reduceLeDiff, Nat.reduceAdd, Nat.reduceMul, Nat.reduceSub, Nat.reduceBEq]
 unfold base_CopyInts at hrun
 refine PW.seq ?_
 refine PW.regionK fun K hK => ?_
 refine OW.run [0] ?_
 simp (config := { maxSteps := 2000000 }) only [go_sem, ↓reduceIte, Nat.reduceEqDiff, Nat.reduceLT, Nat.reduceLeDiff, Nat.reduceAdd, Nat.reduceMul, Nat.reduceSub, Nat.reduceBEq, Int.reduceToNat, and_assoc, sw0]
 refine OW.nil (hK _ ?_)
 clear hK K
 change PW _ _ _ _ _
 refine PW.seq ?_
 obtain ⟨c1, hrun⟩ := chk_some hrun
 refine PW.regionK fun K hK => ?_
 refine OW.run [2] ?_
 simp (config := { maxSteps := 2000000 }) only [go_sem, ↓reduceIte, Nat.reduceEqDiff, Nat.reduceLT, Nat.reduceLeDiff, Nat.reduceAdd, Nat.reduceMul, Nat.reduceSub, Nat.reduceBEq, Int.reduceToNat, and_assoc, sw0]
 refine And.intro (by omega) (And.intro (by omega) (And.intro (by omega) ?_))
 refine OW.nil (hK _ ?_)
 clear hK K
 change PW _ _ _ _ _
 refine PW.ret ?_
 change PW.Ends _ _ _ _ _ _
 refine PW.Ends.intro (.inr rfl) ?_
 simp (config := { maxSteps := 2000000 }) only [go_sem, ↓reduceIte, Nat.reduceEqDiff, Nat.reduceLT, Nat.reduceLeDiff, Nat.reduceAdd, Nat.reduceMul, Nat.reduceSub, Nat.reduceBEq, Int.reduceToNat, and_assoc, sw0]
 obtain rfl := Option.some.inj hrun
 refine RetOK.data' 4 (by (simp only [go_sem, sw2, List.length_set, List.length_replicate, and_true, true_and, Nat.le_refl, ↓reduceIte, Nat.reduceEqDiff, Nat.reduceLT, Nat.reduceLeDiff, Nat.reduceAdd, Nat.reduceMul, Nat.reduceSub, Nat.reduceBEq]; done)) ?_
 (((simp only [go_sem, sw1, ↓reduceIte, Nat.reduceEqDiff, Nat.reduceLT, Nat.reduceLeDiff, Nat.reduceAdd, Nat.reduceMul, Nat.reduceSub, Nat.reduceBEq]; try simp only [seg, go_sem, ↓reduceIte, Nat.reduceEqDiff, Nat.reduceLT, Nat.reduceLeDiff, Nat.reduceAdd, Nat.reduceMul, Nat.reduceSub, Nat.reduceBEq])); done)

set_option maxRecDepth 20000 in
set_option maxHeartbeats 8000000 in
theorem access_phonesErr_ok (N : Nat) (n : Int) (r : Int) (hrun : access_phonesErr N n = some r) : CallOK Tryz.prog 78 [(I n)] (.d (I r)) [] := by
 refine CallOK.of_PW Tryz.func78 rfl (by rw [Tryz.results78]) Tryz.ntmps78 Tryz.call78 ?_
 change PW _ _ _ _ _
 try simp only [go_sem, ↓reduceIte, Nat.reduceEqDiff, Nat.reduceLT, Nat.reduceLeDiff, Nat.reduceAdd, Nat.reduceMul, Nat.reduceSub, Nat.reduceBEq]
 unfold access_phonesErr at hrun
 refine PW.seq ?_
 refine PW.regionK fun K hK => ?_
 refine OW.run [0] ?_
 simp (config := { maxSteps := 2000000 }) only [go_sem, ↓reduceIte, Nat.reduceEqDiff, Nat.reduceLT, Nat.reduceLeDiff, Nat.reduceAdd, Nat.reduceMul, Nat.reduceSub, Nat.reduceBEq, Int.reduceToNat, and_assoc, sw0]
 refine OW.nil (hK _ ?_)
 clear hK K
 change PW _ _ _ _ _
 refine PW.seq ?_
 obtain ⟨x1, e1, hrun⟩ := bnd_some hrun
 obtain ⟨x2, e2, hrun⟩ := bnd_some hrun
 obtain ⟨x3, e3, hrun⟩ := bnd_some hrun
 refine PW.regionK fun K hK => ?_
 refine OW.run [2] ?_
 simp (config := { maxSteps := 2000000 }) only [go_sem, ↓reduceIte, Nat.reduceEqDiff, Nat.reduceLT, Nat.reduceLeDiff, Nat.reduceAdd, Nat.reduceMul, Nat.reduceSub, Nat.reduceBEq, Int.reduceToNat, and_assoc, sw0]
 refine OW.call' 4 rfl rfl rfl (by ((simp only [go_sem, List.toList_toArray, ↓reduceIte, Nat.reduceEqDiff, Nat.reduceLT, Nat.reduceBEq]); exact rfl)) ?_ (access_unless_ok N _ _ _ e1) ?_ ?_ ?_ ?_
 · rfl
 · exact okD_all rfl
 · exact .inl rfl
 · (simp only [go_sem, Nat.reduceLT])
 refine OW.run [2] ?_
 simp (config := { maxSteps := 2000000 }) only [go_sem, ↓reduceIte, Nat.reduceEqDiff, Nat.reduceLT, Nat.reduceLeDiff, Nat.reduceAdd, Nat.reduceMul, Nat.reduceSub, Nat.reduceBEq, Int.reduceToNat, and_assoc, sw0]
 refine OW.call' 4 rfl rfl rfl (by ((simp only [go_sem, List.toList_toArray, ↓reduceIte, Nat.reduceEqDiff, Nat.reduceLT, Nat.reduceBEq]); exact rfl)) ?_ (access_unless_ok N _ _ _ e2) ?_ ?_ ?_ ?_
 · rfl
 · exact okD_all rfl
 · exact .inl rfl
 · (simp only [go_sem, Nat.reduceLT])
 refine OW.run [2] ?_
 simp (config := { maxSteps := 2000000 }) only [go_sem, ↓reduceIte, Nat.reduceEqDiff, Nat.reduceLT, Nat.reduceLeDiff, Nat.reduceAdd, Nat.reduceMul, Nat.reduceSub, Nat.reduceBEq, Int.reduceToNat, and_assoc, sw0]
 refine OW.call' 4 rfl rfl rfl (by ((simp only [go_sem, List.toList_toArray, ↓reduceIte, Nat.reduceEqDiff, Nat.reduceLT, Nat.reduceBEq]); exact rfl)) ?_ (access_first_ok N _ _ e3) ?_ ?_ ?_ ?_
 · rfl
 · (refine okAll_intro ?_; (simp only [go_sem, sw2, List.length_set, List.length_replicate, and_true, true_and, Nat.le_refl, ↓reduceIte, Nat.reduceEqDiff, Nat.reduceLT, Nat.reduceLeDiff, Nat.reduceAdd, Nat.reduceMul, Nat.reduceSub, Nat.reduceBEq]; simp only [seg, go_sem, sw2, List.length_set, List.length_replicate, and_true, true_and, Nat.le_refl, ↓reduceIte, Nat.reduceEqDiff, Nat.reduceLT, Nat.reduceLeDiff, Nat.reduceAdd, Nat.reduceMul, Nat.reduceSub, Nat.reduceBEq]; done))
 · exact .inr ⟨rfl, rfl⟩
 · (simp only [go_sem, Nat.reduceLT])
 refine OW.run [2] ?_
 simp (config := { maxSteps := 2000000 }) only [go_sem, ↓reduceIte, Nat.reduceEqDiff, Nat.reduceLT, Nat.reduceLeDiff, Nat.reduceAdd, Nat.reduceMul, Nat.reduceSub, Nat.reduceBEq, Int.reduceToNat, and_assoc, sw0]
 refine OW.nil (hK _ ?_)
 clear hK K
 change PW _ _ _ _ _
 refine PW.ret ?_
 change PW.Ends _ _ _ _ _ _
 refine PW.Ends.intro (.inr rfl) ?_
 simp (config := { maxSteps := 2000000 }) only [go_sem, ↓reduceIte, Nat.reduceEqDiff, Nat.reduceLT, Nat.reduceLeDiff, Nat.reduceAdd, Nat.reduceMul, Nat.reduceSub, Nat.reduceBEq, Int.reduceToNat, and_assoc, sw0]
 obtain rfl := Option.some.inj hrun
 refine RetOK.data' 4 (by exact trivial) ?_
 rfl

set_option maxRecDepth 20000 in
set_option maxHeartbeats 8000000 in
theorem slices_IndexFunc_ii_ok (N : Nat) (s : List Int) (f_g : FuncId) (f_c : List D) (f : Int → Option Bool) (f_h : ∀ y0 r0, f y0 = some r0 → CallOK Tryz.prog f_g ((I y0) :: f_c.map nz) (.d (Bo r0)) []) (r : Int) (hrun : slices_IndexFunc_ii N s f = some r) : CallOK Tryz.prog 145 [(L s), .clo f_g f_c] (.d (I r)) [] := by
 refine CallOK.of_PW Tryz.func145 rfl (by rw [Tryz.results145]) Tryz.ntmps145 Tryz.call145 ?_
 change PW _ _ _ _ _
 try simp only [go_sem, ↓reduceIte, Nat.reduceEqDiff, Nat.reduceLT, Nat.reduceLeDiff, Nat.reduceAdd, Nat.reduceMul, Nat.reduceSub, Nat.reduceBEq]
 unfold slices_IndexFunc_ii at hrun
 refine PW.seq ?_
 refine PW.regionK fun K hK => ?_
 refine OW.run [0, 1] ?_
 simp (config := { maxSteps := 2000000 }) only [go_sem, ↓reduceIte, Nat.reduceEqDiff, Nat.reduceLT, Nat.reduceLeDiff, Nat.reduceAdd, Nat.reduceMul, Nat.reduceSub, Nat.reduceBEq, Int.reduceToNat, and_assoc, sw0]
 refine OW.nil (hK _ ?_)
 clear hK K
 change PW _ _ _ _ _
 refine PW.joinS (τ := Unit) [] 0 (fun _ => []) (fun _ => []) _ _ r (by exact Nat.le_refl _) hrun ?_ ?_
 ·
  intro K_ hrun N1 hN1
  refine PW.seq ?_
  refine PW.regionK fun K hK => ?_
  refine OW.run [0, 1, 7, 8] ?_
  simp (config := { maxSteps := 2000000 }) only [go_sem, ↓reduceIte, Nat.reduceEqDiff, Nat.reduceLT, Nat.reduceLeDiff, Nat.reduceAdd, Nat.reduceMul, Nat.reduceSub, Nat.reduceBEq, Int.reduceToNat, and_assoc, sw0]
  refine OW.nil (hK _ ?_)
  clear hK K
  change PW _ _ _ _ _
  refine PW.block ?_
  refine PW.loopS (σ := Int) [0, 1, 7, 8] 0 (fun t8 => [(8, .d (I t8))]) (fun t8 => []) (slices_IndexFunc_ii.b1 N s f K_) r N (0 : Int) (by exact Nat.le_refl _) hrun (by (simp only [Env.frzL, Env.frz, frzOb, V.frz, V.frz.frzs, asD, map_asD, sw1, go_sem, ↓reduceIte, Nat.reduceEqDiff, Nat.reduceLT, Nat.reduceLeDiff, Nat.reduceAdd, Nat.reduceMul, Nat.reduceSub, Nat.reduceBEq]; done)) ?_
  rintro n t8 hrun N2 hN2
  unfold slices_IndexFunc_ii.b1 at hrun
  try simp only [go_sem, ↓reduceIte, Nat.reduceEqDiff, Nat.reduceLT, Nat.reduceLeDiff, Nat.reduceAdd, Nat.reduceMul, Nat.reduceSub, Nat.reduceBEq]
  refine PW.seq ?_
  refine PW.regionK fun K hK => ?_
  refine OW.run [0, 1, 7, 8, 9] ?_
  simp (config := { maxSteps := 2000000 }) only [go_sem, ↓reduceIte, Nat.reduceEqDiff, Nat.reduceLT, Nat.reduceLeDiff, Nat.reduceAdd, Nat.reduceMul, Nat.reduceSub, Nat.reduceBEq, Int.reduceToNat, and_assoc, sw0]
  refine OW.nil (hK _ ?_)
  clear hK K
  change PW _ _ _ _ _
  refine PW.seq ?_
  refine PW.cond rfl (fun h3 => ?_) (fun h3 => ?_)
  ·
   replace hrun := br_t h3 hrun
   refine PW.skip ?_
   change PW _ _ _ _ _
   refine PW.seq ?_
   refine PW.block ?_
   refine PW.seq ?_
   refine PW.regionK fun K hK => ?_
   refine OW.run [0, 1, 5, 7, 8] ?_
   simp (config := { maxSteps := 2000000 }) only [go_sem, ↓reduceIte, Nat.reduceEqDiff, Nat.reduceLT, Nat.reduceLeDiff, Nat.reduceAdd, Nat.reduceMul, Nat.reduceSub, Nat.reduceBEq, Int.reduceToNat, and_assoc, sw0]
   refine OW.nil (hK _ ?_)
   clear hK K
   change PW _ _ _ _ _
   refine PW.seq ?_
   obtain ⟨c4, hrun⟩ := chk_some hrun
   obtain ⟨x1, e1, hrun⟩ := bnd_some hrun
   refine PW.regionK fun K hK => ?_
   refine OW.run [0, 1, 5, 7, 8, 16] ?_
   simp (config := { maxSteps := 2000000 }) only [go_sem, ↓reduceIte, Nat.reduceEqDiff, Nat.reduceLT, Nat.reduceLeDiff, Nat.reduceAdd, Nat.reduceMul, Nat.reduceSub, Nat.reduceBEq, Int.reduceToNat, and_assoc, sw0]
   refine And.intro (by omega) (And.intro (by omega) (And.intro (by omega) (And.intro (by omega) ?_)))
   refine OW.call' 4 rfl rfl rfl (by ((simp only [go_sem, List.toList_toArray, ↓reduceIte, Nat.reduceEqDiff, Nat.reduceLT, Nat.reduceBEq]); exact rfl)) ?_ (f_h _ _ e1) ?_ ?_ ?_ ?_
   · (((simp only [go_sem, sw1, ↓reduceIte, Nat.reduceEqDiff, Nat.reduceLT, Nat.reduceLeDiff, Nat.reduceAdd, Nat.reduceMul, Nat.reduceSub, Nat.reduceBEq]; try simp only [seg, go_sem, ↓reduceIte, Nat.reduceEqDiff, Nat.reduceLT, Nat.reduceLeDiff, Nat.reduceAdd, Nat.reduceMul, Nat.reduceSub, Nat.reduceBEq])); done)
   · (refine okAll_intro ?_; (simp only [go_sem, sw2, List.length_set, List.length_replicate, and_true, true_and, Nat.le_refl, ↓reduceIte, Nat.reduceEqDiff, Nat.reduceLT, Nat.reduceLeDiff, Nat.reduceAdd, Nat.reduceMul, Nat.reduceSub, Nat.reduceBEq]; done))
   · exact .inr ⟨rfl, rfl⟩
   · (simp only [go_sem, Nat.reduceLT])
   refine OW.run [0, 1, 5, 7, 8, 16] ?_
   simp (config := { maxSteps := 2000000 }) only [go_sem, ↓reduceIte, Nat.reduceEqDiff, Nat.reduceLT, Nat.reduceLeDiff, Nat.reduceAdd, Nat.reduceMul, Nat.reduceSub, Nat.reduceBEq, Int.reduceToNat, and_assoc, sw0]
   refine OW.nil (hK _ ?_)
   clear hK K
   change PW _ _ _ _ _
   refine PW.cond rfl (fun h5 => ?_) (fun h5 => ?_)
   ·
    replace hrun := br_t h5 hrun
    refine PW.seq ?_
    refine PW.regionK fun K hK => ?_
    refine OW.run [4] ?_
    simp (config := { maxSteps := 2000000 }) only [go_sem, ↓reduceIte, Nat.reduceEqDiff, Nat.reduceLT, Nat.reduceLeDiff, Nat.reduceAdd, Nat.reduceMul, Nat.reduceSub, Nat.reduceBEq, Int.reduceToNat, and_assoc, sw0]
    refine OW.nil (hK _ ?_)
    clear hK K
    change PW _ _ _ _ _
    refine PW.ret ?_
    change PW.Ends _ _ _ _ _ _
    refine PW.Ends.intro (.inr rfl) ?_
    simp (config := { maxSteps := 2000000 }) only [go_sem, ↓reduceIte, Nat.reduceEqDiff, Nat.reduceLT, Nat.reduceLeDiff, Nat.reduceAdd, Nat.reduceMul, Nat.reduceSub, Nat.reduceBEq, Int.reduceToNat, and_assoc, sw0]
    obtain rfl := Option.some.inj hrun
    refine RetOK.data' 4 (by exact trivial) ?_
    rfl
   ·
    replace hrun := br_f h5 hrun
    refine PW.skip ?_
    change PW _ _ _ _ _
    refine PW.regionK fun K hK => ?_
    refine OW.run [0, 1, 7, 8] ?_
    simp (config := { maxSteps := 2000000 }) only [go_sem, ↓reduceIte, Nat.reduceEqDiff, Nat.reduceLT, Nat.reduceLeDiff, Nat.reduceAdd, Nat.reduceMul, Nat.reduceSub, Nat.reduceBEq, Int.reduceToNat, and_assoc, sw0]
    refine OW.nil (hK _ ?_)
    clear hK K
    refine hN2 [] (w64 (t8 + (1 : Int))) _ hrun (by exact trivial) ?_
    (simp only [Env.frzL, Env.frz, frzOb, V.frz, V.frz.frzs, asD, map_asD, sw1, go_sem, ↓reduceIte, Nat.reduceEqDiff, Nat.reduceLT, Nat.reduceLeDiff, Nat.reduceAdd, Nat.reduceMul, Nat.reduceSub, Nat.reduceBEq]; done)
  ·
   replace hrun := br_f h3 hrun
   refine PW.exit ?_
   refine hN1 [] () _ hrun (by exact trivial) ?_
   (simp only [Env.frzL, Env.frz, frzOb, V.frz, V.frz.frzs, asD, map_asD, sw1, go_sem, ↓reduceIte, Nat.reduceEqDiff, Nat.reduceLT, Nat.reduceLeDiff, Nat.reduceAdd, Nat.reduceMul, Nat.reduceSub, Nat.reduceBEq]; done)
 ·
  rintro _ hrun
  try simp only [go_sem, ↓reduceIte, Nat.reduceEqDiff, Nat.reduceLT, Nat.reduceLeDiff, Nat.reduceAdd, Nat.reduceMul, Nat.reduceSub, Nat.reduceBEq]
  refine PW.seq ?_
  refine PW.regionK fun K hK => ?_
  refine OW.run [4] ?_
  simp (config := { maxSteps := 2000000 }) only [go_sem, ↓reduceIte, Nat.reduceEqDiff, Nat.reduceLT, Nat.reduceLeDiff, Nat.reduceAdd, Nat.reduceMul, Nat.reduceSub, Nat.reduceBEq, Int.reduceToNat, and_assoc, sw0]
  refine OW.nil (hK _ ?_)
  clear hK K
  change PW _ _ _ _ _
  refine PW.ret ?_
  change PW.Ends _ _ _ _ _ _
  refine PW.Ends.intro (.inr rfl) ?_
  simp (config := { maxSteps := 2000000 }) only [go_sem, ↓reduceIte, Nat.reduceEqDiff, Nat.reduceLT, Nat.reduceLeDiff, Nat.reduceAdd, Nat.reduceMul, Nat.reduceSub, Nat.reduceBEq, Int.reduceToNat, and_assoc, sw0]
  obtain rfl := Option.some.inj hrun
  refine RetOK.data' 4 (by exact trivial) ?_
  rfl

set_option maxRecDepth 20000 in
set_option maxHeartbeats 8000000 in
theorem slices_ContainsFunc_ii_ok (N : Nat) (s : List Int) (f_g : FuncId) (f_c : List D) (f : Int → Option Bool) (f_h : ∀ y0 r0, f y0 = some r0 → CallOK Tryz.prog f_g ((I y0) :: f_c.map nz) (.d (Bo r0)) []) (r : Bool) (hrun : slices_ContainsFunc_ii N s f = some r) : CallOK Tryz.prog 117 [(L s), .clo f_g f_c] (.d (Bo r)) [] := by
 refine CallOK.of_PW Tryz.func117 rfl (by rw [Tryz.results117]) Tryz.ntmps117 Tryz.call117 ?_
 change PW _ _ _ _ _
 try simp only [go_sem, ↓reduceIte, Nat.reduceEqDiff, Nat.reduceLT, Nat.reduceLeDiff, Nat.reduceAdd, Nat.reduceMul, Nat.reduceSub, Nat.reduceBEq]
 unfold slices_ContainsFunc_ii at hrun
 refine PW.seq ?_
 refine PW.regionK fun K hK => ?_
 refine OW.run [0, 1] ?_
 simp (config := { maxSteps := 2000000 }) only [go_sem, ↓reduceIte, Nat.reduceEqDiff, Nat.reduceLT, Nat.reduceLeDiff, Nat.reduceAdd, Nat.reduceMul, Nat.reduceSub, Nat.reduceBEq, Int.reduceToNat, and_assoc, sw0]
 refine OW.nil (hK _ ?_)
 clear hK K
 change PW _ _ _ _ _
 refine PW.seq ?_
 obtain ⟨x1, e1, hrun⟩ := bnd_some hrun
 refine PW.regionK fun K hK => ?_
 refine OW.run [4] ?_
 simp (config := { maxSteps := 2000000 }) only [go_sem, ↓reduceIte, Nat.reduceEqDiff, Nat.reduceLT, Nat.reduceLeDiff, Nat.reduceAdd, Nat.reduceMul, Nat.reduceSub, Nat.reduceBEq, Int.reduceToNat, and_assoc, sw0]
 refine OW.call' 4 rfl rfl rfl (by ((simp only [go_sem, List.toList_toArray, ↓reduceIte, Nat.reduceEqDiff, Nat.reduceLT, Nat.reduceBEq]); exact rfl)) ?_ (slices_IndexFunc_ii_ok N _ f_g f_c f f_h _ e1) ?_ ?_ ?_ ?_
 · rfl
 · exact okD_all rfl
 · exact .inl rfl
 · (simp only [go_sem, Nat.reduceLT])
 refine OW.run [4] ?_
 simp (config := { maxSteps := 2000000 }) only [go_sem, ↓reduceIte, Nat.reduceEqDiff, Nat.reduceLT, Nat.reduceLeDiff, Nat.reduceAdd, Nat.reduceMul, Nat.reduceSub, Nat.reduceBEq, Int.reduceToNat, and_assoc, sw0]
 refine OW.nil (hK _ ?_)
 clear hK K
 change PW _ _ _ _ _
 refine PW.ret ?_
 change PW.Ends _ _ _ _ _ _
 refine PW.Ends.intro (.inr rfl) ?_
 simp (config := { maxSteps := 2000000 }) only [go_sem, ↓reduceIte, Nat.reduceEqDiff, Nat.reduceLT, Nat.reduceLeDiff, Nat.reduceAdd, Nat.reduceMul, Nat.reduceSub, Nat.reduceBEq, Int.reduceToNat, and_assoc, sw0]
 obtain rfl := Option.some.inj hrun
 refine RetOK.data' 4 (by exact trivial) ?_
 rfl

set_option maxRecDepth 20000 in
set_option maxHeartbeats 8000000 in
theorem access_isDraw_ok (N : Nat) (n : Int) (r : Bool) (hrun : access_isDraw N n = some r) : CallOK Tryz.prog 119 [(I n)] (.d (Bo r)) [] := by
 refine CallOK.of_PW Tryz.func119 rfl (by rw [Tryz.results119]) Tryz.ntmps119 Tryz.call119 ?_
 change PW _ _ _ _ _
 try simp only [go_sem, ↓reduceIte, Nat.reduceEqDiff, Nat.reduceLT, Nat.reduceLeDiff, Nat.reduceAdd, Nat.reduceMul, Nat.reduceSub, Nat.reduceBEq]
 unfold access_isDraw at hrun
 refine PW.seq ?_
 refine PW.regionK fun K hK => ?_
 refine OW.run [0] ?_
 simp (config := { maxSteps := 2000000 }) only [go_sem, ↓reduceIte, Nat.reduceEqDiff, Nat.reduceLT, Nat.reduceLeDiff, Nat.reduceAdd, Nat.reduceMul, Nat.reduceSub, Nat.reduceBEq, Int.reduceToNat, and_assoc, sw0]
 refine OW.nil (hK _ ?_)
 clear hK K
 change PW _ _ _ _ _
 refine PW.seq ?_
 obtain ⟨x1, e1, hrun⟩ := bnd_some hrun
 refine PW.regionK fun K hK => ?_
 refine OW.run [2] ?_
 simp (config := { maxSteps := 2000000 }) only [go_sem, ↓reduceIte, Nat.reduceEqDiff, Nat.reduceLT, Nat.reduceLeDiff, Nat.reduceAdd, Nat.reduceMul, Nat.reduceSub, Nat.reduceBEq, Int.reduceToNat, and_assoc, sw0]
 refine OW.call' 4 rfl rfl rfl (by ((simp only [go_sem, List.toList_toArray, ↓reduceIte, Nat.reduceEqDiff, Nat.reduceLT, Nat.reduceBEq]); exact rfl)) ?_ (access_within_ok N _ _ _ _ e1) ?_ ?_ ?_ ?_
 · rfl
 · exact okD_all rfl
 · exact .inl rfl
 · (simp only [go_sem, Nat.reduceLT])
 refine OW.run [2] ?_
 simp (config := { maxSteps := 2000000 }) only [go_sem, ↓reduceIte, Nat.reduceEqDiff, Nat.reduceLT, Nat.reduceLeDiff, Nat.reduceAdd, Nat.reduceMul, Nat.reduceSub, Nat.reduceBEq, Int.reduceToNat, and_assoc, sw0]
 refine OW.nil (hK _ ?_)
 clear hK K
 change PW _ _ _ _ _
 refine PW.ret ?_
 change PW.Ends _ _ _ _ _ _
 refine PW.Ends.intro (.inr rfl) ?_
 simp (config := { maxSteps := 2000000 }) only [go_sem, ↓reduceIte, Nat.reduceEqDiff, Nat.reduceLT, Nat.reduceLeDiff, Nat.reduceAdd, Nat.reduceMul, Nat.reduceSub, Nat.reduceBEq, Int.reduceToNat, and_assoc, sw0]
 obtain rfl := Option.some.inj hrun
 refine RetOK.data' 4 (by exact trivial) ?_
 rfl

set_option maxRecDepth 20000 in
set_option maxHeartbeats 8000000 in
theorem access_areDraws_1_ok (N : Nat) (n : Int) (r : Bool) (hrun : access_areDraws_1 N n = some r) : CallOK Tryz.prog 118 [(I n)] (.d (Bo r)) [] := by
 refine CallOK.of_PW Tryz.func118 rfl (by rw [Tryz.results118]) Tryz.ntmps118 Tryz.call118 ?_
 change PW _ _ _ _ _
 try simp only [go_sem, ↓reduceIte, Nat.reduceEqDiff, Nat.reduceLT, Nat.reduceLeDiff, Nat.reduceAdd, Nat.reduceMul, Nat.reduceSub, Nat.reduceBEq]
 unfold access_areDraws_1 at hrun
 refine PW.seq ?_
 refine PW.regionK fun K hK => ?_
 refine OW.run [0] ?_
 simp (config := { maxSteps := 2000000 }) only [go_sem, ↓reduceIte, Nat.reduceEqDiff, Nat.reduceLT, Nat.reduceLeDiff, Nat.reduceAdd, Nat.reduceMul, Nat.reduceSub, Nat.reduceBEq, Int.reduceToNat, and_assoc, sw0]
 refine OW.nil (hK _ ?_)
 clear hK K
 change PW _ _ _ _ _
 refine PW.seq ?_
 obtain ⟨x1, e1, hrun⟩ := bnd_some hrun
 refine PW.regionK fun K hK => ?_
 refine OW.run [2] ?_
 simp (config := { maxSteps := 2000000 }) only [go_sem, ↓reduceIte, Nat.reduceEqDiff, Nat.reduceLT, Nat.reduceLeDiff, Nat.reduceAdd, Nat.reduceMul, Nat.reduceSub, Nat.reduceBEq, Int.reduceToNat, and_assoc, sw0]
 refine OW.call' 4 rfl rfl rfl (by ((simp only [go_sem, List.toList_toArray, ↓reduceIte, Nat.reduceEqDiff, Nat.reduceLT, Nat.reduceBEq]); exact rfl)) ?_ (access_isDraw_ok N _ _ e1) ?_ ?_ ?_ ?_
 · rfl
 · exact okD_all rfl
 · exact .inl rfl
 · (simp only [go_sem, Nat.reduceLT])
 refine OW.run [2] ?_
 simp (config := { maxSteps := 2000000 }) only [go_sem, ↓reduceIte, Nat.reduceEqDiff, Nat.reduceLT, Nat.reduceLeDiff, Nat.reduceAdd, Nat.reduceMul, Nat.reduceSub, Nat.reduceBEq, Int.reduceToNat, and_assoc, sw0]
 refine OW.nil (hK _ ?_)
 clear hK K
 change PW _ _ _ _ _
 refine PW.ret ?_
 change PW.Ends _ _ _ _ _ _
 refine PW.Ends.intro (.inr rfl) ?_
 simp (config := { maxSteps := 2000000 }) only [go_sem, ↓reduceIte, Nat.reduceEqDiff, Nat.reduceLT, Nat.reduceLeDiff, Nat.reduceAdd, Nat.reduceMul, Nat.reduceSub, Nat.reduceBEq, Int.reduceToNat, and_assoc, sw0]
 obtain rfl := Option.some.inj hrun
 refine RetOK.data' 4 (by exact trivial) ?_
 rfl

set_option maxRecDepth 20000 in
set_option maxHeartbeats 8000000 in
theorem access_areDraws_ok (N : Nat) (l : List Int) (r : Int) (hrun : access_areDraws N l = some r) : CallOK Tryz.prog 79 [(L l)] (.d (I r)) [] := by
 refine CallOK.of_PW Tryz.func79 rfl (by rw [Tryz.results79]) Tryz.ntmps79 Tryz.call79 ?_
 change PW _ _ _ _ _
 try simp only [go_sem, ↓reduceIte, Nat.reduceEqDiff, Nat.reduceLT, Nat.reduceLeDiff, Nat.reduceAdd, Nat.reduceMul, Nat.reduceSub, Nat.reduceBEq]
 unfold access_areDraws at hrun
 refine PW.seq ?_
 refine PW.regionK fun K hK => ?_
 refine OW.run [0] ?_
 simp (config := { maxSteps := 2000000 }) only [go_sem, ↓reduceIte, Nat.reduceEqDiff, Nat.reduceLT, Nat.reduceLeDiff, Nat.reduceAdd, Nat.reduceMul, Nat.reduceSub, Nat.reduceBEq, Int.reduceToNat, and_assoc, sw0]
 refine OW.nil (hK _ ?_)
 clear hK K
 change PW _ _ _ _ _
 refine PW.seq ?_
 obtain ⟨x1, e1, hrun⟩ := bnd_some hrun
 obtain ⟨x2, e2, hrun⟩ := bnd_some hrun
 refine PW.regionK fun K hK => ?_
 refine OW.run [2] ?_
 simp (config := { maxSteps := 2000000 }) only [go_sem, ↓reduceIte, Nat.reduceEqDiff, Nat.reduceLT, Nat.reduceLeDiff, Nat.reduceAdd, Nat.reduceMul, Nat.reduceSub, Nat.reduceBEq, Int.reduceToNat, and_assoc, sw0]
 refine OW.call' 4 rfl rfl rfl (by ((simp only [go_sem, List.toList_toArray, ↓reduceIte, Nat.reduceEqDiff, Nat.reduceLT, Nat.reduceBEq]); exact rfl)) ?_ (slices_ContainsFunc_ii_ok N _ 118 [] (fun y0 => access_areDraws_1 N y0) (fun y0 r h => access_areDraws_1_ok N y0 r h) _ e1) ?_ ?_ ?_ ?_
 · rfl
 · exact okD_all rfl
 · exact .inl rfl
 · (simp only [go_sem, Nat.reduceLT])
 refine OW.run [2] ?_
 simp (config := { maxSteps := 2000000 }) only [go_sem, ↓reduceIte, Nat.reduceEqDiff, Nat.reduceLT, Nat.reduceLeDiff, Nat.reduceAdd, Nat.reduceMul, Nat.reduceSub, Nat.reduceBEq, Int.reduceToNat, and_assoc, sw0]
 refine OW.call' 4 rfl rfl rfl (by ((simp only [go_sem, List.toList_toArray, ↓reduceIte, Nat.reduceEqDiff, Nat.reduceLT, Nat.reduceBEq]); exact rfl)) ?_ (access_unless_ok N _ _ _ e2) ?_ ?_ ?_ ?_
 · rfl
 · exact okD_all rfl
 · exact .inl rfl
 · (simp only [go_sem, Nat.reduceLT])
 refine OW.run [2] ?_
 simp (config := { maxSteps := 2000000 }) only [go_sem, ↓reduceIte, Nat.reduceEqDiff, Nat.reduceLT, Nat.reduceLeDiff, Nat.reduceAdd, Nat.reduceMul, Nat.reduceSub, Nat.reduceBEq, Int.reduceToNat, and_assoc, sw0]
 refine OW.nil (hK _ ?_)
 clear hK K
 change PW _ _ _ _ _
 refine PW.ret ?_
 change PW.Ends _ _ _ _ _ _
 refine PW.Ends.intro (.inr rfl) ?_
 simp (config := { maxSteps := 2000000 }) only [go_sem, ↓reduceIte, Nat.reduceEqDiff, Nat.reduceLT, Nat.reduceLeDiff, Nat.reduceAdd, Nat.reduceMul, Nat.reduceSub, Nat.reduceBEq, Int.reduceToNat, and_assoc, sw0]
 obtain rfl := Option.some.inj hrun
 refine RetOK.data' 4 (by exact trivial) ?_
 rfl

set_option maxRecDepth 20000 in
set_option maxHeartbeats 8000000 in
theorem access_idle_ok (N : Nat) (draw : Int) (r : Int × Int × Int × Int × Int × Int × Int) (hrun : access_idle N draw = some r) : CallOK Tryz.prog 80 [(I draw)] (.d (.agg [(I r.1), (I r.2.1), (I r.2.2.1), (I r.2.2.2.1), (I r.2.2.2.2.1), (I r.2.2.2.2.2.1), (I r.2.2.2.2.2.2)])) [] := by
 refine CallOK.of_PW Tryz.func80 rfl (by rw [Tryz.results80]) Tryz.ntmps80 Tryz.call80 ?_
 change PW _ _ _ _ _
 try simp only [go_sem, ↓reduceIte, Nat.reduceEqDiff, Nat.reduceLT, Nat.reduceLeDiff, Nat.reduceAdd, Nat.reduceMul, Nat.reduceSub, Nat.reduceBEq]
 unfold access_idle at hrun
 refine PW.seq ?_
 refine PW.regionK fun K hK => ?_
 refine OW.run [0, 2] ?_
 simp (config := { maxSteps := 2000000 }) only [go_sem, ↓reduceIte, Nat.reduceEqDiff, Nat.reduceLT, Nat.reduceLeDiff, Nat.reduceAdd, Nat.reduceMul, Nat.reduceSub, Nat.reduceBEq, Int.reduceToNat, and_assoc, sw0]
 refine OW.nil (hK _ ?_)
 clear hK K
 change PW _ _ _ _ _
 refine PW.seq ?_
 refine PW.regionK fun K hK => ?_
 refine OW.run [2] ?_
 simp (config := { maxSteps := 2000000 }) only [go_sem, ↓reduceIte, Nat.reduceEqDiff, Nat.reduceLT, Nat.reduceLeDiff, Nat.reduceAdd, Nat.reduceMul, Nat.reduceSub, Nat.reduceBEq, Int.reduceToNat, and_assoc, sw0]
 refine OW.nil (hK _ ?_)
 clear hK K
 change PW _ _ _ _ _
 refine PW.ret ?_
 change PW.Ends _ _ _ _ _ _
 refine PW.Ends.intro (.inr rfl) ?_
 simp (config := { maxSteps := 2000000 }) only [go_sem, ↓reduceIte, Nat.reduceEqDiff, Nat.reduceLT, Nat.reduceLeDiff, Nat.reduceAdd, Nat.reduceMul, Nat.reduceSub, Nat.reduceBEq, Int.reduceToNat, and_assoc, sw0]
 obtain rfl := Option.some.inj hrun
 refine RetOK.data' 4 (by exact okD_all rfl) ?_
 rfl

set_option maxRecDepth 20000 in
set_option maxHeartbeats 8000000 in
theorem access_Begin_ok (N : Nat) (r_Preambles : Int) (r_Every : Int) (r_Window : Int) (r_Wait : Int) (r_Tries : Int) (r_Backoff : Int) (r_Identities : Int) (draws : List Int) (r : Int × (List (Int × Int × Int × Int × Int × Int × Int)) × Int) (hrun : access_Begin N r_Preambles r_Every r_Window r_Wait r_Tries r_Backoff r_Identities draws = some r) : CallOK Tryz.prog 17 [(.agg [(I r_Preambles), (I r_Every), (I r_Window), (I r_Wait), (I r_Tries), (I r_Backoff), (I r_Identities)]), (L draws)] (.d (.tup [(.agg [(I r.1), (.list r.2.1.length (r.2.1.flatMap (fun (x : Int × Int × Int × Int × Int × Int × Int) => [(I x.1), (I x.2.1), (I x.2.2.1), (I x.2.2.2.1), (I x.2.2.2.2.1), (I x.2.2.2.2.2.1), (I x.2.2.2.2.2.2)])))]), (I r.2.2)])) [] := by
 refine CallOK.of_PW Tryz.func17 rfl (by rw [Tryz.results17]) Tryz.ntmps17 Tryz.call17 ?_
 change PW _ _ _ _ _
 try simp only [go_sem, ↓reduceIte, Nat.reduceEqDiff, Nat.reduceLT, Nat.reduceLeDiff, Nat.reduceAdd, Nat.reduceMul, Nat.reduceSub, Nat.reduceBEq]
 unfold access_Begin at hrun
 refine PW.seq ?_
 refine PW.regionK fun K hK => ?_
 refine OW.run [1, 2, 4] ?_
 simp (config := { maxSteps := 2000000 }) only [go_sem, ↓reduceIte, Nat.reduceEqDiff, Nat.reduceLT, Nat.reduceLeDiff, Nat.reduceAdd, Nat.reduceMul, Nat.reduceSub, Nat.reduceBEq, Int.reduceToNat, and_assoc, sw0]
 refine OW.nil (hK _ ?_)
 clear hK K
 change PW _ _ _ _ _
 refine PW.seq ?_
 refine PW.seq ?_
 obtain ⟨x1, e1, hrun⟩ := bnd_some hrun
 obtain ⟨x2, e2, hrun⟩ := bnd_some hrun
 obtain ⟨x3, e3, hrun⟩ := bnd_some hrun
 obtain ⟨x4, e4, hrun⟩ := bnd_some hrun
 refine PW.regionK fun K hK => ?_
 refine OW.run [1, 4, 6] ?_
 simp (config := { maxSteps := 2000000 }) only [go_sem, ↓reduceIte, Nat.reduceEqDiff, Nat.reduceLT, Nat.reduceLeDiff, Nat.reduceAdd, Nat.reduceMul, Nat.reduceSub, Nat.reduceBEq, Int.reduceToNat, and_assoc, sw0]
 refine OW.call' 4 rfl rfl rfl (by ((simp only [go_sem, List.toList_toArray, ↓reduceIte, Nat.reduceEqDiff, Nat.reduceLT, Nat.reduceBEq]); exact rfl)) ?_ (access_CheckRules_ok N _ _ _ _ _ _ _ _ e1) ?_ ?_ ?_ ?_
 · rfl
 · (refine okAll_intro ?_; (simp only [go_sem, sw2, List.length_set, List.length_replicate, and_true, true_and, Nat.le_refl, ↓reduceIte, Nat.reduceEqDiff, Nat.reduceLT, Nat.reduceLeDiff, Nat.reduceAdd, Nat.reduceMul, Nat.reduceSub, Nat.reduceBEq]; done))
 · exact .inl rfl
 · (simp only [go_sem, Nat.reduceLT])
 refine OW.run [1, 4, 6] ?_
 simp (config := { maxSteps := 2000000 }) only [go_sem, ↓reduceIte, Nat.reduceEqDiff, Nat.reduceLT, Nat.reduceLeDiff, Nat.reduceAdd, Nat.reduceMul, Nat.reduceSub, Nat.reduceBEq, Int.reduceToNat, and_assoc, sw0]
 refine OW.call' 4 rfl rfl rfl (by ((simp only [go_sem, List.toList_toArray, ↓reduceIte, Nat.reduceEqDiff, Nat.reduceLT, Nat.reduceBEq]); exact rfl)) ?_ (access_phonesErr_ok N _ _ e2) ?_ ?_ ?_ ?_
 · rfl
 · exact okD_all rfl
 · exact .inl rfl
 · (simp only [go_sem, Nat.reduceLT])
 refine OW.run [1, 4, 6] ?_
 simp (config := { maxSteps := 2000000 }) only [go_sem, ↓reduceIte, Nat.reduceEqDiff, Nat.reduceLT, Nat.reduceLeDiff, Nat.reduceAdd, Nat.reduceMul, Nat.reduceSub, Nat.reduceBEq, Int.reduceToNat, and_assoc, sw0]
 refine OW.call' 4 rfl rfl rfl (by ((simp only [go_sem, List.toList_toArray, ↓reduceIte, Nat.reduceEqDiff, Nat.reduceLT, Nat.reduceBEq]); exact rfl)) ?_ (access_areDraws_ok N _ _ e3) ?_ ?_ ?_ ?_
 · rfl
 · exact okD_all rfl
 · exact .inl rfl
 · (simp only [go_sem, Nat.reduceLT])
 refine OW.run [1, 4, 6] ?_
 simp (config := { maxSteps := 2000000 }) only [go_sem, ↓reduceIte, Nat.reduceEqDiff, Nat.reduceLT, Nat.reduceLeDiff, Nat.reduceAdd, Nat.reduceMul, Nat.reduceSub, Nat.reduceBEq, Int.reduceToNat, and_assoc, sw0]
 refine OW.call' 4 rfl rfl rfl (by ((simp only [go_sem, List.toList_toArray, ↓reduceIte, Nat.reduceEqDiff, Nat.reduceLT, Nat.reduceBEq]); exact rfl)) ?_ (access_first_ok N _ _ e4) ?_ ?_ ?_ ?_
 · rfl
 · (refine okAll_intro ?_; (simp only [go_sem, sw2, List.length_set, List.length_replicate, and_true, true_and, Nat.le_refl, ↓reduceIte, Nat.reduceEqDiff, Nat.reduceLT, Nat.reduceLeDiff, Nat.reduceAdd, Nat.reduceMul, Nat.reduceSub, Nat.reduceBEq]; simp only [seg, go_sem, sw2, List.length_set, List.length_replicate, and_true, true_and, Nat.le_refl, ↓reduceIte, Nat.reduceEqDiff, Nat.reduceLT, Nat.reduceLeDiff, Nat.reduceAdd, Nat.reduceMul, Nat.reduceSub, Nat.reduceBEq]; done))
 · exact .inr ⟨rfl, rfl⟩
 · (simp only [go_sem, Nat.reduceLT])
 refine OW.run [1, 4, 6] ?_
 simp (config := { maxSteps := 2000000 }) only [go_sem, ↓reduceIte, Nat.reduceEqDiff, Nat.reduceLT, Nat.reduceLeDiff, Nat.reduceAdd, Nat.reduceMul, Nat.reduceSub, Nat.reduceBEq, Int.reduceToNat, and_assoc, sw0]
 refine OW.nil (hK _ ?_)
 clear hK K
 change PW _ _ _ _ _
 refine PW.seq ?_
 refine PW.regionK fun K hK => ?_
 refine OW.run [1, 4, 6, 20] ?_
 simp (config := { maxSteps := 2000000 }) only [go_sem, ↓reduceIte, Nat.reduceEqDiff, Nat.reduceLT, Nat.reduceLeDiff, Nat.reduceAdd, Nat.reduceMul, Nat.reduceSub, Nat.reduceBEq, Int.reduceToNat, and_assoc, sw0]
 refine OW.nil (hK _ ?_)
 clear hK K
 change PW _ _ _ _ _
 refine PW.cond rfl (fun h1 => ?_) (fun h1 => ?_)
 ·
  replace hrun := br_t h1 hrun
  refine PW.seq ?_
  refine PW.regionK fun K hK => ?_
  refine OW.run [4, 5] ?_
  simp (config := { maxSteps := 2000000 }) only [go_sem, ↓reduceIte, Nat.reduceEqDiff, Nat.reduceLT, Nat.reduceLeDiff, Nat.reduceAdd, Nat.reduceMul, Nat.reduceSub, Nat.reduceBEq, Int.reduceToNat, and_assoc, sw0]
  refine OW.nil (hK _ ?_)
  clear hK K
  change PW _ _ _ _ _
  refine PW.ret ?_
  change PW.Ends _ _ _ _ _ _
  refine PW.Ends.intro (.inr rfl) ?_
  simp (config := { maxSteps := 2000000 }) only [go_sem, ↓reduceIte, Nat.reduceEqDiff, Nat.reduceLT, Nat.reduceLeDiff, Nat.reduceAdd, Nat.reduceMul, Nat.reduceSub, Nat.reduceBEq, Int.reduceToNat, and_assoc, sw0]
  obtain rfl := Option.some.inj hrun
  refine RetOK.data' 4 (by (refine okAll_intro ?_; (simp only [go_sem, sw2, List.length_set, List.length_replicate, and_true, true_and, Nat.le_refl, ↓reduceIte, Nat.reduceEqDiff, Nat.reduceLT, Nat.reduceLeDiff, Nat.reduceAdd, Nat.reduceMul, Nat.reduceSub, Nat.reduceBEq]; done))) ?_
  rfl
 ·
  replace hrun := br_f h1 hrun
  refine PW.skip ?_
  change PW _ _ _ _ _
  refine PW.seq ?_
  refine PW.regionK fun K hK => ?_
  refine OW.run [1, 4, 7] ?_
  simp (config := { maxSteps := 2000000 }) only [go_sem, ↓reduceIte, Nat.reduceEqDiff, Nat.reduceLT, Nat.reduceLeDiff, Nat.reduceAdd, Nat.reduceMul, Nat.reduceSub, Nat.reduceBEq, Int.reduceToNat, and_assoc, sw0]
  refine OW.nil (hK _ ?_)
  clear hK K
  change PW _ _ _ _ _
  refine PW.joinS (τ := (List (Int × Int × Int × Int × Int × Int × Int))) [4, 7] 5 (fun b4 => []) (fun b4 => [{ cells := [.d (I r_Preambles), .d (I r_Every), .d (I r_Window), .d (I r_Wait), .d (I r_Tries), .d (I r_Backoff), .d (I r_Identities)], e := 23 }, { cells := [.d (I (0 : Int)), .d (.val (.slice none 0 0))], e := 30 }, { cells := [.d (I x1), .d (I x2), .d (I x3)], e := 26 }, { cells := [.d (I (0 : Int)), .own 4 0 b4.length 7], e := 30 }, { cells := (b4.flatMap (fun (x : Int × Int × Int × Int × Int × Int × Int) => [(I x.1), (I x.2.1), (I x.2.2.1), (I x.2.2.2.1), (I x.2.2.2.2.1), (I x.2.2.2.2.2.1), (I x.2.2.2.2.2.2)])).map .d, e := 71 }]) _ _ r (by exact Nat.zero_le _) hrun ?_ ?_
  ·
   intro K_ hrun N2 hN2
   refine PW.seq ?_
   refine PW.regionK fun K hK => ?_
   refine OW.run [4, 7, 23, 24, 25] ?_
   simp (config := { maxSteps := 2000000 }) only [go_sem, ↓reduceIte, Nat.reduceEqDiff, Nat.reduceLT, Nat.reduceLeDiff, Nat.reduceAdd, Nat.reduceMul, Nat.reduceSub, Nat.reduceBEq, Int.reduceToNat, and_assoc, sw0]
   refine OW.nil (hK _ ?_)
   clear hK K
   change PW _ _ _ _ _
   refine PW.block ?_
   refine PW.virtC 3 1 71 7 _ rfl rfl ?_
   try simp only [go_sem, ↓reduceIte, Nat.reduceEqDiff, Nat.reduceLT, Nat.reduceLeDiff, Nat.reduceAdd, Nat.reduceMul, Nat.reduceSub, Nat.reduceBEq]
   refine PW.loopS (σ := Int × (List (Int × Int × Int × Int × Int × Int × Int))) [4, 7, 23, 24, 25] 5 (fun (t25, b41) => [(25, .d (I t25))]) (fun (t25, b41) => [{ cells := [.d (I r_Preambles), .d (I r_Every), .d (I r_Window), .d (I r_Wait), .d (I r_Tries), .d (I r_Backoff), .d (I r_Identities)], e := 23 }, { cells := [.d (I (0 : Int)), .d (.val (.slice none 0 0))], e := 30 }, { cells := [.d (I x1), .d (I x2), .d (I x3)], e := 26 }, { cells := [.d (I (0 : Int)), .own 4 0 b41.length 7], e := 30 }, { cells := (b41.flatMap (fun (x : Int × Int × Int × Int × Int × Int × Int) => [(I x.1), (I x.2.1), (I x.2.2.1), (I x.2.2.2.1), (I x.2.2.2.2.1), (I x.2.2.2.2.2.1), (I x.2.2.2.2.2.2)])).map .d, e := 71 }]) (access_Begin.b1 N draws K_) r N ((0 : Int), ([] : List (Int × Int × Int × Int × Int × Int × Int))) (by exact Nat.zero_le _) hrun (by (simp only [Env.frzL, Env.frz, frzOb, V.frz, V.frz.frzs, asD, map_asD, sw1, go_sem, ↓reduceIte, Nat.reduceEqDiff, Nat.reduceLT, Nat.reduceLeDiff, Nat.reduceAdd, Nat.reduceMul, Nat.reduceSub, Nat.reduceBEq]; rfl)) ?_
   rintro n ⟨t25, b41⟩ hrun N3 hN3
   unfold access_Begin.b1 at hrun
   try simp only [go_sem, ↓reduceIte, Nat.reduceEqDiff, Nat.reduceLT, Nat.reduceLeDiff, Nat.reduceAdd, Nat.reduceMul, Nat.reduceSub, Nat.reduceBEq]
   refine PW.seq ?_
   refine PW.regionK fun K hK => ?_
   refine OW.run [4, 7, 23, 24, 25, 26] ?_
   simp (config := { maxSteps := 2000000 }) only [go_sem, ↓reduceIte, Nat.reduceEqDiff, Nat.reduceLT, Nat.reduceLeDiff, Nat.reduceAdd, Nat.reduceMul, Nat.reduceSub, Nat.reduceBEq, Int.reduceToNat, and_assoc, sw0]
   refine OW.nil (hK _ ?_)
   clear hK K
   change PW _ _ _ _ _
   refine PW.seq ?_
   refine PW.cond rfl (fun h4 => ?_) (fun h4 => ?_)
   ·
    replace hrun := br_t h4 hrun
    refine PW.skip ?_
    change PW _ _ _ _ _
    refine PW.seq ?_
    refine PW.block ?_
    refine PW.seq ?_
    obtain ⟨c5, hrun⟩ := chk_some hrun
    refine PW.regionK fun K hK => ?_
    refine OW.run [4, 7, 9, 23, 24, 25] ?_
    simp (config := { maxSteps := 2000000 }) only [go_sem, ↓reduceIte, Nat.reduceEqDiff, Nat.reduceLT, Nat.reduceLeDiff, Nat.reduceAdd, Nat.reduceMul, Nat.reduceSub, Nat.reduceBEq, Int.reduceToNat, and_assoc, sw0]
    refine And.intro (by omega) (And.intro (by omega) (And.intro (by omega) (And.intro (by omega) ?_)))
    refine OW.nil (hK _ ?_)
    clear hK K
    change PW _ _ _ _ _
    obtain ⟨⟨x5, x51, x52, x53, x54, x55, x56⟩, e5, hrun⟩ := bnd_some hrun
    obtain ⟨c6, hrun⟩ := chk_some hrun
    refine PW.drawK 5 mixed (by kernel_rfl) fun K hK => ?_
    change FW _ _ _ _ _
    refine FW.run ?_
    (simp (config := { maxSteps := 2000000 }) only [go_sem, ↓reduceIte, Nat.reduceEqDiff, Nat.reduceLT, Nat.reduceLeDiff, Nat.reduceAdd, Nat.reduceMul, Nat.reduceSub, Nat.reduceBEq, Int.reduceToNat, and_assoc, sw0, allOne_flatF (fun (x : Int × Int × Int × Int × Int × Int × Int) => [(I x.1), (I x.2.1), (I x.2.2.1), (I x.2.2.2.1), (I x.2.2.2.2.1), (I x.2.2.2.2.2.1), (I x.2.2.2.2.2.2)]) (fun _ => rfl), flatMap_length 7 (fun (x : Int × Int × Int × Int × Int × Int × Int) => [(I x.1), (I x.2.1), (I x.2.2.1), (I x.2.2.2.1), (I x.2.2.2.2.1), (I x.2.2.2.2.2.1), (I x.2.2.2.2.2.2)]) (fun _ => rfl)])
    refine And.intro (by omega) ?_
    refine FW.call' 4 rfl rfl rfl (by ((simp only [go_sem, List.toList_toArray, ↓reduceIte, Nat.reduceEqDiff, Nat.reduceLT, Nat.reduceBEq]); exact rfl)) ?_ (access_idle_ok N _ _ e5) ?_ ?_ ?_ ?_
    · rfl
    · exact okD_all rfl
    · exact .inl rfl
    · (simp only [go_sem, Nat.reduceLT])
    refine FW.run ?_
    (simp (config := { maxSteps := 2000000 }) only [go_sem, ↓reduceIte, Nat.reduceEqDiff, Nat.reduceLT, Nat.reduceLeDiff, Nat.reduceAdd, Nat.reduceMul, Nat.reduceSub, Nat.reduceBEq, Int.reduceToNat, and_assoc, sw0, allOne_flatF (fun (x : Int × Int × Int × Int × Int × Int × Int) => [(I x.1), (I x.2.1), (I x.2.2.1), (I x.2.2.2.1), (I x.2.2.2.2.1), (I x.2.2.2.2.2.1), (I x.2.2.2.2.2.2)]) (fun _ => rfl), flatMap_length 7 (fun (x : Int × Int × Int × Int × Int × Int × Int) => [(I x.1), (I x.2.1), (I x.2.2.1), (I x.2.2.2.1), (I x.2.2.2.2.1), (I x.2.2.2.2.2.1), (I x.2.2.2.2.2.2)]) (fun _ => rfl)])
    refine FW.nil ?_
    change OW _ _ _ _ _ _
    refine OW.run [4, 7, 23, 24, 25] ?_
    (simp (config := { maxSteps := 2000000 }) only [go_sem, ↓reduceIte, Nat.reduceEqDiff, Nat.reduceLT, Nat.reduceLeDiff, Nat.reduceAdd, Nat.reduceMul, Nat.reduceSub, Nat.reduceBEq, Int.reduceToNat, and_assoc, sw0, allOne_flatF (fun (x : Int × Int × Int × Int × Int × Int × Int) => [(I x.1), (I x.2.1), (I x.2.2.1), (I x.2.2.2.1), (I x.2.2.2.2.1), (I x.2.2.2.2.2.1), (I x.2.2.2.2.2.2)]) (fun _ => rfl), flatMap_length 7 (fun (x : Int × Int × Int × Int × Int × Int × Int) => [(I x.1), (I x.2.1), (I x.2.2.1), (I x.2.2.2.1), (I x.2.2.2.2.1), (I x.2.2.2.2.2.1), (I x.2.2.2.2.2.2)]) (fun _ => rfl)])
    refine And.intro (by omega) (And.intro (by omega) (And.intro (by omega) (And.intro (by omega) ?_)))
    refine OW.nil (hK _ ?_)
    clear hK K
    change PW _ _ _ _ _
    refine PW.regionK fun K hK => ?_
    refine OW.run [4, 7, 23, 24, 25] ?_
    simp (config := { maxSteps := 2000000 }) only [go_sem, ↓reduceIte, Nat.reduceEqDiff, Nat.reduceLT, Nat.reduceLeDiff, Nat.reduceAdd, Nat.reduceMul, Nat.reduceSub, Nat.reduceBEq, Int.reduceToNat, and_assoc, sw0]
    refine OW.nil (hK _ ?_)
    clear hK K
    refine hN3 [] (w64 (t25 + (1 : Int)), (b41 ++ ([(x5, x51, x52, x53, x54, x55, x56)] : List (Int × Int × Int × Int × Int × Int × Int)))) _ hrun (by exact trivial) ?_
    (simp only [Env.frzL, Env.frz, frzOb, V.frz, V.frz.frzs, asD, map_asD, sw1, go_sem, ↓reduceIte, Nat.reduceEqDiff, Nat.reduceLT, Nat.reduceLeDiff, Nat.reduceAdd, Nat.reduceMul, Nat.reduceSub, Nat.reduceBEq]; simp only [List.length_set, List.length_append, List.length_cons, List.length_nil, Nat.zero_add, List.map_set, List.map_append, List.map_cons, List.map_nil, List.flatMap_append, List.flatMap_cons, List.flatMap_nil, List.append_nil, List.cons_append, List.nil_append]; done)
   ·
    replace hrun := br_f h4 hrun
    refine PW.exit ?_
    refine hN2 [] b41 _ hrun (by exact trivial) ?_
    (simp only [Env.frzL, Env.frz, frzOb, V.frz, V.frz.frzs, asD, map_asD, sw1, go_sem, ↓reduceIte, Nat.reduceEqDiff, Nat.reduceLT, Nat.reduceLeDiff, Nat.reduceAdd, Nat.reduceMul, Nat.reduceSub, Nat.reduceBEq]; done)
  ·
   rintro b4 hrun
   try simp only [go_sem, ↓reduceIte, Nat.reduceEqDiff, Nat.reduceLT, Nat.reduceLeDiff, Nat.reduceAdd, Nat.reduceMul, Nat.reduceSub, Nat.reduceBEq]
   refine PW.seq ?_
   refine PW.regionK fun K hK => ?_
   refine OW.run [4, 5] ?_
   simp (config := { maxSteps := 2000000 }) only [go_sem, ↓reduceIte, Nat.reduceEqDiff, Nat.reduceLT, Nat.reduceLeDiff, Nat.reduceAdd, Nat.reduceMul, Nat.reduceSub, Nat.reduceBEq, Int.reduceToNat, and_assoc, sw0]
   refine OW.nil (hK _ ?_)
   clear hK K
   change PW _ _ _ _ _
   refine PW.ret ?_
   change PW.Ends _ _ _ _ _ _
   refine PW.Ends.intro (.inr rfl) ?_
   simp (config := { maxSteps := 2000000 }) only [go_sem, ↓reduceIte, Nat.reduceEqDiff, Nat.reduceLT, Nat.reduceLeDiff, Nat.reduceAdd, Nat.reduceMul, Nat.reduceSub, Nat.reduceBEq, Int.reduceToNat, and_assoc, sw0]
   obtain rfl := Option.some.inj hrun
   have hl0 := flatMap_length 7 (fun (x : Int × Int × Int × Int × Int × Int × Int) => [(I x.1), (I x.2.1), (I x.2.2.1), (I x.2.2.2.1), (I x.2.2.2.2.1), (I x.2.2.2.2.2.1), (I x.2.2.2.2.2.2)]) (fun _ => rfl) b4
   have hn0 : (b4.flatMap (fun (x : Int × Int × Int × Int × Int × Int × Int) => [(I x.1), (I x.2.1), (I x.2.2.1), (I x.2.2.2.1), (I x.2.2.2.2.1), (I x.2.2.2.2.2.1), (I x.2.2.2.2.2.2)])).map nz = b4.flatMap (fun (x : Int × Int × Int × Int × Int × Int × Int) => [(I x.1), (I x.2.1), (I x.2.2.1), (I x.2.2.2.1), (I x.2.2.2.2.1), (I x.2.2.2.2.2.1), (I x.2.2.2.2.2.2)]) := map_nz_flat (fun _ => rfl) _
   have ht0 : (b4.flatMap (fun (x : Int × Int × Int × Int × Int × Int × Int) => [(I x.1), (I x.2.1), (I x.2.2.1), (I x.2.2.2.1), (I x.2.2.2.2.1), (I x.2.2.2.2.2.1), (I x.2.2.2.2.2.2)])).take (b4.length * 7) = b4.flatMap (fun (x : Int × Int × Int × Int × Int × Int × Int) => [(I x.1), (I x.2.1), (I x.2.2.1), (I x.2.2.2.1), (I x.2.2.2.2.1), (I x.2.2.2.2.2.1), (I x.2.2.2.2.2.2)]) := take_flat _ (fun _ => rfl) rfl
   refine RetOK.data' 4 (by (refine okAll_intro ?_; (simp only [go_sem, sw2, List.length_set, List.length_replicate, and_true, true_and, Nat.le_refl, ↓reduceIte, Nat.reduceEqDiff, Nat.reduceLT, Nat.reduceLeDiff, Nat.reduceAdd, Nat.reduceMul, Nat.reduceSub, Nat.reduceBEq]; omega))) ?_
   (((simp only [go_sem, sw1, ↓reduceIte, Nat.reduceEqDiff, Nat.reduceLT, Nat.reduceLeDiff, Nat.reduceAdd, Nat.reduceMul, Nat.reduceSub, Nat.reduceBEq]; try simp only [seg, go_sem, ↓reduceIte, Nat.reduceEqDiff, Nat.reduceLT, Nat.reduceLeDiff, Nat.reduceAdd, Nat.reduceMul, Nat.reduceSub, Nat.reduceBEq])); (repeat' (first | rfl | (refine list_congr ?_; simp only [List.length_take, List.length_drop, List.length_set, List.length_replicate] <;> omega) | (refine congr (congrArg List.cons ?_) ?_) | (refine congrArg D.agg ?_) | (refine congrArg D.tup ?_) | (refine congrArg D.ref ?_) | (refine congrArg (D.list _) ?_) | (refine congrArg (D.clo _) ?_))))
   all_goals (first | rw [ht0, hn0] | simp only [ht0, hn0])

set_option maxRecDepth 20000 in
set_option maxHeartbeats 8000000 in
theorem ref07_CheckRules_ok (N : Nat) (r_Preambles : Int) (r_Every : Int) (r_Window : Int) (r_Wait : Int) (r_Tries : Int) (r_Backoff : Int) (r_Identities : Int) (r : Int) (hrun : ref07_CheckRules N r_Preambles r_Every r_Window r_Wait r_Tries r_Backoff r_Identities = some r) : CallOK Tryz.prog 19 [(.agg [(I r_Preambles), (I r_Every), (I r_Window), (I r_Wait), (I r_Tries), (I r_Backoff), (I r_Identities)])] (.d (I r)) [] := by
 refine CallOK.of_PW Tryz.func19 rfl (by rw [Tryz.results19]) Tryz.ntmps19 Tryz.call19 ?_
 change PW _ _ _ _ _
 try simp only [go_sem, ↓reduceIte, Nat.reduceEqDiff, Nat.reduceLT, Nat.reduceLeDiff, Nat.reduceAdd, Nat.reduceMul, Nat.reduceSub, Nat.reduceBEq]
 unfold ref07_CheckRules at hrun
 refine PW.seq ?_
 refine PW.regionK fun K hK => ?_
 refine OW.run [1] ?_
 simp (config := { maxSteps := 2000000 }) only [go_sem, ↓reduceIte, Nat.reduceEqDiff, Nat.reduceLT, Nat.reduceLeDiff, Nat.reduceAdd, Nat.reduceMul, Nat.reduceSub, Nat.reduceBEq, Int.reduceToNat, and_assoc, sw0]
 refine OW.nil (hK _ ?_)
 clear hK K
 change PW _ _ _ _ _
 refine PW.seq ?_
 refine PW.seq ?_
 obtain ⟨x1, e1, hrun⟩ := bnd_some hrun
 obtain ⟨x2, e2, hrun⟩ := bnd_some hrun
 obtain ⟨x3, e3, hrun⟩ := bnd_some hrun
 obtain ⟨x4, e4, hrun⟩ := bnd_some hrun
 obtain ⟨x5, e5, hrun⟩ := bnd_some hrun
 obtain ⟨x6, e6, hrun⟩ := bnd_some hrun
 obtain ⟨x7, e7, hrun⟩ := bnd_some hrun
 refine PW.regionK fun K hK => ?_
 refine OW.run [42] ?_
 simp (config := { maxSteps := 2000000 }) only [go_sem, ↓reduceIte, Nat.reduceEqDiff, Nat.reduceLT, Nat.reduceLeDiff, Nat.reduceAdd, Nat.reduceMul, Nat.reduceSub, Nat.reduceBEq, Int.reduceToNat, and_assoc, sw0]
 refine And.intro (by omega) ?_
 refine OW.call' 4 rfl rfl rfl (by ((simp only [go_sem, List.toList_toArray, ↓reduceIte, Nat.reduceEqDiff, Nat.reduceLT, Nat.reduceBEq]); exact rfl)) ?_ (base_Within_ok N _ _ _ _ e1) ?_ ?_ ?_ ?_
 · rfl
 · exact okD_all rfl
 · exact .inl rfl
 · (simp only [go_sem, Nat.reduceLT])
 refine OW.run [42] ?_
 simp (config := { maxSteps := 2000000 }) only [go_sem, ↓reduceIte, Nat.reduceEqDiff, Nat.reduceLT, Nat.reduceLeDiff, Nat.reduceAdd, Nat.reduceMul, Nat.reduceSub, Nat.reduceBEq, Int.reduceToNat, and_assoc, sw0]
 refine And.intro (by omega) ?_
 refine OW.callG' (g := x1) 4 rfl rfl ?_ (fun hg => by first | rfl | (simp only [go_sem, ↓reduceIte]; rfl)) (fun hg => by ((simp only [go_sem, List.toList_toArray, ↓reduceIte, Nat.reduceEqDiff, Nat.reduceLT, Nat.reduceBEq]); exact rfl)) (fun hg => ?_) (fun hg => (base_Within_ok N _ _ _ _ (grd_t hg e2))) ?_ ?_ ?_ ?_
 · (simp only [go_sem, ↓reduceIte, Nat.reduceEqDiff, Nat.reduceLT, Nat.reduceLeDiff, Nat.reduceAdd, Nat.reduceMul, Nat.reduceSub, Nat.reduceBEq]; done)
 · rfl
 · exact okD_all rfl
 · exact .inl rfl
 · (simp only [go_sem, Nat.reduceLT])
 refine OW.run [42] ?_
 simp (config := { maxSteps := 2000000 }) only [go_sem, ↓reduceIte, Nat.reduceEqDiff, Nat.reduceLT, Nat.reduceLeDiff, Nat.reduceAdd, Nat.reduceMul, Nat.reduceSub, Nat.reduceBEq, Int.reduceToNat, and_assoc, sw0]
 refine And.intro (by omega) ?_
 refine OW.callG' (g := (!((!x1) || (!x2)))) 4 rfl rfl ?_ (fun hg => by first | rfl | (simp only [go_sem, ↓reduceIte]; rfl)) (fun hg => by ((simp only [go_sem, List.toList_toArray, ↓reduceIte, Nat.reduceEqDiff, Nat.reduceLT, Nat.reduceBEq]); exact rfl)) (fun hg => ?_) (fun hg => (base_Within_ok N _ _ _ _ (grd_t hg e3))) ?_ ?_ ?_ ?_
 · (simp only [go_sem, ↓reduceIte, Nat.reduceEqDiff, Nat.reduceLT, Nat.reduceLeDiff, Nat.reduceAdd, Nat.reduceMul, Nat.reduceSub, Nat.reduceBEq]; done)
 · rfl
 · exact okD_all rfl
 · exact .inl rfl
 · (simp only [go_sem, Nat.reduceLT])
 refine OW.run [42] ?_
 simp (config := { maxSteps := 2000000 }) only [go_sem, ↓reduceIte, Nat.reduceEqDiff, Nat.reduceLT, Nat.reduceLeDiff, Nat.reduceAdd, Nat.reduceMul, Nat.reduceSub, Nat.reduceBEq, Int.reduceToNat, and_assoc, sw0]
 refine And.intro (by omega) ?_
 refine OW.callG' (g := (!(((!x1) || (!x2)) || (!x3)))) 4 rfl rfl ?_ (fun hg => by first | rfl | (simp only [go_sem, ↓reduceIte]; rfl)) (fun hg => by ((simp only [go_sem, List.toList_toArray, ↓reduceIte, Nat.reduceEqDiff, Nat.reduceLT, Nat.reduceBEq]); exact rfl)) (fun hg => ?_) (fun hg => (base_Within_ok N _ _ _ _ (grd_t hg e4))) ?_ ?_ ?_ ?_
 · (simp only [go_sem, ↓reduceIte, Nat.reduceEqDiff, Nat.reduceLT, Nat.reduceLeDiff, Nat.reduceAdd, Nat.reduceMul, Nat.reduceSub, Nat.reduceBEq]; done)
 · rfl
 · exact okD_all rfl
 · exact .inl rfl
 · (simp only [go_sem, Nat.reduceLT])
 refine OW.run [42] ?_
 simp (config := { maxSteps := 2000000 }) only [go_sem, ↓reduceIte, Nat.reduceEqDiff, Nat.reduceLT, Nat.reduceLeDiff, Nat.reduceAdd, Nat.reduceMul, Nat.reduceSub, Nat.reduceBEq, Int.reduceToNat, and_assoc, sw0]
 refine And.intro (by omega) ?_
 refine OW.callG' (g := (!((((!x1) || (!x2)) || (!x3)) || (!x4)))) 4 rfl rfl ?_ (fun hg => by first | rfl | (simp only [go_sem, ↓reduceIte]; rfl)) (fun hg => by ((simp only [go_sem, List.toList_toArray, ↓reduceIte, Nat.reduceEqDiff, Nat.reduceLT, Nat.reduceBEq]); exact rfl)) (fun hg => ?_) (fun hg => (base_Within_ok N _ _ _ _ (grd_t hg e5))) ?_ ?_ ?_ ?_
 · (simp only [go_sem, ↓reduceIte, Nat.reduceEqDiff, Nat.reduceLT, Nat.reduceLeDiff, Nat.reduceAdd, Nat.reduceMul, Nat.reduceSub, Nat.reduceBEq]; done)
 · rfl
 · exact okD_all rfl
 · exact .inl rfl
 · (simp only [go_sem, Nat.reduceLT])
 refine OW.run [42] ?_
 simp (config := { maxSteps := 2000000 }) only [go_sem, ↓reduceIte, Nat.reduceEqDiff, Nat.reduceLT, Nat.reduceLeDiff, Nat.reduceAdd, Nat.reduceMul, Nat.reduceSub, Nat.reduceBEq, Int.reduceToNat, and_assoc, sw0]
 refine And.intro (by omega) ?_
 refine OW.callG' (g := (!(((((!x1) || (!x2)) || (!x3)) || (!x4)) || (!x5)))) 4 rfl rfl ?_ (fun hg => by first | rfl | (simp only [go_sem, ↓reduceIte]; rfl)) (fun hg => by ((simp only [go_sem, List.toList_toArray, ↓reduceIte, Nat.reduceEqDiff, Nat.reduceLT, Nat.reduceBEq]); exact rfl)) (fun hg => ?_) (fun hg => (base_Within_ok N _ _ _ _ (grd_t hg e6))) ?_ ?_ ?_ ?_
 · (simp only [go_sem, ↓reduceIte, Nat.reduceEqDiff, Nat.reduceLT, Nat.reduceLeDiff, Nat.reduceAdd, Nat.reduceMul, Nat.reduceSub, Nat.reduceBEq]; done)
 · rfl
 · exact okD_all rfl
 · exact .inl rfl
 · (simp only [go_sem, Nat.reduceLT])
 refine OW.run [42] ?_
 simp (config := { maxSteps := 2000000 }) only [go_sem, ↓reduceIte, Nat.reduceEqDiff, Nat.reduceLT, Nat.reduceLeDiff, Nat.reduceAdd, Nat.reduceMul, Nat.reduceSub, Nat.reduceBEq, Int.reduceToNat, and_assoc, sw0]
 refine And.intro (by omega) ?_
 refine OW.callG' (g := (!((((((!x1) || (!x2)) || (!x3)) || (!x4)) || (!x5)) || (!x6)))) 4 rfl rfl ?_ (fun hg => by first | rfl | (simp only [go_sem, ↓reduceIte]; rfl)) (fun hg => by ((simp only [go_sem, List.toList_toArray, ↓reduceIte, Nat.reduceEqDiff, Nat.reduceLT, Nat.reduceBEq]); exact rfl)) (fun hg => ?_) (fun hg => (base_Within_ok N _ _ _ _ (grd_t hg e7))) ?_ ?_ ?_ ?_
 · (simp only [go_sem, ↓reduceIte, Nat.reduceEqDiff, Nat.reduceLT, Nat.reduceLeDiff, Nat.reduceAdd, Nat.reduceMul, Nat.reduceSub, Nat.reduceBEq]; done)
 · rfl
 · exact okD_all rfl
 · exact .inl rfl
 · (simp only [go_sem, Nat.reduceLT])
 refine OW.run [42] ?_
 simp (config := { maxSteps := 2000000 }) only [go_sem, ↓reduceIte, Nat.reduceEqDiff, Nat.reduceLT, Nat.reduceLeDiff, Nat.reduceAdd, Nat.reduceMul, Nat.reduceSub, Nat.reduceBEq, Int.reduceToNat, and_assoc, sw0]
 refine OW.nil (hK _ ?_)
 clear hK K
 change PW _ _ _ _ _
 refine PW.cond rfl (fun h1 => ?_) (fun h1 => ?_)
 ·
  replace hrun := br_t h1 hrun
  refine PW.seq ?_
  refine PW.regionK fun K hK => ?_
  refine OW.run [2] ?_
  simp (config := { maxSteps := 2000000 }) only [go_sem, ↓reduceIte, Nat.reduceEqDiff, Nat.reduceLT, Nat.reduceLeDiff, Nat.reduceAdd, Nat.reduceMul, Nat.reduceSub, Nat.reduceBEq, Int.reduceToNat, and_assoc, sw0]
  refine OW.nil (hK _ ?_)
  clear hK K
  change PW _ _ _ _ _
  refine PW.ret ?_
  change PW.Ends _ _ _ _ _ _
  refine PW.Ends.intro (.inr rfl) ?_
  simp (config := { maxSteps := 2000000 }) only [go_sem, ↓reduceIte, Nat.reduceEqDiff, Nat.reduceLT, Nat.reduceLeDiff, Nat.reduceAdd, Nat.reduceMul, Nat.reduceSub, Nat.reduceBEq, Int.reduceToNat, and_assoc, sw0]
  obtain rfl := Option.some.inj hrun
  refine RetOK.data' 4 (by exact trivial) ?_
  rfl
 ·
  replace hrun := br_f h1 hrun
  refine PW.skip ?_
  change PW _ _ _ _ _
  refine PW.seq ?_
  refine PW.regionK fun K hK => ?_
  refine OW.run [2] ?_
  simp (config := { maxSteps := 2000000 }) only [go_sem, ↓reduceIte, Nat.reduceEqDiff, Nat.reduceLT, Nat.reduceLeDiff, Nat.reduceAdd, Nat.reduceMul, Nat.reduceSub, Nat.reduceBEq, Int.reduceToNat, and_assoc, sw0]
  refine OW.nil (hK _ ?_)
  clear hK K
  change PW _ _ _ _ _
  refine PW.ret ?_
  change PW.Ends _ _ _ _ _ _
  refine PW.Ends.intro (.inr rfl) ?_
  simp (config := { maxSteps := 2000000 }) only [go_sem, ↓reduceIte, Nat.reduceEqDiff, Nat.reduceLT, Nat.reduceLeDiff, Nat.reduceAdd, Nat.reduceMul, Nat.reduceSub, Nat.reduceBEq, Int.reduceToNat, and_assoc, sw0]
  obtain rfl := Option.some.inj hrun
  refine RetOK.data' 4 (by exact trivial) ?_
  rfl

set_option maxRecDepth 20000 in
set_option maxHeartbeats 8000000 in
theorem ref07_isDraw_ok (N : Nat) (n : Int) (r : Bool) (hrun : ref07_isDraw N n = some r) : CallOK Tryz.prog 81 [(I n)] (.d (Bo r)) [] := by
 refine CallOK.of_PW Tryz.func81 rfl (by rw [Tryz.results81]) Tryz.ntmps81 Tryz.call81 ?_
 change PW _ _ _ _ _
 try simp only [go_sem, ↓reduceIte, Nat.reduceEqDiff, Nat.reduceLT, Nat.reduceLeDiff, Nat.reduceAdd, Nat.reduceMul, Nat.reduceSub, Nat.reduceBEq]
 unfold ref07_isDraw at hrun
 refine PW.seq ?_
 refine PW.regionK fun K hK => ?_
 refine OW.run [0] ?_
 simp (config := { maxSteps := 2000000 }) only [go_sem, ↓reduceIte, Nat.reduceEqDiff, Nat.reduceLT, Nat.reduceLeDiff, Nat.reduceAdd, Nat.reduceMul, Nat.reduceSub, Nat.reduceBEq, Int.reduceToNat, and_assoc, sw0]
 refine OW.nil (hK _ ?_)
 clear hK K
 change PW _ _ _ _ _
 refine PW.seq ?_
 obtain ⟨x1, e1, hrun⟩ := bnd_some hrun
 refine PW.regionK fun K hK => ?_
 refine OW.run [2] ?_
 simp (config := { maxSteps := 2000000 }) only [go_sem, ↓reduceIte, Nat.reduceEqDiff, Nat.reduceLT, Nat.reduceLeDiff, Nat.reduceAdd, Nat.reduceMul, Nat.reduceSub, Nat.reduceBEq, Int.reduceToNat, and_assoc, sw0]
 refine OW.call' 4 rfl rfl rfl (by ((simp only [go_sem, List.toList_toArray, ↓reduceIte, Nat.reduceEqDiff, Nat.reduceLT, Nat.reduceBEq]); exact rfl)) ?_ (base_Within_ok N _ _ _ _ e1) ?_ ?_ ?_ ?_
 · rfl
 · exact okD_all rfl
 · exact .inl rfl
 · (simp only [go_sem, Nat.reduceLT])
 refine OW.run [2] ?_
 simp (config := { maxSteps := 2000000 }) only [go_sem, ↓reduceIte, Nat.reduceEqDiff, Nat.reduceLT, Nat.reduceLeDiff, Nat.reduceAdd, Nat.reduceMul, Nat.reduceSub, Nat.reduceBEq, Int.reduceToNat, and_assoc, sw0]
 refine OW.nil (hK _ ?_)
 clear hK K
 change PW _ _ _ _ _
 refine PW.ret ?_
 change PW.Ends _ _ _ _ _ _
 refine PW.Ends.intro (.inr rfl) ?_
 simp (config := { maxSteps := 2000000 }) only [go_sem, ↓reduceIte, Nat.reduceEqDiff, Nat.reduceLT, Nat.reduceLeDiff, Nat.reduceAdd, Nat.reduceMul, Nat.reduceSub, Nat.reduceBEq, Int.reduceToNat, and_assoc, sw0]
 obtain rfl := Option.some.inj hrun
 refine RetOK.data' 4 (by exact trivial) ?_
 rfl

set_option maxRecDepth 20000 in
set_option maxHeartbeats 8000000 in
theorem ref07_DrawsErr_ok (N : Nat) (l : List Int) (r : Int) (hrun : ref07_DrawsErr N l = some r) : CallOK Tryz.prog 20 [(L l)] (.d (I r)) [] := by
 refine CallOK.of_PW Tryz.func20 rfl (by rw [Tryz.results20]) Tryz.ntmps20 Tryz.call20 ?_
 change PW _ _ _ _ _
 try simp only [go_sem, ↓reduceIte, Nat.reduceEqDiff, Nat.reduceLT, Nat.reduceLeDiff, Nat.reduceAdd, Nat.reduceMul, Nat.reduceSub, Nat.reduceBEq]
 unfold ref07_DrawsErr at hrun
 refine PW.seq ?_
 refine PW.regionK fun K hK => ?_
 refine OW.run [0] ?_
 simp (config := { maxSteps := 2000000 }) only [go_sem, ↓reduceIte, Nat.reduceEqDiff, Nat.reduceLT, Nat.reduceLeDiff, Nat.reduceAdd, Nat.reduceMul, Nat.reduceSub, Nat.reduceBEq, Int.reduceToNat, and_assoc, sw0]
 refine OW.nil (hK _ ?_)
 clear hK K
 change PW _ _ _ _ _
 refine PW.seq ?_
 refine PW.seq ?_
 refine PW.regionK fun K hK => ?_
 refine OW.run [0, 6] ?_
 simp (config := { maxSteps := 2000000 }) only [go_sem, ↓reduceIte, Nat.reduceEqDiff, Nat.reduceLT, Nat.reduceLeDiff, Nat.reduceAdd, Nat.reduceMul, Nat.reduceSub, Nat.reduceBEq, Int.reduceToNat, and_assoc, sw0]
 refine OW.nil (hK _ ?_)
 clear hK K
 change PW _ _ _ _ _
 refine PW.cond rfl (fun h1 => ?_) (fun h1 => ?_)
 ·
  replace hrun := br_t h1 hrun
  refine PW.seq ?_
  refine PW.regionK fun K hK => ?_
  refine OW.run [2] ?_
  simp (config := { maxSteps := 2000000 }) only [go_sem, ↓reduceIte, Nat.reduceEqDiff, Nat.reduceLT, Nat.reduceLeDiff, Nat.reduceAdd, Nat.reduceMul, Nat.reduceSub, Nat.reduceBEq, Int.reduceToNat, and_assoc, sw0]
  refine OW.nil (hK _ ?_)
  clear hK K
  change PW _ _ _ _ _
  refine PW.ret ?_
  change PW.Ends _ _ _ _ _ _
  refine PW.Ends.intro (.inr rfl) ?_
  simp (config := { maxSteps := 2000000 }) only [go_sem, ↓reduceIte, Nat.reduceEqDiff, Nat.reduceLT, Nat.reduceLeDiff, Nat.reduceAdd, Nat.reduceMul, Nat.reduceSub, Nat.reduceBEq, Int.reduceToNat, and_assoc, sw0]
  obtain rfl := Option.some.inj hrun
  refine RetOK.data' 4 (by exact trivial) ?_
  rfl
 ·
  replace hrun := br_f h1 hrun
  refine PW.skip ?_
  change PW _ _ _ _ _
  refine PW.seq ?_
  refine PW.seq ?_
  refine PW.regionK fun K hK => ?_
  refine OW.run [0, 9] ?_
  simp (config := { maxSteps := 2000000 }) only [go_sem, ↓reduceIte, Nat.reduceEqDiff, Nat.reduceLT, Nat.reduceLeDiff, Nat.reduceAdd, Nat.reduceMul, Nat.reduceSub, Nat.reduceBEq, Int.reduceToNat, and_assoc, sw0]
  refine OW.nil (hK _ ?_)
  clear hK K
  change PW _ _ _ _ _
  refine PW.cond rfl (fun h2 => ?_) (fun h2 => ?_)
  ·
   replace hrun := br_t h2 hrun
   refine PW.seq ?_
   refine PW.regionK fun K hK => ?_
   refine OW.run [2] ?_
   simp (config := { maxSteps := 2000000 }) only [go_sem, ↓reduceIte, Nat.reduceEqDiff, Nat.reduceLT, Nat.reduceLeDiff, Nat.reduceAdd, Nat.reduceMul, Nat.reduceSub, Nat.reduceBEq, Int.reduceToNat, and_assoc, sw0]
   refine OW.nil (hK _ ?_)
   clear hK K
   change PW _ _ _ _ _
   refine PW.ret ?_
   change PW.Ends _ _ _ _ _ _
   refine PW.Ends.intro (.inr rfl) ?_
   simp (config := { maxSteps := 2000000 }) only [go_sem, ↓reduceIte, Nat.reduceEqDiff, Nat.reduceLT, Nat.reduceLeDiff, Nat.reduceAdd, Nat.reduceMul, Nat.reduceSub, Nat.reduceBEq, Int.reduceToNat, and_assoc, sw0]
   obtain rfl := Option.some.inj hrun
   refine RetOK.data' 4 (by exact trivial) ?_
   rfl
  ·
   replace hrun := br_f h2 hrun
   refine PW.skip ?_
   change PW _ _ _ _ _
   refine PW.joinS (τ := Unit) [] 0 (fun _ => []) (fun _ => []) _ _ r (by exact Nat.le_refl _) hrun ?_ ?_
   ·
    intro K_ hrun N3 hN3
    refine PW.seq ?_
    refine PW.regionK fun K hK => ?_
    refine OW.run [0, 3] ?_
    simp (config := { maxSteps := 2000000 }) only [go_sem, ↓reduceIte, Nat.reduceEqDiff, Nat.reduceLT, Nat.reduceLeDiff, Nat.reduceAdd, Nat.reduceMul, Nat.reduceSub, Nat.reduceBEq, Int.reduceToNat, and_assoc, sw0]
    refine OW.nil (hK _ ?_)
    clear hK K
    change PW _ _ _ _ _
    refine PW.block ?_
    refine PW.loopS (σ := Int) [0, 3] 0 (fun i => [(3, .d (I i))]) (fun i => []) (ref07_DrawsErr.b1 N l K_) r N (0 : Int) (by exact Nat.le_refl _) hrun (by (simp only [Env.frzL, Env.frz, frzOb, V.frz, V.frz.frzs, asD, map_asD, sw1, go_sem, ↓reduceIte, Nat.reduceEqDiff, Nat.reduceLT, Nat.reduceLeDiff, Nat.reduceAdd, Nat.reduceMul, Nat.reduceSub, Nat.reduceBEq]; done)) ?_
    rintro n i hrun N4 hN4
    unfold ref07_DrawsErr.b1 at hrun
    try simp only [go_sem, ↓reduceIte, Nat.reduceEqDiff, Nat.reduceLT, Nat.reduceLeDiff, Nat.reduceAdd, Nat.reduceMul, Nat.reduceSub, Nat.reduceBEq]
    refine PW.seq ?_
    refine PW.seq ?_
    refine PW.regionK fun K hK => ?_
    refine OW.run [0, 3, 13] ?_
    simp (config := { maxSteps := 2000000 }) only [go_sem, ↓reduceIte, Nat.reduceEqDiff, Nat.reduceLT, Nat.reduceLeDiff, Nat.reduceAdd, Nat.reduceMul, Nat.reduceSub, Nat.reduceBEq, Int.reduceToNat, and_assoc, sw0]
    refine OW.nil (hK _ ?_)
    clear hK K
    change PW _ _ _ _ _
    refine PW.cond rfl (fun h5 => ?_) (fun h5 => ?_)
    ·
     replace hrun := br_t h5 hrun
     refine PW.skip ?_
     change PW _ _ _ _ _
     refine PW.seq ?_
     refine PW.block ?_
     refine PW.seq ?_
     obtain ⟨c6, hrun⟩ := chk_some hrun
     obtain ⟨x1, e1, hrun⟩ := bnd_some hrun
     refine PW.regionK fun K hK => ?_
     refine OW.run [0, 3, 21] ?_
     simp (config := { maxSteps := 2000000 }) only [go_sem, ↓reduceIte, Nat.reduceEqDiff, Nat.reduceLT, Nat.reduceLeDiff, Nat.reduceAdd, Nat.reduceMul, Nat.reduceSub, Nat.reduceBEq, Int.reduceToNat, and_assoc, sw0]
     refine And.intro (by omega) (And.intro (by omega) (And.intro (by omega) (And.intro (by omega) ?_)))
     refine OW.call' 4 rfl rfl rfl (by ((simp only [go_sem, List.toList_toArray, ↓reduceIte, Nat.reduceEqDiff, Nat.reduceLT, Nat.reduceBEq]); exact rfl)) ?_ (ref07_isDraw_ok N _ _ e1) ?_ ?_ ?_ ?_
     · rfl
     · exact okD_all rfl
     · exact .inl rfl
     · (simp only [go_sem, Nat.reduceLT])
     refine OW.run [0, 3, 21] ?_
     simp (config := { maxSteps := 2000000 }) only [go_sem, ↓reduceIte, Nat.reduceEqDiff, Nat.reduceLT, Nat.reduceLeDiff, Nat.reduceAdd, Nat.reduceMul, Nat.reduceSub, Nat.reduceBEq, Int.reduceToNat, and_assoc, sw0]
     refine OW.nil (hK _ ?_)
     clear hK K
     change PW _ _ _ _ _
     refine PW.cond rfl (fun h7 => ?_) (fun h7 => ?_)
     ·
      replace hrun := br_t h7 hrun
      refine PW.seq ?_
      refine PW.regionK fun K hK => ?_
      refine OW.run [2] ?_
      simp (config := { maxSteps := 2000000 }) only [go_sem, ↓reduceIte, Nat.reduceEqDiff, Nat.reduceLT, Nat.reduceLeDiff, Nat.reduceAdd, Nat.reduceMul, Nat.reduceSub, Nat.reduceBEq, Int.reduceToNat, and_assoc, sw0]
      refine OW.nil (hK _ ?_)
      clear hK K
      change PW _ _ _ _ _
      refine PW.ret ?_
      change PW.Ends _ _ _ _ _ _
      refine PW.Ends.intro (.inr rfl) ?_
      simp (config := { maxSteps := 2000000 }) only [go_sem, ↓reduceIte, Nat.reduceEqDiff, Nat.reduceLT, Nat.reduceLeDiff, Nat.reduceAdd, Nat.reduceMul, Nat.reduceSub, Nat.reduceBEq, Int.reduceToNat, and_assoc, sw0]
      obtain rfl := Option.some.inj hrun
      refine RetOK.data' 4 (by exact trivial) ?_
      rfl
     ·
      replace hrun := br_f h7 hrun
      refine PW.skip ?_
      change PW _ _ _ _ _
      refine PW.regionK fun K hK => ?_
      refine OW.run [0, 3] ?_
      simp (config := { maxSteps := 2000000 }) only [go_sem, ↓reduceIte, Nat.reduceEqDiff, Nat.reduceLT, Nat.reduceLeDiff, Nat.reduceAdd, Nat.reduceMul, Nat.reduceSub, Nat.reduceBEq, Int.reduceToNat, and_assoc, sw0]
      refine OW.nil (hK _ ?_)
      clear hK K
      refine hN4 [] (w64 (i + (1 : Int))) _ hrun (by exact trivial) ?_
      (simp only [Env.frzL, Env.frz, frzOb, V.frz, V.frz.frzs, asD, map_asD, sw1, go_sem, ↓reduceIte, Nat.reduceEqDiff, Nat.reduceLT, Nat.reduceLeDiff, Nat.reduceAdd, Nat.reduceMul, Nat.reduceSub, Nat.reduceBEq]; done)
    ·
     replace hrun := br_f h5 hrun
     refine PW.exit ?_
     refine hN3 [] () _ hrun (by exact trivial) ?_
     (simp only [Env.frzL, Env.frz, frzOb, V.frz, V.frz.frzs, asD, map_asD, sw1, go_sem, ↓reduceIte, Nat.reduceEqDiff, Nat.reduceLT, Nat.reduceLeDiff, Nat.reduceAdd, Nat.reduceMul, Nat.reduceSub, Nat.reduceBEq]; done)
   ·
    rintro _ hrun
    try simp only [go_sem, ↓reduceIte, Nat.reduceEqDiff, Nat.reduceLT, Nat.reduceLeDiff, Nat.reduceAdd, Nat.reduceMul, Nat.reduceSub, Nat.reduceBEq]
    refine PW.seq ?_
    refine PW.regionK fun K hK => ?_
    refine OW.run [2] ?_
    simp (config := { maxSteps := 2000000 }) only [go_sem, ↓reduceIte, Nat.reduceEqDiff, Nat.reduceLT, Nat.reduceLeDiff, Nat.reduceAdd, Nat.reduceMul, Nat.reduceSub, Nat.reduceBEq, Int.reduceToNat, and_assoc, sw0]
    refine OW.nil (hK _ ?_)
    clear hK K
    change PW _ _ _ _ _
    refine PW.ret ?_
    change PW.Ends _ _ _ _ _ _
    refine PW.Ends.intro (.inr rfl) ?_
    simp (config := { maxSteps := 2000000 }) only [go_sem, ↓reduceIte, Nat.reduceEqDiff, Nat.reduceLT, Nat.reduceLeDiff, Nat.reduceAdd, Nat.reduceMul, Nat.reduceSub, Nat.reduceBEq, Int.reduceToNat, and_assoc, sw0]
    obtain rfl := Option.some.inj hrun
    refine RetOK.data' 4 (by exact trivial) ?_
    rfl

set_option maxRecDepth 20000 in
set_option maxHeartbeats 8000000 in
theorem ref07_Same_ok (N : Nat) (a_At : Int) (a_Phones : List (Int × Int × Int × Int × Int × Int × Int)) (b_At : Int) (b_Phones : List (Int × Int × Int × Int × Int × Int × Int)) (r : Bool) (hrun : ref07_Same N a_At a_Phones b_At b_Phones = some r) : CallOK Tryz.prog 21 [(.agg [(I a_At), (.list a_Phones.length (a_Phones.flatMap (fun (x : Int × Int × Int × Int × Int × Int × Int) => [(I x.1), (I x.2.1), (I x.2.2.1), (I x.2.2.2.1), (I x.2.2.2.2.1), (I x.2.2.2.2.2.1), (I x.2.2.2.2.2.2)])))]), (.agg [(I b_At), (.list b_Phones.length (b_Phones.flatMap (fun (x : Int × Int × Int × Int × Int × Int × Int) => [(I x.1), (I x.2.1), (I x.2.2.1), (I x.2.2.2.1), (I x.2.2.2.2.1), (I x.2.2.2.2.2.1), (I x.2.2.2.2.2.2)])))])] (.d (Bo r)) [] := by
 refine CallOK.of_PW Tryz.func21 rfl (by rw [Tryz.results21]) Tryz.ntmps21 Tryz.call21 ?_
 change PW _ _ _ _ _
 try simp only [go_sem, ↓reduceIte, Nat.reduceEqDiff, Nat.reduceLT, Nat.reduceLeDiff, Nat.reduceAdd, Nat.reduceMul, Nat.reduceSub, Nat.reduceBEq]
 unfold ref07_Same at hrun
 refine PW.seq ?_
 refine PW.regionK fun K hK => ?_
 refine OW.run [2, 3] ?_
 simp (config := { maxSteps := 2000000 }) only [go_sem, ↓reduceIte, Nat.reduceEqDiff, Nat.reduceLT, Nat.reduceLeDiff, Nat.reduceAdd, Nat.reduceMul, Nat.reduceSub, Nat.reduceBEq, Int.reduceToNat, and_assoc, sw0]
 refine OW.nil (hK _ ?_)
 clear hK K
 change PW _ _ _ _ _
 refine PW.seq ?_
 refine PW.seq ?_
 refine PW.regionK fun K hK => ?_
 refine OW.run [2, 3, 19] ?_
 simp (config := { maxSteps := 2000000 }) only [go_sem, ↓reduceIte, Nat.reduceEqDiff, Nat.reduceLT, Nat.reduceLeDiff, Nat.reduceAdd, Nat.reduceMul, Nat.reduceSub, Nat.reduceBEq, Int.reduceToNat, and_assoc, sw0]
 refine And.intro (by omega) (And.intro (by omega) (And.intro (by omega) (And.intro (by omega) ?_)))
 refine OW.nil (hK _ ?_)
 clear hK K
 change PW _ _ _ _ _
 refine PW.cond rfl (fun h1 => ?_) (fun h1 => ?_)
 ·
  replace hrun := br_t h1 hrun
  refine PW.seq ?_
  refine PW.regionK fun K hK => ?_
  refine OW.run [4] ?_
  simp (config := { maxSteps := 2000000 }) only [go_sem, ↓reduceIte, Nat.reduceEqDiff, Nat.reduceLT, Nat.reduceLeDiff, Nat.reduceAdd, Nat.reduceMul, Nat.reduceSub, Nat.reduceBEq, Int.reduceToNat, and_assoc, sw0]
  refine OW.nil (hK _ ?_)
  clear hK K
  change PW _ _ _ _ _
  refine PW.ret ?_
  change PW.Ends _ _ _ _ _ _
  refine PW.Ends.intro (.inr rfl) ?_
  simp (config := { maxSteps := 2000000 }) only [go_sem, ↓reduceIte, Nat.reduceEqDiff, Nat.reduceLT, Nat.reduceLeDiff, Nat.reduceAdd, Nat.reduceMul, Nat.reduceSub, Nat.reduceBEq, Int.reduceToNat, and_assoc, sw0]
  obtain rfl := Option.some.inj hrun
  refine RetOK.data' 4 (by exact trivial) ?_
  rfl
 ·
  replace hrun := br_f h1 hrun
  refine PW.skip ?_
  change PW _ _ _ _ _
  refine PW.joinS (τ := Unit) [] 0 (fun _ => []) (fun _ => []) _ _ r (by exact Nat.le_refl _) hrun ?_ ?_
  ·
   intro K_ hrun N2 hN2
   refine PW.seq ?_
   refine PW.regionK fun K hK => ?_
   refine OW.run [2, 3, 5] ?_
   simp (config := { maxSteps := 2000000 }) only [go_sem, ↓reduceIte, Nat.reduceEqDiff, Nat.reduceLT, Nat.reduceLeDiff, Nat.reduceAdd, Nat.reduceMul, Nat.reduceSub, Nat.reduceBEq, Int.reduceToNat, and_assoc, sw0]
   refine OW.nil (hK _ ?_)
   clear hK K
   change PW _ _ _ _ _
   refine PW.block ?_
   refine PW.loopS (σ := Int) [2, 3, 5] 2 (fun i => [(5, .d (I i))]) (fun i => [{ cells := [.d (I a_At), .d (.list a_Phones.length (a_Phones.flatMap (fun (x : Int × Int × Int × Int × Int × Int × Int) => [(I x.1), (I x.2.1), (I x.2.2.1), (I x.2.2.2.1), (I x.2.2.2.2.1), (I x.2.2.2.2.2.1), (I x.2.2.2.2.2.2)])))], e := 30 }, { cells := [.d (I b_At), .d (.list b_Phones.length (b_Phones.flatMap (fun (x : Int × Int × Int × Int × Int × Int × Int) => [(I x.1), (I x.2.1), (I x.2.2.1), (I x.2.2.2.1), (I x.2.2.2.2.1), (I x.2.2.2.2.2.1), (I x.2.2.2.2.2.2)])))], e := 30 }]) (ref07_Same.b1 N a_Phones b_Phones K_) r N (0 : Int) (by exact Nat.zero_le _) hrun (by (simp only [Env.frzL, Env.frz, frzOb, V.frz, V.frz.frzs, asD, map_asD, sw1, go_sem, ↓reduceIte, Nat.reduceEqDiff, Nat.reduceLT, Nat.reduceLeDiff, Nat.reduceAdd, Nat.reduceMul, Nat.reduceSub, Nat.reduceBEq]; done)) ?_
   rintro n i hrun N3 hN3
   unfold ref07_Same.b1 at hrun
   try simp only [go_sem, ↓reduceIte, Nat.reduceEqDiff, Nat.reduceLT, Nat.reduceLeDiff, Nat.reduceAdd, Nat.reduceMul, Nat.reduceSub, Nat.reduceBEq]
   refine PW.seq ?_
   refine PW.seq ?_
   refine PW.regionK fun K hK => ?_
   refine OW.run [2, 3, 5, 24] ?_
   simp (config := { maxSteps := 2000000 }) only [go_sem, ↓reduceIte, Nat.reduceEqDiff, Nat.reduceLT, Nat.reduceLeDiff, Nat.reduceAdd, Nat.reduceMul, Nat.reduceSub, Nat.reduceBEq, Int.reduceToNat, and_assoc, sw0]
   refine And.intro (by omega) ?_
   refine OW.nil (hK _ ?_)
   clear hK K
   change PW _ _ _ _ _
   refine PW.cond rfl (fun h4 => ?_) (fun h4 => ?_)
   ·
    replace hrun := br_t h4 hrun
    refine PW.skip ?_
    change PW _ _ _ _ _
    refine PW.seq ?_
    refine PW.block ?_
    refine PW.seq ?_
    obtain ⟨c5, hrun⟩ := chk_some hrun
    obtain ⟨c6, hrun⟩ := chk_some hrun
    refine PW.drawK 10 mixed (by kernel_rfl) fun K hK => ?_
    change FW _ _ _ _ _
    refine FW.run ?_
    (simp (config := { maxSteps := 2000000 }) only [go_sem, ↓reduceIte, Nat.reduceEqDiff, Nat.reduceLT, Nat.reduceLeDiff, Nat.reduceAdd, Nat.reduceMul, Nat.reduceSub, Nat.reduceBEq, Int.reduceToNat, and_assoc, sw0, flatMap_length 7 (fun (x : Int × Int × Int × Int × Int × Int × Int) => [(I x.1), (I x.2.1), (I x.2.2.1), (I x.2.2.2.1), (I x.2.2.2.2.1), (I x.2.2.2.2.2.1), (I x.2.2.2.2.2.2)]) (fun _ => rfl), sub_el 7 (fun (x : Int × Int × Int × Int × Int × Int × Int) => [(I x.1), (I x.2.1), (I x.2.2.1), (I x.2.2.2.1), (I x.2.2.2.2.1), (I x.2.2.2.2.2.1), (I x.2.2.2.2.2.2)]) (fun _ => rfl) a_Phones i.toNat (by omega), sub_el 7 (fun (x : Int × Int × Int × Int × Int × Int × Int) => [(I x.1), (I x.2.1), (I x.2.2.1), (I x.2.2.2.1), (I x.2.2.2.2.1), (I x.2.2.2.2.2.1), (I x.2.2.2.2.2.2)]) (fun _ => rfl) b_Phones i.toNat (by omega)])
    refine And.intro (by omega) (And.intro (by omega) (And.intro (by omega) (And.intro (by omega) (And.intro (by omega) (And.intro (by omega) (And.intro (by omega) (And.intro (by omega) (And.intro (by omega) (And.intro (by omega) ?_)))))))))
    refine FW.nil ?_
    change OW _ _ _ _ _ _
    refine OW.run [2, 3, 5, 37] ?_
    (simp (config := { maxSteps := 2000000 }) only [go_sem, ↓reduceIte, Nat.reduceEqDiff, Nat.reduceLT, Nat.reduceLeDiff, Nat.reduceAdd, Nat.reduceMul, Nat.reduceSub, Nat.reduceBEq, Int.reduceToNat, and_assoc, sw0, flatMap_length 7 (fun (x : Int × Int × Int × Int × Int × Int × Int) => [(I x.1), (I x.2.1), (I x.2.2.1), (I x.2.2.2.1), (I x.2.2.2.2.1), (I x.2.2.2.2.2.1), (I x.2.2.2.2.2.2)]) (fun _ => rfl), sub_el 7 (fun (x : Int × Int × Int × Int × Int × Int × Int) => [(I x.1), (I x.2.1), (I x.2.2.1), (I x.2.2.2.1), (I x.2.2.2.2.1), (I x.2.2.2.2.2.1), (I x.2.2.2.2.2.2)]) (fun _ => rfl) a_Phones i.toNat (by omega), sub_el 7 (fun (x : Int × Int × Int × Int × Int × Int × Int) => [(I x.1), (I x.2.1), (I x.2.2.1), (I x.2.2.2.1), (I x.2.2.2.2.1), (I x.2.2.2.2.2.1), (I x.2.2.2.2.2.2)]) (fun _ => rfl) b_Phones i.toNat (by omega)])
    refine OW.nil (hK _ ?_)
    clear hK K
    change PW _ _ _ _ _
    refine PW.cond rfl (fun h7 => ?_) (fun h7 => ?_)
    ·
     replace hrun := br_t h7 hrun
     refine PW.seq ?_
     refine PW.regionK fun K hK => ?_
     refine OW.run [4] ?_
     simp (config := { maxSteps := 2000000 }) only [go_sem, ↓reduceIte, Nat.reduceEqDiff, Nat.reduceLT, Nat.reduceLeDiff, Nat.reduceAdd, Nat.reduceMul, Nat.reduceSub, Nat.reduceBEq, Int.reduceToNat, and_assoc, sw0]
     refine OW.nil (hK _ ?_)
     clear hK K
     change PW _ _ _ _ _
     refine PW.ret ?_
     change PW.Ends _ _ _ _ _ _
     refine PW.Ends.intro (.inr rfl) ?_
     simp (config := { maxSteps := 2000000 }) only [go_sem, ↓reduceIte, Nat.reduceEqDiff, Nat.reduceLT, Nat.reduceLeDiff, Nat.reduceAdd, Nat.reduceMul, Nat.reduceSub, Nat.reduceBEq, Int.reduceToNat, and_assoc, sw0]
     obtain rfl := Option.some.inj hrun
     refine RetOK.data' 4 (by exact trivial) ?_
     rfl
    ·
     replace hrun := br_f h7 hrun
     refine PW.skip ?_
     change PW _ _ _ _ _
     refine PW.regionK fun K hK => ?_
     refine OW.run [2, 3, 5] ?_
     simp (config := { maxSteps := 2000000 }) only [go_sem, ↓reduceIte, Nat.reduceEqDiff, Nat.reduceLT, Nat.reduceLeDiff, Nat.reduceAdd, Nat.reduceMul, Nat.reduceSub, Nat.reduceBEq, Int.reduceToNat, and_assoc, sw0]
     refine OW.nil (hK _ ?_)
     clear hK K
     refine hN3 [] (w64 (i + (1 : Int))) _ hrun (by exact trivial) ?_
     (simp only [Env.frzL, Env.frz, frzOb, V.frz, V.frz.frzs, asD, map_asD, sw1, go_sem, ↓reduceIte, Nat.reduceEqDiff, Nat.reduceLT, Nat.reduceLeDiff, Nat.reduceAdd, Nat.reduceMul, Nat.reduceSub, Nat.reduceBEq]; done)
   ·
    replace hrun := br_f h4 hrun
    refine PW.exit ?_
    refine hN2 [] () _ hrun (by exact trivial) ?_
    (simp only [Env.frzL, Env.frz, frzOb, V.frz, V.frz.frzs, asD, map_asD, sw1, go_sem, ↓reduceIte, Nat.reduceEqDiff, Nat.reduceLT, Nat.reduceLeDiff, Nat.reduceAdd, Nat.reduceMul, Nat.reduceSub, Nat.reduceBEq]; done)
  ·
   rintro _ hrun
   try simp only [go_sem, ↓reduceIte, Nat.reduceEqDiff, Nat.reduceLT, Nat.reduceLeDiff, Nat.reduceAdd, Nat.reduceMul, Nat.reduceSub, Nat.reduceBEq]
   refine PW.seq ?_
   refine PW.regionK fun K hK => ?_
   refine OW.run [4] ?_
   simp (config := { maxSteps := 2000000 }) only [go_sem, ↓reduceIte, Nat.reduceEqDiff, Nat.reduceLT, Nat.reduceLeDiff, Nat.reduceAdd, Nat.reduceMul, Nat.reduceSub, Nat.reduceBEq, Int.reduceToNat, and_assoc, sw0]
   refine OW.nil (hK _ ?_)
   clear hK K
   change PW _ _ _ _ _
   refine PW.ret ?_
   change PW.Ends _ _ _ _ _ _
   refine PW.Ends.intro (.inr rfl) ?_
   simp (config := { maxSteps := 2000000 }) only [go_sem, ↓reduceIte, Nat.reduceEqDiff, Nat.reduceLT, Nat.reduceLeDiff, Nat.reduceAdd, Nat.reduceMul, Nat.reduceSub, Nat.reduceBEq, Int.reduceToNat, and_assoc, sw0]
   obtain rfl := Option.some.inj hrun
   refine RetOK.data' 4 (by exact trivial) ?_
   rfl

set_option maxRecDepth 20000 in
set_option maxHeartbeats 8000000 in
theorem ref07_plain_ok (N : Nat) (stage : Int) (draw : Int) (r : Int × Int × Int × Int × Int × Int × Int) (hrun : ref07_plain N stage draw = some r) : CallOK Tryz.prog 82 [(I stage), (I draw)] (.d (.agg [(I r.1), (I r.2.1), (I r.2.2.1), (I r.2.2.2.1), (I r.2.2.2.2.1), (I r.2.2.2.2.2.1), (I r.2.2.2.2.2.2)])) [] := by
 refine CallOK.of_PW Tryz.func82 rfl (by rw [Tryz.results82]) Tryz.ntmps82 Tryz.call82 ?_
 change PW _ _ _ _ _
 try simp only [go_sem, ↓reduceIte, Nat.reduceEqDiff, Nat.reduceLT, Nat.reduceLeDiff, Nat.reduceAdd, Nat.reduceMul, Nat.reduceSub, Nat.reduceBEq]
 unfold ref07_plain at hrun
 refine PW.seq ?_
 refine PW.regionK fun K hK => ?_
 refine OW.run [0, 1, 4] ?_
 simp (config := { maxSteps := 2000000 }) only [go_sem, ↓reduceIte, Nat.reduceEqDiff, Nat.reduceLT, Nat.reduceLeDiff, Nat.reduceAdd, Nat.reduceMul, Nat.reduceSub, Nat.reduceBEq, Int.reduceToNat, and_assoc, sw0]
 refine OW.nil (hK _ ?_)
 clear hK K
 change PW _ _ _ _ _
 refine PW.seq ?_
 refine PW.regionK fun K hK => ?_
 refine OW.run [4] ?_
 simp (config := { maxSteps := 2000000 }) only [go_sem, ↓reduceIte, Nat.reduceEqDiff, Nat.reduceLT, Nat.reduceLeDiff, Nat.reduceAdd, Nat.reduceMul, Nat.reduceSub, Nat.reduceBEq, Int.reduceToNat, and_assoc, sw0]
 refine OW.nil (hK _ ?_)
 clear hK K
 change PW _ _ _ _ _
 refine PW.ret ?_
 change PW.Ends _ _ _ _ _ _
 refine PW.Ends.intro (.inr rfl) ?_
 simp (config := { maxSteps := 2000000 }) only [go_sem, ↓reduceIte, Nat.reduceEqDiff, Nat.reduceLT, Nat.reduceLeDiff, Nat.reduceAdd, Nat.reduceMul, Nat.reduceSub, Nat.reduceBEq, Int.reduceToNat, and_assoc, sw0]
 obtain rfl := Option.some.inj hrun
 refine RetOK.data' 4 (by exact okD_all rfl) ?_
 rfl

set_option maxRecDepth 20000 in
set_option maxHeartbeats 8000000 in
theorem ref07_Begin_ok (N : Nat) (draws : List Int) (r : Int × (List (Int × Int × Int × Int × Int × Int × Int))) (hrun : ref07_Begin N draws = some r) : CallOK Tryz.prog 22 [(L draws)] (.d (.agg [(I r.1), (.list r.2.length (r.2.flatMap (fun (x : Int × Int × Int × Int × Int × Int × Int) => [(I x.1), (I x.2.1), (I x.2.2.1), (I x.2.2.2.1), (I x.2.2.2.2.1), (I x.2.2.2.2.2.1), (I x.2.2.2.2.2.2)])))])) [] := by
 refine CallOK.of_PW Tryz.func22 rfl (by rw [Tryz.results22]) Tryz.ntmps22 Tryz.call22 ?_
 change PW _ _ _ _ _
 try simp only [go_sem, ↓reduceIte, Nat.reduceEqDiff, Nat.reduceLT, Nat.reduceLeDiff, Nat.reduceAdd, Nat.reduceMul, Nat.reduceSub, Nat.reduceBEq]
 unfold ref07_Begin at hrun
 refine PW.seq ?_
 refine PW.regionK fun K hK => ?_
 refine OW.run [0, 2] ?_
 simp (config := { maxSteps := 2000000 }) only [go_sem, ↓reduceIte, Nat.reduceEqDiff, Nat.reduceLT, Nat.reduceLeDiff, Nat.reduceAdd, Nat.reduceMul, Nat.reduceSub, Nat.reduceBEq, Int.reduceToNat, and_assoc, sw0]
 refine OW.nil (hK _ ?_)
 clear hK K
 change PW _ _ _ _ _
 refine PW.seq ?_
 refine PW.regionK fun K hK => ?_
 refine OW.run [0, 2, 3] ?_
 simp (config := { maxSteps := 2000000 }) only [go_sem, ↓reduceIte, Nat.reduceEqDiff, Nat.reduceLT, Nat.reduceLeDiff, Nat.reduceAdd, Nat.reduceMul, Nat.reduceSub, Nat.reduceBEq, Int.reduceToNat, and_assoc, sw0]
 refine OW.nil (hK _ ?_)
 clear hK K
 change PW _ _ _ _ _
 refine PW.joinS (τ := (List (Int × Int × Int × Int × Int × Int × Int))) [2, 3] 3 (fun b2 => []) (fun b2 => [{ cells := [.d (I (0 : Int)), .d (.val (.slice none 0 0))], e := 30 }, { cells := [.d (I (0 : Int)), .own 2 0 b2.length 7], e := 30 }, { cells := (b2.flatMap (fun (x : Int × Int × Int × Int × Int × Int × Int) => [(I x.1), (I x.2.1), (I x.2.2.1), (I x.2.2.2.1), (I x.2.2.2.2.1), (I x.2.2.2.2.2.1), (I x.2.2.2.2.2.2)])).map .d, e := 71 }]) _ _ r (by exact Nat.zero_le _) hrun ?_ ?_
 ·
  intro K_ hrun N1 hN1
  refine PW.seq ?_
  refine PW.regionK fun K hK => ?_
  refine OW.run [0, 2, 3, 4] ?_
  simp (config := { maxSteps := 2000000 }) only [go_sem, ↓reduceIte, Nat.reduceEqDiff, Nat.reduceLT, Nat.reduceLeDiff, Nat.reduceAdd, Nat.reduceMul, Nat.reduceSub, Nat.reduceBEq, Int.reduceToNat, and_assoc, sw0]
  refine OW.nil (hK _ ?_)
  clear hK K
  change PW _ _ _ _ _
  refine PW.block ?_
  refine PW.virtC 1 1 71 7 _ rfl rfl ?_
  try simp only [go_sem, ↓reduceIte, Nat.reduceEqDiff, Nat.reduceLT, Nat.reduceLeDiff, Nat.reduceAdd, Nat.reduceMul, Nat.reduceSub, Nat.reduceBEq]
  refine PW.loopS (σ := Int × (List (Int × Int × Int × Int × Int × Int × Int))) [0, 2, 3, 4] 3 (fun (i, b21) => [(4, .d (I i))]) (fun (i, b21) => [{ cells := [.d (I (0 : Int)), .d (.val (.slice none 0 0))], e := 30 }, { cells := [.d (I (0 : Int)), .own 2 0 b21.length 7], e := 30 }, { cells := (b21.flatMap (fun (x : Int × Int × Int × Int × Int × Int × Int) => [(I x.1), (I x.2.1), (I x.2.2.1), (I x.2.2.2.1), (I x.2.2.2.2.1), (I x.2.2.2.2.2.1), (I x.2.2.2.2.2.2)])).map .d, e := 71 }]) (ref07_Begin.b1 N draws K_) r N ((0 : Int), ([] : List (Int × Int × Int × Int × Int × Int × Int))) (by exact Nat.zero_le _) hrun (by (simp only [Env.frzL, Env.frz, frzOb, V.frz, V.frz.frzs, asD, map_asD, sw1, go_sem, ↓reduceIte, Nat.reduceEqDiff, Nat.reduceLT, Nat.reduceLeDiff, Nat.reduceAdd, Nat.reduceMul, Nat.reduceSub, Nat.reduceBEq]; rfl)) ?_
  rintro n ⟨i, b21⟩ hrun N2 hN2
  unfold ref07_Begin.b1 at hrun
  try simp only [go_sem, ↓reduceIte, Nat.reduceEqDiff, Nat.reduceLT, Nat.reduceLeDiff, Nat.reduceAdd, Nat.reduceMul, Nat.reduceSub, Nat.reduceBEq]
  refine PW.seq ?_
  refine PW.seq ?_
  refine PW.regionK fun K hK => ?_
  refine OW.run [0, 2, 3, 4, 8] ?_
  simp (config := { maxSteps := 2000000 }) only [go_sem, ↓reduceIte, Nat.reduceEqDiff, Nat.reduceLT, Nat.reduceLeDiff, Nat.reduceAdd, Nat.reduceMul, Nat.reduceSub, Nat.reduceBEq, Int.reduceToNat, and_assoc, sw0]
  refine OW.nil (hK _ ?_)
  clear hK K
  change PW _ _ _ _ _
  refine PW.cond rfl (fun h3 => ?_) (fun h3 => ?_)
  ·
   replace hrun := br_t h3 hrun
   refine PW.skip ?_
   change PW _ _ _ _ _
   refine PW.seq ?_
   refine PW.block ?_
   obtain ⟨c4, hrun⟩ := chk_some hrun
   obtain ⟨⟨x1, x11, x12, x13, x14, x15, x16⟩, e1, hrun⟩ := bnd_some hrun
   obtain ⟨c5, hrun⟩ := chk_some hrun
   refine PW.drawK 8 mixed (by kernel_rfl) fun K hK => ?_
   change FW _ _ _ _ _
   refine FW.run ?_
   (simp (config := { maxSteps := 2000000 }) only [go_sem, ↓reduceIte, Nat.reduceEqDiff, Nat.reduceLT, Nat.reduceLeDiff, Nat.reduceAdd, Nat.reduceMul, Nat.reduceSub, Nat.reduceBEq, Int.reduceToNat, and_assoc, sw0, allOne_flatF (fun (x : Int × Int × Int × Int × Int × Int × Int) => [(I x.1), (I x.2.1), (I x.2.2.1), (I x.2.2.2.1), (I x.2.2.2.2.1), (I x.2.2.2.2.2.1), (I x.2.2.2.2.2.2)]) (fun _ => rfl), flatMap_length 7 (fun (x : Int × Int × Int × Int × Int × Int × Int) => [(I x.1), (I x.2.1), (I x.2.2.1), (I x.2.2.2.1), (I x.2.2.2.2.1), (I x.2.2.2.2.2.1), (I x.2.2.2.2.2.2)]) (fun _ => rfl)])
   refine And.intro (by omega) (And.intro (by omega) (And.intro (by omega) (And.intro (by omega) (And.intro (by omega) ?_))))
   refine FW.call' 4 rfl rfl rfl (by ((simp only [go_sem, List.toList_toArray, ↓reduceIte, Nat.reduceEqDiff, Nat.reduceLT, Nat.reduceBEq]); exact rfl)) ?_ (ref07_plain_ok N _ _ _ e1) ?_ ?_ ?_ ?_
   · rfl
   · exact okD_all rfl
   · exact .inl rfl
   · (simp only [go_sem, Nat.reduceLT])
   refine FW.run ?_
   (simp (config := { maxSteps := 2000000 }) only [go_sem, ↓reduceIte, Nat.reduceEqDiff, Nat.reduceLT, Nat.reduceLeDiff, Nat.reduceAdd, Nat.reduceMul, Nat.reduceSub, Nat.reduceBEq, Int.reduceToNat, and_assoc, sw0, allOne_flatF (fun (x : Int × Int × Int × Int × Int × Int × Int) => [(I x.1), (I x.2.1), (I x.2.2.1), (I x.2.2.2.1), (I x.2.2.2.2.1), (I x.2.2.2.2.2.1), (I x.2.2.2.2.2.2)]) (fun _ => rfl), flatMap_length 7 (fun (x : Int × Int × Int × Int × Int × Int × Int) => [(I x.1), (I x.2.1), (I x.2.2.1), (I x.2.2.2.1), (I x.2.2.2.2.1), (I x.2.2.2.2.2.1), (I x.2.2.2.2.2.2)]) (fun _ => rfl)])
   refine FW.nil ?_
   change OW _ _ _ _ _ _
   refine OW.run [0, 2, 3, 4] ?_
   (simp (config := { maxSteps := 2000000 }) only [go_sem, ↓reduceIte, Nat.reduceEqDiff, Nat.reduceLT, Nat.reduceLeDiff, Nat.reduceAdd, Nat.reduceMul, Nat.reduceSub, Nat.reduceBEq, Int.reduceToNat, and_assoc, sw0, allOne_flatF (fun (x : Int × Int × Int × Int × Int × Int × Int) => [(I x.1), (I x.2.1), (I x.2.2.1), (I x.2.2.2.1), (I x.2.2.2.2.1), (I x.2.2.2.2.2.1), (I x.2.2.2.2.2.2)]) (fun _ => rfl), flatMap_length 7 (fun (x : Int × Int × Int × Int × Int × Int × Int) => [(I x.1), (I x.2.1), (I x.2.2.1), (I x.2.2.2.1), (I x.2.2.2.2.1), (I x.2.2.2.2.2.1), (I x.2.2.2.2.2.2)]) (fun _ => rfl)])
   refine And.intro (by omega) (And.intro (by omega) (And.intro (by omega) (And.intro (by omega) ?_)))
   refine OW.nil (hK _ ?_)
   clear hK K
   change PW _ _ _ _ _
   refine PW.regionK fun K hK => ?_
   refine OW.run [0, 2, 3, 4] ?_
   simp (config := { maxSteps := 2000000 }) only [go_sem, ↓reduceIte, Nat.reduceEqDiff, Nat.reduceLT, Nat.reduceLeDiff, Nat.reduceAdd, Nat.reduceMul, Nat.reduceSub, Nat.reduceBEq, Int.reduceToNat, and_assoc, sw0]
   refine OW.nil (hK _ ?_)
   clear hK K
   refine hN2 [] (w64 (i + (1 : Int)), (b21 ++ ([(x1, x11, x12, x13, x14, x15, x16)] : List (Int × Int × Int × Int × Int × Int × Int)))) _ hrun (by exact trivial) ?_
   (simp only [Env.frzL, Env.frz, frzOb, V.frz, V.frz.frzs, asD, map_asD, sw1, go_sem, ↓reduceIte, Nat.reduceEqDiff, Nat.reduceLT, Nat.reduceLeDiff, Nat.reduceAdd, Nat.reduceMul, Nat.reduceSub, Nat.reduceBEq]; simp only [List.length_set, List.length_append, List.length_cons, List.length_nil, Nat.zero_add, List.map_set, List.map_append, List.map_cons, List.map_nil, List.flatMap_append, List.flatMap_cons, List.flatMap_nil, List.append_nil, List.cons_append, List.nil_append]; done)
  ·
   replace hrun := br_f h3 hrun
   refine PW.exit ?_
   refine hN1 [] b21 _ hrun (by exact trivial) ?_
   (simp only [Env.frzL, Env.frz, frzOb, V.frz, V.frz.frzs, asD, map_asD, sw1, go_sem, ↓reduceIte, Nat.reduceEqDiff, Nat.reduceLT, Nat.reduceLeDiff, Nat.reduceAdd, Nat.reduceMul, Nat.reduceSub, Nat.reduceBEq]; done)
 ·
  rintro b2 hrun
  try simp only [go_sem, ↓reduceIte, Nat.reduceEqDiff, Nat.reduceLT, Nat.reduceLeDiff, Nat.reduceAdd, Nat.reduceMul, Nat.reduceSub, Nat.reduceBEq]
  refine PW.seq ?_
  refine PW.regionK fun K hK => ?_
  refine OW.run [2] ?_
  simp (config := { maxSteps := 2000000 }) only [go_sem, ↓reduceIte, Nat.reduceEqDiff, Nat.reduceLT, Nat.reduceLeDiff, Nat.reduceAdd, Nat.reduceMul, Nat.reduceSub, Nat.reduceBEq, Int.reduceToNat, and_assoc, sw0]
  refine OW.nil (hK _ ?_)
  clear hK K
  change PW _ _ _ _ _
  refine PW.ret ?_
  change PW.Ends _ _ _ _ _ _
  refine PW.Ends.intro (.inr rfl) ?_
  simp (config := { maxSteps := 2000000 }) only [go_sem, ↓reduceIte, Nat.reduceEqDiff, Nat.reduceLT, Nat.reduceLeDiff, Nat.reduceAdd, Nat.reduceMul, Nat.reduceSub, Nat.reduceBEq, Int.reduceToNat, and_assoc, sw0]
  obtain rfl := Option.some.inj hrun
  have hl0 := flatMap_length 7 (fun (x : Int × Int × Int × Int × Int × Int × Int) => [(I x.1), (I x.2.1), (I x.2.2.1), (I x.2.2.2.1), (I x.2.2.2.2.1), (I x.2.2.2.2.2.1), (I x.2.2.2.2.2.2)]) (fun _ => rfl) b2
  have hn0 : (b2.flatMap (fun (x : Int × Int × Int × Int × Int × Int × Int) => [(I x.1), (I x.2.1), (I x.2.2.1), (I x.2.2.2.1), (I x.2.2.2.2.1), (I x.2.2.2.2.2.1), (I x.2.2.2.2.2.2)])).map nz = b2.flatMap (fun (x : Int × Int × Int × Int × Int × Int × Int) => [(I x.1), (I x.2.1), (I x.2.2.1), (I x.2.2.2.1), (I x.2.2.2.2.1), (I x.2.2.2.2.2.1), (I x.2.2.2.2.2.2)]) := map_nz_flat (fun _ => rfl) _
  have ht0 : (b2.flatMap (fun (x : Int × Int × Int × Int × Int × Int × Int) => [(I x.1), (I x.2.1), (I x.2.2.1), (I x.2.2.2.1), (I x.2.2.2.2.1), (I x.2.2.2.2.2.1), (I x.2.2.2.2.2.2)])).take (b2.length * 7) = b2.flatMap (fun (x : Int × Int × Int × Int × Int × Int × Int) => [(I x.1), (I x.2.1), (I x.2.2.1), (I x.2.2.2.1), (I x.2.2.2.2.1), (I x.2.2.2.2.2.1), (I x.2.2.2.2.2.2)]) := take_flat _ (fun _ => rfl) rfl
  refine RetOK.data' 4 (by (refine okAll_intro ?_; (simp only [go_sem, sw2, List.length_set, List.length_replicate, and_true, true_and, Nat.le_refl, ↓reduceIte, Nat.reduceEqDiff, Nat.reduceLT, Nat.reduceLeDiff, Nat.reduceAdd, Nat.reduceMul, Nat.reduceSub, Nat.reduceBEq]; omega))) ?_
  (((simp only [go_sem, sw1, ↓reduceIte, Nat.reduceEqDiff, Nat.reduceLT, Nat.reduceLeDiff, Nat.reduceAdd, Nat.reduceMul, Nat.reduceSub, Nat.reduceBEq]; try simp only [seg, go_sem, ↓reduceIte, Nat.reduceEqDiff, Nat.reduceLT, Nat.reduceLeDiff, Nat.reduceAdd, Nat.reduceMul, Nat.reduceSub, Nat.reduceBEq])); (repeat' (first | rfl | (refine list_congr ?_; simp only [List.length_take, List.length_drop, List.length_set, List.length_replicate] <;> omega) | (refine congr (congrArg List.cons ?_) ?_) | (refine congrArg D.agg ?_) | (refine congrArg D.tup ?_) | (refine congrArg D.ref ?_) | (refine congrArg (D.list _) ?_) | (refine congrArg (D.clo _) ?_))))
  all_goals (first | rw [ht0, hn0] | simp only [ht0, hn0])

set_option maxRecDepth 20000 in
set_option maxHeartbeats 8000000 in
theorem law07_AccessBegins_ok (N : Nat) (r_Preambles : Int) (r_Every : Int) (r_Window : Int) (r_Wait : Int) (r_Tries : Int) (r_Backoff : Int) (r_Identities : Int) (draws : List Int) (r : Bool) (hrun : law07_AccessBegins N r_Preambles r_Every r_Window r_Wait r_Tries r_Backoff r_Identities draws = some r) : CallOK Tryz.prog 3 [(.agg [(I r_Preambles), (I r_Every), (I r_Window), (I r_Wait), (I r_Tries), (I r_Backoff), (I r_Identities)]), (L draws)] (.d (Bo r)) [] := by
 refine CallOK.of_PW Tryz.func3 rfl (by rw [Tryz.results3]) Tryz.ntmps3 Tryz.call3 ?_
 change PW _ _ _ _ _
 try simp only [go_sem, ↓reduceIte, Nat.reduceEqDiff, Nat.reduceLT, Nat.reduceLeDiff, Nat.reduceAdd, Nat.reduceMul, Nat.reduceSub, Nat.reduceBEq]
 unfold law07_AccessBegins at hrun
 refine PW.seq ?_
 refine PW.regionK fun K hK => ?_
 refine OW.run [1, 2] ?_
 simp (config := { maxSteps := 2000000 }) only [go_sem, ↓reduceIte, Nat.reduceEqDiff, Nat.reduceLT, Nat.reduceLeDiff, Nat.reduceAdd, Nat.reduceMul, Nat.reduceSub, Nat.reduceBEq, Int.reduceToNat, and_assoc, sw0]
 refine OW.nil (hK _ ?_)
 clear hK K
 change PW _ _ _ _ _
 refine PW.seq ?_
 refine PW.seq ?_
 obtain ⟨x1, e1, hrun⟩ := bnd_some hrun
 refine PW.regionK fun K hK => ?_
 refine OW.run [1, 2, 10] ?_
 simp (config := { maxSteps := 2000000 }) only [go_sem, ↓reduceIte, Nat.reduceEqDiff, Nat.reduceLT, Nat.reduceLeDiff, Nat.reduceAdd, Nat.reduceMul, Nat.reduceSub, Nat.reduceBEq, Int.reduceToNat, and_assoc, sw0]
 refine OW.call' 4 rfl rfl rfl (by ((simp only [go_sem, List.toList_toArray, ↓reduceIte, Nat.reduceEqDiff, Nat.reduceLT, Nat.reduceBEq]); exact rfl)) ?_ (law07_awake_ok N  _ e1) ?_ ?_ ?_ ?_
 · rfl
 · exact okD_all rfl
 · exact .inl rfl
 · (simp only [go_sem, Nat.reduceLT])
 refine OW.run [1, 2, 10] ?_
 simp (config := { maxSteps := 2000000 }) only [go_sem, ↓reduceIte, Nat.reduceEqDiff, Nat.reduceLT, Nat.reduceLeDiff, Nat.reduceAdd, Nat.reduceMul, Nat.reduceSub, Nat.reduceBEq, Int.reduceToNat, and_assoc, sw0]
 refine OW.nil (hK _ ?_)
 clear hK K
 change PW _ _ _ _ _
 refine PW.cond rfl (fun h1 => ?_) (fun h1 => ?_)
 ·
  replace hrun := br_t h1 hrun
  refine PW.seq ?_
  refine PW.regionK fun K hK => ?_
  refine OW.run [4] ?_
  simp (config := { maxSteps := 2000000 }) only [go_sem, ↓reduceIte, Nat.reduceEqDiff, Nat.reduceLT, Nat.reduceLeDiff, Nat.reduceAdd, Nat.reduceMul, Nat.reduceSub, Nat.reduceBEq, Int.reduceToNat, and_assoc, sw0]
  refine OW.nil (hK _ ?_)
  clear hK K
  change PW _ _ _ _ _
  refine PW.ret ?_
  change PW.Ends _ _ _ _ _ _
  refine PW.Ends.intro (.inr rfl) ?_
  simp (config := { maxSteps := 2000000 }) only [go_sem, ↓reduceIte, Nat.reduceEqDiff, Nat.reduceLT, Nat.reduceLeDiff, Nat.reduceAdd, Nat.reduceMul, Nat.reduceSub, Nat.reduceBEq, Int.reduceToNat, and_assoc, sw0]
  obtain rfl := Option.some.inj hrun
  refine RetOK.data' 4 (by exact trivial) ?_
  rfl
 ·
  replace hrun := br_f h1 hrun
  refine PW.skip ?_
  change PW _ _ _ _ _
  refine PW.seq ?_
  refine PW.seq ?_
  refine PW.regionK fun K hK => ?_
  refine OW.run [1, 2, 13] ?_
  simp (config := { maxSteps := 2000000 }) only [go_sem, ↓reduceIte, Nat.reduceEqDiff, Nat.reduceLT, Nat.reduceLeDiff, Nat.reduceAdd, Nat.reduceMul, Nat.reduceSub, Nat.reduceBEq, Int.reduceToNat, and_assoc, sw0]
  refine OW.nil (hK _ ?_)
  clear hK K
  change PW _ _ _ _ _
  refine PW.cond rfl (fun h2 => ?_) (fun h2 => ?_)
  ·
   replace hrun := br_t h2 hrun
   refine PW.seq ?_
   refine PW.regionK fun K hK => ?_
   refine OW.run [4] ?_
   simp (config := { maxSteps := 2000000 }) only [go_sem, ↓reduceIte, Nat.reduceEqDiff, Nat.reduceLT, Nat.reduceLeDiff, Nat.reduceAdd, Nat.reduceMul, Nat.reduceSub, Nat.reduceBEq, Int.reduceToNat, and_assoc, sw0]
   refine OW.nil (hK _ ?_)
   clear hK K
   change PW _ _ _ _ _
   refine PW.ret ?_
   change PW.Ends _ _ _ _ _ _
   refine PW.Ends.intro (.inr rfl) ?_
   simp (config := { maxSteps := 2000000 }) only [go_sem, ↓reduceIte, Nat.reduceEqDiff, Nat.reduceLT, Nat.reduceLeDiff, Nat.reduceAdd, Nat.reduceMul, Nat.reduceSub, Nat.reduceBEq, Int.reduceToNat, and_assoc, sw0]
   obtain rfl := Option.some.inj hrun
   refine RetOK.data' 4 (by exact trivial) ?_
   rfl
  ·
   replace hrun := br_f h2 hrun
   refine PW.skip ?_
   change PW _ _ _ _ _
   refine PW.seq ?_
   obtain ⟨x2, e2, hrun⟩ := bnd_some hrun
   refine PW.regionK fun K hK => ?_
   refine OW.run [1, 2, 5] ?_
   simp (config := { maxSteps := 2000000 }) only [go_sem, ↓reduceIte, Nat.reduceEqDiff, Nat.reduceLT, Nat.reduceLeDiff, Nat.reduceAdd, Nat.reduceMul, Nat.reduceSub, Nat.reduceBEq, Int.reduceToNat, and_assoc, sw0]
   refine OW.call' 4 rfl rfl rfl (by ((simp only [go_sem, List.toList_toArray, ↓reduceIte, Nat.reduceEqDiff, Nat.reduceLT, Nat.reduceBEq]); exact rfl)) ?_ (access_CheckRules_ok N _ _ _ _ _ _ _ _ e2) ?_ ?_ ?_ ?_
   · rfl
   · (refine okAll_intro ?_; (simp only [go_sem, sw2, List.length_set, List.length_replicate, and_true, true_and, Nat.le_refl, ↓reduceIte, Nat.reduceEqDiff, Nat.reduceLT, Nat.reduceLeDiff, Nat.reduceAdd, Nat.reduceMul, Nat.reduceSub, Nat.reduceBEq]; done))
   · exact .inl rfl
   · (simp only [go_sem, Nat.reduceLT])
   refine OW.run [1, 2, 5] ?_
   simp (config := { maxSteps := 2000000 }) only [go_sem, ↓reduceIte, Nat.reduceEqDiff, Nat.reduceLT, Nat.reduceLeDiff, Nat.reduceAdd, Nat.reduceMul, Nat.reduceSub, Nat.reduceBEq, Int.reduceToNat, and_assoc, sw0]
   refine OW.nil (hK _ ?_)
   clear hK K
   change PW _ _ _ _ _
   refine PW.seq ?_
   obtain ⟨x3, e3, hrun⟩ := bnd_some hrun
   obtain ⟨⟨x4, x41, x42⟩, e4, hrun⟩ := bnd_some hrun
   refine PW.drawO 9 [7] [30] mixed (by kernel_rfl) (by decide) rfl fun K hK => ?_
   refine FWO.run ?_
   simp (config := { maxSteps := 2000000 }) only [go_sem, ↓reduceIte, Nat.reduceEqDiff, Nat.reduceLT, Nat.reduceLeDiff, Nat.reduceAdd, Nat.reduceMul, Nat.reduceSub, Nat.reduceBEq, Int.reduceToNat, and_assoc, sw0]
   refine FWO.call' 4 (by decide) rfl rfl rfl (by ((simp only [go_sem, List.toList_toArray, ↓reduceIte, Nat.reduceEqDiff, Nat.reduceLT, Nat.reduceBEq]); exact rfl)) ?_ (base_CopyInts_ok N _ _ e3) ?_ ?_ ?_ ?_
   · rfl
   · exact okD_all rfl
   · exact .inl rfl
   · (simp only [go_sem, Nat.reduceLT])
   refine FWO.run ?_
   simp (config := { maxSteps := 2000000 }) only [go_sem, ↓reduceIte, Nat.reduceEqDiff, Nat.reduceLT, Nat.reduceLeDiff, Nat.reduceAdd, Nat.reduceMul, Nat.reduceSub, Nat.reduceBEq, Int.reduceToNat, and_assoc, sw0]
   refine FWO.call' 4 (by decide) rfl rfl rfl (by ((simp only [go_sem, List.toList_toArray, ↓reduceIte, Nat.reduceEqDiff, Nat.reduceLT, Nat.reduceBEq]); exact rfl)) ?_ (access_Begin_ok N _ _ _ _ _ _ _ _ _ e4) ?_ ?_ ?_ ?_
   · rfl
   · (refine okAll_intro ?_; (simp only [go_sem, sw2, List.length_set, List.length_replicate, and_true, true_and, Nat.le_refl, ↓reduceIte, Nat.reduceEqDiff, Nat.reduceLT, Nat.reduceLeDiff, Nat.reduceAdd, Nat.reduceMul, Nat.reduceSub, Nat.reduceBEq]; done))
   · exact .inl rfl
   · (simp only [go_sem, Nat.reduceLT])
   refine FWO.run ?_
   simp (config := { maxSteps := 2000000 }) only [go_sem, ↓reduceIte, Nat.reduceEqDiff, Nat.reduceLT, Nat.reduceLeDiff, Nat.reduceAdd, Nat.reduceMul, Nat.reduceSub, Nat.reduceBEq, Int.reduceToNat, and_assoc, sw0]
   refine And.intro (by rfl) ?_
   first | refine FWO.nil ?_ | skip
   change OW _ _ _ _ _ _
   refine OW.run [1, 2, 5, 6, 7] ?_
   simp (config := { maxSteps := 2000000 }) only [go_sem, ↓reduceIte, Nat.reduceEqDiff, Nat.reduceLT, Nat.reduceLeDiff, Nat.reduceAdd, Nat.reduceMul, Nat.reduceSub, Nat.reduceBEq, Int.reduceToNat, and_assoc, sw0]
   refine OW.nil (hK _ ?_)
   clear hK K
   change PW _ _ _ _ _
   refine PW.seq ?_
   obtain ⟨x5, e5, hrun⟩ := bnd_some hrun
   refine PW.regionK fun K hK => ?_
   refine OW.run [1, 5, 6, 7, 8] ?_
   simp (config := { maxSteps := 2000000 }) only [go_sem, ↓reduceIte, Nat.reduceEqDiff, Nat.reduceLT, Nat.reduceLeDiff, Nat.reduceAdd, Nat.reduceMul, Nat.reduceSub, Nat.reduceBEq, Int.reduceToNat, and_assoc, sw0]
   refine OW.call' 4 rfl rfl rfl (by ((simp only [go_sem, List.toList_toArray, ↓reduceIte, Nat.reduceEqDiff, Nat.reduceLT, Nat.reduceBEq]); exact rfl)) ?_ (ref07_CheckRules_ok N _ _ _ _ _ _ _ _ e5) ?_ ?_ ?_ ?_
   · rfl
   · (refine okAll_intro ?_; (simp only [go_sem, sw2, List.length_set, List.length_replicate, and_true, true_and, Nat.le_refl, ↓reduceIte, Nat.reduceEqDiff, Nat.reduceLT, Nat.reduceLeDiff, Nat.reduceAdd, Nat.reduceMul, Nat.reduceSub, Nat.reduceBEq]; done))
   · exact .inl rfl
   · (simp only [go_sem, Nat.reduceLT])
   refine OW.run [1, 5, 6, 7, 8] ?_
   simp (config := { maxSteps := 2000000 }) only [go_sem, ↓reduceIte, Nat.reduceEqDiff, Nat.reduceLT, Nat.reduceLeDiff, Nat.reduceAdd, Nat.reduceMul, Nat.reduceSub, Nat.reduceBEq, Int.reduceToNat, and_assoc, sw0]
   refine OW.nil (hK _ ?_)
   clear hK K
   change PW _ _ _ _ _
   refine PW.seq ?_
   refine PW.seq ?_
   refine PW.regionK fun K hK => ?_
   refine OW.run [1, 6, 7, 8, 27] ?_
   simp (config := { maxSteps := 2000000 }) only [go_sem, ↓reduceIte, Nat.reduceEqDiff, Nat.reduceLT, Nat.reduceLeDiff, Nat.reduceAdd, Nat.reduceMul, Nat.reduceSub, Nat.reduceBEq, Int.reduceToNat, and_assoc, sw0]
   refine OW.nil (hK _ ?_)
   clear hK K
   change PW _ _ _ _ _
   refine PW.cond rfl (fun h3 => ?_) (fun h3 => ?_)
   ·
    replace hrun := br_t h3 hrun
    refine PW.seq ?_
    refine PW.regionK fun K hK => ?_
    refine OW.run [4] ?_
    simp (config := { maxSteps := 2000000 }) only [go_sem, ↓reduceIte, Nat.reduceEqDiff, Nat.reduceLT, Nat.reduceLeDiff, Nat.reduceAdd, Nat.reduceMul, Nat.reduceSub, Nat.reduceBEq, Int.reduceToNat, and_assoc, sw0]
    refine OW.nil (hK _ ?_)
    clear hK K
    change PW _ _ _ _ _
    refine PW.ret ?_
    change PW.Ends _ _ _ _ _ _
    refine PW.Ends.intro (.inr rfl) ?_
    simp (config := { maxSteps := 2000000 }) only [go_sem, ↓reduceIte, Nat.reduceEqDiff, Nat.reduceLT, Nat.reduceLeDiff, Nat.reduceAdd, Nat.reduceMul, Nat.reduceSub, Nat.reduceBEq, Int.reduceToNat, and_assoc, sw0]
    obtain rfl := Option.some.inj hrun
    refine RetOK.data' 4 (by exact trivial) ?_
    rfl
   ·
    replace hrun := br_f h3 hrun
    refine PW.skip ?_
    change PW _ _ _ _ _
    refine PW.joinS (τ := Int) [1, 6, 7, 8] 2 (fun d => [(8, .d (I d))]) (fun d => [{ cells := [.d (I r_Preambles), .d (I r_Every), .d (I r_Window), .d (I r_Wait), .d (I r_Tries), .d (I r_Backoff), .d (I r_Identities)], e := 23 }, { cells := [.d (I x4), .d (.list x41.length (x41.flatMap (fun (x : Int × Int × Int × Int × Int × Int × Int) => [(I x.1), (I x.2.1), (I x.2.2.1), (I x.2.2.2.1), (I x.2.2.2.2.1), (I x.2.2.2.2.2.1), (I x.2.2.2.2.2.2)])))], e := 30 }]) _ _ r (by exact Nat.zero_le _) hrun ?_ ?_
    ·
     intro K_ hrun N4 hN4
     refine PW.seq ?_
     refine PW.regionK fun K hK => ?_
     refine OW.run [1, 6, 7, 8, 29] ?_
     simp (config := { maxSteps := 2000000 }) only [go_sem, ↓reduceIte, Nat.reduceEqDiff, Nat.reduceLT, Nat.reduceLeDiff, Nat.reduceAdd, Nat.reduceMul, Nat.reduceSub, Nat.reduceBEq, Int.reduceToNat, and_assoc, sw0]
     refine OW.nil (hK _ ?_)
     clear hK K
     change PW _ _ _ _ _
     refine PW.cond rfl (fun h5 => ?_) (fun h5 => ?_)
     ·
      replace hrun := br_t h5 hrun
      obtain ⟨x6, e6, hrun⟩ := bnd_some hrun
      refine PW.regionK fun K hK => ?_
      refine OW.run [1, 6, 7, 8] ?_
      simp (config := { maxSteps := 2000000 }) only [go_sem, ↓reduceIte, Nat.reduceEqDiff, Nat.reduceLT, Nat.reduceLeDiff, Nat.reduceAdd, Nat.reduceMul, Nat.reduceSub, Nat.reduceBEq, Int.reduceToNat, and_assoc, sw0]
      refine OW.call' 4 rfl rfl rfl (by ((simp only [go_sem, List.toList_toArray, ↓reduceIte, Nat.reduceEqDiff, Nat.reduceLT, Nat.reduceBEq]); exact rfl)) ?_ (ref07_DrawsErr_ok N _ _ e6) ?_ ?_ ?_ ?_
      · rfl
      · exact okD_all rfl
      · exact .inl rfl
      · (simp only [go_sem, Nat.reduceLT])
      refine OW.run [1, 6, 7, 8] ?_
      simp (config := { maxSteps := 2000000 }) only [go_sem, ↓reduceIte, Nat.reduceEqDiff, Nat.reduceLT, Nat.reduceLeDiff, Nat.reduceAdd, Nat.reduceMul, Nat.reduceSub, Nat.reduceBEq, Int.reduceToNat, and_assoc, sw0]
      refine OW.nil (hK _ ?_)
      clear hK K
      refine hN4 [] x6 _ hrun (by exact trivial) ?_
      (simp only [Env.frzL, Env.frz, frzOb, V.frz, V.frz.frzs, asD, map_asD, sw1, go_sem, ↓reduceIte, Nat.reduceEqDiff, Nat.reduceLT, Nat.reduceLeDiff, Nat.reduceAdd, Nat.reduceMul, Nat.reduceSub, Nat.reduceBEq]; done)
     ·
      replace hrun := br_f h5 hrun
      refine PW.skip ?_
      refine hN4 [] x5 _ hrun (by exact trivial) ?_
      (simp only [Env.frzL, Env.frz, frzOb, V.frz, V.frz.frzs, asD, map_asD, sw1, go_sem, ↓reduceIte, Nat.reduceEqDiff, Nat.reduceLT, Nat.reduceLeDiff, Nat.reduceAdd, Nat.reduceMul, Nat.reduceSub, Nat.reduceBEq]; done)
    ·
     rintro d hrun
     try simp only [go_sem, ↓reduceIte, Nat.reduceEqDiff, Nat.reduceLT, Nat.reduceLeDiff, Nat.reduceAdd, Nat.reduceMul, Nat.reduceSub, Nat.reduceBEq]
     refine PW.seq ?_
     refine PW.seq ?_
     refine PW.regionK fun K hK => ?_
     refine OW.run [1, 6, 7, 8, 33] ?_
     simp (config := { maxSteps := 2000000 }) only [go_sem, ↓reduceIte, Nat.reduceEqDiff, Nat.reduceLT, Nat.reduceLeDiff, Nat.reduceAdd, Nat.reduceMul, Nat.reduceSub, Nat.reduceBEq, Int.reduceToNat, and_assoc, sw0]
     refine OW.nil (hK _ ?_)
     clear hK K
     change PW _ _ _ _ _
     refine PW.cond rfl (fun h6 => ?_) (fun h6 => ?_)
     ·
      replace hrun := br_t h6 hrun
      refine PW.seq ?_
      obtain ⟨x7, e7, hrun⟩ := bnd_some hrun
      refine PW.regionK fun K hK => ?_
      refine OW.step rfl ?_
      simp (config := { maxSteps := 2000000 }) only [go_sem, ↓reduceIte, Nat.reduceEqDiff, Nat.reduceLT, Nat.reduceLeDiff, Nat.reduceAdd, Nat.reduceMul, Nat.reduceSub, Nat.reduceBEq, Int.reduceToNat, and_assoc, sw0]
      refine OW.step rfl ?_
      simp (config := { maxSteps := 2000000 }) only [go_sem, ↓reduceIte, Nat.reduceEqDiff, Nat.reduceLT, Nat.reduceLeDiff, Nat.reduceAdd, Nat.reduceMul, Nat.reduceSub, Nat.reduceBEq, Int.reduceToNat, and_assoc, sw0]
      refine OW.step rfl ?_
      simp (config := { maxSteps := 2000000 }) only [go_sem, ↓reduceIte, Nat.reduceEqDiff, Nat.reduceLT, Nat.reduceLeDiff, Nat.reduceAdd, Nat.reduceMul, Nat.reduceSub, Nat.reduceBEq, Int.reduceToNat, and_assoc, sw0]
      refine OW.step rfl ?_
      simp (config := { maxSteps := 2000000 }) only [go_sem, ↓reduceIte, Nat.reduceEqDiff, Nat.reduceLT, Nat.reduceLeDiff, Nat.reduceAdd, Nat.reduceMul, Nat.reduceSub, Nat.reduceBEq, Int.reduceToNat, and_assoc, sw0]
      refine OW.opA (g := (x42 == d)) rfl ?_ (fun hg => ?_) (by (simp only [go_sem, Nat.reduceLT])) ?_
      · (simp only [go_sem, ↓reduceIte, Nat.reduceEqDiff, Nat.reduceLT, Nat.reduceLeDiff, Nat.reduceAdd, Nat.reduceMul, Nat.reduceSub, Nat.reduceBEq]; done)
      · (first | decide | ((simp (config := { maxSteps := 2000000 }) only [go_sem, ↓reduceIte, Nat.reduceEqDiff, Nat.reduceLT, Nat.reduceLeDiff, Nat.reduceAdd, Nat.reduceMul, Nat.reduceSub, Nat.reduceBEq, Int.reduceToNat, and_assoc, sw0]); done) | ((simp (config := { maxSteps := 2000000 }) only [go_sem, ↓reduceIte, Nat.reduceEqDiff, Nat.reduceLT, Nat.reduceLeDiff, Nat.reduceAdd, Nat.reduceMul, Nat.reduceSub, Nat.reduceBEq, Int.reduceToNat, and_assoc, sw0]); (repeat (refine And.intro (by (first | omega | assumption | rfl | decide | (simp only [List.length_map, List.length_replicate, List.length_append, List.length_take, List.length_drop, List.length_set, List.length_cons, List.length_nil, Nat.zero_add, Int.toNat_natCast] at *; omega) | (simp only [List.length_map, List.length_replicate, List.length_append, List.length_take, List.length_drop, List.length_set, List.length_cons, List.length_nil, Nat.zero_add, Int.toNat_natCast]; done) | trivial)) ?_)); done) | ((simp (config := { maxSteps := 2000000 }) only [go_sem, ↓reduceIte, Nat.reduceEqDiff, Nat.reduceLT, Nat.reduceLeDiff, Nat.reduceAdd, Nat.reduceMul, Nat.reduceSub, Nat.reduceBEq, Int.reduceToNat, and_assoc, sw0]); repeat (first | omega | rfl | trivial | refine ⟨?_, ?_⟩)))
      try simp only [go_sem, ↓reduceIte, Nat.reduceEqDiff, Nat.reduceLT, Nat.reduceLeDiff, Nat.reduceAdd, Nat.reduceMul, Nat.reduceSub, Nat.reduceBEq]
      refine OW.opA (g := (x42 == d)) rfl ?_ (fun hg => ?_) (by (simp only [go_sem, Nat.reduceLT])) ?_
      · (simp only [go_sem, ↓reduceIte, Nat.reduceEqDiff, Nat.reduceLT, Nat.reduceLeDiff, Nat.reduceAdd, Nat.reduceMul, Nat.reduceSub, Nat.reduceBEq]; done)
      · (first | decide | ((simp (config := { maxSteps := 2000000 }) only [go_sem, ↓reduceIte, Nat.reduceEqDiff, Nat.reduceLT, Nat.reduceLeDiff, Nat.reduceAdd, Nat.reduceMul, Nat.reduceSub, Nat.reduceBEq, Int.reduceToNat, and_assoc, sw0]); done) | ((simp (config := { maxSteps := 2000000 }) only [go_sem, ↓reduceIte, Nat.reduceEqDiff, Nat.reduceLT, Nat.reduceLeDiff, Nat.reduceAdd, Nat.reduceMul, Nat.reduceSub, Nat.reduceBEq, Int.reduceToNat, and_assoc, sw0]); (repeat (refine And.intro (by (first | omega | assumption | rfl | decide | (simp only [List.length_map, List.length_replicate, List.length_append, List.length_take, List.length_drop, List.length_set, List.length_cons, List.length_nil, Nat.zero_add, Int.toNat_natCast] at *; omega) | (simp only [List.length_map, List.length_replicate, List.length_append, List.length_take, List.length_drop, List.length_set, List.length_cons, List.length_nil, Nat.zero_add, Int.toNat_natCast]; done) | trivial)) ?_)); done) | ((simp (config := { maxSteps := 2000000 }) only [go_sem, ↓reduceIte, Nat.reduceEqDiff, Nat.reduceLT, Nat.reduceLeDiff, Nat.reduceAdd, Nat.reduceMul, Nat.reduceSub, Nat.reduceBEq, Int.reduceToNat, and_assoc, sw0]); repeat (first | omega | rfl | trivial | refine ⟨?_, ?_⟩)))
      try simp only [go_sem, ↓reduceIte, Nat.reduceEqDiff, Nat.reduceLT, Nat.reduceLeDiff, Nat.reduceAdd, Nat.reduceMul, Nat.reduceSub, Nat.reduceBEq]
      refine OW.run [4] ?_
      simp (config := { maxSteps := 2000000 }) only [go_sem, ↓reduceIte, Nat.reduceEqDiff, Nat.reduceLT, Nat.reduceLeDiff, Nat.reduceAdd, Nat.reduceMul, Nat.reduceSub, Nat.reduceBEq, Int.reduceToNat, and_assoc, sw0]
      refine OW.callG' (g := (x42 == d)) 4 rfl rfl ?_ (fun hg => by first | rfl | (simp only [go_sem, ↓reduceIte]; rfl)) (fun hg => by ((simp only [go_sem, List.toList_toArray, ↓reduceIte, Nat.reduceEqDiff, Nat.reduceLT, Nat.reduceBEq]); exact rfl)) (fun hg => ?_) (fun hg => (ref07_Same_ok N _ _ _ _ _ (grd_t hg e7))) ?_ ?_ ?_ ?_
      · (simp only [go_sem, ↓reduceIte, Nat.reduceEqDiff, Nat.reduceLT, Nat.reduceLeDiff, Nat.reduceAdd, Nat.reduceMul, Nat.reduceSub, Nat.reduceBEq]; done)
      · rfl
      · (refine okAll_intro ?_; (simp only [go_sem, sw2, List.length_set, List.length_replicate, and_true, true_and, Nat.le_refl, ↓reduceIte, Nat.reduceEqDiff, Nat.reduceLT, Nat.reduceLeDiff, Nat.reduceAdd, Nat.reduceMul, Nat.reduceSub, Nat.reduceBEq]; done))
      · exact .inl rfl
      · (simp only [go_sem, Nat.reduceLT])
      refine OW.run [4] ?_
      simp (config := { maxSteps := 2000000 }) only [go_sem, ↓reduceIte, Nat.reduceEqDiff, Nat.reduceLT, Nat.reduceLeDiff, Nat.reduceAdd, Nat.reduceMul, Nat.reduceSub, Nat.reduceBEq, Int.reduceToNat, and_assoc, sw0]
      refine OW.nil (hK _ ?_)
      clear hK K
      change PW _ _ _ _ _
      refine PW.ret ?_
      change PW.Ends _ _ _ _ _ _
      refine PW.Ends.intro (.inr rfl) ?_
      simp (config := { maxSteps := 2000000 }) only [go_sem, ↓reduceIte, Nat.reduceEqDiff, Nat.reduceLT, Nat.reduceLeDiff, Nat.reduceAdd, Nat.reduceMul, Nat.reduceSub, Nat.reduceBEq, Int.reduceToNat, and_assoc, sw0]
      obtain rfl := Option.some.inj hrun
      refine RetOK.data' 4 (by exact trivial) ?_
      rfl
     ·
      replace hrun := br_f h6 hrun
      refine PW.skip ?_
      change PW _ _ _ _ _
      refine PW.seq ?_
      obtain ⟨⟨x8, x81⟩, e8, hrun⟩ := bnd_some hrun
      obtain ⟨x9, e9, hrun⟩ := bnd_some hrun
      refine PW.drawK 6 mixed (by kernel_rfl) fun K hK => ?_
      change FW _ _ _ _ _
      refine FW.run ?_
      simp (config := { maxSteps := 2000000 }) only [go_sem, ↓reduceIte, Nat.reduceEqDiff, Nat.reduceLT, Nat.reduceLeDiff, Nat.reduceAdd, Nat.reduceMul, Nat.reduceSub, Nat.reduceBEq, Int.reduceToNat, and_assoc, sw0]
      refine FW.callG' (g := (x42 == (0 : Int))) 4 rfl rfl ?_ (fun hg => by first | rfl | (simp only [go_sem, ↓reduceIte]; rfl)) (fun hg => by ((simp only [go_sem, List.toList_toArray, ↓reduceIte, Nat.reduceEqDiff, Nat.reduceLT, Nat.reduceBEq]); exact rfl)) (fun hg => ?_) (fun hg => (ref07_Begin_ok N _ _ (grd_t hg e8))) ?_ ?_ ?_ ?_
      · (simp only [go_sem, ↓reduceIte, Nat.reduceEqDiff, Nat.reduceLT, Nat.reduceLeDiff, Nat.reduceAdd, Nat.reduceMul, Nat.reduceSub, Nat.reduceBEq]; done)
      · rfl
      · exact okD_all rfl
      · exact .inl rfl
      · (simp only [go_sem, Nat.reduceLT])
      refine FW.run ?_
      simp (config := { maxSteps := 2000000 }) only [go_sem, ↓reduceIte, Nat.reduceEqDiff, Nat.reduceLT, Nat.reduceLeDiff, Nat.reduceAdd, Nat.reduceMul, Nat.reduceSub, Nat.reduceBEq, Int.reduceToNat, and_assoc, sw0]
      refine FW.nil ?_
      change OW _ _ _ _ _ _
      refine OW.run [4] ?_
      simp (config := { maxSteps := 2000000 }) only [go_sem, ↓reduceIte, Nat.reduceEqDiff, Nat.reduceLT, Nat.reduceLeDiff, Nat.reduceAdd, Nat.reduceMul, Nat.reduceSub, Nat.reduceBEq, Int.reduceToNat, and_assoc, sw0]
      refine OW.callG' (g := (x42 == (0 : Int))) 4 rfl rfl ?_ (fun hg => by first | rfl | (simp only [go_sem, ↓reduceIte]; rfl)) (fun hg => by ((simp only [go_sem, List.toList_toArray, ↓reduceIte, Nat.reduceEqDiff, Nat.reduceLT, Nat.reduceBEq]); exact rfl)) (fun hg => ?_) (fun hg => (ref07_Same_ok N _ _ _ _ _ (grd_t hg e9))) ?_ ?_ ?_ ?_
      · (simp only [go_sem, ↓reduceIte, Nat.reduceEqDiff, Nat.reduceLT, Nat.reduceLeDiff, Nat.reduceAdd, Nat.reduceMul, Nat.reduceSub, Nat.reduceBEq]; done)
      · rfl
      · (refine okAll_intro ?_; (simp only [go_sem, sw2, List.length_set, List.length_replicate, and_true, true_and, Nat.le_refl, ↓reduceIte, Nat.reduceEqDiff, Nat.reduceLT, Nat.reduceLeDiff, Nat.reduceAdd, Nat.reduceMul, Nat.reduceSub, Nat.reduceBEq]; done))
      · exact .inl rfl
      · (simp only [go_sem, Nat.reduceLT])
      refine OW.run [4] ?_
      simp (config := { maxSteps := 2000000 }) only [go_sem, ↓reduceIte, Nat.reduceEqDiff, Nat.reduceLT, Nat.reduceLeDiff, Nat.reduceAdd, Nat.reduceMul, Nat.reduceSub, Nat.reduceBEq, Int.reduceToNat, and_assoc, sw0]
      refine OW.nil (hK _ ?_)
      clear hK K
      change PW _ _ _ _ _
      refine PW.ret ?_
      change PW.Ends _ _ _ _ _ _
      refine PW.Ends.intro (.inr rfl) ?_
      simp (config := { maxSteps := 2000000 }) only [go_sem, ↓reduceIte, Nat.reduceEqDiff, Nat.reduceLT, Nat.reduceLeDiff, Nat.reduceAdd, Nat.reduceMul, Nat.reduceSub, Nat.reduceBEq, Int.reduceToNat, and_assoc, sw0]
      obtain rfl := Option.some.inj hrun
      refine RetOK.data' 4 (by exact trivial) ?_
      rfl
end Go.Proofs.YtbndgoeahoadlaaGreatDoor
