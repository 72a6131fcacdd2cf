import Derived.Test.YtbndgoeahoadlaaGreatDoorAsBase
import Derived.Test.YtbndgoeahoadlaaGreatDoorAsW0
import Derived.Test.YtbndgoeahoadlaaGreatDoorAsW1
set_option linter.all false
namespace Go.Proofs.YtbndgoeahoadlaaGreatDoor
open Go.PW Go.Sh
set_option maxRecDepth 20000 in
set_option maxHeartbeats 8000000 in
theorem access_CheckRules_ok (N : Nat) (r_Preambles : Int) (r_Every : Int) (r_Window : Int) (r_Wait : Int) (r_Tries : Int) (r_Backoff : Int) (r_Identities : Int) (r : Int) (hrun : access_CheckRules N r_Preambles r_Every r_Window r_Wait r_Tries r_Backoff r_Identities = some r) : CallOK Tryz.prog 16 [(.agg [(I r_Preambles), (I r_Every), (I r_Window), (I r_Wait), (I r_Tries), (I r_Backoff), (I r_Identities)])] (.d (I r)) [] := by
 refine CallOK.of_PW Tryz.func16 rfl (by rw [Tryz.results16]) Tryz.ntmps16 Tryz.call16 ?_
 change PW _ _ _ _ _
 try simp only [go_sem, ↓reduceIte, Nat.reduceEqDiff, Nat.reduceLT, Nat.reduceLeDiff, Nat.reduceAdd, Nat.reduceMul, Nat.reduceSub, Nat.reduceBEq]
 unfold access_CheckRules at hrun
 refine PW.seq ?_
 refine PW.regionK fun K hK => ?_
 refine OW.run [1] ?_
 simp (config := { maxSteps := 2000000 }) only [go_sem, ↓reduceIte, Nat.reduceEqDiff, Nat.reduceLT, Nat.reduceLeDiff, Nat.reduceAdd, Nat.reduceMul, Nat.reduceSub, Nat.reduceBEq, Int.reduceToNat, and_assoc, sw0]
 refine OW.nil (hK _ ?_)
 clear hK K
 change PW _ _ _ _ _
 refine PW.joinS (τ := Unit) [] 0 (fun _ => []) (fun _ => []) _ _ r (by exact Nat.le_refl _) hrun ?_ ?_
 ·
  intro K_ hrun N1 hN1
  refine PW.seq ?_
  refine PW.regionK fun K hK => ?_
  refine OW.run [26, 27] ?_
  simp (config := { maxSteps := 2000000 }) only [go_sem, ↓reduceIte, Nat.reduceEqDiff, Nat.reduceLT, Nat.reduceLeDiff, Nat.reduceAdd, Nat.reduceMul, Nat.reduceSub, Nat.reduceBEq, Int.reduceToNat, and_assoc, sw0]
  refine And.intro (by omega) (And.intro (by omega) (And.intro (by omega) (And.intro (by omega) (And.intro (by omega) (And.intro (by omega) (And.intro (by omega) ?_))))))
  refine OW.nil (hK _ ?_)
  clear hK K
  change PW _ _ _ _ _
  refine PW.block ?_
  refine PW.loopN 8 ?_
  change PW _ _ _ _ _
  refine PW.seq ?_
  refine PW.regionK fun K hK => ?_
  refine OW.run [26, 27, 28] ?_
  simp (config := { maxSteps := 2000000 }) only [go_sem, ↓reduceIte, Nat.reduceEqDiff, Nat.reduceLT, Nat.reduceLeDiff, Nat.reduceAdd, Nat.reduceMul, Nat.reduceSub, Nat.reduceBEq, Int.reduceToNat, and_assoc, sw0]
  refine OW.nil (hK _ ?_)
  clear hK K
  change PW _ _ _ _ _
  refine PW.seq ?_
  refine PW.cond rfl (fun h2 => ?_) (fun h2 => ?_)
  ·
   refine PW.skip ?_
   change PW _ _ _ _ _
   refine PW.seq ?_
   refine PW.block ?_
   refine PW.seq ?_
   refine PW.regionK fun K hK => ?_
   refine OW.run [4, 26, 27] ?_
   simp (config := { maxSteps := 2000000 }) only [go_sem, ↓reduceIte, Nat.reduceEqDiff, Nat.reduceLT, Nat.reduceLeDiff, Nat.reduceAdd, Nat.reduceMul, Nat.reduceSub, Nat.reduceBEq, Int.reduceToNat, and_assoc, sw0]
   refine And.intro (by omega) (And.intro (by omega) ?_)
   refine OW.nil (hK _ ?_)
   clear hK K
   change PW _ _ _ _ _
   refine PW.seq ?_
   obtain ⟨x1, e1, hrun⟩ := bnd_some hrun
   refine PW.regionK fun K hK => ?_
   refine OW.run [26, 27, 37] ?_
   simp (config := { maxSteps := 2000000 }) only [go_sem, ↓reduceIte, Nat.reduceEqDiff, Nat.reduceLT, Nat.reduceLeDiff, Nat.reduceAdd, Nat.reduceMul, Nat.reduceSub, Nat.reduceBEq, Int.reduceToNat, and_assoc, sw0]
   refine And.intro (by omega) (And.intro (by omega) (And.intro (by omega) ?_))
   refine OW.call' 4 rfl rfl rfl (by ((simp only [go_sem, List.toList_toArray, ↓reduceIte, Nat.reduceEqDiff, Nat.reduceLT, Nat.reduceBEq]); exact rfl)) ?_ (access_within_ok N _ _ _ _ e1) ?_ ?_ ?_ ?_
   · rfl
   · exact okD_all rfl
   · exact .inl rfl
   · (simp only [go_sem, Nat.reduceLT])
   refine OW.run [26, 27, 37] ?_
   simp (config := { maxSteps := 2000000 }) only [go_sem, ↓reduceIte, Nat.reduceEqDiff, Nat.reduceLT, Nat.reduceLeDiff, Nat.reduceAdd, Nat.reduceMul, Nat.reduceSub, Nat.reduceBEq, Int.reduceToNat, and_assoc, sw0]
   refine OW.nil (hK _ ?_)
   clear hK K
   change PW _ _ _ _ _
   refine PW.cond rfl (fun h3 => ?_) (fun h3 => ?_)
   ·
    replace hrun := br_t h3 hrun
    refine PW.seq ?_
    refine PW.regionK fun K hK => ?_
    refine OW.run [2] ?_
    simp (config := { maxSteps := 2000000 }) only [go_sem, ↓reduceIte, Nat.reduceEqDiff, Nat.reduceLT, Nat.reduceLeDiff, Nat.reduceAdd, Nat.reduceMul, Nat.reduceSub, Nat.reduceBEq, Int.reduceToNat, and_assoc, sw0]
    refine OW.nil (hK _ ?_)
    clear hK K
    change PW _ _ _ _ _
    refine PW.ret ?_
    change PW.Ends _ _ _ _ _ _
    refine PW.Ends.intro (.inr rfl) ?_
    simp (config := { maxSteps := 2000000 }) only [go_sem, ↓reduceIte, Nat.reduceEqDiff, Nat.reduceLT, Nat.reduceLeDiff, Nat.reduceAdd, Nat.reduceMul, Nat.reduceSub, Nat.reduceBEq, Int.reduceToNat, and_assoc, sw0]
    obtain rfl := Option.some.inj hrun
    refine RetOK.data' 4 (by exact trivial) ?_
    rfl
   ·
    replace hrun := br_f h3 hrun
    refine PW.skip ?_
    change PW _ _ _ _ _
    refine PW.regionK fun K hK => ?_
    refine OW.run [26, 27] ?_
    simp (config := { maxSteps := 2000000 }) only [go_sem, ↓reduceIte, Nat.reduceEqDiff, Nat.reduceLT, Nat.reduceLeDiff, Nat.reduceAdd, Nat.reduceMul, Nat.reduceSub, Nat.reduceBEq, Int.reduceToNat, and_assoc, sw0]
    refine OW.nil (hK _ ?_)
    clear hK K
    change PW _ _ _ _ _
    refine PW.seq ?_
    refine PW.regionK fun K hK => ?_
    refine OW.run [26, 27, 28] ?_
    simp (config := { maxSteps := 2000000 }) only [go_sem, ↓reduceIte, Nat.reduceEqDiff, Nat.reduceLT, Nat.reduceLeDiff, Nat.reduceAdd, Nat.reduceMul, Nat.reduceSub, Nat.reduceBEq, Int.reduceToNat, and_assoc, sw0]
    refine OW.nil (hK _ ?_)
    clear hK K
    change PW _ _ _ _ _
    refine PW.seq ?_
    refine PW.cond rfl (fun h4 => ?_) (fun h4 => ?_)
    ·
     refine PW.skip ?_
     change PW _ _ _ _ _
     refine PW.seq ?_
     refine PW.block ?_
     refine PW.seq ?_
     refine PW.regionK fun K hK => ?_
     refine OW.run [4, 26, 27] ?_
     simp (config := { maxSteps := 2000000 }) only [go_sem, ↓reduceIte, Nat.reduceEqDiff, Nat.reduceLT, Nat.reduceLeDiff, Nat.reduceAdd, Nat.reduceMul, Nat.reduceSub, Nat.reduceBEq, Int.reduceToNat, and_assoc, sw0]
     refine And.intro (by omega) (And.intro (by omega) ?_)
     refine OW.nil (hK _ ?_)
     clear hK K
     change PW _ _ _ _ _
     refine PW.seq ?_
     obtain ⟨x2, e2, hrun⟩ := bnd_some hrun
     refine PW.regionK fun K hK => ?_
     refine OW.run [26, 27, 37] ?_
     simp (config := { maxSteps := 2000000 }) only [go_sem, ↓reduceIte, Nat.reduceEqDiff, Nat.reduceLT, Nat.reduceLeDiff, Nat.reduceAdd, Nat.reduceMul, Nat.reduceSub, Nat.reduceBEq, Int.reduceToNat, and_assoc, sw0]
     refine And.intro (by omega) (And.intro (by omega) (And.intro (by omega) ?_))
     refine OW.call' 4 rfl rfl rfl (by ((simp only [go_sem, List.toList_toArray, ↓reduceIte, Nat.reduceEqDiff, Nat.reduceLT, Nat.reduceBEq]); exact rfl)) ?_ (access_within_ok N _ _ _ _ e2) ?_ ?_ ?_ ?_
     · rfl
     · exact okD_all rfl
     · exact .inl rfl
     · (simp only [go_sem, Nat.reduceLT])
     refine OW.run [26, 27, 37] ?_
     simp (config := { maxSteps := 2000000 }) only [go_sem, ↓reduceIte, Nat.reduceEqDiff, Nat.reduceLT, Nat.reduceLeDiff, Nat.reduceAdd, Nat.reduceMul, Nat.reduceSub, Nat.reduceBEq, Int.reduceToNat, and_assoc, sw0]
     refine OW.nil (hK _ ?_)
     clear hK K
     change PW _ _ _ _ _
     refine PW.cond rfl (fun h5 => ?_) (fun h5 => ?_)
     ·
      replace hrun := br_t h5 hrun
      refine PW.seq ?_
      refine PW.regionK fun K hK => ?_
      refine OW.run [2] ?_
      simp (config := { maxSteps := 2000000 }) only [go_sem, ↓reduceIte, Nat.reduceEqDiff, Nat.reduceLT, Nat.reduceLeDiff, Nat.reduceAdd, Nat.reduceMul, Nat.reduceSub, Nat.reduceBEq, Int.reduceToNat, and_assoc, sw0]
      refine OW.nil (hK _ ?_)
      clear hK K
      change PW _ _ _ _ _
      refine PW.ret ?_
      change PW.Ends _ _ _ _ _ _
      refine PW.Ends.intro (.inr rfl) ?_
      simp (config := { maxSteps := 2000000 }) only [go_sem, ↓reduceIte, Nat.reduceEqDiff, Nat.reduceLT, Nat.reduceLeDiff, Nat.reduceAdd, Nat.reduceMul, Nat.reduceSub, Nat.reduceBEq, Int.reduceToNat, and_assoc, sw0]
      obtain rfl := Option.some.inj hrun
      refine RetOK.data' 4 (by exact trivial) ?_
      rfl
     ·
      replace hrun := br_f h5 hrun
      refine PW.skip ?_
      change PW _ _ _ _ _
      refine PW.regionK fun K hK => ?_
      refine OW.run [26, 27] ?_
      simp (config := { maxSteps := 2000000 }) only [go_sem, ↓reduceIte, Nat.reduceEqDiff, Nat.reduceLT, Nat.reduceLeDiff, Nat.reduceAdd, Nat.reduceMul, Nat.reduceSub, Nat.reduceBEq, Int.reduceToNat, and_assoc, sw0]
      refine OW.nil (hK _ ?_)
      clear hK K
      change PW _ _ _ _ _
      refine PW.seq ?_
      refine PW.regionK fun K hK => ?_
      refine OW.run [26, 27, 28] ?_
      simp (config := { maxSteps := 2000000 }) only [go_sem, ↓reduceIte, Nat.reduceEqDiff, Nat.reduceLT, Nat.reduceLeDiff, Nat.reduceAdd, Nat.reduceMul, Nat.reduceSub, Nat.reduceBEq, Int.reduceToNat, and_assoc, sw0]
      refine OW.nil (hK _ ?_)
      clear hK K
      change PW _ _ _ _ _
      refine PW.seq ?_
      refine PW.cond rfl (fun h6 => ?_) (fun h6 => ?_)
      ·
       refine PW.skip ?_
       change PW _ _ _ _ _
       refine PW.seq ?_
       refine PW.block ?_
       refine PW.seq ?_
       refine PW.regionK fun K hK => ?_
       refine OW.run [4, 26, 27] ?_
       simp (config := { maxSteps := 2000000 }) only [go_sem, ↓reduceIte, Nat.reduceEqDiff, Nat.reduceLT, Nat.reduceLeDiff, Nat.reduceAdd, Nat.reduceMul, Nat.reduceSub, Nat.reduceBEq, Int.reduceToNat, and_assoc, sw0]
       refine And.intro (by omega) (And.intro (by omega) ?_)
       refine OW.nil (hK _ ?_)
       clear hK K
       change PW _ _ _ _ _
       refine PW.seq ?_
       obtain ⟨x3, e3, hrun⟩ := bnd_some hrun
       refine PW.regionK fun K hK => ?_
       refine OW.run [26, 27, 37] ?_
       simp (config := { maxSteps := 2000000 }) only [go_sem, ↓reduceIte, Nat.reduceEqDiff, Nat.reduceLT, Nat.reduceLeDiff, Nat.reduceAdd, Nat.reduceMul, Nat.reduceSub, Nat.reduceBEq, Int.reduceToNat, and_assoc, sw0]
       refine And.intro (by omega) (And.intro (by omega) (And.intro (by omega) ?_))
       refine OW.call' 4 rfl rfl rfl (by ((simp only [go_sem, List.toList_toArray, ↓reduceIte, Nat.reduceEqDiff, Nat.reduceLT, Nat.reduceBEq]); exact rfl)) ?_ (access_within_ok N _ _ _ _ e3) ?_ ?_ ?_ ?_
       · rfl
       · exact okD_all rfl
       · exact .inl rfl
       · (simp only [go_sem, Nat.reduceLT])
       refine OW.run [26, 27, 37] ?_
       simp (config := { maxSteps := 2000000 }) only [go_sem, ↓reduceIte, Nat.reduceEqDiff, Nat.reduceLT, Nat.reduceLeDiff, Nat.reduceAdd, Nat.reduceMul, Nat.reduceSub, Nat.reduceBEq, Int.reduceToNat, and_assoc, sw0]
       refine OW.nil (hK _ ?_)
       clear hK K
       change PW _ _ _ _ _
       refine PW.cond rfl (fun h7 => ?_) (fun h7 => ?_)
       ·
        replace hrun := br_t h7 hrun
        refine PW.seq ?_
        refine PW.regionK fun K hK => ?_
        refine OW.run [2] ?_
        simp (config := { maxSteps := 2000000 }) only [go_sem, ↓reduceIte, Nat.reduceEqDiff, Nat.reduceLT, Nat.reduceLeDiff, Nat.reduceAdd, Nat.reduceMul, Nat.reduceSub, Nat.reduceBEq, Int.reduceToNat, and_assoc, sw0]
        refine OW.nil (hK _ ?_)
        clear hK K
        change PW _ _ _ _ _
        refine PW.ret ?_
        change PW.Ends _ _ _ _ _ _
        refine PW.Ends.intro (.inr rfl) ?_
        simp (config := { maxSteps := 2000000 }) only [go_sem, ↓reduceIte, Nat.reduceEqDiff, Nat.reduceLT, Nat.reduceLeDiff, Nat.reduceAdd, Nat.reduceMul, Nat.reduceSub, Nat.reduceBEq, Int.reduceToNat, and_assoc, sw0]
        obtain rfl := Option.some.inj hrun
        refine RetOK.data' 4 (by exact trivial) ?_
        rfl
       ·
        replace hrun := br_f h7 hrun
        refine PW.skip ?_
        change PW _ _ _ _ _
        refine PW.regionK fun K hK => ?_
        refine OW.run [26, 27] ?_
        simp (config := { maxSteps := 2000000 }) only [go_sem, ↓reduceIte, Nat.reduceEqDiff, Nat.reduceLT, Nat.reduceLeDiff, Nat.reduceAdd, Nat.reduceMul, Nat.reduceSub, Nat.reduceBEq, Int.reduceToNat, and_assoc, sw0]
        refine OW.nil (hK _ ?_)
        clear hK K
        change PW _ _ _ _ _
        refine PW.seq ?_
        refine PW.regionK fun K hK => ?_
        refine OW.run [26, 27, 28] ?_
        simp (config := { maxSteps := 2000000 }) only [go_sem, ↓reduceIte, Nat.reduceEqDiff, Nat.reduceLT, Nat.reduceLeDiff, Nat.reduceAdd, Nat.reduceMul, Nat.reduceSub, Nat.reduceBEq, Int.reduceToNat, and_assoc, sw0]
        refine OW.nil (hK _ ?_)
        clear hK K
        change PW _ _ _ _ _
        refine PW.seq ?_
        refine PW.cond rfl (fun h8 => ?_) (fun h8 => ?_)
        ·
         refine PW.skip ?_
         change PW _ _ _ _ _
         refine PW.seq ?_
         refine PW.block ?_
         refine PW.seq ?_
         refine PW.regionK fun K hK => ?_
         refine OW.run [4, 26, 27] ?_
         simp (config := { maxSteps := 2000000 }) only [go_sem, ↓reduceIte, Nat.reduceEqDiff, Nat.reduceLT, Nat.reduceLeDiff, Nat.reduceAdd, Nat.reduceMul, Nat.reduceSub, Nat.reduceBEq, Int.reduceToNat, and_assoc, sw0]
         refine And.intro (by omega) (And.intro (by omega) ?_)
         refine OW.nil (hK _ ?_)
         clear hK K
         change PW _ _ _ _ _
         refine PW.seq ?_
         obtain ⟨x4, e4, hrun⟩ := bnd_some hrun
         refine PW.regionK fun K hK => ?_
         refine OW.run [26, 27, 37] ?_
         simp (config := { maxSteps := 2000000 }) only [go_sem, ↓reduceIte, Nat.reduceEqDiff, Nat.reduceLT, Nat.reduceLeDiff, Nat.reduceAdd, Nat.reduceMul, Nat.reduceSub, Nat.reduceBEq, Int.reduceToNat, and_assoc, sw0]
         refine And.intro (by omega) (And.intro (by omega) (And.intro (by omega) ?_))
         refine OW.call' 4 rfl rfl rfl (by ((simp only [go_sem, List.toList_toArray, ↓reduceIte, Nat.reduceEqDiff, Nat.reduceLT, Nat.reduceBEq]); exact rfl)) ?_ (access_within_ok N _ _ _ _ e4) ?_ ?_ ?_ ?_
         · rfl
         · exact okD_all rfl
         · exact .inl rfl
         · (simp only [go_sem, Nat.reduceLT])
         refine OW.run [26, 27, 37] ?_
         simp (config := { maxSteps := 2000000 }) only [go_sem, ↓reduceIte, Nat.reduceEqDiff, Nat.reduceLT, Nat.reduceLeDiff, Nat.reduceAdd, Nat.reduceMul, Nat.reduceSub, Nat.reduceBEq, Int.reduceToNat, and_assoc, sw0]
         refine OW.nil (hK _ ?_)
         clear hK K
         change PW _ _ _ _ _
         refine PW.cond rfl (fun h9 => ?_) (fun h9 => ?_)
         ·
          replace hrun := br_t h9 hrun
          refine PW.seq ?_
          refine PW.regionK fun K hK => ?_
          refine OW.run [2] ?_
          simp (config := { maxSteps := 2000000 }) only [go_sem, ↓reduceIte, Nat.reduceEqDiff, Nat.reduceLT, Nat.reduceLeDiff, Nat.reduceAdd, Nat.reduceMul, Nat.reduceSub, Nat.reduceBEq, Int.reduceToNat, and_assoc, sw0]
          refine OW.nil (hK _ ?_)
          clear hK K
          change PW _ _ _ _ _
          refine PW.ret ?_
          change PW.Ends _ _ _ _ _ _
          refine PW.Ends.intro (.inr rfl) ?_
          simp (config := { maxSteps := 2000000 }) only [go_sem, ↓reduceIte, Nat.reduceEqDiff, Nat.reduceLT, Nat.reduceLeDiff, Nat.reduceAdd, Nat.reduceMul, Nat.reduceSub, Nat.reduceBEq, Int.reduceToNat, and_assoc, sw0]
          obtain rfl := Option.some.inj hrun
          refine RetOK.data' 4 (by exact trivial) ?_
          rfl
         ·
          replace hrun := br_f h9 hrun
          refine PW.skip ?_
          change PW _ _ _ _ _
          refine PW.regionK fun K hK => ?_
          refine OW.run [26, 27] ?_
          simp (config := { maxSteps := 2000000 }) only [go_sem, ↓reduceIte, Nat.reduceEqDiff, Nat.reduceLT, Nat.reduceLeDiff, Nat.reduceAdd, Nat.reduceMul, Nat.reduceSub, Nat.reduceBEq, Int.reduceToNat, and_assoc, sw0]
          refine OW.nil (hK _ ?_)
          clear hK K
          change PW _ _ _ _ _
          refine PW.seq ?_
          refine PW.regionK fun K hK => ?_
          refine OW.run [26, 27, 28] ?_
          simp (config := { maxSteps := 2000000 }) only [go_sem, ↓reduceIte, Nat.reduceEqDiff, Nat.reduceLT, Nat.reduceLeDiff, Nat.reduceAdd, Nat.reduceMul, Nat.reduceSub, Nat.reduceBEq, Int.reduceToNat, and_assoc, sw0]
          refine OW.nil (hK _ ?_)
          clear hK K
          change PW _ _ _ _ _
          refine PW.seq ?_
          refine PW.cond rfl (fun h10 => ?_) (fun h10 => ?_)
          ·
           refine PW.skip ?_
           change PW _ _ _ _ _
           refine PW.seq ?_
           refine PW.block ?_
           refine PW.seq ?_
           refine PW.regionK fun K hK => ?_
           refine OW.run [4, 26, 27] ?_
           simp (config := { maxSteps := 2000000 }) only [go_sem, ↓reduceIte, Nat.reduceEqDiff, Nat.reduceLT, Nat.reduceLeDiff, Nat.reduceAdd, Nat.reduceMul, Nat.reduceSub, Nat.reduceBEq, Int.reduceToNat, and_assoc, sw0]
           refine And.intro (by omega) (And.intro (by omega) ?_)
           refine OW.nil (hK _ ?_)
           clear hK K
           change PW _ _ _ _ _
           refine PW.seq ?_
           obtain ⟨x5, e5, hrun⟩ := bnd_some hrun
           refine PW.regionK fun K hK => ?_
           refine OW.run [26, 27, 37] ?_
           simp (config := { maxSteps := 2000000 }) only [go_sem, ↓reduceIte, Nat.reduceEqDiff, Nat.reduceLT, Nat.reduceLeDiff, Nat.reduceAdd, Nat.reduceMul, Nat.reduceSub, Nat.reduceBEq, Int.reduceToNat, and_assoc, sw0]
           refine And.intro (by omega) (And.intro (by omega) (And.intro (by omega) ?_))
           refine OW.call' 4 rfl rfl rfl (by ((simp only [go_sem, List.toList_toArray, ↓reduceIte, Nat.reduceEqDiff, Nat.reduceLT, Nat.reduceBEq]); exact rfl)) ?_ (access_within_ok N _ _ _ _ e5) ?_ ?_ ?_ ?_
           · rfl
           · exact okD_all rfl
           · exact .inl rfl
           · (simp only [go_sem, Nat.reduceLT])
           refine OW.run [26, 27, 37] ?_
           simp (config := { maxSteps := 2000000 }) only [go_sem, ↓reduceIte, Nat.reduceEqDiff, Nat.reduceLT, Nat.reduceLeDiff, Nat.reduceAdd, Nat.reduceMul, Nat.reduceSub, Nat.reduceBEq, Int.reduceToNat, and_assoc, sw0]
           refine OW.nil (hK _ ?_)
           clear hK K
           change PW _ _ _ _ _
           refine PW.cond rfl (fun h11 => ?_) (fun h11 => ?_)
           ·
            replace hrun := br_t h11 hrun
            refine PW.seq ?_
            refine PW.regionK fun K hK => ?_
            refine OW.run [2] ?_
            simp (config := { maxSteps := 2000000 }) only [go_sem, ↓reduceIte, Nat.reduceEqDiff, Nat.reduceLT, Nat.reduceLeDiff, Nat.reduceAdd, Nat.reduceMul, Nat.reduceSub, Nat.reduceBEq, Int.reduceToNat, and_assoc, sw0]
            refine OW.nil (hK _ ?_)
            clear hK K
            change PW _ _ _ _ _
            refine PW.ret ?_
            change PW.Ends _ _ _ _ _ _
            refine PW.Ends.intro (.inr rfl) ?_
            simp (config := { maxSteps := 2000000 }) only [go_sem, ↓reduceIte, Nat.reduceEqDiff, Nat.reduceLT, Nat.reduceLeDiff, Nat.reduceAdd, Nat.reduceMul, Nat.reduceSub, Nat.reduceBEq, Int.reduceToNat, and_assoc, sw0]
            obtain rfl := Option.some.inj hrun
            refine RetOK.data' 4 (by exact trivial) ?_
            rfl
           ·
            replace hrun := br_f h11 hrun
            refine PW.skip ?_
            change PW _ _ _ _ _
            refine PW.regionK fun K hK => ?_
            refine OW.run [26, 27] ?_
            simp (config := { maxSteps := 2000000 }) only [go_sem, ↓reduceIte, Nat.reduceEqDiff, Nat.reduceLT, Nat.reduceLeDiff, Nat.reduceAdd, Nat.reduceMul, Nat.reduceSub, Nat.reduceBEq, Int.reduceToNat, and_assoc, sw0]
            refine OW.nil (hK _ ?_)
            clear hK K
            change PW _ _ _ _ _
            refine PW.seq ?_
            refine PW.regionK fun K hK => ?_
            refine OW.run [26, 27, 28] ?_
            simp (config := { maxSteps := 2000000 }) only [go_sem, ↓reduceIte, Nat.reduceEqDiff, Nat.reduceLT, Nat.reduceLeDiff, Nat.reduceAdd, Nat.reduceMul, Nat.reduceSub, Nat.reduceBEq, Int.reduceToNat, and_assoc, sw0]
            refine OW.nil (hK _ ?_)
            clear hK K
            change PW _ _ _ _ _
            refine PW.seq ?_
            refine PW.cond rfl (fun h12 => ?_) (fun h12 => ?_)
            ·
             refine PW.skip ?_
             change PW _ _ _ _ _
             refine PW.seq ?_
             refine PW.block ?_
             refine PW.seq ?_
             refine PW.regionK fun K hK => ?_
             refine OW.run [4, 26, 27] ?_
             simp (config := { maxSteps := 2000000 }) only [go_sem, ↓reduceIte, Nat.reduceEqDiff, Nat.reduceLT, Nat.reduceLeDiff, Nat.reduceAdd, Nat.reduceMul, Nat.reduceSub, Nat.reduceBEq, Int.reduceToNat, and_assoc, sw0]
             refine And.intro (by omega) (And.intro (by omega) ?_)
             refine OW.nil (hK _ ?_)
             clear hK K
             change PW _ _ _ _ _
             refine PW.seq ?_
             obtain ⟨x6, e6, hrun⟩ := bnd_some hrun
             refine PW.regionK fun K hK => ?_
             refine OW.run [26, 27, 37] ?_
             simp (config := { maxSteps := 2000000 }) only [go_sem, ↓reduceIte, Nat.reduceEqDiff, Nat.reduceLT, Nat.reduceLeDiff, Nat.reduceAdd, Nat.reduceMul, Nat.reduceSub, Nat.reduceBEq, Int.reduceToNat, and_assoc, sw0]
             refine And.intro (by omega) (And.intro (by omega) (And.intro (by omega) ?_))
             refine OW.call' 4 rfl rfl rfl (by ((simp only [go_sem, List.toList_toArray, ↓reduceIte, Nat.reduceEqDiff, Nat.reduceLT, Nat.reduceBEq]); exact rfl)) ?_ (access_within_ok N _ _ _ _ e6) ?_ ?_ ?_ ?_
             · rfl
             · exact okD_all rfl
             · exact .inl rfl
             · (simp only [go_sem, Nat.reduceLT])
             refine OW.run [26, 27, 37] ?_
             simp (config := { maxSteps := 2000000 }) only [go_sem, ↓reduceIte, Nat.reduceEqDiff, Nat.reduceLT, Nat.reduceLeDiff, Nat.reduceAdd, Nat.reduceMul, Nat.reduceSub, Nat.reduceBEq, Int.reduceToNat, and_assoc, sw0]
             refine OW.nil (hK _ ?_)
             clear hK K
             change PW _ _ _ _ _
             refine PW.cond rfl (fun h13 => ?_) (fun h13 => ?_)
             ·
              replace hrun := br_t h13 hrun
              refine PW.seq ?_
              refine PW.regionK fun K hK => ?_
              refine OW.run [2] ?_
              simp (config := { maxSteps := 2000000 }) only [go_sem, ↓reduceIte, Nat.reduceEqDiff, Nat.reduceLT, Nat.reduceLeDiff, Nat.reduceAdd, Nat.reduceMul, Nat.reduceSub, Nat.reduceBEq, Int.reduceToNat, and_assoc, sw0]
              refine OW.nil (hK _ ?_)
              clear hK K
              change PW _ _ _ _ _
              refine PW.ret ?_
              change PW.Ends _ _ _ _ _ _
              refine PW.Ends.intro (.inr rfl) ?_
              simp (config := { maxSteps := 2000000 }) only [go_sem, ↓reduceIte, Nat.reduceEqDiff, Nat.reduceLT, Nat.reduceLeDiff, Nat.reduceAdd, Nat.reduceMul, Nat.reduceSub, Nat.reduceBEq, Int.reduceToNat, and_assoc, sw0]
              obtain rfl := Option.some.inj hrun
              refine RetOK.data' 4 (by exact trivial) ?_
              rfl
             ·
              replace hrun := br_f h13 hrun
              refine PW.skip ?_
              change PW _ _ _ _ _
              refine PW.regionK fun K hK => ?_
              refine OW.run [26, 27] ?_
              simp (config := { maxSteps := 2000000 }) only [go_sem, ↓reduceIte, Nat.reduceEqDiff, Nat.reduceLT, Nat.reduceLeDiff, Nat.reduceAdd, Nat.reduceMul, Nat.reduceSub, Nat.reduceBEq, Int.reduceToNat, and_assoc, sw0]
              refine OW.nil (hK _ ?_)
              clear hK K
              change PW _ _ _ _ _
              refine PW.seq ?_
              refine PW.regionK fun K hK => ?_
              refine OW.run [26, 27, 28] ?_
              simp (config := { maxSteps := 2000000 }) only [go_sem, ↓reduceIte, Nat.reduceEqDiff, Nat.reduceLT, Nat.reduceLeDiff, Nat.reduceAdd, Nat.reduceMul, Nat.reduceSub, Nat.reduceBEq, Int.reduceToNat, and_assoc, sw0]
              refine OW.nil (hK _ ?_)
              clear hK K
              change PW _ _ _ _ _
              refine PW.seq ?_
              refine PW.cond rfl (fun h14 => ?_) (fun h14 => ?_)
              ·
               refine PW.skip ?_
               change PW _ _ _ _ _
               refine PW.seq ?_
               refine PW.block ?_
               refine PW.seq ?_
               refine PW.regionK fun K hK => ?_
               refine OW.run [4, 26, 27] ?_
               simp (config := { maxSteps := 2000000 }) only [go_sem, ↓reduceIte, Nat.reduceEqDiff, Nat.reduceLT, Nat.reduceLeDiff, Nat.reduceAdd, Nat.reduceMul, Nat.reduceSub, Nat.reduceBEq, Int.reduceToNat, and_assoc, sw0]
               refine And.intro (by omega) (And.intro (by omega) ?_)
               refine OW.nil (hK _ ?_)
               clear hK K
               change PW _ _ _ _ _
               refine PW.seq ?_
               obtain ⟨x7, e7, hrun⟩ := bnd_some hrun
               refine PW.regionK fun K hK => ?_
               refine OW.run [26, 27, 37] ?_
               simp (config := { maxSteps := 2000000 }) only [go_sem, ↓reduceIte, Nat.reduceEqDiff, Nat.reduceLT, Nat.reduceLeDiff, Nat.reduceAdd, Nat.reduceMul, Nat.reduceSub, Nat.reduceBEq, Int.reduceToNat, and_assoc, sw0]
               refine And.intro (by omega) (And.intro (by omega) (And.intro (by omega) ?_))
               refine OW.call' 4 rfl rfl rfl (by ((simp only [go_sem, List.toList_toArray, ↓reduceIte, Nat.reduceEqDiff, Nat.reduceLT, Nat.reduceBEq]); exact rfl)) ?_ (access_within_ok N _ _ _ _ e7) ?_ ?_ ?_ ?_
               · rfl
               · exact okD_all rfl
               · exact .inl rfl
               · (simp only [go_sem, Nat.reduceLT])
               refine OW.run [26, 27, 37] ?_
               simp (config := { maxSteps := 2000000 }) only [go_sem, ↓reduceIte, Nat.reduceEqDiff, Nat.reduceLT, Nat.reduceLeDiff, Nat.reduceAdd, Nat.reduceMul, Nat.reduceSub, Nat.reduceBEq, Int.reduceToNat, and_assoc, sw0]
               refine OW.nil (hK _ ?_)
               clear hK K
               change PW _ _ _ _ _
               refine PW.cond rfl (fun h15 => ?_) (fun h15 => ?_)
               ·
                replace hrun := br_t h15 hrun
                refine PW.seq ?_
                refine PW.regionK fun K hK => ?_
                refine OW.run [2] ?_
                simp (config := { maxSteps := 2000000 }) only [go_sem, ↓reduceIte, Nat.reduceEqDiff, Nat.reduceLT, Nat.reduceLeDiff, Nat.reduceAdd, Nat.reduceMul, Nat.reduceSub, Nat.reduceBEq, Int.reduceToNat, and_assoc, sw0]
                refine OW.nil (hK _ ?_)
                clear hK K
                change PW _ _ _ _ _
                refine PW.ret ?_
                change PW.Ends _ _ _ _ _ _
                refine PW.Ends.intro (.inr rfl) ?_
                simp (config := { maxSteps := 2000000 }) only [go_sem, ↓reduceIte, Nat.reduceEqDiff, Nat.reduceLT, Nat.reduceLeDiff, Nat.reduceAdd, Nat.reduceMul, Nat.reduceSub, Nat.reduceBEq, Int.reduceToNat, and_assoc, sw0]
                obtain rfl := Option.some.inj hrun
                refine RetOK.data' 4 (by exact trivial) ?_
                rfl
               ·
                replace hrun := br_f h15 hrun
                refine PW.skip ?_
                change PW _ _ _ _ _
                refine PW.regionK fun K hK => ?_
                refine OW.run [26, 27] ?_
                simp (config := { maxSteps := 2000000 }) only [go_sem, ↓reduceIte, Nat.reduceEqDiff, Nat.reduceLT, Nat.reduceLeDiff, Nat.reduceAdd, Nat.reduceMul, Nat.reduceSub, Nat.reduceBEq, Int.reduceToNat, and_assoc, sw0]
                refine OW.nil (hK _ ?_)
                clear hK K
                change PW _ _ _ _ _
                refine PW.seq ?_
                refine PW.regionK fun K hK => ?_
                refine OW.run [26, 27, 28] ?_
                simp (config := { maxSteps := 2000000 }) only [go_sem, ↓reduceIte, Nat.reduceEqDiff, Nat.reduceLT, Nat.reduceLeDiff, Nat.reduceAdd, Nat.reduceMul, Nat.reduceSub, Nat.reduceBEq, Int.reduceToNat, and_assoc, sw0]
                refine OW.nil (hK _ ?_)
                clear hK K
                change PW _ _ _ _ _
                refine PW.seq ?_
                refine PW.cond rfl (fun h16 => ?_) (fun h16 => ?_)
                · exact absurd h16 (by decide)
                ·
                 refine PW.exit ?_
                 refine hN1 [] () _ hrun (by exact trivial) ?_
                 (simp only [Env.frzL, Env.frz, frzOb, V.frz, V.frz.frzs, asD, map_asD, sw1, go_sem, ↓reduceIte, Nat.reduceEqDiff, Nat.reduceLT, Nat.reduceLeDiff, Nat.reduceAdd, Nat.reduceMul, Nat.reduceSub, Nat.reduceBEq]; done)
              · exact absurd h14 (by decide)
            · exact absurd h12 (by decide)
          · exact absurd h10 (by decide)
        · exact absurd h8 (by decide)
      · exact absurd h6 (by decide)
    · exact absurd h4 (by decide)
  · exact absurd h2 (by decide)
 ·
  rintro _ hrun
  try simp only [go_sem, ↓reduceIte, Nat.reduceEqDiff, Nat.reduceLT, Nat.reduceLeDiff, Nat.reduceAdd, Nat.reduceMul, Nat.reduceSub, Nat.reduceBEq]
  refine PW.seq ?_
  refine PW.regionK fun K hK => ?_
  refine OW.run [2] ?_
  simp (config := { maxSteps := 2000000 }) only [go_sem, ↓reduceIte, Nat.reduceEqDiff, Nat.reduceLT, Nat.reduceLeDiff, Nat.reduceAdd, Nat.reduceMul, Nat.reduceSub, Nat.reduceBEq, Int.reduceToNat, and_assoc, sw0]
  refine OW.nil (hK _ ?_)
  clear hK K
  change PW _ _ _ _ _
  refine PW.ret ?_
  change PW.Ends _ _ _ _ _ _
  refine PW.Ends.intro (.inr rfl) ?_
  simp (config := { maxSteps := 2000000 }) only [go_sem, ↓reduceIte, Nat.reduceEqDiff, Nat.reduceLT, Nat.reduceLeDiff, Nat.reduceAdd, Nat.reduceMul, Nat.reduceSub, Nat.reduceBEq, Int.reduceToNat, and_assoc, sw0]
  obtain rfl := Option.some.inj hrun
  refine RetOK.data' 4 (by exact trivial) ?_
  rfl

set_option maxRecDepth 20000 in
set_option maxHeartbeats 8000000 in
theorem access_phonesErr_ok (N : Nat) (n : Int) (r : Int) (hrun : access_phonesErr N n = some r) : CallOK Tryz.prog 78 [(I n)] (.d (I r)) [] := by
 refine CallOK.of_PW Tryz.func78 rfl (by rw [Tryz.results78]) Tryz.ntmps78 Tryz.call78 ?_
 change PW _ _ _ _ _
 try simp only [go_sem, ↓reduceIte, Nat.reduceEqDiff, Nat.reduceLT, Nat.reduceLeDiff, Nat.reduceAdd, Nat.reduceMul, Nat.reduceSub, Nat.reduceBEq]
 unfold access_phonesErr at hrun
 refine PW.seq ?_
 refine PW.regionK fun K hK => ?_
 refine OW.run [0] ?_
 simp (config := { maxSteps := 2000000 }) only [go_sem, ↓reduceIte, Nat.reduceEqDiff, Nat.reduceLT, Nat.reduceLeDiff, Nat.reduceAdd, Nat.reduceMul, Nat.reduceSub, Nat.reduceBEq, Int.reduceToNat, and_assoc, sw0]
 refine OW.nil (hK _ ?_)
 clear hK K
 change PW _ _ _ _ _
 refine PW.seq ?_
 obtain ⟨x1, e1, hrun⟩ := bnd_some hrun
 obtain ⟨x2, e2, hrun⟩ := bnd_some hrun
 obtain ⟨x3, e3, hrun⟩ := bnd_some hrun
 refine PW.regionK fun K hK => ?_
 refine OW.run [2] ?_
 simp (config := { maxSteps := 2000000 }) only [go_sem, ↓reduceIte, Nat.reduceEqDiff, Nat.reduceLT, Nat.reduceLeDiff, Nat.reduceAdd, Nat.reduceMul, Nat.reduceSub, Nat.reduceBEq, Int.reduceToNat, and_assoc, sw0]
 refine OW.call' 4 rfl rfl rfl (by ((simp only [go_sem, List.toList_toArray, ↓reduceIte, Nat.reduceEqDiff, Nat.reduceLT, Nat.reduceBEq]); exact rfl)) ?_ (access_unless_ok N _ _ _ e1) ?_ ?_ ?_ ?_
 · rfl
 · exact okD_all rfl
 · exact .inl rfl
 · (simp only [go_sem, Nat.reduceLT])
 refine OW.run [2] ?_
 simp (config := { maxSteps := 2000000 }) only [go_sem, ↓reduceIte, Nat.reduceEqDiff, Nat.reduceLT, Nat.reduceLeDiff, Nat.reduceAdd, Nat.reduceMul, Nat.reduceSub, Nat.reduceBEq, Int.reduceToNat, and_assoc, sw0]
 refine OW.call' 4 rfl rfl rfl (by ((simp only [go_sem, List.toList_toArray, ↓reduceIte, Nat.reduceEqDiff, Nat.reduceLT, Nat.reduceBEq]); exact rfl)) ?_ (access_unless_ok N _ _ _ e2) ?_ ?_ ?_ ?_
 · rfl
 · exact okD_all rfl
 · exact .inl rfl
 · (simp only [go_sem, Nat.reduceLT])
 refine OW.run [2] ?_
 simp (config := { maxSteps := 2000000 }) only [go_sem, ↓reduceIte, Nat.reduceEqDiff, Nat.reduceLT, Nat.reduceLeDiff, Nat.reduceAdd, Nat.reduceMul, Nat.reduceSub, Nat.reduceBEq, Int.reduceToNat, and_assoc, sw0]
 refine OW.call' 4 rfl rfl rfl (by ((simp only [go_sem, List.toList_toArray, ↓reduceIte, Nat.reduceEqDiff, Nat.reduceLT, Nat.reduceBEq]); exact rfl)) ?_ (access_first_ok N _ _ e3) ?_ ?_ ?_ ?_
 · rfl
 · (refine okAll_intro ?_; (simp only [go_sem, sw2, List.length_set, List.length_replicate, and_true, true_and, Nat.le_refl, ↓reduceIte, Nat.reduceEqDiff, Nat.reduceLT, Nat.reduceLeDiff, Nat.reduceAdd, Nat.reduceMul, Nat.reduceSub, Nat.reduceBEq]; simp only [seg, go_sem, sw2, List.length_set, List.length_replicate, and_true, true_and, Nat.le_refl, ↓reduceIte, Nat.reduceEqDiff, Nat.reduceLT, Nat.reduceLeDiff, Nat.reduceAdd, Nat.reduceMul, Nat.reduceSub, Nat.reduceBEq]; done))
 · exact .inr ⟨rfl, rfl⟩
 · (simp only [go_sem, Nat.reduceLT])
 refine OW.run [2] ?_
 simp (config := { maxSteps := 2000000 }) only [go_sem, ↓reduceIte, Nat.reduceEqDiff, Nat.reduceLT, Nat.reduceLeDiff, Nat.reduceAdd, Nat.reduceMul, Nat.reduceSub, Nat.reduceBEq, Int.reduceToNat, and_assoc, sw0]
 refine OW.nil (hK _ ?_)
 clear hK K
 change PW _ _ _ _ _
 refine PW.ret ?_
 change PW.Ends _ _ _ _ _ _
 refine PW.Ends.intro (.inr rfl) ?_
 simp (config := { maxSteps := 2000000 }) only [go_sem, ↓reduceIte, Nat.reduceEqDiff, Nat.reduceLT, Nat.reduceLeDiff, Nat.reduceAdd, Nat.reduceMul, Nat.reduceSub, Nat.reduceBEq, Int.reduceToNat, and_assoc, sw0]
 obtain rfl := Option.some.inj hrun
 refine RetOK.data' 4 (by exact trivial) ?_
 rfl

set_option maxRecDepth 20000 in
set_option maxHeartbeats 8000000 in
theorem access_isDraw_ok (N : Nat) (n : Int) (r : Bool) (hrun : access_isDraw N n = some r) : CallOK Tryz.prog 119 [(I n)] (.d (Bo r)) [] := by
 refine CallOK.of_PW Tryz.func119 rfl (by rw [Tryz.results119]) Tryz.ntmps119 Tryz.call119 ?_
 change PW _ _ _ _ _
 try simp only [go_sem, ↓reduceIte, Nat.reduceEqDiff, Nat.reduceLT, Nat.reduceLeDiff, Nat.reduceAdd, Nat.reduceMul, Nat.reduceSub, Nat.reduceBEq]
 unfold access_isDraw at hrun
 refine PW.seq ?_
 refine PW.regionK fun K hK => ?_
 refine OW.run [0] ?_
 simp (config := { maxSteps := 2000000 }) only [go_sem, ↓reduceIte, Nat.reduceEqDiff, Nat.reduceLT, Nat.reduceLeDiff, Nat.reduceAdd, Nat.reduceMul, Nat.reduceSub, Nat.reduceBEq, Int.reduceToNat, and_assoc, sw0]
 refine OW.nil (hK _ ?_)
 clear hK K
 change PW _ _ _ _ _
 refine PW.seq ?_
 obtain ⟨x1, e1, hrun⟩ := bnd_some hrun
 refine PW.regionK fun K hK => ?_
 refine OW.run [2] ?_
 simp (config := { maxSteps := 2000000 }) only [go_sem, ↓reduceIte, Nat.reduceEqDiff, Nat.reduceLT, Nat.reduceLeDiff, Nat.reduceAdd, Nat.reduceMul, Nat.reduceSub, Nat.reduceBEq, Int.reduceToNat, and_assoc, sw0]
 refine OW.call' 4 rfl rfl rfl (by ((simp only [go_sem, List.toList_toArray, ↓reduceIte, Nat.reduceEqDiff, Nat.reduceLT, Nat.reduceBEq]); exact rfl)) ?_ (access_within_ok N _ _ _ _ e1) ?_ ?_ ?_ ?_
 · rfl
 · exact okD_all rfl
 · exact .inl rfl
 · (simp only [go_sem, Nat.reduceLT])
 refine OW.run [2] ?_
 simp (config := { maxSteps := 2000000 }) only [go_sem, ↓reduceIte, Nat.reduceEqDiff, Nat.reduceLT, Nat.reduceLeDiff, Nat.reduceAdd, Nat.reduceMul, Nat.reduceSub, Nat.reduceBEq, Int.reduceToNat, and_assoc, sw0]
 refine OW.nil (hK _ ?_)
 clear hK K
 change PW _ _ _ _ _
 refine PW.ret ?_
 change PW.Ends _ _ _ _ _ _
 refine PW.Ends.intro (.inr rfl) ?_
 simp (config := { maxSteps := 2000000 }) only [go_sem, ↓reduceIte, Nat.reduceEqDiff, Nat.reduceLT, Nat.reduceLeDiff, Nat.reduceAdd, Nat.reduceMul, Nat.reduceSub, Nat.reduceBEq, Int.reduceToNat, and_assoc, sw0]
 obtain rfl := Option.some.inj hrun
 refine RetOK.data' 4 (by exact trivial) ?_
 rfl

set_option maxRecDepth 20000 in
set_option maxHeartbeats 8000000 in
theorem ref07_CheckRules_ok (N : Nat) (r_Preambles : Int) (r_Every : Int) (r_Window : Int) (r_Wait : Int) (r_Tries : Int) (r_Backoff : Int) (r_Identities : Int) (r : Int) (hrun : ref07_CheckRules N r_Preambles r_Every r_Window r_Wait r_Tries r_Backoff r_Identities = some r) : CallOK Tryz.prog 19 [(.agg [(I r_Preambles), (I r_Every), (I r_Window), (I r_Wait), (I r_Tries), (I r_Backoff), (I r_Identities)])] (.d (I r)) [] := by
 refine CallOK.of_PW Tryz.func19 rfl (by rw [Tryz.results19]) Tryz.ntmps19 Tryz.call19 ?_
 change PW _ _ _ _ _
 try simp only [go_sem, ↓reduceIte, Nat.reduceEqDiff, Nat.reduceLT, Nat.reduceLeDiff, Nat.reduceAdd, Nat.reduceMul, Nat.reduceSub, Nat.reduceBEq]
 unfold ref07_CheckRules at hrun
 refine PW.seq ?_
 refine PW.regionK fun K hK => ?_
 refine OW.run [1] ?_
 simp (config := { maxSteps := 2000000 }) only [go_sem, ↓reduceIte, Nat.reduceEqDiff, Nat.reduceLT, Nat.reduceLeDiff, Nat.reduceAdd, Nat.reduceMul, Nat.reduceSub, Nat.reduceBEq, Int.reduceToNat, and_assoc, sw0]
 refine OW.nil (hK _ ?_)
 clear hK K
 change PW _ _ _ _ _
 refine PW.seq ?_
 refine PW.seq ?_
 obtain ⟨x1, e1, hrun⟩ := bnd_some hrun
 obtain ⟨x2, e2, hrun⟩ := bnd_some hrun
 obtain ⟨x3, e3, hrun⟩ := bnd_some hrun
 obtain ⟨x4, e4, hrun⟩ := bnd_some hrun
 obtain ⟨x5, e5, hrun⟩ := bnd_some hrun
 obtain ⟨x6, e6, hrun⟩ := bnd_some hrun
 obtain ⟨x7, e7, hrun⟩ := bnd_some hrun
 refine PW.regionK fun K hK => ?_
 refine OW.run [42] ?_
 simp (config := { maxSteps := 2000000 }) only [go_sem, ↓reduceIte, Nat.reduceEqDiff, Nat.reduceLT, Nat.reduceLeDiff, Nat.reduceAdd, Nat.reduceMul, Nat.reduceSub, Nat.reduceBEq, Int.reduceToNat, and_assoc, sw0]
 refine And.intro (by omega) ?_
 refine OW.call' 4 rfl rfl rfl (by ((simp only [go_sem, List.toList_toArray, ↓reduceIte, Nat.reduceEqDiff, Nat.reduceLT, Nat.reduceBEq]); exact rfl)) ?_ (base_Within_ok N _ _ _ _ e1) ?_ ?_ ?_ ?_
 · rfl
 · exact okD_all rfl
 · exact .inl rfl
 · (simp only [go_sem, Nat.reduceLT])
 refine OW.run [42] ?_
 simp (config := { maxSteps := 2000000 }) only [go_sem, ↓reduceIte, Nat.reduceEqDiff, Nat.reduceLT, Nat.reduceLeDiff, Nat.reduceAdd, Nat.reduceMul, Nat.reduceSub, Nat.reduceBEq, Int.reduceToNat, and_assoc, sw0]
 refine And.intro (by omega) ?_
 refine OW.callG' (g := x1) 4 rfl rfl ?_ (fun hg => by first | rfl | (simp only [go_sem, ↓reduceIte]; rfl)) (fun hg => by ((simp only [go_sem, List.toList_toArray, ↓reduceIte, Nat.reduceEqDiff, Nat.reduceLT, Nat.reduceBEq]); exact rfl)) (fun hg => ?_) (fun hg => (base_Within_ok N _ _ _ _ (grd_t hg e2))) ?_ ?_ ?_ ?_
 · (simp only [go_sem, ↓reduceIte, Nat.reduceEqDiff, Nat.reduceLT, Nat.reduceLeDiff, Nat.reduceAdd, Nat.reduceMul, Nat.reduceSub, Nat.reduceBEq]; done)
 · rfl
 · exact okD_all rfl
 · exact .inl rfl
 · (simp only [go_sem, Nat.reduceLT])
 refine OW.run [42] ?_
 simp (config := { maxSteps := 2000000 }) only [go_sem, ↓reduceIte, Nat.reduceEqDiff, Nat.reduceLT, Nat.reduceLeDiff, Nat.reduceAdd, Nat.reduceMul, Nat.reduceSub, Nat.reduceBEq, Int.reduceToNat, and_assoc, sw0]
 refine And.intro (by omega) ?_
 refine OW.callG' (g := (!((!x1) || (!x2)))) 4 rfl rfl ?_ (fun hg => by first | rfl | (simp only [go_sem, ↓reduceIte]; rfl)) (fun hg => by ((simp only [go_sem, List.toList_toArray, ↓reduceIte, Nat.reduceEqDiff, Nat.reduceLT, Nat.reduceBEq]); exact rfl)) (fun hg => ?_) (fun hg => (base_Within_ok N _ _ _ _ (grd_t hg e3))) ?_ ?_ ?_ ?_
 · (simp only [go_sem, ↓reduceIte, Nat.reduceEqDiff, Nat.reduceLT, Nat.reduceLeDiff, Nat.reduceAdd, Nat.reduceMul, Nat.reduceSub, Nat.reduceBEq]; done)
 · rfl
 · exact okD_all rfl
 · exact .inl rfl
 · (simp only [go_sem, Nat.reduceLT])
 refine OW.run [42] ?_
 simp (config := { maxSteps := 2000000 }) only [go_sem, ↓reduceIte, Nat.reduceEqDiff, Nat.reduceLT, Nat.reduceLeDiff, Nat.reduceAdd, Nat.reduceMul, Nat.reduceSub, Nat.reduceBEq, Int.reduceToNat, and_assoc, sw0]
 refine And.intro (by omega) ?_
 refine OW.callG' (g := (!(((!x1) || (!x2)) || (!x3)))) 4 rfl rfl ?_ (fun hg => by first | rfl | (simp only [go_sem, ↓reduceIte]; rfl)) (fun hg => by ((simp only [go_sem, List.toList_toArray, ↓reduceIte, Nat.reduceEqDiff, Nat.reduceLT, Nat.reduceBEq]); exact rfl)) (fun hg => ?_) (fun hg => (base_Within_ok N _ _ _ _ (grd_t hg e4))) ?_ ?_ ?_ ?_
 · (simp only [go_sem, ↓reduceIte, Nat.reduceEqDiff, Nat.reduceLT, Nat.reduceLeDiff, Nat.reduceAdd, Nat.reduceMul, Nat.reduceSub, Nat.reduceBEq]; done)
 · rfl
 · exact okD_all rfl
 · exact .inl rfl
 · (simp only [go_sem, Nat.reduceLT])
 refine OW.run [42] ?_
 simp (config := { maxSteps := 2000000 }) only [go_sem, ↓reduceIte, Nat.reduceEqDiff, Nat.reduceLT, Nat.reduceLeDiff, Nat.reduceAdd, Nat.reduceMul, Nat.reduceSub, Nat.reduceBEq, Int.reduceToNat, and_assoc, sw0]
 refine And.intro (by omega) ?_
 refine OW.callG' (g := (!((((!x1) || (!x2)) || (!x3)) || (!x4)))) 4 rfl rfl ?_ (fun hg => by first | rfl | (simp only [go_sem, ↓reduceIte]; rfl)) (fun hg => by ((simp only [go_sem, List.toList_toArray, ↓reduceIte, Nat.reduceEqDiff, Nat.reduceLT, Nat.reduceBEq]); exact rfl)) (fun hg => ?_) (fun hg => (base_Within_ok N _ _ _ _ (grd_t hg e5))) ?_ ?_ ?_ ?_
 · (simp only [go_sem, ↓reduceIte, Nat.reduceEqDiff, Nat.reduceLT, Nat.reduceLeDiff, Nat.reduceAdd, Nat.reduceMul, Nat.reduceSub, Nat.reduceBEq]; done)
 · rfl
 · exact okD_all rfl
 · exact .inl rfl
 · (simp only [go_sem, Nat.reduceLT])
 refine OW.run [42] ?_
 simp (config := { maxSteps := 2000000 }) only [go_sem, ↓reduceIte, Nat.reduceEqDiff, Nat.reduceLT, Nat.reduceLeDiff, Nat.reduceAdd, Nat.reduceMul, Nat.reduceSub, Nat.reduceBEq, Int.reduceToNat, and_assoc, sw0]
 refine And.intro (by omega) ?_
 refine OW.callG' (g := (!(((((!x1) || (!x2)) || (!x3)) || (!x4)) || (!x5)))) 4 rfl rfl ?_ (fun hg => by first | rfl | (simp only [go_sem, ↓reduceIte]; rfl)) (fun hg => by ((simp only [go_sem, List.toList_toArray, ↓reduceIte, Nat.reduceEqDiff, Nat.reduceLT, Nat.reduceBEq]); exact rfl)) (fun hg => ?_) (fun hg => (base_Within_ok N _ _ _ _ (grd_t hg e6))) ?_ ?_ ?_ ?_
 · (simp only [go_sem, ↓reduceIte, Nat.reduceEqDiff, Nat.reduceLT, Nat.reduceLeDiff, Nat.reduceAdd, Nat.reduceMul, Nat.reduceSub, Nat.reduceBEq]; done)
 · rfl
 · exact okD_all rfl
 · exact .inl rfl
 · (simp only [go_sem, Nat.reduceLT])
 refine OW.run [42] ?_
 simp (config := { maxSteps := 2000000 }) only [go_sem, ↓reduceIte, Nat.reduceEqDiff, Nat.reduceLT, Nat.reduceLeDiff, Nat.reduceAdd, Nat.reduceMul, Nat.reduceSub, Nat.reduceBEq, Int.reduceToNat, and_assoc, sw0]
 refine And.intro (by omega) ?_
 refine OW.callG' (g := (!((((((!x1) || (!x2)) || (!x3)) || (!x4)) || (!x5)) || (!x6)))) 4 rfl rfl ?_ (fun hg => by first | rfl | (simp only [go_sem, ↓reduceIte]; rfl)) (fun hg => by ((simp only [go_sem, List.toList_toArray, ↓reduceIte, Nat.reduceEqDiff, Nat.reduceLT, Nat.reduceBEq]); exact rfl)) (fun hg => ?_) (fun hg => (base_Within_ok N _ _ _ _ (grd_t hg e7))) ?_ ?_ ?_ ?_
 · (simp only [go_sem, ↓reduceIte, Nat.reduceEqDiff, Nat.reduceLT, Nat.reduceLeDiff, Nat.reduceAdd, Nat.reduceMul, Nat.reduceSub, Nat.reduceBEq]; done)
 · rfl
 · exact okD_all rfl
 · exact .inl rfl
 · (simp only [go_sem, Nat.reduceLT])
 refine OW.run [42] ?_
 simp (config := { maxSteps := 2000000 }) only [go_sem, ↓reduceIte, Nat.reduceEqDiff, Nat.reduceLT, Nat.reduceLeDiff, Nat.reduceAdd, Nat.reduceMul, Nat.reduceSub, Nat.reduceBEq, Int.reduceToNat, and_assoc, sw0]
 refine OW.nil (hK _ ?_)
 clear hK K
 change PW _ _ _ _ _
 refine PW.cond rfl (fun h1 => ?_) (fun h1 => ?_)
 ·
  replace hrun := br_t h1 hrun
  refine PW.seq ?_
  refine PW.regionK fun K hK => ?_
  refine OW.run [2] ?_
  simp (config := { maxSteps := 2000000 }) only [go_sem, ↓reduceIte, Nat.reduceEqDiff, Nat.reduceLT, Nat.reduceLeDiff, Nat.reduceAdd, Nat.reduceMul, Nat.reduceSub, Nat.reduceBEq, Int.reduceToNat, and_assoc, sw0]
  refine OW.nil (hK _ ?_)
  clear hK K
  change PW _ _ _ _ _
  refine PW.ret ?_
  change PW.Ends _ _ _ _ _ _
  refine PW.Ends.intro (.inr rfl) ?_
  simp (config := { maxSteps := 2000000 }) only [go_sem, ↓reduceIte, Nat.reduceEqDiff, Nat.reduceLT, Nat.reduceLeDiff, Nat.reduceAdd, Nat.reduceMul, Nat.reduceSub, Nat.reduceBEq, Int.reduceToNat, and_assoc, sw0]
  obtain rfl := Option.some.inj hrun
  refine RetOK.data' 4 (by exact trivial) ?_
  rfl
 ·
  replace hrun := br_f h1 hrun
  refine PW.skip ?_
  change PW _ _ _ _ _
  refine PW.seq ?_
  refine PW.regionK fun K hK => ?_
  refine OW.run [2] ?_
  simp (config := { maxSteps := 2000000 }) only [go_sem, ↓reduceIte, Nat.reduceEqDiff, Nat.reduceLT, Nat.reduceLeDiff, Nat.reduceAdd, Nat.reduceMul, Nat.reduceSub, Nat.reduceBEq, Int.reduceToNat, and_assoc, sw0]
  refine OW.nil (hK _ ?_)
  clear hK K
  change PW _ _ _ _ _
  refine PW.ret ?_
  change PW.Ends _ _ _ _ _ _
  refine PW.Ends.intro (.inr rfl) ?_
  simp (config := { maxSteps := 2000000 }) only [go_sem, ↓reduceIte, Nat.reduceEqDiff, Nat.reduceLT, Nat.reduceLeDiff, Nat.reduceAdd, Nat.reduceMul, Nat.reduceSub, Nat.reduceBEq, Int.reduceToNat, and_assoc, sw0]
  obtain rfl := Option.some.inj hrun
  refine RetOK.data' 4 (by exact trivial) ?_
  rfl

set_option maxRecDepth 20000 in
set_option maxHeartbeats 8000000 in
theorem ref07_isDraw_ok (N : Nat) (n : Int) (r : Bool) (hrun : ref07_isDraw N n = some r) : CallOK Tryz.prog 81 [(I n)] (.d (Bo r)) [] := by
 refine CallOK.of_PW Tryz.func81 rfl (by rw [Tryz.results81]) Tryz.ntmps81 Tryz.call81 ?_
 change PW _ _ _ _ _
 try simp only [go_sem, ↓reduceIte, Nat.reduceEqDiff, Nat.reduceLT, Nat.reduceLeDiff, Nat.reduceAdd, Nat.reduceMul, Nat.reduceSub, Nat.reduceBEq]
 unfold ref07_isDraw at hrun
 refine PW.seq ?_
 refine PW.regionK fun K hK => ?_
 refine OW.run [0] ?_
 simp (config := { maxSteps := 2000000 }) only [go_sem, ↓reduceIte, Nat.reduceEqDiff, Nat.reduceLT, Nat.reduceLeDiff, Nat.reduceAdd, Nat.reduceMul, Nat.reduceSub, Nat.reduceBEq, Int.reduceToNat, and_assoc, sw0]
 refine OW.nil (hK _ ?_)
 clear hK K
 change PW _ _ _ _ _
 refine PW.seq ?_
 obtain ⟨x1, e1, hrun⟩ := bnd_some hrun
 refine PW.regionK fun K hK => ?_
 refine OW.run [2] ?_
 simp (config := { maxSteps := 2000000 }) only [go_sem, ↓reduceIte, Nat.reduceEqDiff, Nat.reduceLT, Nat.reduceLeDiff, Nat.reduceAdd, Nat.reduceMul, Nat.reduceSub, Nat.reduceBEq, Int.reduceToNat, and_assoc, sw0]
 refine OW.call' 4 rfl rfl rfl (by ((simp only [go_sem, List.toList_toArray, ↓reduceIte, Nat.reduceEqDiff, Nat.reduceLT, Nat.reduceBEq]); exact rfl)) ?_ (base_Within_ok N _ _ _ _ e1) ?_ ?_ ?_ ?_
 · rfl
 · exact okD_all rfl
 · exact .inl rfl
 · (simp only [go_sem, Nat.reduceLT])
 refine OW.run [2] ?_
 simp (config := { maxSteps := 2000000 }) only [go_sem, ↓reduceIte, Nat.reduceEqDiff, Nat.reduceLT, Nat.reduceLeDiff, Nat.reduceAdd, Nat.reduceMul, Nat.reduceSub, Nat.reduceBEq, Int.reduceToNat, and_assoc, sw0]
 refine OW.nil (hK _ ?_)
 clear hK K
 change PW _ _ _ _ _
 refine PW.ret ?_
 change PW.Ends _ _ _ _ _ _
 refine PW.Ends.intro (.inr rfl) ?_
 simp (config := { maxSteps := 2000000 }) only [go_sem, ↓reduceIte, Nat.reduceEqDiff, Nat.reduceLT, Nat.reduceLeDiff, Nat.reduceAdd, Nat.reduceMul, Nat.reduceSub, Nat.reduceBEq, Int.reduceToNat, and_assoc, sw0]
 obtain rfl := Option.some.inj hrun
 refine RetOK.data' 4 (by exact trivial) ?_
 rfl

set_option maxRecDepth 20000 in
set_option maxHeartbeats 8000000 in
theorem ref07_plain_ok (N : Nat) (stage : Int) (draw : Int) (r : Int × Int × Int × Int × Int × Int × Int) (hrun : ref07_plain N stage draw = some r) : CallOK Tryz.prog 82 [(I stage), (I draw)] (.d (.agg [(I r.1), (I r.2.1), (I r.2.2.1), (I r.2.2.2.1), (I r.2.2.2.2.1), (I r.2.2.2.2.2.1), (I r.2.2.2.2.2.2)])) [] := by
 refine CallOK.of_PW Tryz.func82 rfl (by rw [Tryz.results82]) Tryz.ntmps82 Tryz.call82 ?_
 change PW _ _ _ _ _
 try simp only [go_sem, ↓reduceIte, Nat.reduceEqDiff, Nat.reduceLT, Nat.reduceLeDiff, Nat.reduceAdd, Nat.reduceMul, Nat.reduceSub, Nat.reduceBEq]
 unfold ref07_plain at hrun
 refine PW.seq ?_
 refine PW.regionK fun K hK => ?_
 refine OW.run [0, 1, 4] ?_
 simp (config := { maxSteps := 2000000 }) only [go_sem, ↓reduceIte, Nat.reduceEqDiff, Nat.reduceLT, Nat.reduceLeDiff, Nat.reduceAdd, Nat.reduceMul, Nat.reduceSub, Nat.reduceBEq, Int.reduceToNat, and_assoc, sw0]
 refine OW.nil (hK _ ?_)
 clear hK K
 change PW _ _ _ _ _
 refine PW.seq ?_
 refine PW.regionK fun K hK => ?_
 refine OW.run [4] ?_
 simp (config := { maxSteps := 2000000 }) only [go_sem, ↓reduceIte, Nat.reduceEqDiff, Nat.reduceLT, Nat.reduceLeDiff, Nat.reduceAdd, Nat.reduceMul, Nat.reduceSub, Nat.reduceBEq, Int.reduceToNat, and_assoc, sw0]
 refine OW.nil (hK _ ?_)
 clear hK K
 change PW _ _ _ _ _
 refine PW.ret ?_
 change PW.Ends _ _ _ _ _ _
 refine PW.Ends.intro (.inr rfl) ?_
 simp (config := { maxSteps := 2000000 }) only [go_sem, ↓reduceIte, Nat.reduceEqDiff, Nat.reduceLT, Nat.reduceLeDiff, Nat.reduceAdd, Nat.reduceMul, Nat.reduceSub, Nat.reduceBEq, Int.reduceToNat, and_assoc, sw0]
 obtain rfl := Option.some.inj hrun
 refine RetOK.data' 4 (by exact okD_all rfl) ?_
 rfl

set_option maxRecDepth 20000 in
set_option maxHeartbeats 8000000 in
theorem law07_Few_ok (N : Nat) (s_At : Int) (s_Phones : List (Int × Int × Int × Int × Int × Int × Int)) (r : Bool) (hrun : law07_Few N s_At s_Phones = some r) : CallOK Tryz.prog 27 [(.agg [(I s_At), (.list s_Phones.length (s_Phones.flatMap (fun (x : Int × Int × Int × Int × Int × Int × Int) => [(I x.1), (I x.2.1), (I x.2.2.1), (I x.2.2.2.1), (I x.2.2.2.2.1), (I x.2.2.2.2.2.1), (I x.2.2.2.2.2.2)])))])] (.d (Bo r)) [] := by
 refine CallOK.of_PW Tryz.func27 rfl (by rw [Tryz.results27]) Tryz.ntmps27 Tryz.call27 ?_
 change PW _ _ _ _ _
 try simp only [go_sem, ↓reduceIte, Nat.reduceEqDiff, Nat.reduceLT, Nat.reduceLeDiff, Nat.reduceAdd, Nat.reduceMul, Nat.reduceSub, Nat.reduceBEq]
 unfold law07_Few at hrun
 refine PW.seq ?_
 refine PW.regionK fun K hK => ?_
 refine OW.run [1] ?_
 simp (config := { maxSteps := 2000000 }) only [go_sem, ↓reduceIte, Nat.reduceEqDiff, Nat.reduceLT, Nat.reduceLeDiff, Nat.reduceAdd, Nat.reduceMul, Nat.reduceSub, Nat.reduceBEq, Int.reduceToNat, and_assoc, sw0]
 refine OW.nil (hK _ ?_)
 clear hK K
 change PW _ _ _ _ _
 refine PW.seq ?_
 refine PW.regionK fun K hK => ?_
 refine OW.run [2] ?_
 simp (config := { maxSteps := 2000000 }) only [go_sem, ↓reduceIte, Nat.reduceEqDiff, Nat.reduceLT, Nat.reduceLeDiff, Nat.reduceAdd, Nat.reduceMul, Nat.reduceSub, Nat.reduceBEq, Int.reduceToNat, and_assoc, sw0]
 refine And.intro (by omega) ?_
 refine OW.nil (hK _ ?_)
 clear hK K
 change PW _ _ _ _ _
 refine PW.ret ?_
 change PW.Ends _ _ _ _ _ _
 refine PW.Ends.intro (.inr rfl) ?_
 simp (config := { maxSteps := 2000000 }) only [go_sem, ↓reduceIte, Nat.reduceEqDiff, Nat.reduceLT, Nat.reduceLeDiff, Nat.reduceAdd, Nat.reduceMul, Nat.reduceSub, Nat.reduceBEq, Int.reduceToNat, and_assoc, sw0]
 obtain rfl := Option.some.inj hrun
 refine RetOK.data' 4 (by exact trivial) ?_
 rfl

end Go.Proofs.YtbndgoeahoadlaaGreatDoor
