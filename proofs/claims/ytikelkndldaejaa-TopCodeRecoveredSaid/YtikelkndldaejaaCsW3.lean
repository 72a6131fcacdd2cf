import Derived.Test.YtikelkndldaejaaCsW2
set_option linter.all false
namespace Go.Proofs.Ytikelkndldaejaa
open Go.PW Go.Sh
set_option maxRecDepth 20000 in
set_option maxHeartbeats 8000000 in
theorem ref02_sizedErr_ok (N : Nat) (l : List Int) (count : Int) (size : Int) (r : Int) (hrun : ref02_sizedErr N l count size = some r) : CallOK Try.prog 113 [(L l), (I count), (I size)] (.d (I r)) [] := by
  refine CallOK.of_PW Try.func113 rfl (by rw [Try.results113]) Try.ntmps113 Try.call113 ?_
  change PW _ _ _ _ _
  try simp only [go_sem, ↓reduceIte, Nat.reduceEqDiff, Nat.reduceLT, Nat.reduceLeDiff, Nat.reduceAdd, Nat.reduceMul, Nat.reduceSub, Nat.reduceBEq]
  unfold ref02_sizedErr at hrun
  refine PW.seq ?_
  refine PW.regionK fun K hK => ?_
  refine OW.run [0, 1, 2] ?_
  simp (config := { maxSteps := 2000000 }) only [go_sem, ↓reduceIte, Nat.reduceEqDiff, Nat.reduceLT, Nat.reduceLeDiff, Nat.reduceAdd, Nat.reduceMul, Nat.reduceSub, Nat.reduceBEq, Int.reduceToNat, and_assoc, sw0]
  refine OW.nil (hK _ ?_)
  clear hK K
  change PW _ _ _ _ _
  refine PW.seq ?_
  refine PW.seq ?_
  refine PW.regionK fun K hK => ?_
  refine OW.run [0, 1, 2, 10] ?_
  simp (config := { maxSteps := 2000000 }) only [go_sem, ↓reduceIte, Nat.reduceEqDiff, Nat.reduceLT, Nat.reduceLeDiff, Nat.reduceAdd, Nat.reduceMul, Nat.reduceSub, Nat.reduceBEq, Int.reduceToNat, and_assoc, sw0]
  refine OW.nil (hK _ ?_)
  clear hK K
  change PW _ _ _ _ _
  refine PW.cond rfl (fun h1 => ?_) (fun h1 => ?_)
  · replace hrun := br_t h1 hrun
    refine PW.seq ?_
    refine PW.regionK fun K hK => ?_
    refine OW.run [6] ?_
    simp (config := { maxSteps := 2000000 }) only [go_sem, ↓reduceIte, Nat.reduceEqDiff, Nat.reduceLT, Nat.reduceLeDiff, Nat.reduceAdd, Nat.reduceMul, Nat.reduceSub, Nat.reduceBEq, Int.reduceToNat, and_assoc, sw0]
    refine OW.nil (hK _ ?_)
    clear hK K
    change PW _ _ _ _ _
    refine PW.ret ?_
    change PW.Ends _ _ _ _ _ _
    refine PW.Ends.intro (.inr rfl) ?_
    simp (config := { maxSteps := 2000000 }) only [go_sem, ↓reduceIte, Nat.reduceEqDiff, Nat.reduceLT, Nat.reduceLeDiff, Nat.reduceAdd, Nat.reduceMul, Nat.reduceSub, Nat.reduceBEq, Int.reduceToNat, and_assoc, sw0]
    obtain rfl := Option.some.inj hrun
    refine RetOK.data' 4 (by exact trivial) ?_
    rfl
  · replace hrun := br_f h1 hrun
    refine PW.skip ?_
    change PW _ _ _ _ _
    refine PW.seq ?_
    refine PW.seq ?_
    refine PW.regionK fun K hK => ?_
    refine OW.run [0, 2, 14] ?_
    simp (config := { maxSteps := 2000000 }) only [go_sem, ↓reduceIte, Nat.reduceEqDiff, Nat.reduceLT, Nat.reduceLeDiff, Nat.reduceAdd, Nat.reduceMul, Nat.reduceSub, Nat.reduceBEq, Int.reduceToNat, and_assoc, sw0]
    refine OW.nil (hK _ ?_)
    clear hK K
    change PW _ _ _ _ _
    refine PW.cond rfl (fun h2 => ?_) (fun h2 => ?_)
    · replace hrun := br_t h2 hrun
      refine PW.seq ?_
      refine PW.regionK fun K hK => ?_
      refine OW.run [6] ?_
      simp (config := { maxSteps := 2000000 }) only [go_sem, ↓reduceIte, Nat.reduceEqDiff, Nat.reduceLT, Nat.reduceLeDiff, Nat.reduceAdd, Nat.reduceMul, Nat.reduceSub, Nat.reduceBEq, Int.reduceToNat, and_assoc, sw0]
      refine OW.nil (hK _ ?_)
      clear hK K
      change PW _ _ _ _ _
      refine PW.ret ?_
      change PW.Ends _ _ _ _ _ _
      refine PW.Ends.intro (.inr rfl) ?_
      simp (config := { maxSteps := 2000000 }) only [go_sem, ↓reduceIte, Nat.reduceEqDiff, Nat.reduceLT, Nat.reduceLeDiff, Nat.reduceAdd, Nat.reduceMul, Nat.reduceSub, Nat.reduceBEq, Int.reduceToNat, and_assoc, sw0]
      obtain rfl := Option.some.inj hrun
      refine RetOK.data' 4 (by exact trivial) ?_
      rfl
    · replace hrun := br_f h2 hrun
      refine PW.skip ?_
      change PW _ _ _ _ _
      refine PW.joinS (τ := Unit) [] 0 (fun _ => []) (fun _ => []) _ _ r (by exact Nat.le_refl _) hrun ?_ ?_
      · intro K_ hrun N3 hN3
        refine PW.seq ?_
        refine PW.regionK fun K hK => ?_
        refine OW.run [0, 2, 7] ?_
        simp (config := { maxSteps := 2000000 }) only [go_sem, ↓reduceIte, Nat.reduceEqDiff, Nat.reduceLT, Nat.reduceLeDiff, Nat.reduceAdd, Nat.reduceMul, Nat.reduceSub, Nat.reduceBEq, Int.reduceToNat, and_assoc, sw0]
        refine OW.nil (hK _ ?_)
        clear hK K
        change PW _ _ _ _ _
        refine PW.block ?_
        refine PW.loopS (σ := Int) [0, 2, 7] 0 (fun i => [(7, .d (I i))]) (fun i => []) (ref02_sizedErr.b1 N l size K_) r N (0 : Int) (by exact Nat.le_refl _) hrun (by (simp only [Env.frzL, Env.frz, frzOb, V.frz, V.frz.frzs, asD, map_asD, sw1, go_sem, ↓reduceIte, Nat.reduceEqDiff, Nat.reduceLT, Nat.reduceLeDiff, Nat.reduceAdd, Nat.reduceMul, Nat.reduceSub, Nat.reduceBEq]; done)) ?_
        rintro n i hrun N4 hN4
        unfold ref02_sizedErr.b1 at hrun
        try simp only [go_sem, ↓reduceIte, Nat.reduceEqDiff, Nat.reduceLT, Nat.reduceLeDiff, Nat.reduceAdd, Nat.reduceMul, Nat.reduceSub, Nat.reduceBEq]
        refine PW.seq ?_
        refine PW.seq ?_
        refine PW.regionK fun K hK => ?_
        refine OW.run [0, 2, 7, 18] ?_
        simp (config := { maxSteps := 2000000 }) only [go_sem, ↓reduceIte, Nat.reduceEqDiff, Nat.reduceLT, Nat.reduceLeDiff, Nat.reduceAdd, Nat.reduceMul, Nat.reduceSub, Nat.reduceBEq, Int.reduceToNat, and_assoc, sw0]
        refine OW.nil (hK _ ?_)
        clear hK K
        change PW _ _ _ _ _
        refine PW.cond rfl (fun h5 => ?_) (fun h5 => ?_)
        · replace hrun := br_t h5 hrun
          refine PW.skip ?_
          change PW _ _ _ _ _
          refine PW.seq ?_
          refine PW.block ?_
          refine PW.seq ?_
          obtain ⟨c6, hrun⟩ := chk_some hrun
          obtain ⟨x1, e1, hrun⟩ := bnd_some hrun
          refine PW.regionK fun K hK => ?_
          refine OW.run [0, 2, 7, 29] ?_
          simp (config := { maxSteps := 2000000 }) only [go_sem, ↓reduceIte, Nat.reduceEqDiff, Nat.reduceLT, Nat.reduceLeDiff, Nat.reduceAdd, Nat.reduceMul, Nat.reduceSub, Nat.reduceBEq, Int.reduceToNat, and_assoc, sw0]
          refine And.intro (by omega) (And.intro (by omega) (And.intro (by omega) (And.intro (by omega) ?_)))
          refine OW.call' 4 rfl rfl rfl (by ((simp only [go_sem, List.toList_toArray, ↓reduceIte, Nat.reduceEqDiff, Nat.reduceLT, Nat.reduceBEq]); exact rfl)) ?_ (base_Within_ok N _ _ _ _ e1) ?_ ?_ ?_ ?_
          · rfl
          · exact okD_all rfl
          · exact .inl rfl
          · (simp only [go_sem, Nat.reduceLT])
          refine OW.run [0, 2, 7, 29] ?_
          simp (config := { maxSteps := 2000000 }) only [go_sem, ↓reduceIte, Nat.reduceEqDiff, Nat.reduceLT, Nat.reduceLeDiff, Nat.reduceAdd, Nat.reduceMul, Nat.reduceSub, Nat.reduceBEq, Int.reduceToNat, and_assoc, sw0]
          refine OW.nil (hK _ ?_)
          clear hK K
          change PW _ _ _ _ _
          refine PW.cond rfl (fun h7 => ?_) (fun h7 => ?_)
          · replace hrun := br_t h7 hrun
            refine PW.seq ?_
            refine PW.regionK fun K hK => ?_
            refine OW.run [6] ?_
            simp (config := { maxSteps := 2000000 }) only [go_sem, ↓reduceIte, Nat.reduceEqDiff, Nat.reduceLT, Nat.reduceLeDiff, Nat.reduceAdd, Nat.reduceMul, Nat.reduceSub, Nat.reduceBEq, Int.reduceToNat, and_assoc, sw0]
            refine OW.nil (hK _ ?_)
            clear hK K
            change PW _ _ _ _ _
            refine PW.ret ?_
            change PW.Ends _ _ _ _ _ _
            refine PW.Ends.intro (.inr rfl) ?_
            simp (config := { maxSteps := 2000000 }) only [go_sem, ↓reduceIte, Nat.reduceEqDiff, Nat.reduceLT, Nat.reduceLeDiff, Nat.reduceAdd, Nat.reduceMul, Nat.reduceSub, Nat.reduceBEq, Int.reduceToNat, and_assoc, sw0]
            obtain rfl := Option.some.inj hrun
            refine RetOK.data' 4 (by exact trivial) ?_
            rfl
          · replace hrun := br_f h7 hrun
            refine PW.skip ?_
            change PW _ _ _ _ _
            refine PW.regionK fun K hK => ?_
            refine OW.run [0, 2, 7] ?_
            simp (config := { maxSteps := 2000000 }) only [go_sem, ↓reduceIte, Nat.reduceEqDiff, Nat.reduceLT, Nat.reduceLeDiff, Nat.reduceAdd, Nat.reduceMul, Nat.reduceSub, Nat.reduceBEq, Int.reduceToNat, and_assoc, sw0]
            refine OW.nil (hK _ ?_)
            clear hK K
            refine hN4 [] (w64 (i + (1 : Int))) _ hrun (by exact trivial) ?_
            (simp only [Env.frzL, Env.frz, frzOb, V.frz, V.frz.frzs, asD, map_asD, sw1, go_sem, ↓reduceIte, Nat.reduceEqDiff, Nat.reduceLT, Nat.reduceLeDiff, Nat.reduceAdd, Nat.reduceMul, Nat.reduceSub, Nat.reduceBEq]; done)
        · replace hrun := br_f h5 hrun
          refine PW.exit ?_
          refine hN3 [] () _ hrun (by exact trivial) ?_
          (simp only [Env.frzL, Env.frz, frzOb, V.frz, V.frz.frzs, asD, map_asD, sw1, go_sem, ↓reduceIte, Nat.reduceEqDiff, Nat.reduceLT, Nat.reduceLeDiff, Nat.reduceAdd, Nat.reduceMul, Nat.reduceSub, Nat.reduceBEq]; done)
      · rintro _ hrun
        try simp only [go_sem, ↓reduceIte, Nat.reduceEqDiff, Nat.reduceLT, Nat.reduceLeDiff, Nat.reduceAdd, Nat.reduceMul, Nat.reduceSub, Nat.reduceBEq]
        refine PW.seq ?_
        refine PW.regionK fun K hK => ?_
        refine OW.run [6] ?_
        simp (config := { maxSteps := 2000000 }) only [go_sem, ↓reduceIte, Nat.reduceEqDiff, Nat.reduceLT, Nat.reduceLeDiff, Nat.reduceAdd, Nat.reduceMul, Nat.reduceSub, Nat.reduceBEq, Int.reduceToNat, and_assoc, sw0]
        refine OW.nil (hK _ ?_)
        clear hK K
        change PW _ _ _ _ _
        refine PW.ret ?_
        change PW.Ends _ _ _ _ _ _
        refine PW.Ends.intro (.inr rfl) ?_
        simp (config := { maxSteps := 2000000 }) only [go_sem, ↓reduceIte, Nat.reduceEqDiff, Nat.reduceLT, Nat.reduceLeDiff, Nat.reduceAdd, Nat.reduceMul, Nat.reduceSub, Nat.reduceBEq, Int.reduceToNat, and_assoc, sw0]
        obtain rfl := Option.some.inj hrun
        refine RetOK.data' 4 (by exact trivial) ?_
        rfl

set_option maxRecDepth 20000 in
set_option maxHeartbeats 8000000 in
theorem ref02_LengthErr_ok (N : Nat) (n : Int) (r : Int) (hrun : ref02_LengthErr N n = some r) : CallOK Try.prog 38 [(I n)] (.d (I r)) [] := by
  refine CallOK.of_PW Try.func38 rfl (by rw [Try.results38]) Try.ntmps38 Try.call38 ?_
  change PW _ _ _ _ _
  try simp only [go_sem, ↓reduceIte, Nat.reduceEqDiff, Nat.reduceLT, Nat.reduceLeDiff, Nat.reduceAdd, Nat.reduceMul, Nat.reduceSub, Nat.reduceBEq]
  unfold ref02_LengthErr at hrun
  refine PW.seq ?_
  refine PW.regionK fun K hK => ?_
  refine OW.run [0] ?_
  simp (config := { maxSteps := 2000000 }) only [go_sem, ↓reduceIte, Nat.reduceEqDiff, Nat.reduceLT, Nat.reduceLeDiff, Nat.reduceAdd, Nat.reduceMul, Nat.reduceSub, Nat.reduceBEq, Int.reduceToNat, and_assoc, sw0]
  refine OW.nil (hK _ ?_)
  clear hK K
  change PW _ _ _ _ _
  refine PW.seq ?_
  refine PW.seq ?_
  obtain ⟨x1, e1, hrun⟩ := bnd_some hrun
  refine PW.regionK fun K hK => ?_
  refine OW.run [5] ?_
  simp (config := { maxSteps := 2000000 }) only [go_sem, ↓reduceIte, Nat.reduceEqDiff, Nat.reduceLT, Nat.reduceLeDiff, Nat.reduceAdd, Nat.reduceMul, Nat.reduceSub, Nat.reduceBEq, Int.reduceToNat, and_assoc, sw0]
  refine OW.call' 4 rfl rfl rfl (by ((simp only [go_sem, List.toList_toArray, ↓reduceIte, Nat.reduceEqDiff, Nat.reduceLT, Nat.reduceBEq]); exact rfl)) ?_ (base_Within_ok N _ _ _ _ e1) ?_ ?_ ?_ ?_
  · rfl
  · exact okD_all rfl
  · exact .inl rfl
  · (simp only [go_sem, Nat.reduceLT])
  refine OW.run [5] ?_
  simp (config := { maxSteps := 2000000 }) only [go_sem, ↓reduceIte, Nat.reduceEqDiff, Nat.reduceLT, Nat.reduceLeDiff, Nat.reduceAdd, Nat.reduceMul, Nat.reduceSub, Nat.reduceBEq, Int.reduceToNat, and_assoc, sw0]
  refine OW.nil (hK _ ?_)
  clear hK K
  change PW _ _ _ _ _
  refine PW.cond rfl (fun h1 => ?_) (fun h1 => ?_)
  · replace hrun := br_t h1 hrun
    refine PW.seq ?_
    refine PW.regionK fun K hK => ?_
    refine OW.run [2] ?_
    simp (config := { maxSteps := 2000000 }) only [go_sem, ↓reduceIte, Nat.reduceEqDiff, Nat.reduceLT, Nat.reduceLeDiff, Nat.reduceAdd, Nat.reduceMul, Nat.reduceSub, Nat.reduceBEq, Int.reduceToNat, and_assoc, sw0]
    refine OW.nil (hK _ ?_)
    clear hK K
    change PW _ _ _ _ _
    refine PW.ret ?_
    change PW.Ends _ _ _ _ _ _
    refine PW.Ends.intro (.inr rfl) ?_
    simp (config := { maxSteps := 2000000 }) only [go_sem, ↓reduceIte, Nat.reduceEqDiff, Nat.reduceLT, Nat.reduceLeDiff, Nat.reduceAdd, Nat.reduceMul, Nat.reduceSub, Nat.reduceBEq, Int.reduceToNat, and_assoc, sw0]
    obtain rfl := Option.some.inj hrun
    refine RetOK.data' 4 (by exact trivial) ?_
    rfl
  · replace hrun := br_f h1 hrun
    refine PW.skip ?_
    change PW _ _ _ _ _
    refine PW.seq ?_
    refine PW.regionK fun K hK => ?_
    refine OW.run [2] ?_
    simp (config := { maxSteps := 2000000 }) only [go_sem, ↓reduceIte, Nat.reduceEqDiff, Nat.reduceLT, Nat.reduceLeDiff, Nat.reduceAdd, Nat.reduceMul, Nat.reduceSub, Nat.reduceBEq, Int.reduceToNat, and_assoc, sw0]
    refine OW.nil (hK _ ?_)
    clear hK K
    change PW _ _ _ _ _
    refine PW.ret ?_
    change PW.Ends _ _ _ _ _ _
    refine PW.Ends.intro (.inr rfl) ?_
    simp (config := { maxSteps := 2000000 }) only [go_sem, ↓reduceIte, Nat.reduceEqDiff, Nat.reduceLT, Nat.reduceLeDiff, Nat.reduceAdd, Nat.reduceMul, Nat.reduceSub, Nat.reduceBEq, Int.reduceToNat, and_assoc, sw0]
    obtain rfl := Option.some.inj hrun
    refine RetOK.data' 4 (by exact trivial) ?_
    rfl

set_option maxRecDepth 20000 in
set_option maxHeartbeats 8000000 in
theorem ref02_SumsErr_ok (N : Nat) (l : List Int) (r : Int) (hrun : ref02_SumsErr N l = some r) : CallOK Try.prog 40 [(L l)] (.d (I r)) [] := by
  refine CallOK.of_PW Try.func40 rfl (by rw [Try.results40]) Try.ntmps40 Try.call40 ?_
  change PW _ _ _ _ _
  try simp only [go_sem, ↓reduceIte, Nat.reduceEqDiff, Nat.reduceLT, Nat.reduceLeDiff, Nat.reduceAdd, Nat.reduceMul, Nat.reduceSub, Nat.reduceBEq]
  unfold ref02_SumsErr at hrun
  refine PW.seq ?_
  refine PW.regionK fun K hK => ?_
  refine OW.run [0] ?_
  simp (config := { maxSteps := 2000000 }) only [go_sem, ↓reduceIte, Nat.reduceEqDiff, Nat.reduceLT, Nat.reduceLeDiff, Nat.reduceAdd, Nat.reduceMul, Nat.reduceSub, Nat.reduceBEq, Int.reduceToNat, and_assoc, sw0]
  refine OW.nil (hK _ ?_)
  clear hK K
  change PW _ _ _ _ _
  refine PW.seq ?_
  obtain ⟨x1, e1, hrun⟩ := bnd_some hrun
  refine PW.regionK fun K hK => ?_
  refine OW.run [2] ?_
  simp (config := { maxSteps := 2000000 }) only [go_sem, ↓reduceIte, Nat.reduceEqDiff, Nat.reduceLT, Nat.reduceLeDiff, Nat.reduceAdd, Nat.reduceMul, Nat.reduceSub, Nat.reduceBEq, Int.reduceToNat, and_assoc, sw0]
  refine OW.call' 4 rfl rfl rfl (by ((simp only [go_sem, List.toList_toArray, ↓reduceIte, Nat.reduceEqDiff, Nat.reduceLT, Nat.reduceBEq]); exact rfl)) ?_ (ref02_sizedErr_ok N _ _ _ _ e1) ?_ ?_ ?_ ?_
  · rfl
  · exact okD_all rfl
  · exact .inl rfl
  · (simp only [go_sem, Nat.reduceLT])
  refine OW.run [2] ?_
  simp (config := { maxSteps := 2000000 }) only [go_sem, ↓reduceIte, Nat.reduceEqDiff, Nat.reduceLT, Nat.reduceLeDiff, Nat.reduceAdd, Nat.reduceMul, Nat.reduceSub, Nat.reduceBEq, Int.reduceToNat, and_assoc, sw0]
  refine OW.nil (hK _ ?_)
  clear hK K
  change PW _ _ _ _ _
  refine PW.ret ?_
  change PW.Ends _ _ _ _ _ _
  refine PW.Ends.intro (.inr rfl) ?_
  simp (config := { maxSteps := 2000000 }) only [go_sem, ↓reduceIte, Nat.reduceEqDiff, Nat.reduceLT, Nat.reduceLeDiff, Nat.reduceAdd, Nat.reduceMul, Nat.reduceSub, Nat.reduceBEq, Int.reduceToNat, and_assoc, sw0]
  obtain rfl := Option.some.inj hrun
  refine RetOK.data' 4 (by exact trivial) ?_
  rfl

set_option maxRecDepth 20000 in
set_option maxHeartbeats 8000000 in
theorem slices_Concat_ii_ok (N : Nat) (slices : List (List Int)) (r : List Int) (hrun : slices_Concat_ii N slices = some r) : CallOK Try.prog 152 [(.list slices.length (slices.map L))] (.d (L r)) [] := by
  refine CallOK.of_PW Try.func152 rfl (by rw [Try.results152]) Try.ntmps152 Try.call152 ?_
  change PW _ _ _ _ _
  try simp only [go_sem, ↓reduceIte, Nat.reduceEqDiff, Nat.reduceLT, Nat.reduceLeDiff, Nat.reduceAdd, Nat.reduceMul, Nat.reduceSub, Nat.reduceBEq]
  unfold slices_Concat_ii at hrun
  refine PW.seq ?_
  refine PW.regionK fun K hK => ?_
  refine OW.run [0] ?_
  simp (config := { maxSteps := 2000000 }) only [go_sem, ↓reduceIte, Nat.reduceEqDiff, Nat.reduceLT, Nat.reduceLeDiff, Nat.reduceAdd, Nat.reduceMul, Nat.reduceSub, Nat.reduceBEq, Int.reduceToNat, and_assoc, sw0]
  refine OW.nil (hK _ ?_)
  clear hK K
  change PW _ _ _ _ _
  refine PW.seq ?_
  refine PW.regionK fun K hK => ?_
  refine OW.run [0, 3] ?_
  simp (config := { maxSteps := 2000000 }) only [go_sem, ↓reduceIte, Nat.reduceEqDiff, Nat.reduceLT, Nat.reduceLeDiff, Nat.reduceAdd, Nat.reduceMul, Nat.reduceSub, Nat.reduceBEq, Int.reduceToNat, and_assoc, sw0]
  refine OW.nil (hK _ ?_)
  clear hK K
  change PW _ _ _ _ _
  refine PW.joinS (τ := Int) [0, 3] 0 (fun size => [(3, .d (I size))]) (fun size => []) _ _ r (by exact Nat.le_refl _) hrun ?_ ?_
  · intro K_ hrun N1 hN1
    refine PW.seq ?_
    refine PW.regionK fun K hK => ?_
    refine OW.run [0, 3, 9, 10, 11] ?_
    simp (config := { maxSteps := 2000000 }) only [go_sem, ↓reduceIte, Nat.reduceEqDiff, Nat.reduceLT, Nat.reduceLeDiff, Nat.reduceAdd, Nat.reduceMul, Nat.reduceSub, Nat.reduceBEq, Int.reduceToNat, and_assoc, sw0]
    refine OW.nil (hK _ ?_)
    clear hK K
    change PW _ _ _ _ _
    refine PW.block ?_
    refine PW.loopS (σ := Int × Int) [0, 3, 9, 10, 11] 0 (fun (size1, t11) => [(3, .d (I size1)), (11, .d (I t11))]) (fun (size1, t11) => []) (slices_Concat_ii.b1 N slices K_) r N ((0 : Int), (0 : Int)) (by exact Nat.le_refl _) hrun (by (simp only [Env.frzL, Env.frz, frzOb, V.frz, V.frz.frzs, asD, map_asD, sw1, go_sem, ↓reduceIte, Nat.reduceEqDiff, Nat.reduceLT, Nat.reduceLeDiff, Nat.reduceAdd, Nat.reduceMul, Nat.reduceSub, Nat.reduceBEq]; done)) ?_
    rintro n ⟨size1, t11⟩ hrun N2 hN2
    unfold slices_Concat_ii.b1 at hrun
    try simp only [go_sem, ↓reduceIte, Nat.reduceEqDiff, Nat.reduceLT, Nat.reduceLeDiff, Nat.reduceAdd, Nat.reduceMul, Nat.reduceSub, Nat.reduceBEq]
    refine PW.seq ?_
    refine PW.regionK fun K hK => ?_
    refine OW.run [0, 3, 9, 10, 11, 12] ?_
    simp (config := { maxSteps := 2000000 }) only [go_sem, ↓reduceIte, Nat.reduceEqDiff, Nat.reduceLT, Nat.reduceLeDiff, Nat.reduceAdd, Nat.reduceMul, Nat.reduceSub, Nat.reduceBEq, Int.reduceToNat, and_assoc, sw0]
    refine OW.nil (hK _ ?_)
    clear hK K
    change PW _ _ _ _ _
    refine PW.seq ?_
    refine PW.cond rfl (fun h3 => ?_) (fun h3 => ?_)
    · replace hrun := br_t h3 hrun
      refine PW.skip ?_
      change PW _ _ _ _ _
      refine PW.seq ?_
      refine PW.block ?_
      refine PW.seq ?_
      obtain ⟨c4, hrun⟩ := chk_some hrun
      refine PW.regionK fun K hK => ?_
      refine OW.run [0, 3, 5, 9, 10, 11] ?_
      (simp (config := { maxSteps := 2000000 }) only [go_sem, ↓reduceIte, Nat.reduceEqDiff, Nat.reduceLT, Nat.reduceLeDiff, Nat.reduceAdd, Nat.reduceMul, Nat.reduceSub, Nat.reduceBEq, Int.reduceToNat, and_assoc, sw0, getD_mapF L slices t11.toNat default (by omega)])
      refine And.intro (by omega) (And.intro (by omega) (And.intro (by omega) (And.intro (by omega) ?_)))
      refine OW.nil (hK _ ?_)
      clear hK K
      change PW _ _ _ _ _
      refine PW.seq ?_
      refine PW.regionK fun K hK => ?_
      refine OW.run [0, 3, 9, 10, 11] ?_
      simp (config := { maxSteps := 2000000 }) only [go_sem, ↓reduceIte, Nat.reduceEqDiff, Nat.reduceLT, Nat.reduceLeDiff, Nat.reduceAdd, Nat.reduceMul, Nat.reduceSub, Nat.reduceBEq, Int.reduceToNat, and_assoc, sw0]
      refine OW.nil (hK _ ?_)
      clear hK K
      change PW _ _ _ _ _
      refine PW.seq ?_
      refine PW.regionK fun K hK => ?_
      refine OW.run [0, 3, 9, 10, 11, 20] ?_
      simp (config := { maxSteps := 2000000 }) only [go_sem, ↓reduceIte, Nat.reduceEqDiff, Nat.reduceLT, Nat.reduceLeDiff, Nat.reduceAdd, Nat.reduceMul, Nat.reduceSub, Nat.reduceBEq, Int.reduceToNat, and_assoc, sw0]
      refine OW.nil (hK _ ?_)
      clear hK K
      change PW _ _ _ _ _
      refine PW.cond rfl (fun h5 => ?_) (fun h5 => ?_)
      · replace hrun := br_t h5 hrun
        cases hrun
      · replace hrun := br_f h5 hrun
        refine PW.skip ?_
        change PW _ _ _ _ _
        refine PW.regionK fun K hK => ?_
        refine OW.run [0, 3, 9, 10, 11] ?_
        simp (config := { maxSteps := 2000000 }) only [go_sem, ↓reduceIte, Nat.reduceEqDiff, Nat.reduceLT, Nat.reduceLeDiff, Nat.reduceAdd, Nat.reduceMul, Nat.reduceSub, Nat.reduceBEq, Int.reduceToNat, and_assoc, sw0]
        refine OW.nil (hK _ ?_)
        clear hK K
        refine hN2 [] (w64 (size1 + ((slices.getD t11.toNat default).length : Int)), w64 (t11 + (1 : Int))) _ hrun (by exact trivial) ?_
        (simp only [Env.frzL, Env.frz, frzOb, V.frz, V.frz.frzs, asD, map_asD, sw1, go_sem, ↓reduceIte, Nat.reduceEqDiff, Nat.reduceLT, Nat.reduceLeDiff, Nat.reduceAdd, Nat.reduceMul, Nat.reduceSub, Nat.reduceBEq]; done)
    · replace hrun := br_f h3 hrun
      refine PW.exit ?_
      refine hN1 [] size1 _ hrun (by exact trivial) ?_
      (simp only [Env.frzL, Env.frz, frzOb, V.frz, V.frz.frzs, asD, map_asD, sw1, go_sem, ↓reduceIte, Nat.reduceEqDiff, Nat.reduceLT, Nat.reduceLeDiff, Nat.reduceAdd, Nat.reduceMul, Nat.reduceSub, Nat.reduceBEq]; done)
  · rintro size hrun
    try simp only [go_sem, ↓reduceIte, Nat.reduceEqDiff, Nat.reduceLT, Nat.reduceLeDiff, Nat.reduceAdd, Nat.reduceMul, Nat.reduceSub, Nat.reduceBEq]
    refine PW.seq ?_
    refine PW.regionK fun K hK => ?_
    refine OW.run [0, 6] ?_
    simp (config := { maxSteps := 2000000 }) only [go_sem, ↓reduceIte, Nat.reduceEqDiff, Nat.reduceLT, Nat.reduceLeDiff, Nat.reduceAdd, Nat.reduceMul, Nat.reduceSub, Nat.reduceBEq, Int.reduceToNat, and_assoc, sw0]
    refine OW.inline rfl rfl rfl (by ((simp only [go_sem, List.toList_toArray, ↓reduceIte, Nat.reduceEqDiff, Nat.reduceLT, Nat.reduceBEq]); exact rfl)) Try.func171 rfl (by rw [Try.results171]) Try.ntmps171 Try.call171 (by (simp only [go_sem, Nat.reduceLT])) ?_
    intro us p
    change PW _ _ _ _ _
    try simp only [go_sem, ↓reduceIte, Nat.reduceEqDiff, Nat.reduceLT, Nat.reduceLeDiff, Nat.reduceAdd, Nat.reduceMul, Nat.reduceSub, Nat.reduceBEq]
    refine PW.seq ?_
    refine PW.regionK fun K hK => ?_
    refine OW.run [0, 1] ?_
    simp (config := { maxSteps := 2000000 }) only [go_sem, ↓reduceIte, Nat.reduceEqDiff, Nat.reduceLT, Nat.reduceLeDiff, Nat.reduceAdd, Nat.reduceMul, Nat.reduceSub, Nat.reduceBEq, Int.reduceToNat, and_assoc, sw0]
    refine OW.nil (hK _ ?_)
    clear hK K
    change PW _ _ _ _ _
    refine PW.joinS (τ := Unit) [0, 1] 0 (fun _ => []) (fun _ => []) _ _ r (by exact Nat.le_refl _) hrun ?_ ?_
    · intro K_1 hrun N6 hN6
      refine PW.seq ?_
      refine PW.regionK fun K hK => ?_
      refine OW.run [0, 1, 6] ?_
      simp (config := { maxSteps := 2000000 }) only [go_sem, ↓reduceIte, Nat.reduceEqDiff, Nat.reduceLT, Nat.reduceLeDiff, Nat.reduceAdd, Nat.reduceMul, Nat.reduceSub, Nat.reduceBEq, Int.reduceToNat, and_assoc, sw0]
      refine OW.nil (hK _ ?_)
      clear hK K
      change PW _ _ _ _ _
      refine PW.cond rfl (fun h7 => ?_) (fun h7 => ?_)
      · replace hrun := br_t h7 hrun
        cases hrun
      · replace hrun := br_f h7 hrun
        refine PW.skip ?_
        refine hN6 [] () _ hrun (by exact trivial) ?_
        (simp only [Env.frzL, Env.frz, frzOb, V.frz, V.frz.frzs, asD, map_asD, sw1, go_sem, ↓reduceIte, Nat.reduceEqDiff, Nat.reduceLT, Nat.reduceLeDiff, Nat.reduceAdd, Nat.reduceMul, Nat.reduceSub, Nat.reduceBEq]; done)
    · rintro _ hrun
      try simp only [go_sem, ↓reduceIte, Nat.reduceEqDiff, Nat.reduceLT, Nat.reduceLeDiff, Nat.reduceAdd, Nat.reduceMul, Nat.reduceSub, Nat.reduceBEq]
      refine PW.seq ?_
      refine PW.seq ?_
      refine PW.regionK fun K hK => ?_
      refine OW.run [0, 1] ?_
      simp (config := { maxSteps := 2000000 }) only [go_sem, ↓reduceIte, Nat.reduceEqDiff, Nat.reduceLT, Nat.reduceLeDiff, Nat.reduceAdd, Nat.reduceMul, Nat.reduceSub, Nat.reduceBEq, Int.reduceToNat, and_assoc, sw0]
      refine OW.nil (hK _ ?_)
      clear hK K
      change PW _ _ _ _ _
      refine PW.seq ?_
      refine PW.regionK fun K hK => ?_
      refine OW.run [0, 1, 16] ?_
      simp (config := { maxSteps := 2000000 }) only [go_sem, ↓reduceIte, Nat.reduceEqDiff, Nat.reduceLT, Nat.reduceLeDiff, Nat.reduceAdd, Nat.reduceMul, Nat.reduceSub, Nat.reduceBEq, Int.reduceToNat, and_assoc, sw0]
      refine OW.nil (hK _ ?_)
      clear hK K
      change PW _ _ _ _ _
      refine PW.cond rfl (fun h8 => ?_) (fun h8 => ?_)
      · replace hrun := br_t h8 hrun
        obtain ⟨c9, hrun⟩ := chk_some hrun
        obtain ⟨c10, hrun⟩ := chk_some hrun
        obtain ⟨c11, hrun⟩ := chk_some hrun
        refine PW.regionK fun K hK => ?_
        refine OW.run [0] ?_
        simp (config := { maxSteps := 2000000 }) only [go_sem, ↓reduceIte, Nat.reduceEqDiff, Nat.reduceLT, Nat.reduceLeDiff, Nat.reduceAdd, Nat.reduceMul, Nat.reduceSub, Nat.reduceBEq, Int.reduceToNat, and_assoc, sw0]
        refine And.intro (by omega) (And.intro (by omega) (And.intro (by omega) (And.intro (by omega) (And.intro (by omega) (And.intro (by omega) (And.intro (by omega) (And.intro (by omega) (And.intro (by omega) (And.intro (by omega) ?_)))))))))
        refine OW.nil (hK _ ?_)
        clear hK K
        refine PW.shrink 0 0 ?_
        simp only [Env.shrink, List.getElem?_cons_succ, List.getElem?_cons_zero, List.set_cons_succ, List.set_cons_zero, List.take_zero]
        change PW _ _ _ _ _
        change PW _ _ _ _ _
        refine PW.seq ?_
        refine PW.regionK fun K hK => ?_
        refine OW.run [4] ?_
        simp (config := { maxSteps := 2000000 }) only [go_sem, ↓reduceIte, Nat.reduceEqDiff, Nat.reduceLT, Nat.reduceLeDiff, Nat.reduceAdd, Nat.reduceMul, Nat.reduceSub, Nat.reduceBEq, Int.reduceToNat, and_assoc, sw0]
        refine OW.nil (hK _ ?_)
        clear hK K
        change PW _ _ _ _ _
        refine PW.ret ?_
        refine ⟨.inr rfl, rfl, rfl, ?_⟩
        simp (config := { maxSteps := 2000000 }) only [go_sem, ↓reduceIte, Nat.reduceEqDiff, Nat.reduceLT, Nat.reduceLeDiff, Nat.reduceAdd, Nat.reduceMul, Nat.reduceSub, Nat.reduceBEq, Int.reduceToNat, and_assoc, sw0]
        change OW _ _ _ _ _ _
        refine OW.run [0, 6] ?_
        simp (config := { maxSteps := 2000000 }) only [go_sem, ↓reduceIte, Nat.reduceEqDiff, Nat.reduceLT, Nat.reduceLeDiff, Nat.reduceAdd, Nat.reduceMul, Nat.reduceSub, Nat.reduceBEq, Int.reduceToNat, and_assoc, sw0]
        refine OW.nil (hK _ ?_)
        clear hK K
        change PW _ _ _ _ _
        refine PW.joinS (τ := List Int) [6] 1 (fun b0 => [(6, .own 0 0 b0.length 1)]) (fun b0 => [{ cells := (b0.map I).map .d, e := 3 }]) _ _ r (by exact Nat.zero_le _) hrun ?_ ?_
        · intro K_2 hrun N12 hN12
          refine PW.seq ?_
          refine PW.regionK fun K hK => ?_
          refine OW.run [6, 25, 26, 27] ?_
          simp (config := { maxSteps := 2000000 }) only [go_sem, ↓reduceIte, Nat.reduceEqDiff, Nat.reduceLT, Nat.reduceLeDiff, Nat.reduceAdd, Nat.reduceMul, Nat.reduceSub, Nat.reduceBEq, Int.reduceToNat, and_assoc, sw0]
          refine OW.nil (hK _ ?_)
          clear hK K
          change PW _ _ _ _ _
          refine PW.block ?_
          refine PW.loopS (σ := Int × List Int) [6, 25, 26, 27] 1 (fun (t27, b01) => [(6, .own 0 0 b01.length 1), (27, .d (I t27))]) (fun (t27, b01) => [{ cells := (b01.map I).map .d, e := 3 }]) (slices_Concat_ii.b2 N slices K_2) r N ((0 : Int), ([] : List Int)) (by exact Nat.zero_le _) hrun (by (simp only [Env.frzL, Env.frz, frzOb, V.frz, V.frz.frzs, asD, map_asD, sw1, go_sem, ↓reduceIte, Nat.reduceEqDiff, Nat.reduceLT, Nat.reduceLeDiff, Nat.reduceAdd, Nat.reduceMul, Nat.reduceSub, Nat.reduceBEq]; done)) ?_
          rintro n ⟨t27, b01⟩ hrun N13 hN13
          unfold slices_Concat_ii.b2 at hrun
          try simp only [go_sem, ↓reduceIte, Nat.reduceEqDiff, Nat.reduceLT, Nat.reduceLeDiff, Nat.reduceAdd, Nat.reduceMul, Nat.reduceSub, Nat.reduceBEq]
          refine PW.seq ?_
          refine PW.regionK fun K hK => ?_
          refine OW.run [6, 25, 26, 27, 28] ?_
          simp (config := { maxSteps := 2000000 }) only [go_sem, ↓reduceIte, Nat.reduceEqDiff, Nat.reduceLT, Nat.reduceLeDiff, Nat.reduceAdd, Nat.reduceMul, Nat.reduceSub, Nat.reduceBEq, Int.reduceToNat, and_assoc, sw0]
          refine OW.nil (hK _ ?_)
          clear hK K
          change PW _ _ _ _ _
          refine PW.seq ?_
          refine PW.cond rfl (fun h14 => ?_) (fun h14 => ?_)
          · replace hrun := br_t h14 hrun
            refine PW.skip ?_
            change PW _ _ _ _ _
            refine PW.seq ?_
            refine PW.block ?_
            refine PW.seq ?_
            obtain ⟨c15, hrun⟩ := chk_some hrun
            refine PW.regionK fun K hK => ?_
            refine OW.run [6, 8, 25, 26, 27] ?_
            (simp (config := { maxSteps := 2000000 }) only [go_sem, ↓reduceIte, Nat.reduceEqDiff, Nat.reduceLT, Nat.reduceLeDiff, Nat.reduceAdd, Nat.reduceMul, Nat.reduceSub, Nat.reduceBEq, Int.reduceToNat, and_assoc, sw0, getD_mapF L slices t27.toNat default (by omega)])
            refine And.intro (by omega) (And.intro (by omega) (And.intro (by omega) (And.intro (by omega) ?_)))
            refine OW.nil (hK _ ?_)
            clear hK K
            change PW _ _ _ _ _
            obtain ⟨c16, hrun⟩ := chk_some hrun
            refine PW.regionK fun K hK => ?_
            refine OW.run [6, 25, 26, 27] ?_
            simp (config := { maxSteps := 2000000 }) only [go_sem, ↓reduceIte, Nat.reduceEqDiff, Nat.reduceLT, Nat.reduceLeDiff, Nat.reduceAdd, Nat.reduceMul, Nat.reduceSub, Nat.reduceBEq, Int.reduceToNat, and_assoc, sw0]
            refine And.intro (by omega) (And.intro (by omega) (And.intro (by omega) ?_))
            refine OW.nil (hK _ ?_)
            clear hK K
            change PW _ _ _ _ _
            refine PW.regionK fun K hK => ?_
            refine OW.run [6, 25, 26, 27] ?_
            simp (config := { maxSteps := 2000000 }) only [go_sem, ↓reduceIte, Nat.reduceEqDiff, Nat.reduceLT, Nat.reduceLeDiff, Nat.reduceAdd, Nat.reduceMul, Nat.reduceSub, Nat.reduceBEq, Int.reduceToNat, and_assoc, sw0]
            refine OW.nil (hK _ ?_)
            clear hK K
            refine hN13 [] (w64 (t27 + (1 : Int)), (b01 ++ (slices.getD t27.toNat default))) _ hrun (by exact trivial) ?_
            (simp only [Env.frzL, Env.frz, frzOb, V.frz, V.frz.frzs, asD, map_asD, sw1, go_sem, ↓reduceIte, Nat.reduceEqDiff, Nat.reduceLT, Nat.reduceLeDiff, Nat.reduceAdd, Nat.reduceMul, Nat.reduceSub, Nat.reduceBEq]; done)
          · replace hrun := br_f h14 hrun
            refine PW.exit ?_
            refine hN12 [] b01 _ hrun (by exact trivial) ?_
            (simp only [Env.frzL, Env.frz, frzOb, V.frz, V.frz.frzs, asD, map_asD, sw1, go_sem, ↓reduceIte, Nat.reduceEqDiff, Nat.reduceLT, Nat.reduceLeDiff, Nat.reduceAdd, Nat.reduceMul, Nat.reduceSub, Nat.reduceBEq]; done)
        · rintro b0 hrun
          try simp only [go_sem, ↓reduceIte, Nat.reduceEqDiff, Nat.reduceLT, Nat.reduceLeDiff, Nat.reduceAdd, Nat.reduceMul, Nat.reduceSub, Nat.reduceBEq]
          refine PW.seq ?_
          refine PW.regionK fun K hK => ?_
          refine OW.run [2] ?_
          simp (config := { maxSteps := 2000000 }) only [go_sem, ↓reduceIte, Nat.reduceEqDiff, Nat.reduceLT, Nat.reduceLeDiff, Nat.reduceAdd, Nat.reduceMul, Nat.reduceSub, Nat.reduceBEq, Int.reduceToNat, and_assoc, sw0]
          refine OW.nil (hK _ ?_)
          clear hK K
          change PW _ _ _ _ _
          refine PW.ret ?_
          change PW.Ends _ _ _ _ _ _
          refine PW.Ends.intro (.inr rfl) ?_
          simp (config := { maxSteps := 2000000 }) only [go_sem, ↓reduceIte, Nat.reduceEqDiff, Nat.reduceLT, Nat.reduceLeDiff, Nat.reduceAdd, Nat.reduceMul, Nat.reduceSub, Nat.reduceBEq, Int.reduceToNat, and_assoc, sw0]
          obtain rfl := Option.some.inj hrun
          refine RetOK.data' 4 (by (simp only [go_sem, sw2, List.length_set, List.length_replicate, and_true, true_and, Nat.le_refl, ↓reduceIte, Nat.reduceEqDiff, Nat.reduceLT, Nat.reduceLeDiff, Nat.reduceAdd, Nat.reduceMul, Nat.reduceSub, Nat.reduceBEq]; done)) ?_
          (((simp only [go_sem, sw1, ↓reduceIte, Nat.reduceEqDiff, Nat.reduceLT, Nat.reduceLeDiff, Nat.reduceAdd, Nat.reduceMul, Nat.reduceSub, Nat.reduceBEq]; try simp only [seg, go_sem, ↓reduceIte, Nat.reduceEqDiff, Nat.reduceLT, Nat.reduceLeDiff, Nat.reduceAdd, Nat.reduceMul, Nat.reduceSub, Nat.reduceBEq])); done)
      · replace hrun := br_f h8 hrun
        refine PW.skip ?_
        change PW _ _ _ _ _
        refine PW.seq ?_
        refine PW.regionK fun K hK => ?_
        refine OW.run [4] ?_
        simp (config := { maxSteps := 2000000 }) only [go_sem, ↓reduceIte, Nat.reduceEqDiff, Nat.reduceLT, Nat.reduceLeDiff, Nat.reduceAdd, Nat.reduceMul, Nat.reduceSub, Nat.reduceBEq, Int.reduceToNat, and_assoc, sw0]
        refine OW.nil (hK _ ?_)
        clear hK K
        change PW _ _ _ _ _
        refine PW.ret ?_
        refine ⟨.inr rfl, rfl, rfl, ?_⟩
        simp (config := { maxSteps := 2000000 }) only [go_sem, ↓reduceIte, Nat.reduceEqDiff, Nat.reduceLT, Nat.reduceLeDiff, Nat.reduceAdd, Nat.reduceMul, Nat.reduceSub, Nat.reduceBEq, Int.reduceToNat, and_assoc, sw0]
        change OW _ _ _ _ _ _
        refine OW.run [0, 6] ?_
        simp (config := { maxSteps := 2000000 }) only [go_sem, ↓reduceIte, Nat.reduceEqDiff, Nat.reduceLT, Nat.reduceLeDiff, Nat.reduceAdd, Nat.reduceMul, Nat.reduceSub, Nat.reduceBEq, Int.reduceToNat, and_assoc, sw0]
        refine OW.nil (hK _ ?_)
        clear hK K
        change PW _ _ _ _ _
        refine PW.joinS (τ := List Int) [6] 1 (fun b02 => [(6, .own 0 0 b02.length 1)]) (fun b02 => [{ cells := (b02.map I).map .d, e := 3 }]) _ _ r (by exact Nat.zero_le _) hrun ?_ ?_
        · intro K_3 hrun N17 hN17
          refine PW.seq ?_
          refine PW.regionK fun K hK => ?_
          refine OW.run [6, 25, 26, 27] ?_
          simp (config := { maxSteps := 2000000 }) only [go_sem, ↓reduceIte, Nat.reduceEqDiff, Nat.reduceLT, Nat.reduceLeDiff, Nat.reduceAdd, Nat.reduceMul, Nat.reduceSub, Nat.reduceBEq, Int.reduceToNat, and_assoc, sw0]
          refine OW.nil (hK _ ?_)
          clear hK K
          change PW _ _ _ _ _
          refine PW.block ?_
          refine PW.virt 6 3 1 rfl ?_
          try simp only [go_sem, ↓reduceIte, Nat.reduceEqDiff, Nat.reduceLT, Nat.reduceLeDiff, Nat.reduceAdd, Nat.reduceMul, Nat.reduceSub, Nat.reduceBEq]
          refine PW.loopS (σ := Int × List Int) [6, 25, 26, 27] 1 (fun (t271, b03) => [(6, .own 0 0 b03.length 1), (27, .d (I t271))]) (fun (t271, b03) => [{ cells := (b03.map I).map .d, e := 3 }]) (slices_Concat_ii.b3 N slices K_3) r N ((0 : Int), ([] : List Int)) (by exact Nat.zero_le _) hrun (by (simp only [Env.frzL, Env.frz, frzOb, V.frz, V.frz.frzs, asD, map_asD, sw1, go_sem, ↓reduceIte, Nat.reduceEqDiff, Nat.reduceLT, Nat.reduceLeDiff, Nat.reduceAdd, Nat.reduceMul, Nat.reduceSub, Nat.reduceBEq]; done)) ?_
          rintro n ⟨t271, b03⟩ hrun N18 hN18
          unfold slices_Concat_ii.b3 at hrun
          try simp only [go_sem, ↓reduceIte, Nat.reduceEqDiff, Nat.reduceLT, Nat.reduceLeDiff, Nat.reduceAdd, Nat.reduceMul, Nat.reduceSub, Nat.reduceBEq]
          refine PW.seq ?_
          refine PW.regionK fun K hK => ?_
          refine OW.run [6, 25, 26, 27, 28] ?_
          simp (config := { maxSteps := 2000000 }) only [go_sem, ↓reduceIte, Nat.reduceEqDiff, Nat.reduceLT, Nat.reduceLeDiff, Nat.reduceAdd, Nat.reduceMul, Nat.reduceSub, Nat.reduceBEq, Int.reduceToNat, and_assoc, sw0]
          refine OW.nil (hK _ ?_)
          clear hK K
          change PW _ _ _ _ _
          refine PW.seq ?_
          refine PW.cond rfl (fun h19 => ?_) (fun h19 => ?_)
          · replace hrun := br_t h19 hrun
            refine PW.skip ?_
            change PW _ _ _ _ _
            refine PW.seq ?_
            refine PW.block ?_
            refine PW.seq ?_
            obtain ⟨c20, hrun⟩ := chk_some hrun
            refine PW.regionK fun K hK => ?_
            refine OW.run [6, 8, 25, 26, 27] ?_
            (simp (config := { maxSteps := 2000000 }) only [go_sem, ↓reduceIte, Nat.reduceEqDiff, Nat.reduceLT, Nat.reduceLeDiff, Nat.reduceAdd, Nat.reduceMul, Nat.reduceSub, Nat.reduceBEq, Int.reduceToNat, and_assoc, sw0, getD_mapF L slices t271.toNat default (by omega)])
            refine And.intro (by omega) (And.intro (by omega) (And.intro (by omega) (And.intro (by omega) ?_)))
            refine OW.nil (hK _ ?_)
            clear hK K
            change PW _ _ _ _ _
            obtain ⟨c21, hrun⟩ := chk_some hrun
            refine PW.regionK fun K hK => ?_
            refine OW.run [6, 25, 26, 27] ?_
            simp (config := { maxSteps := 2000000 }) only [go_sem, ↓reduceIte, Nat.reduceEqDiff, Nat.reduceLT, Nat.reduceLeDiff, Nat.reduceAdd, Nat.reduceMul, Nat.reduceSub, Nat.reduceBEq, Int.reduceToNat, and_assoc, sw0]
            refine And.intro (by omega) (And.intro (by omega) (And.intro (by omega) ?_))
            refine OW.nil (hK _ ?_)
            clear hK K
            change PW _ _ _ _ _
            refine PW.regionK fun K hK => ?_
            refine OW.run [6, 25, 26, 27] ?_
            simp (config := { maxSteps := 2000000 }) only [go_sem, ↓reduceIte, Nat.reduceEqDiff, Nat.reduceLT, Nat.reduceLeDiff, Nat.reduceAdd, Nat.reduceMul, Nat.reduceSub, Nat.reduceBEq, Int.reduceToNat, and_assoc, sw0]
            refine OW.nil (hK _ ?_)
            clear hK K
            refine hN18 [] (w64 (t271 + (1 : Int)), (b03 ++ (slices.getD t271.toNat default))) _ hrun (by exact trivial) ?_
            (simp only [Env.frzL, Env.frz, frzOb, V.frz, V.frz.frzs, asD, map_asD, sw1, go_sem, ↓reduceIte, Nat.reduceEqDiff, Nat.reduceLT, Nat.reduceLeDiff, Nat.reduceAdd, Nat.reduceMul, Nat.reduceSub, Nat.reduceBEq]; done)
          · replace hrun := br_f h19 hrun
            refine PW.exit ?_
            refine hN17 [] b03 _ hrun (by exact trivial) ?_
            (simp only [Env.frzL, Env.frz, frzOb, V.frz, V.frz.frzs, asD, map_asD, sw1, go_sem, ↓reduceIte, Nat.reduceEqDiff, Nat.reduceLT, Nat.reduceLeDiff, Nat.reduceAdd, Nat.reduceMul, Nat.reduceSub, Nat.reduceBEq]; done)
        · rintro b02 hrun
          try simp only [go_sem, ↓reduceIte, Nat.reduceEqDiff, Nat.reduceLT, Nat.reduceLeDiff, Nat.reduceAdd, Nat.reduceMul, Nat.reduceSub, Nat.reduceBEq]
          refine PW.seq ?_
          refine PW.regionK fun K hK => ?_
          refine OW.run [2] ?_
          simp (config := { maxSteps := 2000000 }) only [go_sem, ↓reduceIte, Nat.reduceEqDiff, Nat.reduceLT, Nat.reduceLeDiff, Nat.reduceAdd, Nat.reduceMul, Nat.reduceSub, Nat.reduceBEq, Int.reduceToNat, and_assoc, sw0]
          refine OW.nil (hK _ ?_)
          clear hK K
          change PW _ _ _ _ _
          refine PW.ret ?_
          change PW.Ends _ _ _ _ _ _
          refine PW.Ends.intro (.inr rfl) ?_
          simp (config := { maxSteps := 2000000 }) only [go_sem, ↓reduceIte, Nat.reduceEqDiff, Nat.reduceLT, Nat.reduceLeDiff, Nat.reduceAdd, Nat.reduceMul, Nat.reduceSub, Nat.reduceBEq, Int.reduceToNat, and_assoc, sw0]
          obtain rfl := Option.some.inj hrun
          refine RetOK.data' 4 (by (simp only [go_sem, sw2, List.length_set, List.length_replicate, and_true, true_and, Nat.le_refl, ↓reduceIte, Nat.reduceEqDiff, Nat.reduceLT, Nat.reduceLeDiff, Nat.reduceAdd, Nat.reduceMul, Nat.reduceSub, Nat.reduceBEq]; done)) ?_
          (((simp only [go_sem, sw1, ↓reduceIte, Nat.reduceEqDiff, Nat.reduceLT, Nat.reduceLeDiff, Nat.reduceAdd, Nat.reduceMul, Nat.reduceSub, Nat.reduceBEq]; try simp only [seg, go_sem, ↓reduceIte, Nat.reduceEqDiff, Nat.reduceLT, Nat.reduceLeDiff, Nat.reduceAdd, Nat.reduceMul, Nat.reduceSub, Nat.reduceBEq])); done)

set_option maxRecDepth 20000 in
set_option maxHeartbeats 8000000 in
theorem code_checked_ok (N : Nat) (p_Degree : Int) (p_Taps : Int) (bits : List Int) (r : List Int) (hrun : code_checked N p_Degree p_Taps bits = some r) : CallOK Try.prog 119 [(.agg [(I p_Degree), (I p_Taps)]), (L bits)] (.d (L r)) [] := by
  refine CallOK.of_PW Try.func119 rfl (by rw [Try.results119]) Try.ntmps119 Try.call119 ?_
  change PW _ _ _ _ _
  try simp only [go_sem, ↓reduceIte, Nat.reduceEqDiff, Nat.reduceLT, Nat.reduceLeDiff, Nat.reduceAdd, Nat.reduceMul, Nat.reduceSub, Nat.reduceBEq]
  unfold code_checked at hrun
  refine PW.seq ?_
  refine PW.regionK fun K hK => ?_
  refine OW.run [1, 2] ?_
  simp (config := { maxSteps := 2000000 }) only [go_sem, ↓reduceIte, Nat.reduceEqDiff, Nat.reduceLT, Nat.reduceLeDiff, Nat.reduceAdd, Nat.reduceMul, Nat.reduceSub, Nat.reduceBEq, Int.reduceToNat, and_assoc, sw0]
  refine OW.nil (hK _ ?_)
  clear hK K
  change PW _ _ _ _ _
  refine PW.seq ?_
  obtain ⟨x1, e1, hrun⟩ := bnd_some hrun
  obtain ⟨x2, e2, hrun⟩ := bnd_some hrun
  refine PW.regionK fun K hK => ?_
  refine OW.run [4] ?_
  simp (config := { maxSteps := 2000000 }) only [go_sem, ↓reduceIte, Nat.reduceEqDiff, Nat.reduceLT, Nat.reduceLeDiff, Nat.reduceAdd, Nat.reduceMul, Nat.reduceSub, Nat.reduceBEq, Int.reduceToNat, and_assoc, sw0]
  refine OW.call' 4 rfl rfl rfl (by ((simp only [go_sem, List.toList_toArray, ↓reduceIte, Nat.reduceEqDiff, Nat.reduceLT, Nat.reduceBEq]); exact rfl)) ?_ (code_remainder_ok N _ _ _ _ e1) ?_ ?_ ?_ ?_
  · rfl
  · (refine okAll_intro ?_; (simp only [go_sem, sw2, List.length_set, List.length_replicate, and_true, true_and, Nat.le_refl, ↓reduceIte, Nat.reduceEqDiff, Nat.reduceLT, Nat.reduceLeDiff, Nat.reduceAdd, Nat.reduceMul, Nat.reduceSub, Nat.reduceBEq]; done))
  · exact .inl rfl
  · (simp only [go_sem, Nat.reduceLT])
  refine OW.run [4] ?_
  simp (config := { maxSteps := 2000000 }) only [go_sem, ↓reduceIte, Nat.reduceEqDiff, Nat.reduceLT, Nat.reduceLeDiff, Nat.reduceAdd, Nat.reduceMul, Nat.reduceSub, Nat.reduceBEq, Int.reduceToNat, and_assoc, sw0]
  refine OW.frz 1 (by exact Nat.zero_le _) (by rfl) ?_
  simp only [Env.frzL, Env.frz, frzOb, V.frz, V.frz.frzs, asD, map_asD, map_nz_I, map_nz_Bo, map_nz_Sx, map_nz_L, nz_int, nz_bool, nz_str, nz_list, nz_ref, nz_nil, go_sem, ↓reduceIte, Nat.reduceEqDiff, Nat.reduceLT, Nat.reduceLeDiff, Nat.reduceAdd, Nat.reduceMul, Nat.reduceSub, Nat.reduceBEq]
  refine OW.call' 4 rfl rfl rfl (by ((simp only [go_sem, List.toList_toArray, ↓reduceIte, Nat.reduceEqDiff, Nat.reduceLT, Nat.reduceBEq]); exact rfl)) ?_ (slices_Concat_ii_ok N _ _ e2) ?_ ?_ ?_ ?_
  · rfl
  · exact okD_all rfl
  · exact .inl rfl
  · (simp only [go_sem, Nat.reduceLT])
  refine OW.run [4] ?_
  simp (config := { maxSteps := 2000000 }) only [go_sem, ↓reduceIte, Nat.reduceEqDiff, Nat.reduceLT, Nat.reduceLeDiff, Nat.reduceAdd, Nat.reduceMul, Nat.reduceSub, Nat.reduceBEq, Int.reduceToNat, and_assoc, sw0]
  refine OW.nil (hK _ ?_)
  clear hK K
  change PW _ _ _ _ _
  refine PW.ret ?_
  change PW.Ends _ _ _ _ _ _
  refine PW.Ends.intro (.inr rfl) ?_
  simp (config := { maxSteps := 2000000 }) only [go_sem, ↓reduceIte, Nat.reduceEqDiff, Nat.reduceLT, Nat.reduceLeDiff, Nat.reduceAdd, Nat.reduceMul, Nat.reduceSub, Nat.reduceBEq, Int.reduceToNat, and_assoc, sw0]
  obtain rfl := Option.some.inj hrun
  refine RetOK.data' 4 (by exact trivial) ?_
  rfl

end Go.Proofs.Ytikelkndldaejaa
