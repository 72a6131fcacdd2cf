import Derived.Test.YtikelkndldaejaaCsW2
set_option linter.all false
namespace Go.Proofs.Ytikelkndldaejaa
open Go.PW Go.Sh
set_option maxRecDepth 20000 in
set_option maxHeartbeats 8000000 in
theorem code_FormatBits_ok (N : Nat) (bits : List Int) (r : ByteArray) (hrun : code_FormatBits N bits = some r) : CallOK Try.prog 42 [(L bits)] (.d (Sx r)) [] := by
  refine CallOK.of_PW Try.func42 rfl (by rw [Try.results42]) Try.ntmps42 Try.call42 ?_
  change PW _ _ _ _ _
  try simp only [go_sem, ↓reduceIte, Nat.reduceEqDiff, Nat.reduceLT, Nat.reduceLeDiff, Nat.reduceAdd, Nat.reduceMul, Nat.reduceSub, Nat.reduceBEq]
  unfold code_FormatBits at hrun
  refine PW.seq ?_
  refine PW.regionK fun K hK => ?_
  refine OW.run [0] ?_
  simp (config := { maxSteps := 2000000 }) only [go_sem, ↓reduceIte, Nat.reduceEqDiff, Nat.reduceLT, Nat.reduceLeDiff, Nat.reduceAdd, Nat.reduceMul, Nat.reduceSub, Nat.reduceBEq, Int.reduceToNat, and_assoc, sw0]
  refine OW.nil (hK _ ?_)
  clear hK K
  change PW _ _ _ _ _
  refine PW.seq ?_
  refine PW.regionK fun K hK => ?_
  refine OW.allocB rfl rfl ty147 (by (simp only [go_sem, Nat.reduceLT])) ?_
  refine OW.run [0, 3] ?_
  simp (config := { maxSteps := 2000000 }) only [go_sem, ↓reduceIte, Nat.reduceEqDiff, Nat.reduceLT, Nat.reduceLeDiff, Nat.reduceAdd, Nat.reduceMul, Nat.reduceSub, Nat.reduceBEq, Int.reduceToNat, and_assoc, sw0]
  refine OW.nil (hK _ ?_)
  clear hK K
  change PW _ _ _ _ _
  refine PW.joinS (τ := List Int) [3] 2 (fun b1 => []) (fun b1 => [{ cells := [.slf 0, .own 1 0 b1.length 1], e := 147 }, { cells := (b1.map (fun (x : Int) => (.val (.int .u8 x)))).map .d, e := 5 }]) _ _ r (by exact Nat.zero_le _) hrun ?_ ?_
  · intro K_ hrun N1 hN1
    refine PW.seq ?_
    refine PW.regionK fun K hK => ?_
    refine OW.run [3, 6, 7, 8] ?_
    simp (config := { maxSteps := 2000000 }) only [go_sem, ↓reduceIte, Nat.reduceEqDiff, Nat.reduceLT, Nat.reduceLeDiff, Nat.reduceAdd, Nat.reduceMul, Nat.reduceSub, Nat.reduceBEq, Int.reduceToNat, and_assoc, sw0]
    refine OW.nil (hK _ ?_)
    clear hK K
    change PW _ _ _ _ _
    refine PW.block ?_
    refine PW.virtC 0 1 5 1 _ rfl rfl ?_
    try simp only [go_sem, ↓reduceIte, Nat.reduceEqDiff, Nat.reduceLT, Nat.reduceLeDiff, Nat.reduceAdd, Nat.reduceMul, Nat.reduceSub, Nat.reduceBEq]
    refine PW.loopS (σ := Int × List Int) [3, 6, 7, 8] 2 (fun (t8, b11) => [(8, .d (I t8))]) (fun (t8, b11) => [{ cells := [.slf 0, .own 1 0 b11.length 1], e := 147 }, { cells := (b11.map (fun (x : Int) => (.val (.int .u8 x)))).map .d, e := 5 }]) (code_FormatBits.b1 N bits K_) r N ((0 : Int), ([] : List Int)) (by exact Nat.zero_le _) hrun (by (simp only [Env.frzL, Env.frz, frzOb, V.frz, V.frz.frzs, asD, map_asD, sw1, go_sem, ↓reduceIte, Nat.reduceEqDiff, Nat.reduceLT, Nat.reduceLeDiff, Nat.reduceAdd, Nat.reduceMul, Nat.reduceSub, Nat.reduceBEq]; done)) ?_
    rintro n ⟨t8, b11⟩ hrun N2 hN2
    unfold code_FormatBits.b1 at hrun
    try simp only [go_sem, ↓reduceIte, Nat.reduceEqDiff, Nat.reduceLT, Nat.reduceLeDiff, Nat.reduceAdd, Nat.reduceMul, Nat.reduceSub, Nat.reduceBEq]
    refine PW.seq ?_
    refine PW.regionK fun K hK => ?_
    refine OW.run [3, 6, 7, 8, 9] ?_
    simp (config := { maxSteps := 2000000 }) only [go_sem, ↓reduceIte, Nat.reduceEqDiff, Nat.reduceLT, Nat.reduceLeDiff, Nat.reduceAdd, Nat.reduceMul, Nat.reduceSub, Nat.reduceBEq, Int.reduceToNat, and_assoc, sw0]
    refine OW.nil (hK _ ?_)
    clear hK K
    change PW _ _ _ _ _
    refine PW.seq ?_
    refine PW.cond rfl (fun h3 => ?_) (fun h3 => ?_)
    · replace hrun := br_t h3 hrun
      refine PW.skip ?_
      change PW _ _ _ _ _
      refine PW.seq ?_
      refine PW.block ?_
      refine PW.seq ?_
      obtain ⟨c4, hrun⟩ := chk_some hrun
      refine PW.regionK fun K hK => ?_
      refine OW.run [3, 5, 6, 7, 8] ?_
      simp (config := { maxSteps := 2000000 }) only [go_sem, ↓reduceIte, Nat.reduceEqDiff, Nat.reduceLT, Nat.reduceLeDiff, Nat.reduceAdd, Nat.reduceMul, Nat.reduceSub, Nat.reduceBEq, Int.reduceToNat, and_assoc, sw0]
      refine And.intro (by omega) (And.intro (by omega) (And.intro (by omega) (And.intro (by omega) ?_)))
      refine OW.nil (hK _ ?_)
      clear hK K
      change PW _ _ _ _ _
      refine PW.seq ?_
      refine PW.regionK fun K hK => ?_
      refine OW.run [3, 6, 7, 8, 12] ?_
      simp (config := { maxSteps := 2000000 }) only [go_sem, ↓reduceIte, Nat.reduceEqDiff, Nat.reduceLT, Nat.reduceLeDiff, Nat.reduceAdd, Nat.reduceMul, Nat.reduceSub, Nat.reduceBEq, Int.reduceToNat, and_assoc, sw0]
      refine OW.nil (hK _ ?_)
      clear hK K
      change PW _ _ _ _ _
      refine PW.block ?_
      refine PW.seq ?_
      refine PW.regionK fun K hK => ?_
      refine OW.run [3, 6, 7, 8, 12, 14] ?_
      simp (config := { maxSteps := 2000000 }) only [go_sem, ↓reduceIte, Nat.reduceEqDiff, Nat.reduceLT, Nat.reduceLeDiff, Nat.reduceAdd, Nat.reduceMul, Nat.reduceSub, Nat.reduceBEq, Int.reduceToNat, and_assoc, sw0]
      refine OW.nil (hK _ ?_)
      clear hK K
      change PW _ _ _ _ _
      refine PW.cond rfl (fun h5 => ?_) (fun h5 => ?_)
      · replace hrun := br_t h5 hrun
        refine PW.regionK fun K hK => ?_
        refine OW.run [3, 6, 7, 8] ?_
        simp (config := { maxSteps := 2000000 }) only [go_sem, ↓reduceIte, Nat.reduceEqDiff, Nat.reduceLT, Nat.reduceLeDiff, Nat.reduceAdd, Nat.reduceMul, Nat.reduceSub, Nat.reduceBEq, Int.reduceToNat, and_assoc, sw0]
        refine OW.inline rfl rfl rfl (by ((simp only [go_sem, List.toList_toArray, ↓reduceIte, Nat.reduceEqDiff, Nat.reduceLT, Nat.reduceBEq]); exact rfl)) Try.func114 rfl (by rw [Try.results114]) Try.ntmps114 Try.call114 (by (simp only [go_sem, Nat.reduceLT])) ?_
        intro us p
        change PW _ _ _ _ _
        try simp only [go_sem, ↓reduceIte, Nat.reduceEqDiff, Nat.reduceLT, Nat.reduceLeDiff, Nat.reduceAdd, Nat.reduceMul, Nat.reduceSub, Nat.reduceBEq]
        refine PW.seq ?_
        refine PW.regionK fun K hK => ?_
        refine OW.run [0, 1] ?_
        simp (config := { maxSteps := 2000000 }) only [go_sem, ↓reduceIte, Nat.reduceEqDiff, Nat.reduceLT, Nat.reduceLeDiff, Nat.reduceAdd, Nat.reduceMul, Nat.reduceSub, Nat.reduceBEq, Int.reduceToNat, and_assoc, sw0]
        refine OW.nil (hK _ ?_)
        clear hK K
        change PW _ _ _ _ _
        refine PW.seq ?_
        refine PW.regionK fun K hK => ?_
        refine OW.run [0, 1] ?_
        simp (config := { maxSteps := 2000000 }) only [go_sem, ↓reduceIte, Nat.reduceEqDiff, Nat.reduceLT, Nat.reduceLeDiff, Nat.reduceAdd, Nat.reduceMul, Nat.reduceSub, Nat.reduceBEq, Int.reduceToNat, and_assoc, sw0]
        refine OW.copyCheck copyCheckOK rfl rfl rfl rfl rfl (by (simp only [go_sem, Nat.reduceLT])) ?_
        refine OW.run [0, 1] ?_
        simp (config := { maxSteps := 2000000 }) only [go_sem, ↓reduceIte, Nat.reduceEqDiff, Nat.reduceLT, Nat.reduceLeDiff, Nat.reduceAdd, Nat.reduceMul, Nat.reduceSub, Nat.reduceBEq, Int.reduceToNat, and_assoc, sw0]
        refine OW.nil (hK _ ?_)
        clear hK K
        change PW _ _ _ _ _
        refine PW.seq ?_
        obtain ⟨c6, hrun⟩ := chk_some hrun
        refine PW.regionK fun K hK => ?_
        refine OW.run [] ?_
        simp (config := { maxSteps := 2000000 }) only [go_sem, ↓reduceIte, Nat.reduceEqDiff, Nat.reduceLT, Nat.reduceLeDiff, Nat.reduceAdd, Nat.reduceMul, Nat.reduceSub, Nat.reduceBEq, Int.reduceToNat, and_assoc, sw0]
        refine And.intro (by omega) (And.intro (by omega) (And.intro (by omega) (And.intro (by omega) (And.intro (by omega) ?_))))
        refine OW.nil (hK _ ?_)
        clear hK K
        change PW _ _ _ _ _
        refine PW.seq ?_
        refine PW.regionK fun K hK => ?_
        refine OW.run [4] ?_
        simp (config := { maxSteps := 2000000 }) only [go_sem, ↓reduceIte, Nat.reduceEqDiff, Nat.reduceLT, Nat.reduceLeDiff, Nat.reduceAdd, Nat.reduceMul, Nat.reduceSub, Nat.reduceBEq, Int.reduceToNat, and_assoc, sw0]
        refine OW.nil (hK _ ?_)
        clear hK K
        change PW _ _ _ _ _
        refine PW.ret ?_
        refine ⟨.inr rfl, rfl, rfl, ?_⟩
        simp (config := { maxSteps := 2000000 }) only [go_sem, ↓reduceIte, Nat.reduceEqDiff, Nat.reduceLT, Nat.reduceLeDiff, Nat.reduceAdd, Nat.reduceMul, Nat.reduceSub, Nat.reduceBEq, Int.reduceToNat, and_assoc, sw0]
        change OW _ _ _ _ _ _
        refine OW.run [3, 6, 7, 8] ?_
        simp (config := { maxSteps := 2000000 }) only [go_sem, ↓reduceIte, Nat.reduceEqDiff, Nat.reduceLT, Nat.reduceLeDiff, Nat.reduceAdd, Nat.reduceMul, Nat.reduceSub, Nat.reduceBEq, Int.reduceToNat, and_assoc, sw0]
        refine OW.nil (hK _ ?_)
        clear hK K
        change PW _ _ _ _ _
        refine PW.regionK fun K hK => ?_
        refine OW.run [3, 6, 7, 8] ?_
        simp (config := { maxSteps := 2000000 }) only [go_sem, ↓reduceIte, Nat.reduceEqDiff, Nat.reduceLT, Nat.reduceLeDiff, Nat.reduceAdd, Nat.reduceMul, Nat.reduceSub, Nat.reduceBEq, Int.reduceToNat, and_assoc, sw0]
        refine OW.nil (hK _ ?_)
        clear hK K
        refine hN2 [] (w64 (t8 + (1 : Int)), (b11 ++ ([(48 : Int)] : List Int))) _ hrun (by exact trivial) ?_
        (simp only [Env.frzL, Env.frz, frzOb, V.frz, V.frz.frzs, asD, map_asD, sw1, go_sem, ↓reduceIte, Nat.reduceEqDiff, Nat.reduceLT, Nat.reduceLeDiff, Nat.reduceAdd, Nat.reduceMul, Nat.reduceSub, Nat.reduceBEq]; done)
      · replace hrun := br_f h5 hrun
        refine PW.seq ?_
        refine PW.regionK fun K hK => ?_
        refine OW.run [3, 6, 7, 8, 17] ?_
        simp (config := { maxSteps := 2000000 }) only [go_sem, ↓reduceIte, Nat.reduceEqDiff, Nat.reduceLT, Nat.reduceLeDiff, Nat.reduceAdd, Nat.reduceMul, Nat.reduceSub, Nat.reduceBEq, Int.reduceToNat, and_assoc, sw0]
        refine OW.nil (hK _ ?_)
        clear hK K
        change PW _ _ _ _ _
        refine PW.cond rfl (fun h7 => ?_) (fun h7 => ?_)
        · replace hrun := br_t h7 hrun
          refine PW.regionK fun K hK => ?_
          refine OW.run [3, 6, 7, 8] ?_
          simp (config := { maxSteps := 2000000 }) only [go_sem, ↓reduceIte, Nat.reduceEqDiff, Nat.reduceLT, Nat.reduceLeDiff, Nat.reduceAdd, Nat.reduceMul, Nat.reduceSub, Nat.reduceBEq, Int.reduceToNat, and_assoc, sw0]
          refine OW.inline rfl rfl rfl (by ((simp only [go_sem, List.toList_toArray, ↓reduceIte, Nat.reduceEqDiff, Nat.reduceLT, Nat.reduceBEq]); exact rfl)) Try.func114 rfl (by rw [Try.results114]) Try.ntmps114 Try.call114 (by (simp only [go_sem, Nat.reduceLT])) ?_
          intro us p
          change PW _ _ _ _ _
          try simp only [go_sem, ↓reduceIte, Nat.reduceEqDiff, Nat.reduceLT, Nat.reduceLeDiff, Nat.reduceAdd, Nat.reduceMul, Nat.reduceSub, Nat.reduceBEq]
          refine PW.seq ?_
          refine PW.regionK fun K hK => ?_
          refine OW.run [0, 1] ?_
          simp (config := { maxSteps := 2000000 }) only [go_sem, ↓reduceIte, Nat.reduceEqDiff, Nat.reduceLT, Nat.reduceLeDiff, Nat.reduceAdd, Nat.reduceMul, Nat.reduceSub, Nat.reduceBEq, Int.reduceToNat, and_assoc, sw0]
          refine OW.nil (hK _ ?_)
          clear hK K
          change PW _ _ _ _ _
          refine PW.seq ?_
          refine PW.regionK fun K hK => ?_
          refine OW.run [0, 1] ?_
          simp (config := { maxSteps := 2000000 }) only [go_sem, ↓reduceIte, Nat.reduceEqDiff, Nat.reduceLT, Nat.reduceLeDiff, Nat.reduceAdd, Nat.reduceMul, Nat.reduceSub, Nat.reduceBEq, Int.reduceToNat, and_assoc, sw0]
          refine OW.copyCheck copyCheckOK rfl rfl rfl rfl rfl (by (simp only [go_sem, Nat.reduceLT])) ?_
          refine OW.run [0, 1] ?_
          simp (config := { maxSteps := 2000000 }) only [go_sem, ↓reduceIte, Nat.reduceEqDiff, Nat.reduceLT, Nat.reduceLeDiff, Nat.reduceAdd, Nat.reduceMul, Nat.reduceSub, Nat.reduceBEq, Int.reduceToNat, and_assoc, sw0]
          refine OW.nil (hK _ ?_)
          clear hK K
          change PW _ _ _ _ _
          refine PW.seq ?_
          obtain ⟨c8, hrun⟩ := chk_some hrun
          refine PW.regionK fun K hK => ?_
          refine OW.run [] ?_
          simp (config := { maxSteps := 2000000 }) only [go_sem, ↓reduceIte, Nat.reduceEqDiff, Nat.reduceLT, Nat.reduceLeDiff, Nat.reduceAdd, Nat.reduceMul, Nat.reduceSub, Nat.reduceBEq, Int.reduceToNat, and_assoc, sw0]
          refine And.intro (by omega) (And.intro (by omega) (And.intro (by omega) (And.intro (by omega) (And.intro (by omega) ?_))))
          refine OW.nil (hK _ ?_)
          clear hK K
          change PW _ _ _ _ _
          refine PW.seq ?_
          refine PW.regionK fun K hK => ?_
          refine OW.run [4] ?_
          simp (config := { maxSteps := 2000000 }) only [go_sem, ↓reduceIte, Nat.reduceEqDiff, Nat.reduceLT, Nat.reduceLeDiff, Nat.reduceAdd, Nat.reduceMul, Nat.reduceSub, Nat.reduceBEq, Int.reduceToNat, and_assoc, sw0]
          refine OW.nil (hK _ ?_)
          clear hK K
          change PW _ _ _ _ _
          refine PW.ret ?_
          refine ⟨.inr rfl, rfl, rfl, ?_⟩
          simp (config := { maxSteps := 2000000 }) only [go_sem, ↓reduceIte, Nat.reduceEqDiff, Nat.reduceLT, Nat.reduceLeDiff, Nat.reduceAdd, Nat.reduceMul, Nat.reduceSub, Nat.reduceBEq, Int.reduceToNat, and_assoc, sw0]
          change OW _ _ _ _ _ _
          refine OW.run [3, 6, 7, 8] ?_
          simp (config := { maxSteps := 2000000 }) only [go_sem, ↓reduceIte, Nat.reduceEqDiff, Nat.reduceLT, Nat.reduceLeDiff, Nat.reduceAdd, Nat.reduceMul, Nat.reduceSub, Nat.reduceBEq, Int.reduceToNat, and_assoc, sw0]
          refine OW.nil (hK _ ?_)
          clear hK K
          change PW _ _ _ _ _
          refine PW.regionK fun K hK => ?_
          refine OW.run [3, 6, 7, 8] ?_
          simp (config := { maxSteps := 2000000 }) only [go_sem, ↓reduceIte, Nat.reduceEqDiff, Nat.reduceLT, Nat.reduceLeDiff, Nat.reduceAdd, Nat.reduceMul, Nat.reduceSub, Nat.reduceBEq, Int.reduceToNat, and_assoc, sw0]
          refine OW.nil (hK _ ?_)
          clear hK K
          refine hN2 [] (w64 (t8 + (1 : Int)), (b11 ++ ([(49 : Int)] : List Int))) _ hrun (by exact trivial) ?_
          (simp only [Env.frzL, Env.frz, frzOb, V.frz, V.frz.frzs, asD, map_asD, sw1, go_sem, ↓reduceIte, Nat.reduceEqDiff, Nat.reduceLT, Nat.reduceLeDiff, Nat.reduceAdd, Nat.reduceMul, Nat.reduceSub, Nat.reduceBEq]; done)
        · replace hrun := br_f h7 hrun
          refine PW.regionK fun K hK => ?_
          refine OW.run [3, 6, 7, 8] ?_
          simp (config := { maxSteps := 2000000 }) only [go_sem, ↓reduceIte, Nat.reduceEqDiff, Nat.reduceLT, Nat.reduceLeDiff, Nat.reduceAdd, Nat.reduceMul, Nat.reduceSub, Nat.reduceBEq, Int.reduceToNat, and_assoc, sw0]
          refine OW.inline rfl rfl rfl (by ((simp only [go_sem, List.toList_toArray, ↓reduceIte, Nat.reduceEqDiff, Nat.reduceLT, Nat.reduceBEq]); exact rfl)) Try.func114 rfl (by rw [Try.results114]) Try.ntmps114 Try.call114 (by (simp only [go_sem, Nat.reduceLT])) ?_
          intro us p
          change PW _ _ _ _ _
          try simp only [go_sem, ↓reduceIte, Nat.reduceEqDiff, Nat.reduceLT, Nat.reduceLeDiff, Nat.reduceAdd, Nat.reduceMul, Nat.reduceSub, Nat.reduceBEq]
          refine PW.seq ?_
          refine PW.regionK fun K hK => ?_
          refine OW.run [0, 1] ?_
          simp (config := { maxSteps := 2000000 }) only [go_sem, ↓reduceIte, Nat.reduceEqDiff, Nat.reduceLT, Nat.reduceLeDiff, Nat.reduceAdd, Nat.reduceMul, Nat.reduceSub, Nat.reduceBEq, Int.reduceToNat, and_assoc, sw0]
          refine OW.nil (hK _ ?_)
          clear hK K
          change PW _ _ _ _ _
          refine PW.seq ?_
          refine PW.regionK fun K hK => ?_
          refine OW.run [0, 1] ?_
          simp (config := { maxSteps := 2000000 }) only [go_sem, ↓reduceIte, Nat.reduceEqDiff, Nat.reduceLT, Nat.reduceLeDiff, Nat.reduceAdd, Nat.reduceMul, Nat.reduceSub, Nat.reduceBEq, Int.reduceToNat, and_assoc, sw0]
          refine OW.copyCheck copyCheckOK rfl rfl rfl rfl rfl (by (simp only [go_sem, Nat.reduceLT])) ?_
          refine OW.run [0, 1] ?_
          simp (config := { maxSteps := 2000000 }) only [go_sem, ↓reduceIte, Nat.reduceEqDiff, Nat.reduceLT, Nat.reduceLeDiff, Nat.reduceAdd, Nat.reduceMul, Nat.reduceSub, Nat.reduceBEq, Int.reduceToNat, and_assoc, sw0]
          refine OW.nil (hK _ ?_)
          clear hK K
          change PW _ _ _ _ _
          refine PW.seq ?_
          obtain ⟨c9, hrun⟩ := chk_some hrun
          refine PW.regionK fun K hK => ?_
          refine OW.run [] ?_
          simp (config := { maxSteps := 2000000 }) only [go_sem, ↓reduceIte, Nat.reduceEqDiff, Nat.reduceLT, Nat.reduceLeDiff, Nat.reduceAdd, Nat.reduceMul, Nat.reduceSub, Nat.reduceBEq, Int.reduceToNat, and_assoc, sw0]
          refine And.intro (by omega) (And.intro (by omega) (And.intro (by omega) (And.intro (by omega) (And.intro (by omega) ?_))))
          refine OW.nil (hK _ ?_)
          clear hK K
          change PW _ _ _ _ _
          refine PW.seq ?_
          refine PW.regionK fun K hK => ?_
          refine OW.run [4] ?_
          simp (config := { maxSteps := 2000000 }) only [go_sem, ↓reduceIte, Nat.reduceEqDiff, Nat.reduceLT, Nat.reduceLeDiff, Nat.reduceAdd, Nat.reduceMul, Nat.reduceSub, Nat.reduceBEq, Int.reduceToNat, and_assoc, sw0]
          refine OW.nil (hK _ ?_)
          clear hK K
          change PW _ _ _ _ _
          refine PW.ret ?_
          refine ⟨.inr rfl, rfl, rfl, ?_⟩
          simp (config := { maxSteps := 2000000 }) only [go_sem, ↓reduceIte, Nat.reduceEqDiff, Nat.reduceLT, Nat.reduceLeDiff, Nat.reduceAdd, Nat.reduceMul, Nat.reduceSub, Nat.reduceBEq, Int.reduceToNat, and_assoc, sw0]
          change OW _ _ _ _ _ _
          refine OW.run [3, 6, 7, 8] ?_
          simp (config := { maxSteps := 2000000 }) only [go_sem, ↓reduceIte, Nat.reduceEqDiff, Nat.reduceLT, Nat.reduceLeDiff, Nat.reduceAdd, Nat.reduceMul, Nat.reduceSub, Nat.reduceBEq, Int.reduceToNat, and_assoc, sw0]
          refine OW.nil (hK _ ?_)
          clear hK K
          change PW _ _ _ _ _
          refine PW.regionK fun K hK => ?_
          refine OW.run [3, 6, 7, 8] ?_
          simp (config := { maxSteps := 2000000 }) only [go_sem, ↓reduceIte, Nat.reduceEqDiff, Nat.reduceLT, Nat.reduceLeDiff, Nat.reduceAdd, Nat.reduceMul, Nat.reduceSub, Nat.reduceBEq, Int.reduceToNat, and_assoc, sw0]
          refine OW.nil (hK _ ?_)
          clear hK K
          refine hN2 [] (w64 (t8 + (1 : Int)), (b11 ++ ([(63 : Int)] : List Int))) _ hrun (by exact trivial) ?_
          (simp only [Env.frzL, Env.frz, frzOb, V.frz, V.frz.frzs, asD, map_asD, sw1, go_sem, ↓reduceIte, Nat.reduceEqDiff, Nat.reduceLT, Nat.reduceLeDiff, Nat.reduceAdd, Nat.reduceMul, Nat.reduceSub, Nat.reduceBEq]; done)
    · replace hrun := br_f h3 hrun
      refine PW.exit ?_
      refine hN1 [] b11 _ hrun (by exact trivial) ?_
      (simp only [Env.frzL, Env.frz, frzOb, V.frz, V.frz.frzs, asD, map_asD, sw1, go_sem, ↓reduceIte, Nat.reduceEqDiff, Nat.reduceLT, Nat.reduceLeDiff, Nat.reduceAdd, Nat.reduceMul, Nat.reduceSub, Nat.reduceBEq]; done)
  · rintro b1 hrun
    try simp only [go_sem, ↓reduceIte, Nat.reduceEqDiff, Nat.reduceLT, Nat.reduceLeDiff, Nat.reduceAdd, Nat.reduceMul, Nat.reduceSub, Nat.reduceBEq]
    refine PW.seq ?_
    obtain ⟨c10, hrun⟩ := chk_some hrun
    refine PW.regionK fun K hK => ?_
    refine OW.run [2] ?_
    simp (config := { maxSteps := 2000000 }) only [go_sem, ↓reduceIte, Nat.reduceEqDiff, Nat.reduceLT, Nat.reduceLeDiff, Nat.reduceAdd, Nat.reduceMul, Nat.reduceSub, Nat.reduceBEq, Int.reduceToNat, and_assoc, sw0]
    refine OW.bldString stringOK rfl rfl rfl rfl rfl b1 c10 (.inr ⟨1, rfl, by decide, rfl⟩) rfl (by (simp only [go_sem, Nat.reduceLT])) ?_
    refine OW.run [2] ?_
    simp (config := { maxSteps := 2000000 }) only [go_sem, ↓reduceIte, Nat.reduceEqDiff, Nat.reduceLT, Nat.reduceLeDiff, Nat.reduceAdd, Nat.reduceMul, Nat.reduceSub, Nat.reduceBEq, Int.reduceToNat, and_assoc, sw0]
    refine OW.nil (hK _ ?_)
    clear hK K
    change PW _ _ _ _ _
    refine PW.ret ?_
    change PW.Ends _ _ _ _ _ _
    refine PW.Ends.intro (.inr rfl) ?_
    simp (config := { maxSteps := 2000000 }) only [go_sem, ↓reduceIte, Nat.reduceEqDiff, Nat.reduceLT, Nat.reduceLeDiff, Nat.reduceAdd, Nat.reduceMul, Nat.reduceSub, Nat.reduceBEq, Int.reduceToNat, and_assoc, sw0]
    obtain rfl := Option.some.inj hrun
    refine RetOK.data' 4 (by exact trivial) ?_
    rfl

set_option maxRecDepth 20000 in
set_option maxHeartbeats 8000000 in
theorem code_ParseBits_ok (N : Nat) (s : ByteArray) (r : List Int × Int) (hrun : code_ParseBits N s = some r) : CallOK Try.prog 43 [(Sx s)] (.d (.tup [(L r.1), (I r.2)])) [] := by
  refine CallOK.of_PW Try.func43 rfl (by rw [Try.results43]) Try.ntmps43 Try.call43 ?_
  change PW _ _ _ _ _
  try simp only [go_sem, ↓reduceIte, Nat.reduceEqDiff, Nat.reduceLT, Nat.reduceLeDiff, Nat.reduceAdd, Nat.reduceMul, Nat.reduceSub, Nat.reduceBEq]
  unfold code_ParseBits at hrun
  refine PW.seq ?_
  refine PW.regionK fun K hK => ?_
  refine OW.run [0] ?_
  simp (config := { maxSteps := 2000000 }) only [go_sem, ↓reduceIte, Nat.reduceEqDiff, Nat.reduceLT, Nat.reduceLeDiff, Nat.reduceAdd, Nat.reduceMul, Nat.reduceSub, Nat.reduceBEq, Int.reduceToNat, and_assoc, sw0]
  refine OW.nil (hK _ ?_)
  clear hK K
  change PW _ _ _ _ _
  refine PW.seq ?_
  refine PW.seq ?_
  refine PW.regionK fun K hK => ?_
  refine OW.run [0, 9] ?_
  simp (config := { maxSteps := 2000000 }) only [go_sem, ↓reduceIte, Nat.reduceEqDiff, Nat.reduceLT, Nat.reduceLeDiff, Nat.reduceAdd, Nat.reduceMul, Nat.reduceSub, Nat.reduceBEq, Int.reduceToNat, and_assoc, sw0]
  refine OW.nil (hK _ ?_)
  clear hK K
  change PW _ _ _ _ _
  refine PW.cond rfl (fun h1 => ?_) (fun h1 => ?_)
  · replace hrun := br_t h1 hrun
    refine PW.seq ?_
    refine PW.regionK fun K hK => ?_
    refine OW.run [2, 3] ?_
    simp (config := { maxSteps := 2000000 }) only [go_sem, ↓reduceIte, Nat.reduceEqDiff, Nat.reduceLT, Nat.reduceLeDiff, Nat.reduceAdd, Nat.reduceMul, Nat.reduceSub, Nat.reduceBEq, Int.reduceToNat, and_assoc, sw0]
    refine OW.nil (hK _ ?_)
    clear hK K
    change PW _ _ _ _ _
    refine PW.ret ?_
    change PW.Ends _ _ _ _ _ _
    refine PW.Ends.intro (.inr rfl) ?_
    simp (config := { maxSteps := 2000000 }) only [go_sem, ↓reduceIte, Nat.reduceEqDiff, Nat.reduceLT, Nat.reduceLeDiff, Nat.reduceAdd, Nat.reduceMul, Nat.reduceSub, Nat.reduceBEq, Int.reduceToNat, and_assoc, sw0]
    obtain rfl := Option.some.inj hrun
    refine RetOK.data' 4 (by exact okD_all rfl) ?_
    rfl
  · replace hrun := br_f h1 hrun
    refine PW.skip ?_
    change PW _ _ _ _ _
    refine PW.seq ?_
    refine PW.regionK fun K hK => ?_
    refine OW.run [0, 4] ?_
    simp (config := { maxSteps := 2000000 }) only [go_sem, ↓reduceIte, Nat.reduceEqDiff, Nat.reduceLT, Nat.reduceLeDiff, Nat.reduceAdd, Nat.reduceMul, Nat.reduceSub, Nat.reduceBEq, Int.reduceToNat, and_assoc, sw0]
    refine OW.nil (hK _ ?_)
    clear hK K
    change PW _ _ _ _ _
    refine PW.joinS (τ := List Int) [4] 1 (fun b0 => [(4, .own 0 0 b0.length 1)]) (fun b0 => [{ cells := (b0.map I).map .d, e := 3 }]) _ _ r (by exact Nat.zero_le _) hrun ?_ ?_
    · intro K_ hrun N2 hN2
      refine PW.seq ?_
      refine PW.regionK fun K hK => ?_
      refine OW.step rfl ?_
      simp (config := { maxSteps := 2000000 }) only [go_sem, ↓reduceIte, Nat.reduceEqDiff, Nat.reduceLT, Nat.reduceLeDiff, Nat.reduceAdd, Nat.reduceMul, Nat.reduceSub, Nat.reduceBEq, Int.reduceToNat, and_assoc, sw0]
      refine OW.bytes rfl rfl Try.underlying9 Try.underlying145 Try.underlying5 rfl (by (simp only [go_sem, Nat.reduceLT])) ?_
      refine OW.run [4, 11, 12, 13] ?_
      simp (config := { maxSteps := 2000000 }) only [go_sem, ↓reduceIte, Nat.reduceEqDiff, Nat.reduceLT, Nat.reduceLeDiff, Nat.reduceAdd, Nat.reduceMul, Nat.reduceSub, Nat.reduceBEq, Int.reduceToNat, and_assoc, sw0]
      refine OW.nil (hK _ ?_)
      clear hK K
      change PW _ _ _ _ _
      refine PW.block ?_
      refine PW.virt 4 3 1 rfl ?_
      try simp only [go_sem, ↓reduceIte, Nat.reduceEqDiff, Nat.reduceLT, Nat.reduceLeDiff, Nat.reduceAdd, Nat.reduceMul, Nat.reduceSub, Nat.reduceBEq]
      refine PW.loopS (σ := Int × List Int) [4, 11, 12, 13] 1 (fun (t13, b01) => [(4, .own 0 0 b01.length 1), (13, .d (I t13))]) (fun (t13, b01) => [{ cells := (b01.map I).map .d, e := 3 }]) (code_ParseBits.b1 N s K_) r N ((0 : Int), ([] : List Int)) (by exact Nat.zero_le _) hrun (by (simp only [Env.frzL, Env.frz, frzOb, V.frz, V.frz.frzs, asD, map_asD, sw1, go_sem, ↓reduceIte, Nat.reduceEqDiff, Nat.reduceLT, Nat.reduceLeDiff, Nat.reduceAdd, Nat.reduceMul, Nat.reduceSub, Nat.reduceBEq]; done)) ?_
      rintro n ⟨t13, b01⟩ hrun N3 hN3
      unfold code_ParseBits.b1 at hrun
      try simp only [go_sem, ↓reduceIte, Nat.reduceEqDiff, Nat.reduceLT, Nat.reduceLeDiff, Nat.reduceAdd, Nat.reduceMul, Nat.reduceSub, Nat.reduceBEq]
      refine PW.seq ?_
      refine PW.regionK fun K hK => ?_
      refine OW.run [4, 11, 12, 13, 14] ?_
      simp (config := { maxSteps := 2000000 }) only [go_sem, ↓reduceIte, Nat.reduceEqDiff, Nat.reduceLT, Nat.reduceLeDiff, Nat.reduceAdd, Nat.reduceMul, Nat.reduceSub, Nat.reduceBEq, Int.reduceToNat, and_assoc, sw0]
      refine OW.nil (hK _ ?_)
      clear hK K
      change PW _ _ _ _ _
      refine PW.seq ?_
      refine PW.cond rfl (fun h4 => ?_) (fun h4 => ?_)
      · replace hrun := br_t h4 hrun
        refine PW.skip ?_
        change PW _ _ _ _ _
        refine PW.seq ?_
        refine PW.block ?_
        refine PW.seq ?_
        obtain ⟨c5, hrun⟩ := chk_some hrun
        refine PW.regionK fun K hK => ?_
        refine OW.run [4, 6, 11, 12, 13] ?_
        (simp (config := { maxSteps := 2000000 }) only [go_sem, ↓reduceIte, Nat.reduceEqDiff, Nat.reduceLT, Nat.reduceLeDiff, Nat.reduceAdd, Nat.reduceMul, Nat.reduceSub, Nat.reduceBEq, Int.reduceToNat, and_assoc, sw0, getD_mapF (fun (x : Int) => (.val (.int .u8 x))) (bytesL s) t13.toNat default (by omega)])
        refine And.intro (by omega) (And.intro (by omega) (And.intro (by omega) (And.intro (by omega) ?_)))
        refine OW.nil (hK _ ?_)
        clear hK K
        change PW _ _ _ _ _
        refine PW.seq ?_
        refine PW.seq ?_
        refine PW.regionK fun K hK => ?_
        refine OW.run [4, 6, 11, 12, 13, 22] ?_
        simp (config := { maxSteps := 2000000 }) only [go_sem, ↓reduceIte, Nat.reduceEqDiff, Nat.reduceLT, Nat.reduceLeDiff, Nat.reduceAdd, Nat.reduceMul, Nat.reduceSub, Nat.reduceBEq, Int.reduceToNat, and_assoc, sw0]
        refine OW.nil (hK _ ?_)
        clear hK K
        change PW _ _ _ _ _
        refine PW.cond rfl (fun h6 => ?_) (fun h6 => ?_)
        · replace hrun := br_t h6 hrun
          refine PW.seq ?_
          refine PW.regionK fun K hK => ?_
          refine OW.run [2, 3] ?_
          simp (config := { maxSteps := 2000000 }) only [go_sem, ↓reduceIte, Nat.reduceEqDiff, Nat.reduceLT, Nat.reduceLeDiff, Nat.reduceAdd, Nat.reduceMul, Nat.reduceSub, Nat.reduceBEq, Int.reduceToNat, and_assoc, sw0]
          refine OW.nil (hK _ ?_)
          clear hK K
          change PW _ _ _ _ _
          refine PW.ret ?_
          change PW.Ends _ _ _ _ _ _
          refine PW.Ends.intro (.inr rfl) ?_
          simp (config := { maxSteps := 2000000 }) only [go_sem, ↓reduceIte, Nat.reduceEqDiff, Nat.reduceLT, Nat.reduceLeDiff, Nat.reduceAdd, Nat.reduceMul, Nat.reduceSub, Nat.reduceBEq, Int.reduceToNat, and_assoc, sw0]
          obtain rfl := Option.some.inj hrun
          refine RetOK.data' 4 (by exact okD_all rfl) ?_
          rfl
        · replace hrun := br_f h6 hrun
          refine PW.skip ?_
          change PW _ _ _ _ _
          obtain ⟨c7, hrun⟩ := chk_some hrun
          refine PW.regionK fun K hK => ?_
          refine OW.run [4, 11, 12, 13] ?_
          simp (config := { maxSteps := 2000000 }) only [go_sem, ↓reduceIte, Nat.reduceEqDiff, Nat.reduceLT, Nat.reduceLeDiff, Nat.reduceAdd, Nat.reduceMul, Nat.reduceSub, Nat.reduceBEq, Int.reduceToNat, and_assoc, sw0]
          refine And.intro (by omega) (And.intro (by omega) (And.intro (by omega) ?_))
          refine OW.nil (hK _ ?_)
          clear hK K
          change PW _ _ _ _ _
          refine PW.regionK fun K hK => ?_
          refine OW.run [4, 11, 12, 13] ?_
          simp (config := { maxSteps := 2000000 }) only [go_sem, ↓reduceIte, Nat.reduceEqDiff, Nat.reduceLT, Nat.reduceLeDiff, Nat.reduceAdd, Nat.reduceMul, Nat.reduceSub, Nat.reduceBEq, Int.reduceToNat, and_assoc, sw0]
          refine OW.nil (hK _ ?_)
          clear hK K
          refine hN3 [] (w64 (t13 + (1 : Int)), (b01 ++ ([w64 (wu8 (((bytesL s).getD t13.toNat 0) - (48 : Int)))] : List Int))) _ hrun (by exact trivial) ?_
          (simp only [Env.frzL, Env.frz, frzOb, V.frz, V.frz.frzs, asD, map_asD, sw1, go_sem, ↓reduceIte, Nat.reduceEqDiff, Nat.reduceLT, Nat.reduceLeDiff, Nat.reduceAdd, Nat.reduceMul, Nat.reduceSub, Nat.reduceBEq]; rfl)
      · replace hrun := br_f h4 hrun
        refine PW.exit ?_
        refine hN2 [] b01 _ hrun (by exact trivial) ?_
        (simp only [Env.frzL, Env.frz, frzOb, V.frz, V.frz.frzs, asD, map_asD, sw1, go_sem, ↓reduceIte, Nat.reduceEqDiff, Nat.reduceLT, Nat.reduceLeDiff, Nat.reduceAdd, Nat.reduceMul, Nat.reduceSub, Nat.reduceBEq]; done)
    · rintro b0 hrun
      try simp only [go_sem, ↓reduceIte, Nat.reduceEqDiff, Nat.reduceLT, Nat.reduceLeDiff, Nat.reduceAdd, Nat.reduceMul, Nat.reduceSub, Nat.reduceBEq]
      refine PW.seq ?_
      refine PW.regionK fun K hK => ?_
      refine OW.run [2, 3] ?_
      simp (config := { maxSteps := 2000000 }) only [go_sem, ↓reduceIte, Nat.reduceEqDiff, Nat.reduceLT, Nat.reduceLeDiff, Nat.reduceAdd, Nat.reduceMul, Nat.reduceSub, Nat.reduceBEq, Int.reduceToNat, and_assoc, sw0]
      refine OW.nil (hK _ ?_)
      clear hK K
      change PW _ _ _ _ _
      refine PW.ret ?_
      change PW.Ends _ _ _ _ _ _
      refine PW.Ends.intro (.inr rfl) ?_
      simp (config := { maxSteps := 2000000 }) only [go_sem, ↓reduceIte, Nat.reduceEqDiff, Nat.reduceLT, Nat.reduceLeDiff, Nat.reduceAdd, Nat.reduceMul, Nat.reduceSub, Nat.reduceBEq, Int.reduceToNat, and_assoc, sw0]
      obtain rfl := Option.some.inj hrun
      refine RetOK.data' 4 (by (refine okAll_intro ?_; (simp only [go_sem, sw2, List.length_set, List.length_replicate, and_true, true_and, Nat.le_refl, ↓reduceIte, Nat.reduceEqDiff, Nat.reduceLT, Nat.reduceLeDiff, Nat.reduceAdd, Nat.reduceMul, Nat.reduceSub, Nat.reduceBEq]; done))) ?_
      (((simp only [go_sem, sw1, ↓reduceIte, Nat.reduceEqDiff, Nat.reduceLT, Nat.reduceLeDiff, Nat.reduceAdd, Nat.reduceMul, Nat.reduceSub, Nat.reduceBEq]; try simp only [seg, go_sem, ↓reduceIte, Nat.reduceEqDiff, Nat.reduceLT, Nat.reduceLeDiff, Nat.reduceAdd, Nat.reduceMul, Nat.reduceSub, Nat.reduceBEq])); done)

set_option maxRecDepth 20000 in
set_option maxHeartbeats 8000000 in
theorem ref02_ParseBits_ok (N : Nat) (s : ByteArray) (r : List Int × Int) (hrun : ref02_ParseBits N s = some r) : CallOK Try.prog 44 [(Sx s)] (.d (.tup [(L r.1), (I r.2)])) [] := by
  refine CallOK.of_PW Try.func44 rfl (by rw [Try.results44]) Try.ntmps44 Try.call44 ?_
  change PW _ _ _ _ _
  try simp only [go_sem, ↓reduceIte, Nat.reduceEqDiff, Nat.reduceLT, Nat.reduceLeDiff, Nat.reduceAdd, Nat.reduceMul, Nat.reduceSub, Nat.reduceBEq]
  unfold ref02_ParseBits at hrun
  refine PW.seq ?_
  refine PW.regionK fun K hK => ?_
  refine OW.run [0] ?_
  simp (config := { maxSteps := 2000000 }) only [go_sem, ↓reduceIte, Nat.reduceEqDiff, Nat.reduceLT, Nat.reduceLeDiff, Nat.reduceAdd, Nat.reduceMul, Nat.reduceSub, Nat.reduceBEq, Int.reduceToNat, and_assoc, sw0]
  refine OW.nil (hK _ ?_)
  clear hK K
  change PW _ _ _ _ _
  refine PW.seq ?_
  refine PW.seq ?_
  refine PW.regionK fun K hK => ?_
  refine OW.run [0, 8] ?_
  simp (config := { maxSteps := 2000000 }) only [go_sem, ↓reduceIte, Nat.reduceEqDiff, Nat.reduceLT, Nat.reduceLeDiff, Nat.reduceAdd, Nat.reduceMul, Nat.reduceSub, Nat.reduceBEq, Int.reduceToNat, and_assoc, sw0]
  refine OW.nil (hK _ ?_)
  clear hK K
  change PW _ _ _ _ _
  refine PW.cond rfl (fun h1 => ?_) (fun h1 => ?_)
  · replace hrun := br_t h1 hrun
    refine PW.seq ?_
    refine PW.regionK fun K hK => ?_
    refine OW.run [2, 3] ?_
    simp (config := { maxSteps := 2000000 }) only [go_sem, ↓reduceIte, Nat.reduceEqDiff, Nat.reduceLT, Nat.reduceLeDiff, Nat.reduceAdd, Nat.reduceMul, Nat.reduceSub, Nat.reduceBEq, Int.reduceToNat, and_assoc, sw0]
    refine OW.nil (hK _ ?_)
    clear hK K
    change PW _ _ _ _ _
    refine PW.ret ?_
    change PW.Ends _ _ _ _ _ _
    refine PW.Ends.intro (.inr rfl) ?_
    simp (config := { maxSteps := 2000000 }) only [go_sem, ↓reduceIte, Nat.reduceEqDiff, Nat.reduceLT, Nat.reduceLeDiff, Nat.reduceAdd, Nat.reduceMul, Nat.reduceSub, Nat.reduceBEq, Int.reduceToNat, and_assoc, sw0]
    obtain rfl := Option.some.inj hrun
    refine RetOK.data' 4 (by exact okD_all rfl) ?_
    rfl
  · replace hrun := br_f h1 hrun
    refine PW.skip ?_
    change PW _ _ _ _ _
    refine PW.seq ?_
    refine PW.regionK fun K hK => ?_
    refine OW.run [0, 4] ?_
    simp (config := { maxSteps := 2000000 }) only [go_sem, ↓reduceIte, Nat.reduceEqDiff, Nat.reduceLT, Nat.reduceLeDiff, Nat.reduceAdd, Nat.reduceMul, Nat.reduceSub, Nat.reduceBEq, Int.reduceToNat, and_assoc, sw0]
    refine OW.nil (hK _ ?_)
    clear hK K
    change PW _ _ _ _ _
    refine PW.joinS (τ := List Int) [4] 1 (fun b0 => [(4, .own 0 0 b0.length 1)]) (fun b0 => [{ cells := (b0.map I).map .d, e := 3 }]) _ _ r (by exact Nat.zero_le _) hrun ?_ ?_
    · intro K_ hrun N2 hN2
      refine PW.seq ?_
      refine PW.regionK fun K hK => ?_
      refine OW.run [0, 4, 5] ?_
      simp (config := { maxSteps := 2000000 }) only [go_sem, ↓reduceIte, Nat.reduceEqDiff, Nat.reduceLT, Nat.reduceLeDiff, Nat.reduceAdd, Nat.reduceMul, Nat.reduceSub, Nat.reduceBEq, Int.reduceToNat, and_assoc, sw0]
      refine OW.nil (hK _ ?_)
      clear hK K
      change PW _ _ _ _ _
      refine PW.block ?_
      refine PW.virt 4 3 1 rfl ?_
      try simp only [go_sem, ↓reduceIte, Nat.reduceEqDiff, Nat.reduceLT, Nat.reduceLeDiff, Nat.reduceAdd, Nat.reduceMul, Nat.reduceSub, Nat.reduceBEq]
      refine PW.loopS (σ := Int × List Int) [0, 4, 5] 1 (fun (i, b01) => [(4, .own 0 0 b01.length 1), (5, .d (I i))]) (fun (i, b01) => [{ cells := (b01.map I).map .d, e := 3 }]) (ref02_ParseBits.b1 N s K_) r N ((0 : Int), ([] : List Int)) (by exact Nat.zero_le _) hrun (by (simp only [Env.frzL, Env.frz, frzOb, V.frz, V.frz.frzs, asD, map_asD, sw1, go_sem, ↓reduceIte, Nat.reduceEqDiff, Nat.reduceLT, Nat.reduceLeDiff, Nat.reduceAdd, Nat.reduceMul, Nat.reduceSub, Nat.reduceBEq]; done)) ?_
      rintro n ⟨i, b01⟩ hrun N3 hN3
      unfold ref02_ParseBits.b1 at hrun
      try simp only [go_sem, ↓reduceIte, Nat.reduceEqDiff, Nat.reduceLT, Nat.reduceLeDiff, Nat.reduceAdd, Nat.reduceMul, Nat.reduceSub, Nat.reduceBEq]
      refine PW.seq ?_
      refine PW.seq ?_
      refine PW.regionK fun K hK => ?_
      refine OW.run [0, 4, 5, 12] ?_
      simp (config := { maxSteps := 2000000 }) only [go_sem, ↓reduceIte, Nat.reduceEqDiff, Nat.reduceLT, Nat.reduceLeDiff, Nat.reduceAdd, Nat.reduceMul, Nat.reduceSub, Nat.reduceBEq, Int.reduceToNat, and_assoc, sw0]
      refine OW.nil (hK _ ?_)
      clear hK K
      change PW _ _ _ _ _
      refine PW.cond rfl (fun h4 => ?_) (fun h4 => ?_)
      · replace hrun := br_t h4 hrun
        refine PW.skip ?_
        change PW _ _ _ _ _
        refine PW.seq ?_
        refine PW.block ?_
        refine PW.seq ?_
        refine PW.seq ?_
        obtain ⟨c5, hrun⟩ := chk_some hrun
        obtain ⟨c6, hrun⟩ := chk_some hrun
        refine PW.regionK fun K hK => ?_
        refine OW.run [0, 4, 5, 24] ?_
        simp (config := { maxSteps := 2000000 }) only [go_sem, ↓reduceIte, Nat.reduceEqDiff, Nat.reduceLT, Nat.reduceLeDiff, Nat.reduceAdd, Nat.reduceMul, Nat.reduceSub, Nat.reduceBEq, Int.reduceToNat, and_assoc, sw0]
        repeat (refine And.intro (by first | omega | (intro hg; have hq := c6 hg; first | omega | exact hq | (simp only [List.length_map]; omega)) | (first | omega | assumption | rfl | decide | (simp only [List.length_map, List.length_replicate, List.length_append, List.length_take, List.length_drop, List.length_set, List.length_cons, List.length_nil, Nat.zero_add, Int.toNat_natCast] at *; omega) | (simp only [List.length_map, List.length_replicate, List.length_append, List.length_take, List.length_drop, List.length_set, List.length_cons, List.length_nil, Nat.zero_add, Int.toNat_natCast]; done) | trivial)) ?_)
        refine OW.nil (hK _ ?_)
        clear hK K
        change PW _ _ _ _ _
        refine PW.cond rfl (fun h7 => ?_) (fun h7 => ?_)
        · replace hrun := br_t h7 hrun
          refine PW.seq ?_
          refine PW.regionK fun K hK => ?_
          refine OW.run [2, 3] ?_
          simp (config := { maxSteps := 2000000 }) only [go_sem, ↓reduceIte, Nat.reduceEqDiff, Nat.reduceLT, Nat.reduceLeDiff, Nat.reduceAdd, Nat.reduceMul, Nat.reduceSub, Nat.reduceBEq, Int.reduceToNat, and_assoc, sw0]
          refine OW.nil (hK _ ?_)
          clear hK K
          change PW _ _ _ _ _
          refine PW.ret ?_
          change PW.Ends _ _ _ _ _ _
          refine PW.Ends.intro (.inr rfl) ?_
          simp (config := { maxSteps := 2000000 }) only [go_sem, ↓reduceIte, Nat.reduceEqDiff, Nat.reduceLT, Nat.reduceLeDiff, Nat.reduceAdd, Nat.reduceMul, Nat.reduceSub, Nat.reduceBEq, Int.reduceToNat, and_assoc, sw0]
          obtain rfl := Option.some.inj hrun
          refine RetOK.data' 4 (by exact okD_all rfl) ?_
          rfl
        · replace hrun := br_f h7 hrun
          refine PW.skip ?_
          change PW _ _ _ _ _
          obtain ⟨c8, hrun⟩ := chk_some hrun
          obtain ⟨c9, hrun⟩ := chk_some hrun
          refine PW.regionK fun K hK => ?_
          refine OW.run [0, 4, 5] ?_
          simp (config := { maxSteps := 2000000 }) only [go_sem, ↓reduceIte, Nat.reduceEqDiff, Nat.reduceLT, Nat.reduceLeDiff, Nat.reduceAdd, Nat.reduceMul, Nat.reduceSub, Nat.reduceBEq, Int.reduceToNat, and_assoc, sw0]
          refine And.intro (by omega) (And.intro (by omega) (And.intro (by omega) (And.intro (by omega) (And.intro (by omega) ?_))))
          refine OW.nil (hK _ ?_)
          clear hK K
          change PW _ _ _ _ _
          refine PW.regionK fun K hK => ?_
          refine OW.run [0, 4, 5] ?_
          simp (config := { maxSteps := 2000000 }) only [go_sem, ↓reduceIte, Nat.reduceEqDiff, Nat.reduceLT, Nat.reduceLeDiff, Nat.reduceAdd, Nat.reduceMul, Nat.reduceSub, Nat.reduceBEq, Int.reduceToNat, and_assoc, sw0]
          refine OW.nil (hK _ ?_)
          clear hK K
          refine hN3 [] (w64 (i + (1 : Int)), (b01 ++ ([w64 (wu8 (((s.data.getD i.toNat 0).toNat) - (48 : Int)))] : List Int))) _ hrun (by exact trivial) ?_
          (simp only [Env.frzL, Env.frz, frzOb, V.frz, V.frz.frzs, asD, map_asD, sw1, go_sem, ↓reduceIte, Nat.reduceEqDiff, Nat.reduceLT, Nat.reduceLeDiff, Nat.reduceAdd, Nat.reduceMul, Nat.reduceSub, Nat.reduceBEq]; done)
      · replace hrun := br_f h4 hrun
        refine PW.exit ?_
        refine hN2 [] b01 _ hrun (by exact trivial) ?_
        (simp only [Env.frzL, Env.frz, frzOb, V.frz, V.frz.frzs, asD, map_asD, sw1, go_sem, ↓reduceIte, Nat.reduceEqDiff, Nat.reduceLT, Nat.reduceLeDiff, Nat.reduceAdd, Nat.reduceMul, Nat.reduceSub, Nat.reduceBEq]; done)
    · rintro b0 hrun
      try simp only [go_sem, ↓reduceIte, Nat.reduceEqDiff, Nat.reduceLT, Nat.reduceLeDiff, Nat.reduceAdd, Nat.reduceMul, Nat.reduceSub, Nat.reduceBEq]
      refine PW.seq ?_
      refine PW.regionK fun K hK => ?_
      refine OW.run [2, 3] ?_
      simp (config := { maxSteps := 2000000 }) only [go_sem, ↓reduceIte, Nat.reduceEqDiff, Nat.reduceLT, Nat.reduceLeDiff, Nat.reduceAdd, Nat.reduceMul, Nat.reduceSub, Nat.reduceBEq, Int.reduceToNat, and_assoc, sw0]
      refine OW.nil (hK _ ?_)
      clear hK K
      change PW _ _ _ _ _
      refine PW.ret ?_
      change PW.Ends _ _ _ _ _ _
      refine PW.Ends.intro (.inr rfl) ?_
      simp (config := { maxSteps := 2000000 }) only [go_sem, ↓reduceIte, Nat.reduceEqDiff, Nat.reduceLT, Nat.reduceLeDiff, Nat.reduceAdd, Nat.reduceMul, Nat.reduceSub, Nat.reduceBEq, Int.reduceToNat, and_assoc, sw0]
      obtain rfl := Option.some.inj hrun
      refine RetOK.data' 4 (by (refine okAll_intro ?_; (simp only [go_sem, sw2, List.length_set, List.length_replicate, and_true, true_and, Nat.le_refl, ↓reduceIte, Nat.reduceEqDiff, Nat.reduceLT, Nat.reduceLeDiff, Nat.reduceAdd, Nat.reduceMul, Nat.reduceSub, Nat.reduceBEq]; done))) ?_
      (((simp only [go_sem, sw1, ↓reduceIte, Nat.reduceEqDiff, Nat.reduceLT, Nat.reduceLeDiff, Nat.reduceAdd, Nat.reduceMul, Nat.reduceSub, Nat.reduceBEq]; try simp only [seg, go_sem, ↓reduceIte, Nat.reduceEqDiff, Nat.reduceLT, Nat.reduceLeDiff, Nat.reduceAdd, Nat.reduceMul, Nat.reduceSub, Nat.reduceBEq])); done)

set_option maxRecDepth 20000 in
set_option maxHeartbeats 8000000 in
theorem ref02_FormatBits_ok (N : Nat) (bits : List Int) (r : ByteArray) (hrun : ref02_FormatBits N bits = some r) : CallOK Try.prog 45 [(L bits)] (.d (Sx r)) [] := by
  refine CallOK.of_PW Try.func45 rfl (by rw [Try.results45]) Try.ntmps45 Try.call45 ?_
  change PW _ _ _ _ _
  try simp only [go_sem, ↓reduceIte, Nat.reduceEqDiff, Nat.reduceLT, Nat.reduceLeDiff, Nat.reduceAdd, Nat.reduceMul, Nat.reduceSub, Nat.reduceBEq]
  unfold ref02_FormatBits at hrun
  refine PW.seq ?_
  refine PW.regionK fun K hK => ?_
  refine OW.run [0] ?_
  simp (config := { maxSteps := 2000000 }) only [go_sem, ↓reduceIte, Nat.reduceEqDiff, Nat.reduceLT, Nat.reduceLeDiff, Nat.reduceAdd, Nat.reduceMul, Nat.reduceSub, Nat.reduceBEq, Int.reduceToNat, and_assoc, sw0]
  refine OW.nil (hK _ ?_)
  clear hK K
  change PW _ _ _ _ _
  refine PW.seq ?_
  refine PW.regionK fun K hK => ?_
  refine OW.run [0, 3] ?_
  simp (config := { maxSteps := 2000000 }) only [go_sem, ↓reduceIte, Nat.reduceEqDiff, Nat.reduceLT, Nat.reduceLeDiff, Nat.reduceAdd, Nat.reduceMul, Nat.reduceSub, Nat.reduceBEq, Int.reduceToNat, and_assoc, sw0]
  refine OW.nil (hK _ ?_)
  clear hK K
  change PW _ _ _ _ _
  refine PW.joinS (τ := ByteArray) [3] 0 (fun t => [(3, .d (Sx t))]) (fun t => []) _ _ r (by exact Nat.le_refl _) hrun ?_ ?_
  · intro K_ hrun N1 hN1
    refine PW.seq ?_
    refine PW.regionK fun K hK => ?_
    refine OW.run [0, 3, 4] ?_
    simp (config := { maxSteps := 2000000 }) only [go_sem, ↓reduceIte, Nat.reduceEqDiff, Nat.reduceLT, Nat.reduceLeDiff, Nat.reduceAdd, Nat.reduceMul, Nat.reduceSub, Nat.reduceBEq, Int.reduceToNat, and_assoc, sw0]
    refine OW.nil (hK _ ?_)
    clear hK K
    change PW _ _ _ _ _
    refine PW.block ?_
    refine PW.loopS (σ := ByteArray × Int) [0, 3, 4] 0 (fun (t1, i) => [(3, .d (Sx t1)), (4, .d (I i))]) (fun (t1, i) => []) (ref02_FormatBits.b1 N bits K_) r N ((⟨#[]⟩ : ByteArray), (0 : Int)) (by exact Nat.le_refl _) hrun (by (simp only [Env.frzL, Env.frz, frzOb, V.frz, V.frz.frzs, asD, map_asD, sw1, go_sem, ↓reduceIte, Nat.reduceEqDiff, Nat.reduceLT, Nat.reduceLeDiff, Nat.reduceAdd, Nat.reduceMul, Nat.reduceSub, Nat.reduceBEq]; done)) ?_
    rintro n ⟨t1, i⟩ hrun N2 hN2
    unfold ref02_FormatBits.b1 at hrun
    try simp only [go_sem, ↓reduceIte, Nat.reduceEqDiff, Nat.reduceLT, Nat.reduceLeDiff, Nat.reduceAdd, Nat.reduceMul, Nat.reduceSub, Nat.reduceBEq]
    refine PW.seq ?_
    refine PW.seq ?_
    refine PW.regionK fun K hK => ?_
    refine OW.run [0, 3, 4, 8] ?_
    simp (config := { maxSteps := 2000000 }) only [go_sem, ↓reduceIte, Nat.reduceEqDiff, Nat.reduceLT, Nat.reduceLeDiff, Nat.reduceAdd, Nat.reduceMul, Nat.reduceSub, Nat.reduceBEq, Int.reduceToNat, and_assoc, sw0]
    refine OW.nil (hK _ ?_)
    clear hK K
    change PW _ _ _ _ _
    refine PW.cond rfl (fun h3 => ?_) (fun h3 => ?_)
    · replace hrun := br_t h3 hrun
      refine PW.skip ?_
      change PW _ _ _ _ _
      refine PW.seq ?_
      refine PW.block ?_
      refine PW.seq ?_
      obtain ⟨c4, hrun⟩ := chk_some hrun
      refine PW.regionK fun K hK => ?_
      refine OW.run [0, 3, 4, 14] ?_
      simp (config := { maxSteps := 2000000 }) only [go_sem, ↓reduceIte, Nat.reduceEqDiff, Nat.reduceLT, Nat.reduceLeDiff, Nat.reduceAdd, Nat.reduceMul, Nat.reduceSub, Nat.reduceBEq, Int.reduceToNat, and_assoc, sw0]
      refine And.intro (by omega) (And.intro (by omega) (And.intro (by omega) (And.intro (by omega) ?_)))
      refine OW.nil (hK _ ?_)
      clear hK K
      change PW _ _ _ _ _
      refine PW.block ?_
      refine PW.seq ?_
      refine PW.regionK fun K hK => ?_
      refine OW.run [0, 3, 4, 14, 17] ?_
      simp (config := { maxSteps := 2000000 }) only [go_sem, ↓reduceIte, Nat.reduceEqDiff, Nat.reduceLT, Nat.reduceLeDiff, Nat.reduceAdd, Nat.reduceMul, Nat.reduceSub, Nat.reduceBEq, Int.reduceToNat, and_assoc, sw0]
      refine OW.nil (hK _ ?_)
      clear hK K
      change PW _ _ _ _ _
      refine PW.cond rfl (fun h5 => ?_) (fun h5 => ?_)
      · replace hrun := br_t h5 hrun
        obtain ⟨c6, hrun⟩ := chk_some hrun
        refine PW.regionK fun K hK => ?_
        refine OW.run [0, 3, 4] ?_
        (simp (config := { maxSteps := 2000000 }) only [go_sem, ↓reduceIte, Nat.reduceEqDiff, Nat.reduceLT, Nat.reduceLeDiff, Nat.reduceAdd, Nat.reduceMul, Nat.reduceSub, Nat.reduceBEq, Int.reduceToNat, and_assoc, sw0, List.size_toArray])
        refine And.intro (by omega) ?_
        refine OW.nil (hK _ ?_)
        clear hK K
        change PW _ _ _ _ _
        refine PW.regionK fun K hK => ?_
        refine OW.run [0, 3, 4] ?_
        simp (config := { maxSteps := 2000000 }) only [go_sem, ↓reduceIte, Nat.reduceEqDiff, Nat.reduceLT, Nat.reduceLeDiff, Nat.reduceAdd, Nat.reduceMul, Nat.reduceSub, Nat.reduceBEq, Int.reduceToNat, and_assoc, sw0]
        refine OW.nil (hK _ ?_)
        clear hK K
        refine hN2 [] ((t1 ++ (⟨#[48]⟩ : ByteArray)), w64 (i + (1 : Int))) _ hrun (by exact trivial) ?_
        (simp only [Env.frzL, Env.frz, frzOb, V.frz, V.frz.frzs, asD, map_asD, sw1, go_sem, ↓reduceIte, Nat.reduceEqDiff, Nat.reduceLT, Nat.reduceLeDiff, Nat.reduceAdd, Nat.reduceMul, Nat.reduceSub, Nat.reduceBEq]; done)
      · replace hrun := br_f h5 hrun
        refine PW.seq ?_
        refine PW.regionK fun K hK => ?_
        refine OW.run [0, 3, 4, 21] ?_
        simp (config := { maxSteps := 2000000 }) only [go_sem, ↓reduceIte, Nat.reduceEqDiff, Nat.reduceLT, Nat.reduceLeDiff, Nat.reduceAdd, Nat.reduceMul, Nat.reduceSub, Nat.reduceBEq, Int.reduceToNat, and_assoc, sw0]
        refine OW.nil (hK _ ?_)
        clear hK K
        change PW _ _ _ _ _
        refine PW.cond rfl (fun h7 => ?_) (fun h7 => ?_)
        · replace hrun := br_t h7 hrun
          obtain ⟨c8, hrun⟩ := chk_some hrun
          refine PW.regionK fun K hK => ?_
          refine OW.run [0, 3, 4] ?_
          (simp (config := { maxSteps := 2000000 }) only [go_sem, ↓reduceIte, Nat.reduceEqDiff, Nat.reduceLT, Nat.reduceLeDiff, Nat.reduceAdd, Nat.reduceMul, Nat.reduceSub, Nat.reduceBEq, Int.reduceToNat, and_assoc, sw0, List.size_toArray])
          refine And.intro (by omega) ?_
          refine OW.nil (hK _ ?_)
          clear hK K
          change PW _ _ _ _ _
          refine PW.regionK fun K hK => ?_
          refine OW.run [0, 3, 4] ?_
          simp (config := { maxSteps := 2000000 }) only [go_sem, ↓reduceIte, Nat.reduceEqDiff, Nat.reduceLT, Nat.reduceLeDiff, Nat.reduceAdd, Nat.reduceMul, Nat.reduceSub, Nat.reduceBEq, Int.reduceToNat, and_assoc, sw0]
          refine OW.nil (hK _ ?_)
          clear hK K
          refine hN2 [] ((t1 ++ (⟨#[49]⟩ : ByteArray)), w64 (i + (1 : Int))) _ hrun (by exact trivial) ?_
          (simp only [Env.frzL, Env.frz, frzOb, V.frz, V.frz.frzs, asD, map_asD, sw1, go_sem, ↓reduceIte, Nat.reduceEqDiff, Nat.reduceLT, Nat.reduceLeDiff, Nat.reduceAdd, Nat.reduceMul, Nat.reduceSub, Nat.reduceBEq]; done)
        · replace hrun := br_f h7 hrun
          obtain ⟨c9, hrun⟩ := chk_some hrun
          refine PW.regionK fun K hK => ?_
          refine OW.run [0, 3, 4] ?_
          (simp (config := { maxSteps := 2000000 }) only [go_sem, ↓reduceIte, Nat.reduceEqDiff, Nat.reduceLT, Nat.reduceLeDiff, Nat.reduceAdd, Nat.reduceMul, Nat.reduceSub, Nat.reduceBEq, Int.reduceToNat, and_assoc, sw0, List.size_toArray])
          refine And.intro (by omega) ?_
          refine OW.nil (hK _ ?_)
          clear hK K
          change PW _ _ _ _ _
          refine PW.regionK fun K hK => ?_
          refine OW.run [0, 3, 4] ?_
          simp (config := { maxSteps := 2000000 }) only [go_sem, ↓reduceIte, Nat.reduceEqDiff, Nat.reduceLT, Nat.reduceLeDiff, Nat.reduceAdd, Nat.reduceMul, Nat.reduceSub, Nat.reduceBEq, Int.reduceToNat, and_assoc, sw0]
          refine OW.nil (hK _ ?_)
          clear hK K
          refine hN2 [] ((t1 ++ (⟨#[63]⟩ : ByteArray)), w64 (i + (1 : Int))) _ hrun (by exact trivial) ?_
          (simp only [Env.frzL, Env.frz, frzOb, V.frz, V.frz.frzs, asD, map_asD, sw1, go_sem, ↓reduceIte, Nat.reduceEqDiff, Nat.reduceLT, Nat.reduceLeDiff, Nat.reduceAdd, Nat.reduceMul, Nat.reduceSub, Nat.reduceBEq]; done)
    · replace hrun := br_f h3 hrun
      refine PW.exit ?_
      refine hN1 [] t1 _ hrun (by exact trivial) ?_
      (simp only [Env.frzL, Env.frz, frzOb, V.frz, V.frz.frzs, asD, map_asD, sw1, go_sem, ↓reduceIte, Nat.reduceEqDiff, Nat.reduceLT, Nat.reduceLeDiff, Nat.reduceAdd, Nat.reduceMul, Nat.reduceSub, Nat.reduceBEq]; done)
  · rintro t hrun
    try simp only [go_sem, ↓reduceIte, Nat.reduceEqDiff, Nat.reduceLT, Nat.reduceLeDiff, Nat.reduceAdd, Nat.reduceMul, Nat.reduceSub, Nat.reduceBEq]
    refine PW.seq ?_
    refine PW.regionK fun K hK => ?_
    refine OW.run [2] ?_
    simp (config := { maxSteps := 2000000 }) only [go_sem, ↓reduceIte, Nat.reduceEqDiff, Nat.reduceLT, Nat.reduceLeDiff, Nat.reduceAdd, Nat.reduceMul, Nat.reduceSub, Nat.reduceBEq, Int.reduceToNat, and_assoc, sw0]
    refine OW.nil (hK _ ?_)
    clear hK K
    change PW _ _ _ _ _
    refine PW.ret ?_
    change PW.Ends _ _ _ _ _ _
    refine PW.Ends.intro (.inr rfl) ?_
    simp (config := { maxSteps := 2000000 }) only [go_sem, ↓reduceIte, Nat.reduceEqDiff, Nat.reduceLT, Nat.reduceLeDiff, Nat.reduceAdd, Nat.reduceMul, Nat.reduceSub, Nat.reduceBEq, Int.reduceToNat, and_assoc, sw0]
    obtain rfl := Option.some.inj hrun
    refine RetOK.data' 4 (by exact trivial) ?_
    rfl

set_option maxRecDepth 20000 in
set_option maxHeartbeats 8000000 in
theorem law02_CodeTexts_ok (N : Nat) (bits : List Int) (s : ByteArray) (r : Bool) (hrun : law02_CodeTexts N bits s = some r) : CallOK Try.prog 5 [(L bits), (Sx s)] (.d (Bo r)) [] := by
  refine CallOK.of_PW Try.func5 rfl (by rw [Try.results5]) Try.ntmps5 Try.call5 ?_
  change PW _ _ _ _ _
  try simp only [go_sem, ↓reduceIte, Nat.reduceEqDiff, Nat.reduceLT, Nat.reduceLeDiff, Nat.reduceAdd, Nat.reduceMul, Nat.reduceSub, Nat.reduceBEq]
  unfold law02_CodeTexts at hrun
  refine PW.seq ?_
  refine PW.regionK fun K hK => ?_
  refine OW.run [0, 1] ?_
  simp (config := { maxSteps := 2000000 }) only [go_sem, ↓reduceIte, Nat.reduceEqDiff, Nat.reduceLT, Nat.reduceLeDiff, Nat.reduceAdd, Nat.reduceMul, Nat.reduceSub, Nat.reduceBEq, Int.reduceToNat, and_assoc, sw0]
  refine OW.nil (hK _ ?_)
  clear hK K
  change PW _ _ _ _ _
  refine PW.seq ?_
  refine PW.seq ?_
  obtain ⟨x1, e1, hrun⟩ := bnd_some hrun
  refine PW.regionK fun K hK => ?_
  refine OW.run [0, 1, 13] ?_
  simp (config := { maxSteps := 2000000 }) only [go_sem, ↓reduceIte, Nat.reduceEqDiff, Nat.reduceLT, Nat.reduceLeDiff, Nat.reduceAdd, Nat.reduceMul, Nat.reduceSub, Nat.reduceBEq, Int.reduceToNat, and_assoc, sw0]
  refine OW.call' 4 rfl rfl rfl (by ((simp only [go_sem, List.toList_toArray, ↓reduceIte, Nat.reduceEqDiff, Nat.reduceLT, Nat.reduceBEq]); exact rfl)) ?_ (law02_awake_ok N  _ e1) ?_ ?_ ?_ ?_
  · rfl
  · exact okD_all rfl
  · exact .inl rfl
  · (simp only [go_sem, Nat.reduceLT])
  refine OW.run [0, 1, 13] ?_
  simp (config := { maxSteps := 2000000 }) only [go_sem, ↓reduceIte, Nat.reduceEqDiff, Nat.reduceLT, Nat.reduceLeDiff, Nat.reduceAdd, Nat.reduceMul, Nat.reduceSub, Nat.reduceBEq, Int.reduceToNat, and_assoc, sw0]
  refine OW.nil (hK _ ?_)
  clear hK K
  change PW _ _ _ _ _
  refine PW.cond rfl (fun h1 => ?_) (fun h1 => ?_)
  · replace hrun := br_t h1 hrun
    refine PW.seq ?_
    refine PW.regionK fun K hK => ?_
    refine OW.run [4] ?_
    simp (config := { maxSteps := 2000000 }) only [go_sem, ↓reduceIte, Nat.reduceEqDiff, Nat.reduceLT, Nat.reduceLeDiff, Nat.reduceAdd, Nat.reduceMul, Nat.reduceSub, Nat.reduceBEq, Int.reduceToNat, and_assoc, sw0]
    refine OW.nil (hK _ ?_)
    clear hK K
    change PW _ _ _ _ _
    refine PW.ret ?_
    change PW.Ends _ _ _ _ _ _
    refine PW.Ends.intro (.inr rfl) ?_
    simp (config := { maxSteps := 2000000 }) only [go_sem, ↓reduceIte, Nat.reduceEqDiff, Nat.reduceLT, Nat.reduceLeDiff, Nat.reduceAdd, Nat.reduceMul, Nat.reduceSub, Nat.reduceBEq, Int.reduceToNat, and_assoc, sw0]
    obtain rfl := Option.some.inj hrun
    refine RetOK.data' 4 (by exact trivial) ?_
    rfl
  · replace hrun := br_f h1 hrun
    refine PW.skip ?_
    change PW _ _ _ _ _
    refine PW.seq ?_
    refine PW.seq ?_
    refine PW.regionK fun K hK => ?_
    refine OW.run [0, 1, 21] ?_
    simp (config := { maxSteps := 2000000 }) only [go_sem, ↓reduceIte, Nat.reduceEqDiff, Nat.reduceLT, Nat.reduceLeDiff, Nat.reduceAdd, Nat.reduceMul, Nat.reduceSub, Nat.reduceBEq, Int.reduceToNat, and_assoc, sw0]
    refine OW.nil (hK _ ?_)
    clear hK K
    change PW _ _ _ _ _
    refine PW.cond rfl (fun h2 => ?_) (fun h2 => ?_)
    · replace hrun := br_t h2 hrun
      refine PW.seq ?_
      refine PW.regionK fun K hK => ?_
      refine OW.run [4] ?_
      simp (config := { maxSteps := 2000000 }) only [go_sem, ↓reduceIte, Nat.reduceEqDiff, Nat.reduceLT, Nat.reduceLeDiff, Nat.reduceAdd, Nat.reduceMul, Nat.reduceSub, Nat.reduceBEq, Int.reduceToNat, and_assoc, sw0]
      refine OW.nil (hK _ ?_)
      clear hK K
      change PW _ _ _ _ _
      refine PW.ret ?_
      change PW.Ends _ _ _ _ _ _
      refine PW.Ends.intro (.inr rfl) ?_
      simp (config := { maxSteps := 2000000 }) only [go_sem, ↓reduceIte, Nat.reduceEqDiff, Nat.reduceLT, Nat.reduceLeDiff, Nat.reduceAdd, Nat.reduceMul, Nat.reduceSub, Nat.reduceBEq, Int.reduceToNat, and_assoc, sw0]
      obtain rfl := Option.some.inj hrun
      refine RetOK.data' 4 (by exact trivial) ?_
      rfl
    · replace hrun := br_f h2 hrun
      refine PW.skip ?_
      change PW _ _ _ _ _
      refine PW.seq ?_
      obtain ⟨x2, e2, hrun⟩ := bnd_some hrun
      obtain ⟨x3, e3, hrun⟩ := bnd_some hrun
      refine PW.regionK fun K hK => ?_
      refine OW.run [0, 1, 5] ?_
      simp (config := { maxSteps := 2000000 }) only [go_sem, ↓reduceIte, Nat.reduceEqDiff, Nat.reduceLT, Nat.reduceLeDiff, Nat.reduceAdd, Nat.reduceMul, Nat.reduceSub, Nat.reduceBEq, Int.reduceToNat, and_assoc, sw0]
      refine OW.call' 4 rfl rfl rfl (by ((simp only [go_sem, List.toList_toArray, ↓reduceIte, Nat.reduceEqDiff, Nat.reduceLT, Nat.reduceBEq]); exact rfl)) ?_ (base_CopyInts_okd N _ _ e2) ?_ ?_ ?_ ?_
      · rfl
      · exact okD_all rfl
      · exact .inl rfl
      · (simp only [go_sem, Nat.reduceLT])
      refine OW.run [0, 1, 5] ?_
      simp (config := { maxSteps := 2000000 }) only [go_sem, ↓reduceIte, Nat.reduceEqDiff, Nat.reduceLT, Nat.reduceLeDiff, Nat.reduceAdd, Nat.reduceMul, Nat.reduceSub, Nat.reduceBEq, Int.reduceToNat, and_assoc, sw0]
      refine OW.call' 4 rfl rfl rfl (by ((simp only [go_sem, List.toList_toArray, ↓reduceIte, Nat.reduceEqDiff, Nat.reduceLT, Nat.reduceBEq]); exact rfl)) ?_ (code_FormatBits_ok N _ _ e3) ?_ ?_ ?_ ?_
      · rfl
      · exact okD_all rfl
      · exact .inl rfl
      · (simp only [go_sem, Nat.reduceLT])
      refine OW.run [0, 1, 5] ?_
      simp (config := { maxSteps := 2000000 }) only [go_sem, ↓reduceIte, Nat.reduceEqDiff, Nat.reduceLT, Nat.reduceLeDiff, Nat.reduceAdd, Nat.reduceMul, Nat.reduceSub, Nat.reduceBEq, Int.reduceToNat, and_assoc, sw0]
      refine OW.nil (hK _ ?_)
      clear hK K
      change PW _ _ _ _ _
      refine PW.seq ?_
      obtain ⟨⟨x4, x41⟩, e4, hrun⟩ := bnd_some hrun
      refine PW.regionK fun K hK => ?_
      refine OW.run [0, 1, 5, 6, 7] ?_
      simp (config := { maxSteps := 2000000 }) only [go_sem, ↓reduceIte, Nat.reduceEqDiff, Nat.reduceLT, Nat.reduceLeDiff, Nat.reduceAdd, Nat.reduceMul, Nat.reduceSub, Nat.reduceBEq, Int.reduceToNat, and_assoc, sw0]
      refine OW.call' 4 rfl rfl rfl (by ((simp only [go_sem, List.toList_toArray, ↓reduceIte, Nat.reduceEqDiff, Nat.reduceLT, Nat.reduceBEq]); exact rfl)) ?_ (code_ParseBits_ok N _ _ e4) ?_ ?_ ?_ ?_
      · rfl
      · exact okD_all rfl
      · exact .inl rfl
      · (simp only [go_sem, Nat.reduceLT])
      refine OW.run [0, 1, 5, 6, 7] ?_
      simp (config := { maxSteps := 2000000 }) only [go_sem, ↓reduceIte, Nat.reduceEqDiff, Nat.reduceLT, Nat.reduceLeDiff, Nat.reduceAdd, Nat.reduceMul, Nat.reduceSub, Nat.reduceBEq, Int.reduceToNat, and_assoc, sw0]
      refine OW.nil (hK _ ?_)
      clear hK K
      change PW _ _ _ _ _
      refine PW.seq ?_
      obtain ⟨⟨x5, x51⟩, e5, hrun⟩ := bnd_some hrun
      refine PW.regionK fun K hK => ?_
      refine OW.run [0, 5, 6, 7, 8, 9] ?_
      simp (config := { maxSteps := 2000000 }) only [go_sem, ↓reduceIte, Nat.reduceEqDiff, Nat.reduceLT, Nat.reduceLeDiff, Nat.reduceAdd, Nat.reduceMul, Nat.reduceSub, Nat.reduceBEq, Int.reduceToNat, and_assoc, sw0]
      refine OW.call' 4 rfl rfl rfl (by ((simp only [go_sem, List.toList_toArray, ↓reduceIte, Nat.reduceEqDiff, Nat.reduceLT, Nat.reduceBEq]); exact rfl)) ?_ (ref02_ParseBits_ok N _ _ e5) ?_ ?_ ?_ ?_
      · rfl
      · exact okD_all rfl
      · exact .inl rfl
      · (simp only [go_sem, Nat.reduceLT])
      refine OW.run [0, 5, 6, 7, 8, 9] ?_
      simp (config := { maxSteps := 2000000 }) only [go_sem, ↓reduceIte, Nat.reduceEqDiff, Nat.reduceLT, Nat.reduceLeDiff, Nat.reduceAdd, Nat.reduceMul, Nat.reduceSub, Nat.reduceBEq, Int.reduceToNat, and_assoc, sw0]
      refine OW.nil (hK _ ?_)
      clear hK K
      change PW _ _ _ _ _
      refine PW.seq ?_
      refine PW.seq ?_
      obtain ⟨x6, e6, hrun⟩ := bnd_some hrun
      obtain ⟨x7, e7, hrun⟩ := bnd_some hrun
      refine PW.regionK fun K hK => ?_
      refine OW.run [0, 5, 49] ?_
      simp (config := { maxSteps := 2000000 }) only [go_sem, ↓reduceIte, Nat.reduceEqDiff, Nat.reduceLT, Nat.reduceLeDiff, Nat.reduceAdd, Nat.reduceMul, Nat.reduceSub, Nat.reduceBEq, Int.reduceToNat, and_assoc, sw0]
      refine OW.call' 4 rfl rfl rfl (by ((simp only [go_sem, List.toList_toArray, ↓reduceIte, Nat.reduceEqDiff, Nat.reduceLT, Nat.reduceBEq]); exact rfl)) ?_ (ref02_FormatBits_ok N _ _ e6) ?_ ?_ ?_ ?_
      · rfl
      · exact okD_all rfl
      · exact .inl rfl
      · (simp only [go_sem, Nat.reduceLT])
      refine OW.run [0, 5, 49] ?_
      simp (config := { maxSteps := 2000000 }) only [go_sem, ↓reduceIte, Nat.reduceEqDiff, Nat.reduceLT, Nat.reduceLeDiff, Nat.reduceAdd, Nat.reduceMul, Nat.reduceSub, Nat.reduceBEq, Int.reduceToNat, and_assoc, sw0]
      refine OW.callG' (g := (!((!(x3.toList == x6.toList)) || (x41 != x51)))) 4 rfl rfl ?_ (fun hg => rfl) (fun hg => by ((simp only [go_sem, List.toList_toArray, ↓reduceIte, Nat.reduceEqDiff, Nat.reduceLT, Nat.reduceBEq]); exact rfl)) (fun hg => ?_) (fun hg => (base_Ints_ok N _ _ _ (grd_t hg e7))) ?_ ?_ ?_ ?_
      · (simp only [go_sem, ↓reduceIte, Nat.reduceEqDiff, Nat.reduceLT, Nat.reduceLeDiff, Nat.reduceAdd, Nat.reduceMul, Nat.reduceSub, Nat.reduceBEq]; done)
      · rfl
      · exact okD_all rfl
      · exact .inl rfl
      · (simp only [go_sem, Nat.reduceLT])
      refine OW.run [0, 5, 49] ?_
      simp (config := { maxSteps := 2000000 }) only [go_sem, ↓reduceIte, Nat.reduceEqDiff, Nat.reduceLT, Nat.reduceLeDiff, Nat.reduceAdd, Nat.reduceMul, Nat.reduceSub, Nat.reduceBEq, Int.reduceToNat, and_assoc, sw0]
      refine OW.nil (hK _ ?_)
      clear hK K
      change PW _ _ _ _ _
      refine PW.cond rfl (fun h3 => ?_) (fun h3 => ?_)
      · replace hrun := br_t h3 hrun
        refine PW.seq ?_
        refine PW.regionK fun K hK => ?_
        refine OW.run [4] ?_
        simp (config := { maxSteps := 2000000 }) only [go_sem, ↓reduceIte, Nat.reduceEqDiff, Nat.reduceLT, Nat.reduceLeDiff, Nat.reduceAdd, Nat.reduceMul, Nat.reduceSub, Nat.reduceBEq, Int.reduceToNat, and_assoc, sw0]
        refine OW.nil (hK _ ?_)
        clear hK K
        change PW _ _ _ _ _
        refine PW.ret ?_
        change PW.Ends _ _ _ _ _ _
        refine PW.Ends.intro (.inr rfl) ?_
        simp (config := { maxSteps := 2000000 }) only [go_sem, ↓reduceIte, Nat.reduceEqDiff, Nat.reduceLT, Nat.reduceLeDiff, Nat.reduceAdd, Nat.reduceMul, Nat.reduceSub, Nat.reduceBEq, Int.reduceToNat, and_assoc, sw0]
        obtain rfl := Option.some.inj hrun
        refine RetOK.data' 4 (by exact trivial) ?_
        rfl
      · replace hrun := br_f h3 hrun
        refine PW.skip ?_
        change PW _ _ _ _ _
        refine PW.seq ?_
        refine PW.seq ?_
        obtain ⟨x8, e8, hrun⟩ := bnd_some hrun
        refine PW.regionK fun K hK => ?_
        refine OW.run [0, 5, 57] ?_
        simp (config := { maxSteps := 2000000 }) only [go_sem, ↓reduceIte, Nat.reduceEqDiff, Nat.reduceLT, Nat.reduceLeDiff, Nat.reduceAdd, Nat.reduceMul, Nat.reduceSub, Nat.reduceBEq, Int.reduceToNat, and_assoc, sw0]
        refine OW.call' 4 rfl rfl rfl (by ((simp only [go_sem, List.toList_toArray, ↓reduceIte, Nat.reduceEqDiff, Nat.reduceLT, Nat.reduceBEq]); exact rfl)) ?_ (base_AreBits_ok N _ _ e8) ?_ ?_ ?_ ?_
        · rfl
        · exact okD_all rfl
        · exact .inl rfl
        · (simp only [go_sem, Nat.reduceLT])
        refine OW.run [0, 5, 57] ?_
        simp (config := { maxSteps := 2000000 }) only [go_sem, ↓reduceIte, Nat.reduceEqDiff, Nat.reduceLT, Nat.reduceLeDiff, Nat.reduceAdd, Nat.reduceMul, Nat.reduceSub, Nat.reduceBEq, Int.reduceToNat, and_assoc, sw0]
        refine OW.nil (hK _ ?_)
        clear hK K
        change PW _ _ _ _ _
        refine PW.cond rfl (fun h4 => ?_) (fun h4 => ?_)
        · replace hrun := br_t h4 hrun
          refine PW.seq ?_
          refine PW.regionK fun K hK => ?_
          refine OW.run [4] ?_
          simp (config := { maxSteps := 2000000 }) only [go_sem, ↓reduceIte, Nat.reduceEqDiff, Nat.reduceLT, Nat.reduceLeDiff, Nat.reduceAdd, Nat.reduceMul, Nat.reduceSub, Nat.reduceBEq, Int.reduceToNat, and_assoc, sw0]
          refine OW.nil (hK _ ?_)
          clear hK K
          change PW _ _ _ _ _
          refine PW.ret ?_
          change PW.Ends _ _ _ _ _ _
          refine PW.Ends.intro (.inr rfl) ?_
          simp (config := { maxSteps := 2000000 }) only [go_sem, ↓reduceIte, Nat.reduceEqDiff, Nat.reduceLT, Nat.reduceLeDiff, Nat.reduceAdd, Nat.reduceMul, Nat.reduceSub, Nat.reduceBEq, Int.reduceToNat, and_assoc, sw0]
          obtain rfl := Option.some.inj hrun
          refine RetOK.data' 4 (by exact trivial) ?_
          rfl
        · replace hrun := br_f h4 hrun
          refine PW.skip ?_
          change PW _ _ _ _ _
          refine PW.seq ?_
          obtain ⟨⟨x9, x91⟩, e9, hrun⟩ := bnd_some hrun
          refine PW.regionK fun K hK => ?_
          refine OW.run [0, 10, 11] ?_
          simp (config := { maxSteps := 2000000 }) only [go_sem, ↓reduceIte, Nat.reduceEqDiff, Nat.reduceLT, Nat.reduceLeDiff, Nat.reduceAdd, Nat.reduceMul, Nat.reduceSub, Nat.reduceBEq, Int.reduceToNat, and_assoc, sw0]
          refine OW.call' 4 rfl rfl rfl (by ((simp only [go_sem, List.toList_toArray, ↓reduceIte, Nat.reduceEqDiff, Nat.reduceLT, Nat.reduceBEq]); exact rfl)) ?_ (code_ParseBits_ok N _ _ e9) ?_ ?_ ?_ ?_
          · rfl
          · exact okD_all rfl
          · exact .inl rfl
          · (simp only [go_sem, Nat.reduceLT])
          refine OW.run [0, 10, 11] ?_
          simp (config := { maxSteps := 2000000 }) only [go_sem, ↓reduceIte, Nat.reduceEqDiff, Nat.reduceLT, Nat.reduceLeDiff, Nat.reduceAdd, Nat.reduceMul, Nat.reduceSub, Nat.reduceBEq, Int.reduceToNat, and_assoc, sw0]
          refine OW.nil (hK _ ?_)
          clear hK K
          change PW _ _ _ _ _
          refine PW.seq ?_
          obtain ⟨x10, e10, hrun⟩ := bnd_some hrun
          refine PW.regionK fun K hK => ?_
          refine OW.run [4] ?_
          simp (config := { maxSteps := 2000000 }) only [go_sem, ↓reduceIte, Nat.reduceEqDiff, Nat.reduceLT, Nat.reduceLeDiff, Nat.reduceAdd, Nat.reduceMul, Nat.reduceSub, Nat.reduceBEq, Int.reduceToNat, and_assoc, sw0]
          refine OW.callG' (g := (x91 == (0 : Int))) 4 rfl rfl ?_ (fun hg => rfl) (fun hg => by ((simp only [go_sem, List.toList_toArray, ↓reduceIte, Nat.reduceEqDiff, Nat.reduceLT, Nat.reduceBEq]); exact rfl)) (fun hg => ?_) (fun hg => (base_Ints_ok N _ _ _ (grd_t hg e10))) ?_ ?_ ?_ ?_
          · (simp only [go_sem, ↓reduceIte, Nat.reduceEqDiff, Nat.reduceLT, Nat.reduceLeDiff, Nat.reduceAdd, Nat.reduceMul, Nat.reduceSub, Nat.reduceBEq]; done)
          · rfl
          · exact okD_all rfl
          · exact .inl rfl
          · (simp only [go_sem, Nat.reduceLT])
          refine OW.run [4] ?_
          simp (config := { maxSteps := 2000000 }) only [go_sem, ↓reduceIte, Nat.reduceEqDiff, Nat.reduceLT, Nat.reduceLeDiff, Nat.reduceAdd, Nat.reduceMul, Nat.reduceSub, Nat.reduceBEq, Int.reduceToNat, and_assoc, sw0]
          refine OW.nil (hK _ ?_)
          clear hK K
          change PW _ _ _ _ _
          refine PW.ret ?_
          change PW.Ends _ _ _ _ _ _
          refine PW.Ends.intro (.inr rfl) ?_
          simp (config := { maxSteps := 2000000 }) only [go_sem, ↓reduceIte, Nat.reduceEqDiff, Nat.reduceLT, Nat.reduceLeDiff, Nat.reduceAdd, Nat.reduceMul, Nat.reduceSub, Nat.reduceBEq, Int.reduceToNat, and_assoc, sw0]
          obtain rfl := Option.some.inj hrun
          refine RetOK.data' 4 (by exact trivial) ?_
          rfl

end Go.Proofs.Ytikelkndldaejaa
