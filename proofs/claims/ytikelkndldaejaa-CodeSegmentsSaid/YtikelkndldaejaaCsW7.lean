import Derived.Test.YtikelkndldaejaaCsW6
set_option linter.all false
namespace Go.Proofs.Ytikelkndldaejaa
open Go.PW Go.Sh
set_option maxRecDepth 20000 in
set_option maxHeartbeats 8000000 in
theorem slices_Index_ii_ok (N : Nat) (s : List Int) (v : Int) (r : Int) (hrun : slices_Index_ii N s v = some r) : CallOK Try.prog 158 [(L s), (I v)] (.d (I r)) [] := by
  refine CallOK.of_PW Try.func158 rfl (by rw [Try.results158]) Try.ntmps158 Try.call158 ?_
  change PW _ _ _ _ _
  try simp only [go_sem, ↓reduceIte, Nat.reduceEqDiff, Nat.reduceLT, Nat.reduceLeDiff, Nat.reduceAdd, Nat.reduceMul, Nat.reduceSub, Nat.reduceBEq]
  unfold slices_Index_ii at hrun
  refine PW.seq ?_
  refine PW.regionK fun K hK => ?_
  refine OW.run [0, 1] ?_
  simp (config := { maxSteps := 2000000 }) only [go_sem, ↓reduceIte, Nat.reduceEqDiff, Nat.reduceLT, Nat.reduceLeDiff, Nat.reduceAdd, Nat.reduceMul, Nat.reduceSub, Nat.reduceBEq, Int.reduceToNat, and_assoc, sw0]
  refine OW.nil (hK _ ?_)
  clear hK K
  change PW _ _ _ _ _
  refine PW.joinS (τ := Unit) [] 0 (fun _ => []) (fun _ => []) _ _ r (by exact Nat.le_refl _) hrun ?_ ?_
  · intro K_ hrun N1 hN1
    refine PW.seq ?_
    refine PW.regionK fun K hK => ?_
    refine OW.run [0, 1, 7, 8] ?_
    simp (config := { maxSteps := 2000000 }) only [go_sem, ↓reduceIte, Nat.reduceEqDiff, Nat.reduceLT, Nat.reduceLeDiff, Nat.reduceAdd, Nat.reduceMul, Nat.reduceSub, Nat.reduceBEq, Int.reduceToNat, and_assoc, sw0]
    refine OW.nil (hK _ ?_)
    clear hK K
    change PW _ _ _ _ _
    refine PW.block ?_
    refine PW.loopS (σ := Int) [0, 1, 7, 8] 0 (fun t8 => [(8, .d (I t8))]) (fun t8 => []) (slices_Index_ii.b1 N s v K_) r N (0 : Int) (by exact Nat.le_refl _) hrun (by (simp only [Env.frzL, Env.frz, frzOb, V.frz, V.frz.frzs, asD, map_asD, sw1, go_sem, ↓reduceIte, Nat.reduceEqDiff, Nat.reduceLT, Nat.reduceLeDiff, Nat.reduceAdd, Nat.reduceMul, Nat.reduceSub, Nat.reduceBEq]; done)) ?_
    rintro n t8 hrun N2 hN2
    unfold slices_Index_ii.b1 at hrun
    try simp only [go_sem, ↓reduceIte, Nat.reduceEqDiff, Nat.reduceLT, Nat.reduceLeDiff, Nat.reduceAdd, Nat.reduceMul, Nat.reduceSub, Nat.reduceBEq]
    refine PW.seq ?_
    refine PW.regionK fun K hK => ?_
    refine OW.run [0, 1, 7, 8, 9] ?_
    simp (config := { maxSteps := 2000000 }) only [go_sem, ↓reduceIte, Nat.reduceEqDiff, Nat.reduceLT, Nat.reduceLeDiff, Nat.reduceAdd, Nat.reduceMul, Nat.reduceSub, Nat.reduceBEq, Int.reduceToNat, and_assoc, sw0]
    refine OW.nil (hK _ ?_)
    clear hK K
    change PW _ _ _ _ _
    refine PW.seq ?_
    refine PW.cond rfl (fun h3 => ?_) (fun h3 => ?_)
    · replace hrun := br_t h3 hrun
      refine PW.skip ?_
      change PW _ _ _ _ _
      refine PW.seq ?_
      refine PW.block ?_
      refine PW.seq ?_
      refine PW.regionK fun K hK => ?_
      refine OW.run [0, 1, 5, 7, 8] ?_
      simp (config := { maxSteps := 2000000 }) only [go_sem, ↓reduceIte, Nat.reduceEqDiff, Nat.reduceLT, Nat.reduceLeDiff, Nat.reduceAdd, Nat.reduceMul, Nat.reduceSub, Nat.reduceBEq, Int.reduceToNat, and_assoc, sw0]
      refine OW.nil (hK _ ?_)
      clear hK K
      change PW _ _ _ _ _
      refine PW.seq ?_
      obtain ⟨c4, hrun⟩ := chk_some hrun
      refine PW.regionK fun K hK => ?_
      refine OW.run [0, 1, 5, 7, 8, 16] ?_
      simp (config := { maxSteps := 2000000 }) only [go_sem, ↓reduceIte, Nat.reduceEqDiff, Nat.reduceLT, Nat.reduceLeDiff, Nat.reduceAdd, Nat.reduceMul, Nat.reduceSub, Nat.reduceBEq, Int.reduceToNat, and_assoc, sw0]
      refine And.intro (by omega) (And.intro (by omega) (And.intro (by omega) (And.intro (by omega) ?_)))
      refine OW.nil (hK _ ?_)
      clear hK K
      change PW _ _ _ _ _
      refine PW.cond rfl (fun h5 => ?_) (fun h5 => ?_)
      · replace hrun := br_t h5 hrun
        refine PW.seq ?_
        refine PW.regionK fun K hK => ?_
        refine OW.run [4] ?_
        simp (config := { maxSteps := 2000000 }) only [go_sem, ↓reduceIte, Nat.reduceEqDiff, Nat.reduceLT, Nat.reduceLeDiff, Nat.reduceAdd, Nat.reduceMul, Nat.reduceSub, Nat.reduceBEq, Int.reduceToNat, and_assoc, sw0]
        refine OW.nil (hK _ ?_)
        clear hK K
        change PW _ _ _ _ _
        refine PW.ret ?_
        change PW.Ends _ _ _ _ _ _
        refine PW.Ends.intro (.inr rfl) ?_
        simp (config := { maxSteps := 2000000 }) only [go_sem, ↓reduceIte, Nat.reduceEqDiff, Nat.reduceLT, Nat.reduceLeDiff, Nat.reduceAdd, Nat.reduceMul, Nat.reduceSub, Nat.reduceBEq, Int.reduceToNat, and_assoc, sw0]
        obtain rfl := Option.some.inj hrun
        refine RetOK.data' 4 (by exact trivial) ?_
        rfl
      · replace hrun := br_f h5 hrun
        refine PW.skip ?_
        change PW _ _ _ _ _
        refine PW.regionK fun K hK => ?_
        refine OW.run [0, 1, 7, 8] ?_
        simp (config := { maxSteps := 2000000 }) only [go_sem, ↓reduceIte, Nat.reduceEqDiff, Nat.reduceLT, Nat.reduceLeDiff, Nat.reduceAdd, Nat.reduceMul, Nat.reduceSub, Nat.reduceBEq, Int.reduceToNat, and_assoc, sw0]
        refine OW.nil (hK _ ?_)
        clear hK K
        refine hN2 [] (w64 (t8 + (1 : Int))) _ hrun (by exact trivial) ?_
        (simp only [Env.frzL, Env.frz, frzOb, V.frz, V.frz.frzs, asD, map_asD, sw1, go_sem, ↓reduceIte, Nat.reduceEqDiff, Nat.reduceLT, Nat.reduceLeDiff, Nat.reduceAdd, Nat.reduceMul, Nat.reduceSub, Nat.reduceBEq]; done)
    · replace hrun := br_f h3 hrun
      refine PW.exit ?_
      refine hN1 [] () _ hrun (by exact trivial) ?_
      (simp only [Env.frzL, Env.frz, frzOb, V.frz, V.frz.frzs, asD, map_asD, sw1, go_sem, ↓reduceIte, Nat.reduceEqDiff, Nat.reduceLT, Nat.reduceLeDiff, Nat.reduceAdd, Nat.reduceMul, Nat.reduceSub, Nat.reduceBEq]; done)
  · rintro _ hrun
    try simp only [go_sem, ↓reduceIte, Nat.reduceEqDiff, Nat.reduceLT, Nat.reduceLeDiff, Nat.reduceAdd, Nat.reduceMul, Nat.reduceSub, Nat.reduceBEq]
    refine PW.seq ?_
    refine PW.regionK fun K hK => ?_
    refine OW.run [4] ?_
    simp (config := { maxSteps := 2000000 }) only [go_sem, ↓reduceIte, Nat.reduceEqDiff, Nat.reduceLT, Nat.reduceLeDiff, Nat.reduceAdd, Nat.reduceMul, Nat.reduceSub, Nat.reduceBEq, Int.reduceToNat, and_assoc, sw0]
    refine OW.nil (hK _ ?_)
    clear hK K
    change PW _ _ _ _ _
    refine PW.ret ?_
    change PW.Ends _ _ _ _ _ _
    refine PW.Ends.intro (.inr rfl) ?_
    simp (config := { maxSteps := 2000000 }) only [go_sem, ↓reduceIte, Nat.reduceEqDiff, Nat.reduceLT, Nat.reduceLeDiff, Nat.reduceAdd, Nat.reduceMul, Nat.reduceSub, Nat.reduceBEq, Int.reduceToNat, and_assoc, sw0]
    obtain rfl := Option.some.inj hrun
    refine RetOK.data' 4 (by exact trivial) ?_
    rfl

set_option maxRecDepth 20000 in
set_option maxHeartbeats 8000000 in
theorem slices_Contains_ii_ok (N : Nat) (s : List Int) (v : Int) (r : Bool) (hrun : slices_Contains_ii N s v = some r) : CallOK Try.prog 137 [(L s), (I v)] (.d (Bo r)) [] := by
  refine CallOK.of_PW Try.func137 rfl (by rw [Try.results137]) Try.ntmps137 Try.call137 ?_
  change PW _ _ _ _ _
  try simp only [go_sem, ↓reduceIte, Nat.reduceEqDiff, Nat.reduceLT, Nat.reduceLeDiff, Nat.reduceAdd, Nat.reduceMul, Nat.reduceSub, Nat.reduceBEq]
  unfold slices_Contains_ii at hrun
  refine PW.seq ?_
  refine PW.regionK fun K hK => ?_
  refine OW.run [0, 1] ?_
  simp (config := { maxSteps := 2000000 }) only [go_sem, ↓reduceIte, Nat.reduceEqDiff, Nat.reduceLT, Nat.reduceLeDiff, Nat.reduceAdd, Nat.reduceMul, Nat.reduceSub, Nat.reduceBEq, Int.reduceToNat, and_assoc, sw0]
  refine OW.nil (hK _ ?_)
  clear hK K
  change PW _ _ _ _ _
  refine PW.seq ?_
  obtain ⟨x1, e1, hrun⟩ := bnd_some hrun
  refine PW.regionK fun K hK => ?_
  refine OW.run [4] ?_
  simp (config := { maxSteps := 2000000 }) only [go_sem, ↓reduceIte, Nat.reduceEqDiff, Nat.reduceLT, Nat.reduceLeDiff, Nat.reduceAdd, Nat.reduceMul, Nat.reduceSub, Nat.reduceBEq, Int.reduceToNat, and_assoc, sw0]
  refine OW.call' 4 rfl rfl rfl (by ((simp only [go_sem, List.toList_toArray, ↓reduceIte, Nat.reduceEqDiff, Nat.reduceLT, Nat.reduceBEq]); exact rfl)) ?_ (slices_Index_ii_ok N _ _ _ e1) ?_ ?_ ?_ ?_
  · rfl
  · exact okD_all rfl
  · exact .inl rfl
  · (simp only [go_sem, Nat.reduceLT])
  refine OW.run [4] ?_
  simp (config := { maxSteps := 2000000 }) only [go_sem, ↓reduceIte, Nat.reduceEqDiff, Nat.reduceLT, Nat.reduceLeDiff, Nat.reduceAdd, Nat.reduceMul, Nat.reduceSub, Nat.reduceBEq, Int.reduceToNat, and_assoc, sw0]
  refine OW.nil (hK _ ?_)
  clear hK K
  change PW _ _ _ _ _
  refine PW.ret ?_
  change PW.Ends _ _ _ _ _ _
  refine PW.Ends.intro (.inr rfl) ?_
  simp (config := { maxSteps := 2000000 }) only [go_sem, ↓reduceIte, Nat.reduceEqDiff, Nat.reduceLT, Nat.reduceLeDiff, Nat.reduceAdd, Nat.reduceMul, Nat.reduceSub, Nat.reduceBEq, Int.reduceToNat, and_assoc, sw0]
  obtain rfl := Option.some.inj hrun
  refine RetOK.data' 4 (by exact trivial) ?_
  rfl

set_option maxRecDepth 20000 in
set_option maxHeartbeats 8000000 in
theorem code_Joined_ok (N : Nat) (r_Poly_Degree : Int) (r_Poly_Taps : Int) (r_Most : Int) (parts : List (List Int)) (length : Int) (r : List Int × Int × Int) (hrun : code_Joined N r_Poly_Degree r_Poly_Taps r_Most parts length = some r) : CallOK Try.prog 83 [(.agg [(I r_Poly_Degree), (I r_Poly_Taps), (I r_Most)]), (.list parts.length (parts.map L)), (I length)] (.d (.tup [(L r.1), (I r.2.1), (I r.2.2)])) [] := by
  refine CallOK.of_PW Try.func83 rfl (by rw [Try.results83]) Try.ntmps83 Try.call83 ?_
  change PW _ _ _ _ _
  try simp only [go_sem, ↓reduceIte, Nat.reduceEqDiff, Nat.reduceLT, Nat.reduceLeDiff, Nat.reduceAdd, Nat.reduceMul, Nat.reduceSub, Nat.reduceBEq]
  unfold code_Joined at hrun
  refine PW.seq ?_
  refine PW.regionK fun K hK => ?_
  refine OW.run [1, 2, 3] ?_
  simp (config := { maxSteps := 2000000 }) only [go_sem, ↓reduceIte, Nat.reduceEqDiff, Nat.reduceLT, Nat.reduceLeDiff, Nat.reduceAdd, Nat.reduceMul, Nat.reduceSub, Nat.reduceBEq, Int.reduceToNat, and_assoc, sw0]
  refine OW.nil (hK _ ?_)
  clear hK K
  change PW _ _ _ _ _
  refine PW.seq ?_
  refine PW.seq ?_
  obtain ⟨x1, e1, hrun⟩ := bnd_some hrun
  obtain ⟨x2, e2, hrun⟩ := bnd_some hrun
  obtain ⟨x3, e3, hrun⟩ := bnd_some hrun
  obtain ⟨x4, e4, hrun⟩ := bnd_some hrun
  refine PW.regionK fun K hK => ?_
  refine OW.run [1, 2, 3, 9] ?_
  simp (config := { maxSteps := 2000000 }) only [go_sem, ↓reduceIte, Nat.reduceEqDiff, Nat.reduceLT, Nat.reduceLeDiff, Nat.reduceAdd, Nat.reduceMul, Nat.reduceSub, Nat.reduceBEq, Int.reduceToNat, and_assoc, sw0]
  refine OW.call' 4 rfl rfl rfl (by ((simp only [go_sem, List.toList_toArray, ↓reduceIte, Nat.reduceEqDiff, Nat.reduceLT, Nat.reduceBEq]); exact rfl)) ?_ (code_ruleErr_ok N _ _ _ _ e1) ?_ ?_ ?_ ?_
  · rfl
  · (refine okAll_intro ?_; (simp only [go_sem, sw2, List.length_set, List.length_replicate, and_true, true_and, Nat.le_refl, ↓reduceIte, Nat.reduceEqDiff, Nat.reduceLT, Nat.reduceLeDiff, Nat.reduceAdd, Nat.reduceMul, Nat.reduceSub, Nat.reduceBEq]; done))
  · exact .inl rfl
  · (simp only [go_sem, Nat.reduceLT])
  refine OW.run [1, 2, 3, 9] ?_
  simp (config := { maxSteps := 2000000 }) only [go_sem, ↓reduceIte, Nat.reduceEqDiff, Nat.reduceLT, Nat.reduceLeDiff, Nat.reduceAdd, Nat.reduceMul, Nat.reduceSub, Nat.reduceBEq, Int.reduceToNat, and_assoc, sw0]
  refine OW.call' 4 rfl rfl rfl (by ((simp only [go_sem, List.toList_toArray, ↓reduceIte, Nat.reduceEqDiff, Nat.reduceLT, Nat.reduceBEq]); exact rfl)) ?_ (code_isLength_ok N _ _ e2) ?_ ?_ ?_ ?_
  · rfl
  · exact okD_all rfl
  · exact .inl rfl
  · (simp only [go_sem, Nat.reduceLT])
  refine OW.run [1, 2, 3, 9] ?_
  simp (config := { maxSteps := 2000000 }) only [go_sem, ↓reduceIte, Nat.reduceEqDiff, Nat.reduceLT, Nat.reduceLeDiff, Nat.reduceAdd, Nat.reduceMul, Nat.reduceSub, Nat.reduceBEq, Int.reduceToNat, and_assoc, sw0]
  refine OW.call' 4 rfl rfl rfl (by ((simp only [go_sem, List.toList_toArray, ↓reduceIte, Nat.reduceEqDiff, Nat.reduceLT, Nat.reduceBEq]); exact rfl)) ?_ (code_unless_ok N _ _ _ e3) ?_ ?_ ?_ ?_
  · rfl
  · exact okD_all rfl
  · exact .inl rfl
  · (simp only [go_sem, Nat.reduceLT])
  refine OW.run [1, 2, 3, 9] ?_
  simp (config := { maxSteps := 2000000 }) only [go_sem, ↓reduceIte, Nat.reduceEqDiff, Nat.reduceLT, Nat.reduceLeDiff, Nat.reduceAdd, Nat.reduceMul, Nat.reduceSub, Nat.reduceBEq, Int.reduceToNat, and_assoc, sw0]
  refine OW.call' 4 rfl rfl rfl (by ((simp only [go_sem, List.toList_toArray, ↓reduceIte, Nat.reduceEqDiff, Nat.reduceLT, Nat.reduceBEq]); exact rfl)) ?_ (code_first_ok N _ _ e4) ?_ ?_ ?_ ?_
  · rfl
  · (refine okAll_intro ?_; (simp only [go_sem, sw2, List.length_set, List.length_replicate, and_true, true_and, Nat.le_refl, ↓reduceIte, Nat.reduceEqDiff, Nat.reduceLT, Nat.reduceLeDiff, Nat.reduceAdd, Nat.reduceMul, Nat.reduceSub, Nat.reduceBEq]; simp only [seg, go_sem, sw2, List.length_set, List.length_replicate, and_true, true_and, Nat.le_refl, ↓reduceIte, Nat.reduceEqDiff, Nat.reduceLT, Nat.reduceLeDiff, Nat.reduceAdd, Nat.reduceMul, Nat.reduceSub, Nat.reduceBEq]; done))
  · exact .inr ⟨rfl, rfl⟩
  · (simp only [go_sem, Nat.reduceLT])
  refine OW.run [1, 2, 3, 9] ?_
  simp (config := { maxSteps := 2000000 }) only [go_sem, ↓reduceIte, Nat.reduceEqDiff, Nat.reduceLT, Nat.reduceLeDiff, Nat.reduceAdd, Nat.reduceMul, Nat.reduceSub, Nat.reduceBEq, Int.reduceToNat, and_assoc, sw0]
  refine OW.nil (hK _ ?_)
  clear hK K
  change PW _ _ _ _ _
  refine PW.seq ?_
  refine PW.regionK fun K hK => ?_
  refine OW.run [1, 2, 3, 9, 24] ?_
  simp (config := { maxSteps := 2000000 }) only [go_sem, ↓reduceIte, Nat.reduceEqDiff, Nat.reduceLT, Nat.reduceLeDiff, Nat.reduceAdd, Nat.reduceMul, Nat.reduceSub, Nat.reduceBEq, Int.reduceToNat, and_assoc, sw0]
  refine OW.nil (hK _ ?_)
  clear hK K
  change PW _ _ _ _ _
  refine PW.cond rfl (fun h1 => ?_) (fun h1 => ?_)
  · replace hrun := br_t h1 hrun
    refine PW.seq ?_
    refine PW.regionK fun K hK => ?_
    refine OW.run [6, 7, 8] ?_
    simp (config := { maxSteps := 2000000 }) only [go_sem, ↓reduceIte, Nat.reduceEqDiff, Nat.reduceLT, Nat.reduceLeDiff, Nat.reduceAdd, Nat.reduceMul, Nat.reduceSub, Nat.reduceBEq, Int.reduceToNat, and_assoc, sw0]
    refine OW.nil (hK _ ?_)
    clear hK K
    change PW _ _ _ _ _
    refine PW.ret ?_
    change PW.Ends _ _ _ _ _ _
    refine PW.Ends.intro (.inr rfl) ?_
    simp (config := { maxSteps := 2000000 }) only [go_sem, ↓reduceIte, Nat.reduceEqDiff, Nat.reduceLT, Nat.reduceLeDiff, Nat.reduceAdd, Nat.reduceMul, Nat.reduceSub, Nat.reduceBEq, Int.reduceToNat, and_assoc, sw0]
    obtain rfl := Option.some.inj hrun
    refine RetOK.data' 4 (by exact okD_all rfl) ?_
    rfl
  · replace hrun := br_f h1 hrun
    refine PW.skip ?_
    change PW _ _ _ _ _
    refine PW.seq ?_
    obtain ⟨⟨x5, x51, x52⟩, e5, hrun⟩ := bnd_some hrun
    refine PW.regionK fun K hK => ?_
    refine OW.run [1, 3, 10] ?_
    simp (config := { maxSteps := 2000000 }) only [go_sem, ↓reduceIte, Nat.reduceEqDiff, Nat.reduceLT, Nat.reduceLeDiff, Nat.reduceAdd, Nat.reduceMul, Nat.reduceSub, Nat.reduceBEq, Int.reduceToNat, and_assoc, sw0]
    refine OW.call' 4 rfl rfl rfl (by ((simp only [go_sem, List.toList_toArray, ↓reduceIte, Nat.reduceEqDiff, Nat.reduceLT, Nat.reduceBEq]); exact rfl)) ?_ (code_cutOf_ok N _ _ _ _ _ e5) ?_ ?_ ?_ ?_
    · rfl
    · (refine okAll_intro ?_; (simp only [go_sem, sw2, List.length_set, List.length_replicate, and_true, true_and, Nat.le_refl, ↓reduceIte, Nat.reduceEqDiff, Nat.reduceLT, Nat.reduceLeDiff, Nat.reduceAdd, Nat.reduceMul, Nat.reduceSub, Nat.reduceBEq]; done))
    · exact .inl rfl
    · (simp only [go_sem, Nat.reduceLT])
    refine OW.run [1, 3, 10] ?_
    simp (config := { maxSteps := 2000000 }) only [go_sem, ↓reduceIte, Nat.reduceEqDiff, Nat.reduceLT, Nat.reduceLeDiff, Nat.reduceAdd, Nat.reduceMul, Nat.reduceSub, Nat.reduceBEq, Int.reduceToNat, and_assoc, sw0]
    refine OW.nil (hK _ ?_)
    clear hK K
    change PW _ _ _ _ _
    refine PW.seq ?_
    refine PW.seq ?_
    refine PW.regionK fun K hK => ?_
    refine OW.run [1, 3, 10, 33] ?_
    simp (config := { maxSteps := 2000000 }) only [go_sem, ↓reduceIte, Nat.reduceEqDiff, Nat.reduceLT, Nat.reduceLeDiff, Nat.reduceAdd, Nat.reduceMul, Nat.reduceSub, Nat.reduceBEq, Int.reduceToNat, and_assoc, sw0]
    refine And.intro (by omega) ?_
    refine OW.nil (hK _ ?_)
    clear hK K
    change PW _ _ _ _ _
    refine PW.cond rfl (fun h2 => ?_) (fun h2 => ?_)
    · replace hrun := br_t h2 hrun
      refine PW.seq ?_
      refine PW.regionK fun K hK => ?_
      refine OW.run [6, 7, 8] ?_
      simp (config := { maxSteps := 2000000 }) only [go_sem, ↓reduceIte, Nat.reduceEqDiff, Nat.reduceLT, Nat.reduceLeDiff, Nat.reduceAdd, Nat.reduceMul, Nat.reduceSub, Nat.reduceBEq, Int.reduceToNat, and_assoc, sw0]
      refine OW.nil (hK _ ?_)
      clear hK K
      change PW _ _ _ _ _
      refine PW.ret ?_
      change PW.Ends _ _ _ _ _ _
      refine PW.Ends.intro (.inr rfl) ?_
      simp (config := { maxSteps := 2000000 }) only [go_sem, ↓reduceIte, Nat.reduceEqDiff, Nat.reduceLT, Nat.reduceLeDiff, Nat.reduceAdd, Nat.reduceMul, Nat.reduceSub, Nat.reduceBEq, Int.reduceToNat, and_assoc, sw0]
      obtain rfl := Option.some.inj hrun
      refine RetOK.data' 4 (by exact okD_all rfl) ?_
      rfl
    · replace hrun := br_f h2 hrun
      refine PW.skip ?_
      change PW _ _ _ _ _
      refine PW.seq ?_
      refine PW.regionK fun K hK => ?_
      refine OW.run [1, 3, 10, 11] ?_
      simp (config := { maxSteps := 2000000 }) only [go_sem, ↓reduceIte, Nat.reduceEqDiff, Nat.reduceLT, Nat.reduceLeDiff, Nat.reduceAdd, Nat.reduceMul, Nat.reduceSub, Nat.reduceBEq, Int.reduceToNat, and_assoc, sw0]
      refine OW.nil (hK _ ?_)
      clear hK K
      change PW _ _ _ _ _
      refine PW.joinS (τ := List Int) [10, 11] 4 (fun b3 => [(11, .own 3 0 b3.length 1)]) (fun b3 => [{ cells := [.d (I r_Poly_Degree), .d (I r_Poly_Taps), .d (I r_Most)], e := 113 }, { cells := [.d (I x1), .d (I x3)], e := 29 }, { cells := [.d (I x5), .d (I x51), .d (I x52)], e := 160 }, { cells := (b3.map I).map .d, e := 3 }]) _ _ r (by exact Nat.zero_le _) hrun ?_ ?_
      · intro K_ hrun N3 hN3
        refine PW.seq ?_
        refine PW.regionK fun K hK => ?_
        refine OW.run [3, 10, 11, 34, 35, 36] ?_
        simp (config := { maxSteps := 2000000 }) only [go_sem, ↓reduceIte, Nat.reduceEqDiff, Nat.reduceLT, Nat.reduceLeDiff, Nat.reduceAdd, Nat.reduceMul, Nat.reduceSub, Nat.reduceBEq, Int.reduceToNat, and_assoc, sw0]
        refine OW.nil (hK _ ?_)
        clear hK K
        change PW _ _ _ _ _
        refine PW.block ?_
        refine PW.virt 11 3 1 rfl ?_
        try simp only [go_sem, ↓reduceIte, Nat.reduceEqDiff, Nat.reduceLT, Nat.reduceLeDiff, Nat.reduceAdd, Nat.reduceMul, Nat.reduceSub, Nat.reduceBEq]
        refine PW.loopS (σ := Int × List Int) [3, 10, 11, 34, 35, 36] 4 (fun (t36, b31) => [(11, .own 3 0 b31.length 1), (36, .d (I t36))]) (fun (t36, b31) => [{ cells := [.d (I r_Poly_Degree), .d (I r_Poly_Taps), .d (I r_Most)], e := 113 }, { cells := [.d (I x1), .d (I x3)], e := 29 }, { cells := [.d (I x5), .d (I x51), .d (I x52)], e := 160 }, { cells := (b31.map I).map .d, e := 3 }]) (code_Joined.b1 N r_Poly_Degree r_Poly_Taps parts x51 K_) r N ((0 : Int), ([] : List Int)) (by exact Nat.zero_le _) hrun (by (simp only [Env.frzL, Env.frz, frzOb, V.frz, V.frz.frzs, asD, map_asD, sw1, go_sem, ↓reduceIte, Nat.reduceEqDiff, Nat.reduceLT, Nat.reduceLeDiff, Nat.reduceAdd, Nat.reduceMul, Nat.reduceSub, Nat.reduceBEq]; done)) ?_
        rintro n ⟨t36, b31⟩ hrun N4 hN4
        unfold code_Joined.b1 at hrun
        try simp only [go_sem, ↓reduceIte, Nat.reduceEqDiff, Nat.reduceLT, Nat.reduceLeDiff, Nat.reduceAdd, Nat.reduceMul, Nat.reduceSub, Nat.reduceBEq]
        refine PW.seq ?_
        refine PW.regionK fun K hK => ?_
        refine OW.run [3, 10, 11, 34, 35, 36, 37] ?_
        simp (config := { maxSteps := 2000000 }) only [go_sem, ↓reduceIte, Nat.reduceEqDiff, Nat.reduceLT, Nat.reduceLeDiff, Nat.reduceAdd, Nat.reduceMul, Nat.reduceSub, Nat.reduceBEq, Int.reduceToNat, and_assoc, sw0]
        refine OW.nil (hK _ ?_)
        clear hK K
        change PW _ _ _ _ _
        refine PW.seq ?_
        refine PW.cond rfl (fun h5 => ?_) (fun h5 => ?_)
        · replace hrun := br_t h5 hrun
          refine PW.skip ?_
          change PW _ _ _ _ _
          refine PW.seq ?_
          refine PW.block ?_
          refine PW.seq ?_
          obtain ⟨c6, hrun⟩ := chk_some hrun
          refine PW.regionK fun K hK => ?_
          refine OW.run [3, 10, 11, 12, 13, 34, 35, 36] ?_
          (simp (config := { maxSteps := 2000000 }) only [go_sem, ↓reduceIte, Nat.reduceEqDiff, Nat.reduceLT, Nat.reduceLeDiff, Nat.reduceAdd, Nat.reduceMul, Nat.reduceSub, Nat.reduceBEq, Int.reduceToNat, and_assoc, sw0, getD_mapF L parts t36.toNat default (by omega)])
          refine And.intro (by omega) (And.intro (by omega) (And.intro (by omega) (And.intro (by omega) ?_)))
          refine OW.nil (hK _ ?_)
          clear hK K
          change PW _ _ _ _ _
          refine PW.seq ?_
          refine PW.regionK fun K hK => ?_
          refine OW.run [3, 10, 11, 12, 13, 14, 34, 35, 36] ?_
          simp (config := { maxSteps := 2000000 }) only [go_sem, ↓reduceIte, Nat.reduceEqDiff, Nat.reduceLT, Nat.reduceLeDiff, Nat.reduceAdd, Nat.reduceMul, Nat.reduceSub, Nat.reduceBEq, Int.reduceToNat, and_assoc, sw0]
          refine And.intro (by omega) (And.intro (by omega) (And.intro (by omega) ?_))
          refine OW.nil (hK _ ?_)
          clear hK K
          change PW _ _ _ _ _
          refine PW.seq ?_
          refine PW.seq ?_
          obtain ⟨x6, e6, hrun⟩ := bnd_some hrun
          obtain ⟨x7, e7, hrun⟩ := bnd_some hrun
          obtain ⟨x8, e8, hrun⟩ := bnd_some hrun
          obtain ⟨x9, e9, hrun⟩ := bnd_some hrun
          refine PW.regionK fun K hK => ?_
          refine OW.run [3, 10, 11, 12, 13, 15, 34, 35, 36] ?_
          simp (config := { maxSteps := 2000000 }) only [go_sem, ↓reduceIte, Nat.reduceEqDiff, Nat.reduceLT, Nat.reduceLeDiff, Nat.reduceAdd, Nat.reduceMul, Nat.reduceSub, Nat.reduceBEq, Int.reduceToNat, and_assoc, sw0]
          refine OW.call' 4 rfl rfl rfl (by ((simp only [go_sem, List.toList_toArray, ↓reduceIte, Nat.reduceEqDiff, Nat.reduceLT, Nat.reduceBEq]); exact rfl)) ?_ (code_unless_ok N _ _ _ e6) ?_ ?_ ?_ ?_
          · rfl
          · exact okD_all rfl
          · exact .inl rfl
          · (simp only [go_sem, Nat.reduceLT])
          refine OW.run [3, 10, 11, 12, 13, 15, 34, 35, 36] ?_
          simp (config := { maxSteps := 2000000 }) only [go_sem, ↓reduceIte, Nat.reduceEqDiff, Nat.reduceLT, Nat.reduceLeDiff, Nat.reduceAdd, Nat.reduceMul, Nat.reduceSub, Nat.reduceBEq, Int.reduceToNat, and_assoc, sw0]
          refine OW.call' 4 rfl rfl rfl (by ((simp only [go_sem, List.toList_toArray, ↓reduceIte, Nat.reduceEqDiff, Nat.reduceLT, Nat.reduceBEq]); exact rfl)) ?_ (slices_ContainsFunc_ii_ok N _ 136 [] (fun y0 => code_Joined_1 N y0) (fun y0 r h => code_Joined_1_ok N y0 r h) _ e7) ?_ ?_ ?_ ?_
          · rfl
          · exact okD_all rfl
          · exact .inl rfl
          · (simp only [go_sem, Nat.reduceLT])
          refine OW.run [3, 10, 11, 12, 13, 15, 34, 35, 36] ?_
          simp (config := { maxSteps := 2000000 }) only [go_sem, ↓reduceIte, Nat.reduceEqDiff, Nat.reduceLT, Nat.reduceLeDiff, Nat.reduceAdd, Nat.reduceMul, Nat.reduceSub, Nat.reduceBEq, Int.reduceToNat, and_assoc, sw0]
          refine OW.call' 4 rfl rfl rfl (by ((simp only [go_sem, List.toList_toArray, ↓reduceIte, Nat.reduceEqDiff, Nat.reduceLT, Nat.reduceBEq]); exact rfl)) ?_ (code_unless_ok N _ _ _ e8) ?_ ?_ ?_ ?_
          · rfl
          · exact okD_all rfl
          · exact .inl rfl
          · (simp only [go_sem, Nat.reduceLT])
          refine OW.run [3, 10, 11, 12, 13, 15, 34, 35, 36] ?_
          simp (config := { maxSteps := 2000000 }) only [go_sem, ↓reduceIte, Nat.reduceEqDiff, Nat.reduceLT, Nat.reduceLeDiff, Nat.reduceAdd, Nat.reduceMul, Nat.reduceSub, Nat.reduceBEq, Int.reduceToNat, and_assoc, sw0]
          refine OW.call' 4 rfl rfl rfl (by ((simp only [go_sem, List.toList_toArray, ↓reduceIte, Nat.reduceEqDiff, Nat.reduceLT, Nat.reduceBEq]); exact rfl)) ?_ (code_first_ok N _ _ e9) ?_ ?_ ?_ ?_
          · rfl
          · (refine okAll_intro ?_; (simp only [go_sem, sw2, List.length_set, List.length_replicate, and_true, true_and, Nat.le_refl, ↓reduceIte, Nat.reduceEqDiff, Nat.reduceLT, Nat.reduceLeDiff, Nat.reduceAdd, Nat.reduceMul, Nat.reduceSub, Nat.reduceBEq]; simp only [seg, go_sem, sw2, List.length_set, List.length_replicate, and_true, true_and, Nat.le_refl, ↓reduceIte, Nat.reduceEqDiff, Nat.reduceLT, Nat.reduceLeDiff, Nat.reduceAdd, Nat.reduceMul, Nat.reduceSub, Nat.reduceBEq]; done))
          · exact .inr ⟨rfl, rfl⟩
          · (simp only [go_sem, Nat.reduceLT])
          refine OW.run [3, 10, 11, 12, 13, 15, 34, 35, 36] ?_
          simp (config := { maxSteps := 2000000 }) only [go_sem, ↓reduceIte, Nat.reduceEqDiff, Nat.reduceLT, Nat.reduceLeDiff, Nat.reduceAdd, Nat.reduceMul, Nat.reduceSub, Nat.reduceBEq, Int.reduceToNat, and_assoc, sw0]
          refine OW.nil (hK _ ?_)
          clear hK K
          change PW _ _ _ _ _
          refine PW.seq ?_
          refine PW.regionK fun K hK => ?_
          refine OW.run [3, 10, 11, 12, 13, 15, 34, 35, 36, 59] ?_
          simp (config := { maxSteps := 2000000 }) only [go_sem, ↓reduceIte, Nat.reduceEqDiff, Nat.reduceLT, Nat.reduceLeDiff, Nat.reduceAdd, Nat.reduceMul, Nat.reduceSub, Nat.reduceBEq, Int.reduceToNat, and_assoc, sw0]
          refine OW.nil (hK _ ?_)
          clear hK K
          change PW _ _ _ _ _
          refine PW.cond rfl (fun h7 => ?_) (fun h7 => ?_)
          · replace hrun := br_t h7 hrun
            refine PW.seq ?_
            refine PW.regionK fun K hK => ?_
            refine OW.run [6, 7, 8] ?_
            simp (config := { maxSteps := 2000000 }) only [go_sem, ↓reduceIte, Nat.reduceEqDiff, Nat.reduceLT, Nat.reduceLeDiff, Nat.reduceAdd, Nat.reduceMul, Nat.reduceSub, Nat.reduceBEq, Int.reduceToNat, and_assoc, sw0]
            refine OW.nil (hK _ ?_)
            clear hK K
            change PW _ _ _ _ _
            refine PW.ret ?_
            change PW.Ends _ _ _ _ _ _
            refine PW.Ends.intro (.inr rfl) ?_
            simp (config := { maxSteps := 2000000 }) only [go_sem, ↓reduceIte, Nat.reduceEqDiff, Nat.reduceLT, Nat.reduceLeDiff, Nat.reduceAdd, Nat.reduceMul, Nat.reduceSub, Nat.reduceBEq, Int.reduceToNat, and_assoc, sw0]
            obtain rfl := Option.some.inj hrun
            refine RetOK.data' 4 (by exact okD_all rfl) ?_
            rfl
          · replace hrun := br_f h7 hrun
            refine PW.skip ?_
            change PW _ _ _ _ _
            refine PW.seq ?_
            refine PW.seq ?_
            obtain ⟨x10, e10, hrun⟩ := bnd_some hrun
            refine PW.regionK fun K hK => ?_
            refine OW.run [3, 10, 11, 12, 13, 34, 35, 36, 66] ?_
            simp (config := { maxSteps := 2000000 }) only [go_sem, ↓reduceIte, Nat.reduceEqDiff, Nat.reduceLT, Nat.reduceLeDiff, Nat.reduceAdd, Nat.reduceMul, Nat.reduceSub, Nat.reduceBEq, Int.reduceToNat, and_assoc, sw0]
            refine And.intro (by omega) ?_
            refine OW.call' 4 rfl rfl rfl (by ((simp only [go_sem, List.toList_toArray, ↓reduceIte, Nat.reduceEqDiff, Nat.reduceLT, Nat.reduceBEq]); exact rfl)) ?_ (code_right_ok N _ _ _ _ e10) ?_ ?_ ?_ ?_
            · rfl
            · (refine okAll_intro ?_; (simp only [go_sem, sw2, List.length_set, List.length_replicate, and_true, true_and, Nat.le_refl, ↓reduceIte, Nat.reduceEqDiff, Nat.reduceLT, Nat.reduceLeDiff, Nat.reduceAdd, Nat.reduceMul, Nat.reduceSub, Nat.reduceBEq]; done))
            · exact .inl rfl
            · (simp only [go_sem, Nat.reduceLT])
            refine OW.run [3, 10, 11, 12, 13, 34, 35, 36, 66] ?_
            simp (config := { maxSteps := 2000000 }) only [go_sem, ↓reduceIte, Nat.reduceEqDiff, Nat.reduceLT, Nat.reduceLeDiff, Nat.reduceAdd, Nat.reduceMul, Nat.reduceSub, Nat.reduceBEq, Int.reduceToNat, and_assoc, sw0]
            refine OW.nil (hK _ ?_)
            clear hK K
            change PW _ _ _ _ _
            refine PW.cond rfl (fun h8 => ?_) (fun h8 => ?_)
            · replace hrun := br_t h8 hrun
              refine PW.seq ?_
              refine PW.regionK fun K hK => ?_
              refine OW.run [6, 7, 8] ?_
              simp (config := { maxSteps := 2000000 }) only [go_sem, ↓reduceIte, Nat.reduceEqDiff, Nat.reduceLT, Nat.reduceLeDiff, Nat.reduceAdd, Nat.reduceMul, Nat.reduceSub, Nat.reduceBEq, Int.reduceToNat, and_assoc, sw0]
              refine OW.nil (hK _ ?_)
              clear hK K
              change PW _ _ _ _ _
              refine PW.ret ?_
              change PW.Ends _ _ _ _ _ _
              refine PW.Ends.intro (.inr rfl) ?_
              simp (config := { maxSteps := 2000000 }) only [go_sem, ↓reduceIte, Nat.reduceEqDiff, Nat.reduceLT, Nat.reduceLeDiff, Nat.reduceAdd, Nat.reduceMul, Nat.reduceSub, Nat.reduceBEq, Int.reduceToNat, and_assoc, sw0]
              obtain rfl := Option.some.inj hrun
              refine RetOK.data' 4 (by exact okD_all rfl) ?_
              rfl
            · replace hrun := br_f h8 hrun
              refine PW.skip ?_
              change PW _ _ _ _ _
              obtain ⟨c9, hrun⟩ := chk_some hrun
              obtain ⟨c10, hrun⟩ := chk_some hrun
              refine PW.regionK fun K hK => ?_
              refine OW.run [3, 10, 11, 34, 35, 36] ?_
              (simp (config := { maxSteps := 2000000 }) only [go_sem, ↓reduceIte, Nat.reduceEqDiff, Nat.reduceLT, Nat.reduceLeDiff, Nat.reduceAdd, Nat.reduceMul, Nat.reduceSub, Nat.reduceBEq, Int.reduceToNat, and_assoc, sw0, slice_len I ((parts.getD t36.toNat default).take x51.toNat) x51.toNat (by simp only [List.length_take, List.length_drop]; omega)])
              refine And.intro (by omega) (And.intro (by omega) (And.intro (by omega) (And.intro (by omega) (And.intro (by omega) (And.intro (by omega) (And.intro (by omega) ?_))))))
              refine OW.nil (hK _ ?_)
              clear hK K
              change PW _ _ _ _ _
              refine PW.regionK fun K hK => ?_
              refine OW.run [3, 10, 11, 34, 35, 36] ?_
              simp (config := { maxSteps := 2000000 }) only [go_sem, ↓reduceIte, Nat.reduceEqDiff, Nat.reduceLT, Nat.reduceLeDiff, Nat.reduceAdd, Nat.reduceMul, Nat.reduceSub, Nat.reduceBEq, Int.reduceToNat, and_assoc, sw0]
              refine OW.nil (hK _ ?_)
              clear hK K
              refine hN4 [] (w64 (t36 + (1 : Int)), (b31 ++ ((parts.getD t36.toNat default).take x51.toNat))) _ hrun (by exact trivial) ?_
              (simp only [Env.frzL, Env.frz, frzOb, V.frz, V.frz.frzs, asD, map_asD, sw1, go_sem, ↓reduceIte, Nat.reduceEqDiff, Nat.reduceLT, Nat.reduceLeDiff, Nat.reduceAdd, Nat.reduceMul, Nat.reduceSub, Nat.reduceBEq]; done)
        · replace hrun := br_f h5 hrun
          refine PW.exit ?_
          refine hN3 [] b31 _ hrun (by exact trivial) ?_
          (simp only [Env.frzL, Env.frz, frzOb, V.frz, V.frz.frzs, asD, map_asD, sw1, go_sem, ↓reduceIte, Nat.reduceEqDiff, Nat.reduceLT, Nat.reduceLeDiff, Nat.reduceAdd, Nat.reduceMul, Nat.reduceSub, Nat.reduceBEq]; done)
      · rintro b3 hrun
        try simp only [go_sem, ↓reduceIte, Nat.reduceEqDiff, Nat.reduceLT, Nat.reduceLeDiff, Nat.reduceAdd, Nat.reduceMul, Nat.reduceSub, Nat.reduceBEq]
        refine PW.seq ?_
        refine PW.seq ?_
        obtain ⟨c11, hrun⟩ := chk_some hrun
        obtain ⟨x11, e11, hrun⟩ := bnd_some hrun
        refine PW.regionK fun K hK => ?_
        refine OW.run [10, 11, 79] ?_
        simp (config := { maxSteps := 2000000 }) only [go_sem, ↓reduceIte, Nat.reduceEqDiff, Nat.reduceLT, Nat.reduceLeDiff, Nat.reduceAdd, Nat.reduceMul, Nat.reduceSub, Nat.reduceBEq, Int.reduceToNat, and_assoc, sw0]
        refine And.intro (by omega) (And.intro (by omega) (And.intro (by omega) (And.intro (by omega) (And.intro (by omega) ?_))))
        refine OW.call' 4 rfl rfl rfl (by ((simp only [go_sem, List.toList_toArray, ↓reduceIte, Nat.reduceEqDiff, Nat.reduceLT, Nat.reduceBEq]); exact rfl)) ?_ (slices_Contains_ii_ok N _ _ _ e11) ?_ ?_ ?_ ?_
        · (((simp only [go_sem, sw1, ↓reduceIte, Nat.reduceEqDiff, Nat.reduceLT, Nat.reduceLeDiff, Nat.reduceAdd, Nat.reduceMul, Nat.reduceSub, Nat.reduceBEq]; try simp only [seg, go_sem, ↓reduceIte, Nat.reduceEqDiff, Nat.reduceLT, Nat.reduceLeDiff, Nat.reduceAdd, Nat.reduceMul, Nat.reduceSub, Nat.reduceBEq])); (repeat' (first | rfl | (refine list_congr ?_; simp only [List.length_take, List.length_drop, List.length_set, List.length_replicate] <;> omega) | (refine congr (congrArg List.cons ?_) ?_) | (refine congrArg D.agg ?_) | (refine congrArg D.tup ?_) | (refine congrArg D.ref ?_) | (refine congrArg (D.list _) ?_) | (refine congrArg (D.clo _) ?_))))
        · (refine okAll_intro ?_; (simp only [go_sem, sw2, List.length_set, List.length_replicate, and_true, true_and, Nat.le_refl, ↓reduceIte, Nat.reduceEqDiff, Nat.reduceLT, Nat.reduceLeDiff, Nat.reduceAdd, Nat.reduceMul, Nat.reduceSub, Nat.reduceBEq]; omega))
        · exact .inr ⟨rfl, rfl⟩
        · (simp only [go_sem, Nat.reduceLT])
        refine OW.run [10, 11, 79] ?_
        simp (config := { maxSteps := 2000000 }) only [go_sem, ↓reduceIte, Nat.reduceEqDiff, Nat.reduceLT, Nat.reduceLeDiff, Nat.reduceAdd, Nat.reduceMul, Nat.reduceSub, Nat.reduceBEq, Int.reduceToNat, and_assoc, sw0]
        refine OW.nil (hK _ ?_)
        clear hK K
        change PW _ _ _ _ _
        refine PW.cond rfl (fun h12 => ?_) (fun h12 => ?_)
        · replace hrun := br_t h12 hrun
          refine PW.seq ?_
          refine PW.regionK fun K hK => ?_
          refine OW.run [6, 7, 8] ?_
          simp (config := { maxSteps := 2000000 }) only [go_sem, ↓reduceIte, Nat.reduceEqDiff, Nat.reduceLT, Nat.reduceLeDiff, Nat.reduceAdd, Nat.reduceMul, Nat.reduceSub, Nat.reduceBEq, Int.reduceToNat, and_assoc, sw0]
          refine OW.nil (hK _ ?_)
          clear hK K
          change PW _ _ _ _ _
          refine PW.ret ?_
          change PW.Ends _ _ _ _ _ _
          refine PW.Ends.intro (.inr rfl) ?_
          simp (config := { maxSteps := 2000000 }) only [go_sem, ↓reduceIte, Nat.reduceEqDiff, Nat.reduceLT, Nat.reduceLeDiff, Nat.reduceAdd, Nat.reduceMul, Nat.reduceSub, Nat.reduceBEq, Int.reduceToNat, and_assoc, sw0]
          obtain rfl := Option.some.inj hrun
          refine RetOK.data' 4 (by exact okD_all rfl) ?_
          rfl
        · replace hrun := br_f h12 hrun
          refine PW.skip ?_
          change PW _ _ _ _ _
          refine PW.seq ?_
          obtain ⟨c13, hrun⟩ := chk_some hrun
          refine PW.regionK fun K hK => ?_
          refine OW.run [6, 7, 8] ?_
          simp (config := { maxSteps := 2000000 }) only [go_sem, ↓reduceIte, Nat.reduceEqDiff, Nat.reduceLT, Nat.reduceLeDiff, Nat.reduceAdd, Nat.reduceMul, Nat.reduceSub, Nat.reduceBEq, Int.reduceToNat, and_assoc, sw0]
          refine And.intro (by omega) (And.intro (by omega) (And.intro (by omega) (And.intro (by omega) (And.intro (by omega) ?_))))
          refine OW.nil (hK _ ?_)
          clear hK K
          change PW _ _ _ _ _
          refine PW.ret ?_
          change PW.Ends _ _ _ _ _ _
          refine PW.Ends.intro (.inr rfl) ?_
          simp (config := { maxSteps := 2000000 }) only [go_sem, ↓reduceIte, Nat.reduceEqDiff, Nat.reduceLT, Nat.reduceLeDiff, Nat.reduceAdd, Nat.reduceMul, Nat.reduceSub, Nat.reduceBEq, Int.reduceToNat, and_assoc, sw0]
          obtain rfl := Option.some.inj hrun
          refine RetOK.data' 4 (by (refine okAll_intro ?_; (simp only [go_sem, sw2, List.length_set, List.length_replicate, and_true, true_and, Nat.le_refl, ↓reduceIte, Nat.reduceEqDiff, Nat.reduceLT, Nat.reduceLeDiff, Nat.reduceAdd, Nat.reduceMul, Nat.reduceSub, Nat.reduceBEq]; omega))) ?_
          (((simp only [go_sem, sw1, ↓reduceIte, Nat.reduceEqDiff, Nat.reduceLT, Nat.reduceLeDiff, Nat.reduceAdd, Nat.reduceMul, Nat.reduceSub, Nat.reduceBEq]; try simp only [seg, go_sem, ↓reduceIte, Nat.reduceEqDiff, Nat.reduceLT, Nat.reduceLeDiff, Nat.reduceAdd, Nat.reduceMul, Nat.reduceSub, Nat.reduceBEq])); (repeat' (first | rfl | (refine list_congr ?_; simp only [List.length_take, List.length_drop, List.length_set, List.length_replicate] <;> omega) | (refine congr (congrArg List.cons ?_) ?_) | (refine congrArg D.agg ?_) | (refine congrArg D.tup ?_) | (refine congrArg D.ref ?_) | (refine congrArg (D.list _) ?_) | (refine congrArg (D.clo _) ?_))))

set_option maxRecDepth 20000 in
set_option maxHeartbeats 8000000 in
theorem ref02_RuleErr_ok (N : Nat) (r_Poly_Degree : Int) (r_Poly_Taps : Int) (r_Most : Int) (r : Int) (hrun : ref02_RuleErr N r_Poly_Degree r_Poly_Taps r_Most = some r) : CallOK Try.prog 85 [(.agg [(I r_Poly_Degree), (I r_Poly_Taps), (I r_Most)])] (.d (I r)) [] := by
  refine CallOK.of_PW Try.func85 rfl (by rw [Try.results85]) Try.ntmps85 Try.call85 ?_
  change PW _ _ _ _ _
  try simp only [go_sem, ↓reduceIte, Nat.reduceEqDiff, Nat.reduceLT, Nat.reduceLeDiff, Nat.reduceAdd, Nat.reduceMul, Nat.reduceSub, Nat.reduceBEq]
  unfold ref02_RuleErr at hrun
  refine PW.seq ?_
  refine PW.regionK fun K hK => ?_
  refine OW.run [1] ?_
  simp (config := { maxSteps := 2000000 }) only [go_sem, ↓reduceIte, Nat.reduceEqDiff, Nat.reduceLT, Nat.reduceLeDiff, Nat.reduceAdd, Nat.reduceMul, Nat.reduceSub, Nat.reduceBEq, Int.reduceToNat, and_assoc, sw0]
  refine OW.nil (hK _ ?_)
  clear hK K
  change PW _ _ _ _ _
  refine PW.seq ?_
  refine PW.seq ?_
  obtain ⟨x1, e1, hrun⟩ := bnd_some hrun
  refine PW.regionK fun K hK => ?_
  refine OW.run [1, 3] ?_
  simp (config := { maxSteps := 2000000 }) only [go_sem, ↓reduceIte, Nat.reduceEqDiff, Nat.reduceLT, Nat.reduceLeDiff, Nat.reduceAdd, Nat.reduceMul, Nat.reduceSub, Nat.reduceBEq, Int.reduceToNat, and_assoc, sw0]
  refine And.intro (by omega) ?_
  refine OW.call' 4 rfl rfl rfl (by ((simp only [go_sem, List.toList_toArray, ↓reduceIte, Nat.reduceEqDiff, Nat.reduceLT, Nat.reduceBEq]); exact rfl)) ?_ (ref02_CheckPoly_ok N _ _ _ e1) ?_ ?_ ?_ ?_
  · rfl
  · (refine okAll_intro ?_; (simp only [go_sem, sw2, List.length_set, List.length_replicate, and_true, true_and, Nat.le_refl, ↓reduceIte, Nat.reduceEqDiff, Nat.reduceLT, Nat.reduceLeDiff, Nat.reduceAdd, Nat.reduceMul, Nat.reduceSub, Nat.reduceBEq]; done))
  · exact .inl rfl
  · (simp only [go_sem, Nat.reduceLT])
  refine OW.run [1, 3] ?_
  simp (config := { maxSteps := 2000000 }) only [go_sem, ↓reduceIte, Nat.reduceEqDiff, Nat.reduceLT, Nat.reduceLeDiff, Nat.reduceAdd, Nat.reduceMul, Nat.reduceSub, Nat.reduceBEq, Int.reduceToNat, and_assoc, sw0]
  refine OW.nil (hK _ ?_)
  clear hK K
  change PW _ _ _ _ _
  refine PW.seq ?_
  refine PW.regionK fun K hK => ?_
  refine OW.run [1, 3, 8] ?_
  simp (config := { maxSteps := 2000000 }) only [go_sem, ↓reduceIte, Nat.reduceEqDiff, Nat.reduceLT, Nat.reduceLeDiff, Nat.reduceAdd, Nat.reduceMul, Nat.reduceSub, Nat.reduceBEq, Int.reduceToNat, and_assoc, sw0]
  refine OW.nil (hK _ ?_)
  clear hK K
  change PW _ _ _ _ _
  refine PW.cond rfl (fun h1 => ?_) (fun h1 => ?_)
  · replace hrun := br_t h1 hrun
    refine PW.seq ?_
    refine PW.regionK fun K hK => ?_
    refine OW.run [2] ?_
    simp (config := { maxSteps := 2000000 }) only [go_sem, ↓reduceIte, Nat.reduceEqDiff, Nat.reduceLT, Nat.reduceLeDiff, Nat.reduceAdd, Nat.reduceMul, Nat.reduceSub, Nat.reduceBEq, Int.reduceToNat, and_assoc, sw0]
    refine OW.nil (hK _ ?_)
    clear hK K
    change PW _ _ _ _ _
    refine PW.ret ?_
    change PW.Ends _ _ _ _ _ _
    refine PW.Ends.intro (.inr rfl) ?_
    simp (config := { maxSteps := 2000000 }) only [go_sem, ↓reduceIte, Nat.reduceEqDiff, Nat.reduceLT, Nat.reduceLeDiff, Nat.reduceAdd, Nat.reduceMul, Nat.reduceSub, Nat.reduceBEq, Int.reduceToNat, and_assoc, sw0]
    obtain rfl := Option.some.inj hrun
    refine RetOK.data' 4 (by exact trivial) ?_
    rfl
  · replace hrun := br_f h1 hrun
    refine PW.skip ?_
    change PW _ _ _ _ _
    refine PW.seq ?_
    refine PW.seq ?_
    obtain ⟨x2, e2, hrun⟩ := bnd_some hrun
    refine PW.regionK fun K hK => ?_
    refine OW.run [17] ?_
    simp (config := { maxSteps := 2000000 }) only [go_sem, ↓reduceIte, Nat.reduceEqDiff, Nat.reduceLT, Nat.reduceLeDiff, Nat.reduceAdd, Nat.reduceMul, Nat.reduceSub, Nat.reduceBEq, Int.reduceToNat, and_assoc, sw0]
    refine And.intro (by omega) (And.intro (by omega) (And.intro (by omega) ?_))
    refine OW.call' 4 rfl rfl rfl (by ((simp only [go_sem, List.toList_toArray, ↓reduceIte, Nat.reduceEqDiff, Nat.reduceLT, Nat.reduceBEq]); exact rfl)) ?_ (base_Within_ok N _ _ _ _ e2) ?_ ?_ ?_ ?_
    · rfl
    · exact okD_all rfl
    · exact .inl rfl
    · (simp only [go_sem, Nat.reduceLT])
    refine OW.run [17] ?_
    simp (config := { maxSteps := 2000000 }) only [go_sem, ↓reduceIte, Nat.reduceEqDiff, Nat.reduceLT, Nat.reduceLeDiff, Nat.reduceAdd, Nat.reduceMul, Nat.reduceSub, Nat.reduceBEq, Int.reduceToNat, and_assoc, sw0]
    refine OW.nil (hK _ ?_)
    clear hK K
    change PW _ _ _ _ _
    refine PW.cond rfl (fun h2 => ?_) (fun h2 => ?_)
    · replace hrun := br_t h2 hrun
      refine PW.seq ?_
      refine PW.regionK fun K hK => ?_
      refine OW.run [2] ?_
      simp (config := { maxSteps := 2000000 }) only [go_sem, ↓reduceIte, Nat.reduceEqDiff, Nat.reduceLT, Nat.reduceLeDiff, Nat.reduceAdd, Nat.reduceMul, Nat.reduceSub, Nat.reduceBEq, Int.reduceToNat, and_assoc, sw0]
      refine OW.nil (hK _ ?_)
      clear hK K
      change PW _ _ _ _ _
      refine PW.ret ?_
      change PW.Ends _ _ _ _ _ _
      refine PW.Ends.intro (.inr rfl) ?_
      simp (config := { maxSteps := 2000000 }) only [go_sem, ↓reduceIte, Nat.reduceEqDiff, Nat.reduceLT, Nat.reduceLeDiff, Nat.reduceAdd, Nat.reduceMul, Nat.reduceSub, Nat.reduceBEq, Int.reduceToNat, and_assoc, sw0]
      obtain rfl := Option.some.inj hrun
      refine RetOK.data' 4 (by exact trivial) ?_
      rfl
    · replace hrun := br_f h2 hrun
      refine PW.skip ?_
      change PW _ _ _ _ _
      refine PW.seq ?_
      refine PW.regionK fun K hK => ?_
      refine OW.run [2] ?_
      simp (config := { maxSteps := 2000000 }) only [go_sem, ↓reduceIte, Nat.reduceEqDiff, Nat.reduceLT, Nat.reduceLeDiff, Nat.reduceAdd, Nat.reduceMul, Nat.reduceSub, Nat.reduceBEq, Int.reduceToNat, and_assoc, sw0]
      refine OW.nil (hK _ ?_)
      clear hK K
      change PW _ _ _ _ _
      refine PW.ret ?_
      change PW.Ends _ _ _ _ _ _
      refine PW.Ends.intro (.inr rfl) ?_
      simp (config := { maxSteps := 2000000 }) only [go_sem, ↓reduceIte, Nat.reduceEqDiff, Nat.reduceLT, Nat.reduceLeDiff, Nat.reduceAdd, Nat.reduceMul, Nat.reduceSub, Nat.reduceBEq, Int.reduceToNat, and_assoc, sw0]
      obtain rfl := Option.some.inj hrun
      refine RetOK.data' 4 (by exact trivial) ?_
      rfl

set_option maxRecDepth 20000 in
set_option maxHeartbeats 8000000 in
theorem base_Floor_ok (N : Nat) (n : Int) (by_ : Int) (r : Int) (hrun : base_Floor N n by_ = some r) : CallOK Try.prog 177 [(I n), (I by_)] (.d (I r)) [] := by
  refine CallOK.of_PW Try.func177 rfl (by rw [Try.results177]) Try.ntmps177 Try.call177 ?_
  change PW _ _ _ _ _
  try simp only [go_sem, ↓reduceIte, Nat.reduceEqDiff, Nat.reduceLT, Nat.reduceLeDiff, Nat.reduceAdd, Nat.reduceMul, Nat.reduceSub, Nat.reduceBEq]
  unfold base_Floor at hrun
  refine PW.seq ?_
  refine PW.regionK fun K hK => ?_
  refine OW.run [0, 1] ?_
  simp (config := { maxSteps := 2000000 }) only [go_sem, ↓reduceIte, Nat.reduceEqDiff, Nat.reduceLT, Nat.reduceLeDiff, Nat.reduceAdd, Nat.reduceMul, Nat.reduceSub, Nat.reduceBEq, Int.reduceToNat, and_assoc, sw0]
  refine OW.nil (hK _ ?_)
  clear hK K
  change PW _ _ _ _ _
  refine PW.seq ?_
  obtain ⟨c1, hrun⟩ := chk_some hrun
  refine PW.regionK fun K hK => ?_
  refine OW.run [0, 1, 5] ?_
  simp (config := { maxSteps := 2000000 }) only [go_sem, ↓reduceIte, Nat.reduceEqDiff, Nat.reduceLT, Nat.reduceLeDiff, Nat.reduceAdd, Nat.reduceMul, Nat.reduceSub, Nat.reduceBEq, Int.reduceToNat, and_assoc, sw0]
  refine And.intro (by omega) ?_
  refine OW.nil (hK _ ?_)
  clear hK K
  change PW _ _ _ _ _
  refine PW.seq ?_
  refine PW.seq ?_
  obtain ⟨c2, hrun⟩ := chk_some hrun
  refine PW.regionK fun K hK => ?_
  refine OW.run [5, 12] ?_
  simp (config := { maxSteps := 2000000 }) only [go_sem, ↓reduceIte, Nat.reduceEqDiff, Nat.reduceLT, Nat.reduceLeDiff, Nat.reduceAdd, Nat.reduceMul, Nat.reduceSub, Nat.reduceBEq, Int.reduceToNat, and_assoc, sw0]
  refine And.intro (by omega) ?_
  refine OW.nil (hK _ ?_)
  clear hK K
  change PW _ _ _ _ _
  refine PW.cond rfl (fun h3 => ?_) (fun h3 => ?_)
  · replace hrun := br_t h3 hrun
    refine PW.regionK fun K hK => ?_
    refine OW.run [5] ?_
    simp (config := { maxSteps := 2000000 }) only [go_sem, ↓reduceIte, Nat.reduceEqDiff, Nat.reduceLT, Nat.reduceLeDiff, Nat.reduceAdd, Nat.reduceMul, Nat.reduceSub, Nat.reduceBEq, Int.reduceToNat, and_assoc, sw0]
    refine OW.nil (hK _ ?_)
    clear hK K
    change PW _ _ _ _ _
    refine PW.seq ?_
    refine PW.regionK fun K hK => ?_
    refine OW.run [4] ?_
    simp (config := { maxSteps := 2000000 }) only [go_sem, ↓reduceIte, Nat.reduceEqDiff, Nat.reduceLT, Nat.reduceLeDiff, Nat.reduceAdd, Nat.reduceMul, Nat.reduceSub, Nat.reduceBEq, Int.reduceToNat, and_assoc, sw0]
    refine OW.nil (hK _ ?_)
    clear hK K
    change PW _ _ _ _ _
    refine PW.ret ?_
    change PW.Ends _ _ _ _ _ _
    refine PW.Ends.intro (.inr rfl) ?_
    simp (config := { maxSteps := 2000000 }) only [go_sem, ↓reduceIte, Nat.reduceEqDiff, Nat.reduceLT, Nat.reduceLeDiff, Nat.reduceAdd, Nat.reduceMul, Nat.reduceSub, Nat.reduceBEq, Int.reduceToNat, and_assoc, sw0]
    obtain rfl := Option.some.inj hrun
    refine RetOK.data' 4 (by exact trivial) ?_
    rfl
  · replace hrun := br_f h3 hrun
    refine PW.skip ?_
    change PW _ _ _ _ _
    refine PW.seq ?_
    refine PW.regionK fun K hK => ?_
    refine OW.run [4] ?_
    simp (config := { maxSteps := 2000000 }) only [go_sem, ↓reduceIte, Nat.reduceEqDiff, Nat.reduceLT, Nat.reduceLeDiff, Nat.reduceAdd, Nat.reduceMul, Nat.reduceSub, Nat.reduceBEq, Int.reduceToNat, and_assoc, sw0]
    refine OW.nil (hK _ ?_)
    clear hK K
    change PW _ _ _ _ _
    refine PW.ret ?_
    change PW.Ends _ _ _ _ _ _
    refine PW.Ends.intro (.inr rfl) ?_
    simp (config := { maxSteps := 2000000 }) only [go_sem, ↓reduceIte, Nat.reduceEqDiff, Nat.reduceLT, Nat.reduceLeDiff, Nat.reduceAdd, Nat.reduceMul, Nat.reduceSub, Nat.reduceBEq, Int.reduceToNat, and_assoc, sw0]
    obtain rfl := Option.some.inj hrun
    refine RetOK.data' 4 (by exact trivial) ?_
    rfl

set_option maxRecDepth 20000 in
set_option maxHeartbeats 8000000 in
theorem base_Ceil_ok (N : Nat) (n : Int) (by_ : Int) (r : Int) (hrun : base_Ceil N n by_ = some r) : CallOK Try.prog 159 [(I n), (I by_)] (.d (I r)) [] := by
  refine CallOK.of_PW Try.func159 rfl (by rw [Try.results159]) Try.ntmps159 Try.call159 ?_
  change PW _ _ _ _ _
  try simp only [go_sem, ↓reduceIte, Nat.reduceEqDiff, Nat.reduceLT, Nat.reduceLeDiff, Nat.reduceAdd, Nat.reduceMul, Nat.reduceSub, Nat.reduceBEq]
  unfold base_Ceil at hrun
  refine PW.seq ?_
  refine PW.regionK fun K hK => ?_
  refine OW.run [0, 1] ?_
  simp (config := { maxSteps := 2000000 }) only [go_sem, ↓reduceIte, Nat.reduceEqDiff, Nat.reduceLT, Nat.reduceLeDiff, Nat.reduceAdd, Nat.reduceMul, Nat.reduceSub, Nat.reduceBEq, Int.reduceToNat, and_assoc, sw0]
  refine OW.nil (hK _ ?_)
  clear hK K
  change PW _ _ _ _ _
  refine PW.seq ?_
  obtain ⟨x1, e1, hrun⟩ := bnd_some hrun
  refine PW.regionK fun K hK => ?_
  refine OW.run [4] ?_
  simp (config := { maxSteps := 2000000 }) only [go_sem, ↓reduceIte, Nat.reduceEqDiff, Nat.reduceLT, Nat.reduceLeDiff, Nat.reduceAdd, Nat.reduceMul, Nat.reduceSub, Nat.reduceBEq, Int.reduceToNat, and_assoc, sw0]
  refine OW.call' 4 rfl rfl rfl (by ((simp only [go_sem, List.toList_toArray, ↓reduceIte, Nat.reduceEqDiff, Nat.reduceLT, Nat.reduceBEq]); exact rfl)) ?_ (base_Floor_ok N _ _ _ e1) ?_ ?_ ?_ ?_
  · rfl
  · exact okD_all rfl
  · exact .inl rfl
  · (simp only [go_sem, Nat.reduceLT])
  refine OW.run [4] ?_
  simp (config := { maxSteps := 2000000 }) only [go_sem, ↓reduceIte, Nat.reduceEqDiff, Nat.reduceLT, Nat.reduceLeDiff, Nat.reduceAdd, Nat.reduceMul, Nat.reduceSub, Nat.reduceBEq, Int.reduceToNat, and_assoc, sw0]
  refine OW.nil (hK _ ?_)
  clear hK K
  change PW _ _ _ _ _
  refine PW.ret ?_
  change PW.Ends _ _ _ _ _ _
  refine PW.Ends.intro (.inr rfl) ?_
  simp (config := { maxSteps := 2000000 }) only [go_sem, ↓reduceIte, Nat.reduceEqDiff, Nat.reduceLT, Nat.reduceLeDiff, Nat.reduceAdd, Nat.reduceMul, Nat.reduceSub, Nat.reduceBEq, Int.reduceToNat, and_assoc, sw0]
  obtain rfl := Option.some.inj hrun
  refine RetOK.data' 4 (by exact trivial) ?_
  rfl

set_option maxRecDepth 20000 in
set_option maxHeartbeats 8000000 in
theorem ref02_Cut_ok (N : Nat) (r_Poly_Degree : Int) (r_Poly_Taps : Int) (r_Most : Int) (length : Int) (r : Int × Int) (hrun : ref02_Cut N r_Poly_Degree r_Poly_Taps r_Most length = some r) : CallOK Try.prog 138 [(.agg [(I r_Poly_Degree), (I r_Poly_Taps), (I r_Most)]), (I length)] (.d (.tup [(I r.1), (I r.2)])) [] := by
  refine CallOK.of_PW Try.func138 rfl (by rw [Try.results138]) Try.ntmps138 Try.call138 ?_
  change PW _ _ _ _ _
  try simp only [go_sem, ↓reduceIte, Nat.reduceEqDiff, Nat.reduceLT, Nat.reduceLeDiff, Nat.reduceAdd, Nat.reduceMul, Nat.reduceSub, Nat.reduceBEq]
  unfold ref02_Cut at hrun
  refine PW.seq ?_
  refine PW.regionK fun K hK => ?_
  refine OW.run [1, 2] ?_
  simp (config := { maxSteps := 2000000 }) only [go_sem, ↓reduceIte, Nat.reduceEqDiff, Nat.reduceLT, Nat.reduceLeDiff, Nat.reduceAdd, Nat.reduceMul, Nat.reduceSub, Nat.reduceBEq, Int.reduceToNat, and_assoc, sw0]
  refine OW.nil (hK _ ?_)
  clear hK K
  change PW _ _ _ _ _
  refine PW.seq ?_
  refine PW.regionK fun K hK => ?_
  refine OW.run [1, 6] ?_
  simp (config := { maxSteps := 2000000 }) only [go_sem, ↓reduceIte, Nat.reduceEqDiff, Nat.reduceLT, Nat.reduceLeDiff, Nat.reduceAdd, Nat.reduceMul, Nat.reduceSub, Nat.reduceBEq, Int.reduceToNat, and_assoc, sw0]
  refine And.intro (by omega) (And.intro (by omega) (And.intro (by omega) ?_))
  refine OW.nil (hK _ ?_)
  clear hK K
  change PW _ _ _ _ _
  refine PW.seq ?_
  obtain ⟨x1, e1, hrun⟩ := bnd_some hrun
  refine PW.regionK fun K hK => ?_
  refine OW.run [1, 7] ?_
  simp (config := { maxSteps := 2000000 }) only [go_sem, ↓reduceIte, Nat.reduceEqDiff, Nat.reduceLT, Nat.reduceLeDiff, Nat.reduceAdd, Nat.reduceMul, Nat.reduceSub, Nat.reduceBEq, Int.reduceToNat, and_assoc, sw0]
  refine OW.call' 4 rfl rfl rfl (by ((simp only [go_sem, List.toList_toArray, ↓reduceIte, Nat.reduceEqDiff, Nat.reduceLT, Nat.reduceBEq]); exact rfl)) ?_ (base_Ceil_ok N _ _ _ e1) ?_ ?_ ?_ ?_
  · rfl
  · exact okD_all rfl
  · exact .inl rfl
  · (simp only [go_sem, Nat.reduceLT])
  refine OW.run [1, 7] ?_
  simp (config := { maxSteps := 2000000 }) only [go_sem, ↓reduceIte, Nat.reduceEqDiff, Nat.reduceLT, Nat.reduceLeDiff, Nat.reduceAdd, Nat.reduceMul, Nat.reduceSub, Nat.reduceBEq, Int.reduceToNat, and_assoc, sw0]
  refine OW.nil (hK _ ?_)
  clear hK K
  change PW _ _ _ _ _
  refine PW.seq ?_
  obtain ⟨x2, e2, hrun⟩ := bnd_some hrun
  refine PW.regionK fun K hK => ?_
  refine OW.run [4, 5] ?_
  simp (config := { maxSteps := 2000000 }) only [go_sem, ↓reduceIte, Nat.reduceEqDiff, Nat.reduceLT, Nat.reduceLeDiff, Nat.reduceAdd, Nat.reduceMul, Nat.reduceSub, Nat.reduceBEq, Int.reduceToNat, and_assoc, sw0]
  refine OW.call' 4 rfl rfl rfl (by ((simp only [go_sem, List.toList_toArray, ↓reduceIte, Nat.reduceEqDiff, Nat.reduceLT, Nat.reduceBEq]); exact rfl)) ?_ (base_Ceil_ok N _ _ _ e2) ?_ ?_ ?_ ?_
  · rfl
  · exact okD_all rfl
  · exact .inl rfl
  · (simp only [go_sem, Nat.reduceLT])
  refine OW.run [4, 5] ?_
  simp (config := { maxSteps := 2000000 }) only [go_sem, ↓reduceIte, Nat.reduceEqDiff, Nat.reduceLT, Nat.reduceLeDiff, Nat.reduceAdd, Nat.reduceMul, Nat.reduceSub, Nat.reduceBEq, Int.reduceToNat, and_assoc, sw0]
  refine OW.nil (hK _ ?_)
  clear hK K
  change PW _ _ _ _ _
  refine PW.ret ?_
  change PW.Ends _ _ _ _ _ _
  refine PW.Ends.intro (.inr rfl) ?_
  simp (config := { maxSteps := 2000000 }) only [go_sem, ↓reduceIte, Nat.reduceEqDiff, Nat.reduceLT, Nat.reduceLeDiff, Nat.reduceAdd, Nat.reduceMul, Nat.reduceSub, Nat.reduceBEq, Int.reduceToNat, and_assoc, sw0]
  obtain rfl := Option.some.inj hrun
  refine RetOK.data' 4 (by exact okD_all rfl) ?_
  rfl

set_option maxRecDepth 20000 in
set_option maxHeartbeats 8000000 in
theorem ref02_Joined_ok (N : Nat) (r_Poly_Degree : Int) (r_Poly_Taps : Int) (r_Most : Int) (parts : List (List Int)) (length : Int) (r : List Int × Int × Int) (hrun : ref02_Joined N r_Poly_Degree r_Poly_Taps r_Most parts length = some r) : CallOK Try.prog 86 [(.agg [(I r_Poly_Degree), (I r_Poly_Taps), (I r_Most)]), (.list parts.length (parts.map L)), (I length)] (.d (.tup [(L r.1), (I r.2.1), (I r.2.2)])) [] := by
  refine CallOK.of_PW Try.func86 rfl (by rw [Try.results86]) Try.ntmps86 Try.call86 ?_
  change PW _ _ _ _ _
  try simp only [go_sem, ↓reduceIte, Nat.reduceEqDiff, Nat.reduceLT, Nat.reduceLeDiff, Nat.reduceAdd, Nat.reduceMul, Nat.reduceSub, Nat.reduceBEq]
  unfold ref02_Joined at hrun
  refine PW.seq ?_
  refine PW.regionK fun K hK => ?_
  refine OW.run [1, 2, 3] ?_
  simp (config := { maxSteps := 2000000 }) only [go_sem, ↓reduceIte, Nat.reduceEqDiff, Nat.reduceLT, Nat.reduceLeDiff, Nat.reduceAdd, Nat.reduceMul, Nat.reduceSub, Nat.reduceBEq, Int.reduceToNat, and_assoc, sw0]
  refine OW.nil (hK _ ?_)
  clear hK K
  change PW _ _ _ _ _
  refine PW.seq ?_
  obtain ⟨⟨x1, x11⟩, e1, hrun⟩ := bnd_some hrun
  refine PW.regionK fun K hK => ?_
  refine OW.run [1, 2, 3, 9, 10] ?_
  simp (config := { maxSteps := 2000000 }) only [go_sem, ↓reduceIte, Nat.reduceEqDiff, Nat.reduceLT, Nat.reduceLeDiff, Nat.reduceAdd, Nat.reduceMul, Nat.reduceSub, Nat.reduceBEq, Int.reduceToNat, and_assoc, sw0]
  refine OW.call' 4 rfl rfl rfl (by ((simp only [go_sem, List.toList_toArray, ↓reduceIte, Nat.reduceEqDiff, Nat.reduceLT, Nat.reduceBEq]); exact rfl)) ?_ (ref02_Cut_ok N _ _ _ _ _ e1) ?_ ?_ ?_ ?_
  · rfl
  · (refine okAll_intro ?_; (simp only [go_sem, sw2, List.length_set, List.length_replicate, and_true, true_and, Nat.le_refl, ↓reduceIte, Nat.reduceEqDiff, Nat.reduceLT, Nat.reduceLeDiff, Nat.reduceAdd, Nat.reduceMul, Nat.reduceSub, Nat.reduceBEq]; done))
  · exact .inl rfl
  · (simp only [go_sem, Nat.reduceLT])
  refine OW.run [1, 2, 3, 9, 10] ?_
  simp (config := { maxSteps := 2000000 }) only [go_sem, ↓reduceIte, Nat.reduceEqDiff, Nat.reduceLT, Nat.reduceLeDiff, Nat.reduceAdd, Nat.reduceMul, Nat.reduceSub, Nat.reduceBEq, Int.reduceToNat, and_assoc, sw0]
  refine OW.nil (hK _ ?_)
  clear hK K
  change PW _ _ _ _ _
  refine PW.seq ?_
  refine PW.seq ?_
  refine PW.regionK fun K hK => ?_
  refine OW.run [1, 2, 3, 9, 10, 25] ?_
  simp (config := { maxSteps := 2000000 }) only [go_sem, ↓reduceIte, Nat.reduceEqDiff, Nat.reduceLT, Nat.reduceLeDiff, Nat.reduceAdd, Nat.reduceMul, Nat.reduceSub, Nat.reduceBEq, Int.reduceToNat, and_assoc, sw0]
  refine OW.nil (hK _ ?_)
  clear hK K
  change PW _ _ _ _ _
  refine PW.cond rfl (fun h1 => ?_) (fun h1 => ?_)
  · replace hrun := br_t h1 hrun
    refine PW.seq ?_
    refine PW.regionK fun K hK => ?_
    refine OW.run [6, 7, 8] ?_
    simp (config := { maxSteps := 2000000 }) only [go_sem, ↓reduceIte, Nat.reduceEqDiff, Nat.reduceLT, Nat.reduceLeDiff, Nat.reduceAdd, Nat.reduceMul, Nat.reduceSub, Nat.reduceBEq, Int.reduceToNat, and_assoc, sw0]
    refine OW.nil (hK _ ?_)
    clear hK K
    change PW _ _ _ _ _
    refine PW.ret ?_
    change PW.Ends _ _ _ _ _ _
    refine PW.Ends.intro (.inr rfl) ?_
    simp (config := { maxSteps := 2000000 }) only [go_sem, ↓reduceIte, Nat.reduceEqDiff, Nat.reduceLT, Nat.reduceLeDiff, Nat.reduceAdd, Nat.reduceMul, Nat.reduceSub, Nat.reduceBEq, Int.reduceToNat, and_assoc, sw0]
    obtain rfl := Option.some.inj hrun
    refine RetOK.data' 4 (by exact okD_all rfl) ?_
    rfl
  · replace hrun := br_f h1 hrun
    refine PW.skip ?_
    change PW _ _ _ _ _
    refine PW.seq ?_
    refine PW.regionK fun K hK => ?_
    refine OW.run [1, 2, 3, 9, 10, 11] ?_
    simp (config := { maxSteps := 2000000 }) only [go_sem, ↓reduceIte, Nat.reduceEqDiff, Nat.reduceLT, Nat.reduceLeDiff, Nat.reduceAdd, Nat.reduceMul, Nat.reduceSub, Nat.reduceBEq, Int.reduceToNat, and_assoc, sw0]
    refine OW.nil (hK _ ?_)
    clear hK K
    change PW _ _ _ _ _
    refine PW.joinS (τ := List Int) [2, 9, 10, 11] 2 (fun b1 => [(11, .own 1 0 b1.length 1)]) (fun b1 => [{ cells := [.d (I r_Poly_Degree), .d (I r_Poly_Taps), .d (I r_Most)], e := 113 }, { cells := (b1.map I).map .d, e := 3 }]) _ _ r (by exact Nat.zero_le _) hrun ?_ ?_
    · intro K_ hrun N2 hN2
      refine PW.seq ?_
      refine PW.regionK fun K hK => ?_
      refine OW.run [1, 2, 3, 9, 10, 11, 12] ?_
      simp (config := { maxSteps := 2000000 }) only [go_sem, ↓reduceIte, Nat.reduceEqDiff, Nat.reduceLT, Nat.reduceLeDiff, Nat.reduceAdd, Nat.reduceMul, Nat.reduceSub, Nat.reduceBEq, Int.reduceToNat, and_assoc, sw0]
      refine OW.nil (hK _ ?_)
      clear hK K
      change PW _ _ _ _ _
      refine PW.block ?_
      refine PW.virt 11 3 1 rfl ?_
      try simp only [go_sem, ↓reduceIte, Nat.reduceEqDiff, Nat.reduceLT, Nat.reduceLeDiff, Nat.reduceAdd, Nat.reduceMul, Nat.reduceSub, Nat.reduceBEq]
      refine PW.loopS (σ := Int × List Int) [1, 2, 3, 9, 10, 11, 12] 2 (fun (i, b11) => [(11, .own 1 0 b11.length 1), (12, .d (I i))]) (fun (i, b11) => [{ cells := [.d (I r_Poly_Degree), .d (I r_Poly_Taps), .d (I r_Most)], e := 113 }, { cells := (b11.map I).map .d, e := 3 }]) (ref02_Joined.b1 N r_Poly_Degree r_Poly_Taps parts x1 x11 K_) r N ((0 : Int), ([] : List Int)) (by exact Nat.zero_le _) hrun (by (simp only [Env.frzL, Env.frz, frzOb, V.frz, V.frz.frzs, asD, map_asD, sw1, go_sem, ↓reduceIte, Nat.reduceEqDiff, Nat.reduceLT, Nat.reduceLeDiff, Nat.reduceAdd, Nat.reduceMul, Nat.reduceSub, Nat.reduceBEq]; done)) ?_
      rintro n ⟨i, b11⟩ hrun N3 hN3
      unfold ref02_Joined.b1 at hrun
      try simp only [go_sem, ↓reduceIte, Nat.reduceEqDiff, Nat.reduceLT, Nat.reduceLeDiff, Nat.reduceAdd, Nat.reduceMul, Nat.reduceSub, Nat.reduceBEq]
      refine PW.seq ?_
      refine PW.seq ?_
      refine PW.regionK fun K hK => ?_
      refine OW.run [1, 2, 3, 9, 10, 11, 12, 28] ?_
      simp (config := { maxSteps := 2000000 }) only [go_sem, ↓reduceIte, Nat.reduceEqDiff, Nat.reduceLT, Nat.reduceLeDiff, Nat.reduceAdd, Nat.reduceMul, Nat.reduceSub, Nat.reduceBEq, Int.reduceToNat, and_assoc, sw0]
      refine OW.nil (hK _ ?_)
      clear hK K
      change PW _ _ _ _ _
      refine PW.cond rfl (fun h4 => ?_) (fun h4 => ?_)
      · replace hrun := br_t h4 hrun
        refine PW.skip ?_
        change PW _ _ _ _ _
        refine PW.seq ?_
        refine PW.block ?_
        refine PW.seq ?_
        refine PW.seq ?_
        obtain ⟨c5, hrun⟩ := chk_some hrun
        refine PW.drawK 10 mixed (by kernel_rfl) fun K hK => ?_
        change FW _ _ _ _ _
        refine FW.run ?_
        (simp (config := { maxSteps := 2000000 }) only [go_sem, ↓reduceIte, Nat.reduceEqDiff, Nat.reduceLT, Nat.reduceLeDiff, Nat.reduceAdd, Nat.reduceMul, Nat.reduceSub, Nat.reduceBEq, Int.reduceToNat, and_assoc, sw0, getD_mapF L parts i.toNat default (by omega)])
        refine And.intro (by omega) (And.intro (by omega) (And.intro (by omega) (And.intro (by omega) (And.intro (by omega) (And.intro (by omega) ?_)))))
        refine FW.nil ?_
        change OW _ _ _ _ _ _
        refine OW.run [1, 2, 3, 9, 10, 11, 12, 41] ?_
        (simp (config := { maxSteps := 2000000 }) only [go_sem, ↓reduceIte, Nat.reduceEqDiff, Nat.reduceLT, Nat.reduceLeDiff, Nat.reduceAdd, Nat.reduceMul, Nat.reduceSub, Nat.reduceBEq, Int.reduceToNat, and_assoc, sw0, getD_mapF L parts i.toNat default (by omega)])
        refine OW.nil (hK _ ?_)
        clear hK K
        change PW _ _ _ _ _
        refine PW.cond rfl (fun h6 => ?_) (fun h6 => ?_)
        · replace hrun := br_t h6 hrun
          refine PW.seq ?_
          refine PW.regionK fun K hK => ?_
          refine OW.run [6, 7, 8] ?_
          simp (config := { maxSteps := 2000000 }) only [go_sem, ↓reduceIte, Nat.reduceEqDiff, Nat.reduceLT, Nat.reduceLeDiff, Nat.reduceAdd, Nat.reduceMul, Nat.reduceSub, Nat.reduceBEq, Int.reduceToNat, and_assoc, sw0]
          refine OW.nil (hK _ ?_)
          clear hK K
          change PW _ _ _ _ _
          refine PW.ret ?_
          change PW.Ends _ _ _ _ _ _
          refine PW.Ends.intro (.inr rfl) ?_
          simp (config := { maxSteps := 2000000 }) only [go_sem, ↓reduceIte, Nat.reduceEqDiff, Nat.reduceLT, Nat.reduceLeDiff, Nat.reduceAdd, Nat.reduceMul, Nat.reduceSub, Nat.reduceBEq, Int.reduceToNat, and_assoc, sw0]
          obtain rfl := Option.some.inj hrun
          refine RetOK.data' 4 (by exact okD_all rfl) ?_
          rfl
        · replace hrun := br_f h6 hrun
          refine PW.skip ?_
          change PW _ _ _ _ _
          refine PW.seq ?_
          refine PW.seq ?_
          obtain ⟨c7, hrun⟩ := chk_some hrun
          obtain ⟨x2, e2, hrun⟩ := bnd_some hrun
          refine PW.regionK fun K hK => ?_
          refine OW.run [1, 2, 3, 9, 10, 11, 12, 13] ?_
          (simp (config := { maxSteps := 2000000 }) only [go_sem, ↓reduceIte, Nat.reduceEqDiff, Nat.reduceLT, Nat.reduceLeDiff, Nat.reduceAdd, Nat.reduceMul, Nat.reduceSub, Nat.reduceBEq, Int.reduceToNat, and_assoc, sw0, getD_mapF L parts i.toNat default (by omega)])
          refine And.intro (by omega) (And.intro (by omega) (And.intro (by omega) (And.intro (by omega) ?_)))
          refine OW.call' 4 rfl rfl rfl (by ((simp only [go_sem, List.toList_toArray, ↓reduceIte, Nat.reduceEqDiff, Nat.reduceLT, Nat.reduceBEq]); exact rfl)) ?_ (ref02_kindErr_ok N _ _ e2) ?_ ?_ ?_ ?_
          · rfl
          · exact okD_all rfl
          · exact .inl rfl
          · (simp only [go_sem, Nat.reduceLT])
          refine OW.run [1, 2, 3, 9, 10, 11, 12, 13] ?_
          (simp (config := { maxSteps := 2000000 }) only [go_sem, ↓reduceIte, Nat.reduceEqDiff, Nat.reduceLT, Nat.reduceLeDiff, Nat.reduceAdd, Nat.reduceMul, Nat.reduceSub, Nat.reduceBEq, Int.reduceToNat, and_assoc, sw0, getD_mapF L parts i.toNat default (by omega)])
          refine OW.nil (hK _ ?_)
          clear hK K
          change PW _ _ _ _ _
          refine PW.seq ?_
          refine PW.regionK fun K hK => ?_
          refine OW.run [1, 2, 3, 9, 10, 11, 12, 13, 49] ?_
          simp (config := { maxSteps := 2000000 }) only [go_sem, ↓reduceIte, Nat.reduceEqDiff, Nat.reduceLT, Nat.reduceLeDiff, Nat.reduceAdd, Nat.reduceMul, Nat.reduceSub, Nat.reduceBEq, Int.reduceToNat, and_assoc, sw0]
          refine OW.nil (hK _ ?_)
          clear hK K
          change PW _ _ _ _ _
          refine PW.cond rfl (fun h8 => ?_) (fun h8 => ?_)
          · replace hrun := br_t h8 hrun
            refine PW.seq ?_
            refine PW.regionK fun K hK => ?_
            refine OW.run [6, 7, 8] ?_
            simp (config := { maxSteps := 2000000 }) only [go_sem, ↓reduceIte, Nat.reduceEqDiff, Nat.reduceLT, Nat.reduceLeDiff, Nat.reduceAdd, Nat.reduceMul, Nat.reduceSub, Nat.reduceBEq, Int.reduceToNat, and_assoc, sw0]
            refine OW.nil (hK _ ?_)
            clear hK K
            change PW _ _ _ _ _
            refine PW.ret ?_
            change PW.Ends _ _ _ _ _ _
            refine PW.Ends.intro (.inr rfl) ?_
            simp (config := { maxSteps := 2000000 }) only [go_sem, ↓reduceIte, Nat.reduceEqDiff, Nat.reduceLT, Nat.reduceLeDiff, Nat.reduceAdd, Nat.reduceMul, Nat.reduceSub, Nat.reduceBEq, Int.reduceToNat, and_assoc, sw0]
            obtain rfl := Option.some.inj hrun
            refine RetOK.data' 4 (by exact okD_all rfl) ?_
            rfl
          · replace hrun := br_f h8 hrun
            refine PW.skip ?_
            change PW _ _ _ _ _
            refine PW.seq ?_
            refine PW.seq ?_
            obtain ⟨c9, hrun⟩ := chk_some hrun
            obtain ⟨x3, e3, hrun⟩ := bnd_some hrun
            refine PW.drawK 6 mixed (by kernel_rfl) fun K hK => ?_
            change FW _ _ _ _ _
            refine FW.run ?_
            (simp (config := { maxSteps := 2000000 }) only [go_sem, ↓reduceIte, Nat.reduceEqDiff, Nat.reduceLT, Nat.reduceLeDiff, Nat.reduceAdd, Nat.reduceMul, Nat.reduceSub, Nat.reduceBEq, Int.reduceToNat, and_assoc, sw0, getD_mapF L parts i.toNat default (by omega)])
            refine And.intro (by omega) (And.intro (by omega) (And.intro (by omega) (And.intro (by omega) (And.intro (by omega) ?_))))
            refine FW.nil ?_
            change OW _ _ _ _ _ _
            refine OW.run [1, 2, 3, 9, 10, 11, 12, 59] ?_
            (simp (config := { maxSteps := 2000000 }) only [go_sem, ↓reduceIte, Nat.reduceEqDiff, Nat.reduceLT, Nat.reduceLeDiff, Nat.reduceAdd, Nat.reduceMul, Nat.reduceSub, Nat.reduceBEq, Int.reduceToNat, and_assoc, sw0, getD_mapF L parts i.toNat default (by omega)])
            refine OW.call' 4 rfl rfl rfl (by ((simp only [go_sem, List.toList_toArray, ↓reduceIte, Nat.reduceEqDiff, Nat.reduceLT, Nat.reduceBEq]); exact rfl)) ?_ (ref02_IsRight_ok N _ _ _ _ e3) ?_ ?_ ?_ ?_
            · rfl
            · (refine okAll_intro ?_; (simp only [go_sem, sw2, List.length_set, List.length_replicate, and_true, true_and, Nat.le_refl, ↓reduceIte, Nat.reduceEqDiff, Nat.reduceLT, Nat.reduceLeDiff, Nat.reduceAdd, Nat.reduceMul, Nat.reduceSub, Nat.reduceBEq]; done))
            · exact .inl rfl
            · (simp only [go_sem, Nat.reduceLT])
            refine OW.run [1, 2, 3, 9, 10, 11, 12, 59] ?_
            (simp (config := { maxSteps := 2000000 }) only [go_sem, ↓reduceIte, Nat.reduceEqDiff, Nat.reduceLT, Nat.reduceLeDiff, Nat.reduceAdd, Nat.reduceMul, Nat.reduceSub, Nat.reduceBEq, Int.reduceToNat, and_assoc, sw0, getD_mapF L parts i.toNat default (by omega)])
            refine OW.nil (hK _ ?_)
            clear hK K
            change PW _ _ _ _ _
            refine PW.cond rfl (fun h10 => ?_) (fun h10 => ?_)
            · replace hrun := br_t h10 hrun
              refine PW.seq ?_
              refine PW.regionK fun K hK => ?_
              refine OW.run [6, 7, 8] ?_
              simp (config := { maxSteps := 2000000 }) only [go_sem, ↓reduceIte, Nat.reduceEqDiff, Nat.reduceLT, Nat.reduceLeDiff, Nat.reduceAdd, Nat.reduceMul, Nat.reduceSub, Nat.reduceBEq, Int.reduceToNat, and_assoc, sw0]
              refine OW.nil (hK _ ?_)
              clear hK K
              change PW _ _ _ _ _
              refine PW.ret ?_
              change PW.Ends _ _ _ _ _ _
              refine PW.Ends.intro (.inr rfl) ?_
              simp (config := { maxSteps := 2000000 }) only [go_sem, ↓reduceIte, Nat.reduceEqDiff, Nat.reduceLT, Nat.reduceLeDiff, Nat.reduceAdd, Nat.reduceMul, Nat.reduceSub, Nat.reduceBEq, Int.reduceToNat, and_assoc, sw0]
              obtain rfl := Option.some.inj hrun
              refine RetOK.data' 4 (by exact okD_all rfl) ?_
              rfl
            · replace hrun := br_f h10 hrun
              refine PW.skip ?_
              change PW _ _ _ _ _
              obtain ⟨c11, hrun⟩ := chk_some hrun
              obtain ⟨c12, hrun⟩ := chk_some hrun
              obtain ⟨c13, hrun⟩ := chk_some hrun
              refine PW.regionK fun K hK => ?_
              refine OW.run [1, 2, 3, 9, 10, 11, 12] ?_
              (simp (config := { maxSteps := 2000000 }) only [go_sem, ↓reduceIte, Nat.reduceEqDiff, Nat.reduceLT, Nat.reduceLeDiff, Nat.reduceAdd, Nat.reduceMul, Nat.reduceSub, Nat.reduceBEq, Int.reduceToNat, and_assoc, sw0, getD_mapF L parts i.toNat default (by omega), slice_len I ((parts.getD i.toNat default).take x11.toNat) x11.toNat (by simp only [List.length_take, List.length_drop]; omega)])
              refine And.intro (by omega) (And.intro (by omega) (And.intro (by omega) (And.intro (by omega) (And.intro (by omega) (And.intro (by omega) (And.intro (by omega) (And.intro (by omega) (And.intro (by omega) (And.intro (by omega) ?_)))))))))
              refine OW.nil (hK _ ?_)
              clear hK K
              change PW _ _ _ _ _
              refine PW.regionK fun K hK => ?_
              refine OW.run [1, 2, 3, 9, 10, 11, 12] ?_
              simp (config := { maxSteps := 2000000 }) only [go_sem, ↓reduceIte, Nat.reduceEqDiff, Nat.reduceLT, Nat.reduceLeDiff, Nat.reduceAdd, Nat.reduceMul, Nat.reduceSub, Nat.reduceBEq, Int.reduceToNat, and_assoc, sw0]
              refine OW.nil (hK _ ?_)
              clear hK K
              refine hN3 [] (w64 (i + (1 : Int)), (b11 ++ ((parts.getD i.toNat default).take x11.toNat))) _ hrun (by exact trivial) ?_
              (simp only [Env.frzL, Env.frz, frzOb, V.frz, V.frz.frzs, asD, map_asD, sw1, go_sem, ↓reduceIte, Nat.reduceEqDiff, Nat.reduceLT, Nat.reduceLeDiff, Nat.reduceAdd, Nat.reduceMul, Nat.reduceSub, Nat.reduceBEq]; done)
      · replace hrun := br_f h4 hrun
        refine PW.exit ?_
        refine hN2 [] b11 _ hrun (by exact trivial) ?_
        (simp only [Env.frzL, Env.frz, frzOb, V.frz, V.frz.frzs, asD, map_asD, sw1, go_sem, ↓reduceIte, Nat.reduceEqDiff, Nat.reduceLT, Nat.reduceLeDiff, Nat.reduceAdd, Nat.reduceMul, Nat.reduceSub, Nat.reduceBEq]; done)
    · rintro b1 hrun
      try simp only [go_sem, ↓reduceIte, Nat.reduceEqDiff, Nat.reduceLT, Nat.reduceLeDiff, Nat.reduceAdd, Nat.reduceMul, Nat.reduceSub, Nat.reduceBEq]
      refine PW.seq ?_
      refine PW.regionK fun K hK => ?_
      refine OW.run [11, 14] ?_
      simp (config := { maxSteps := 2000000 }) only [go_sem, ↓reduceIte, Nat.reduceEqDiff, Nat.reduceLT, Nat.reduceLeDiff, Nat.reduceAdd, Nat.reduceMul, Nat.reduceSub, Nat.reduceBEq, Int.reduceToNat, and_assoc, sw0]
      refine OW.nil (hK _ ?_)
      clear hK K
      change PW _ _ _ _ _
      refine PW.joinS (τ := Unit) [11, 14] 2 (fun _ => []) (fun _ => [{ cells := [.d (I r_Poly_Degree), .d (I r_Poly_Taps), .d (I r_Most)], e := 113 }, { cells := (b1.map I).map .d, e := 3 }]) _ _ r (by exact Nat.zero_le _) hrun ?_ ?_
      · intro K_1 hrun N14 hN14
        refine PW.seq ?_
        refine PW.regionK fun K hK => ?_
        refine OW.run [11, 14, 15] ?_
        simp (config := { maxSteps := 2000000 }) only [go_sem, ↓reduceIte, Nat.reduceEqDiff, Nat.reduceLT, Nat.reduceLeDiff, Nat.reduceAdd, Nat.reduceMul, Nat.reduceSub, Nat.reduceBEq, Int.reduceToNat, and_assoc, sw0]
        refine OW.nil (hK _ ?_)
        clear hK K
        change PW _ _ _ _ _
        refine PW.block ?_
        refine PW.loopS (σ := Int) [11, 14, 15] 2 (fun i1 => [(15, .d (I i1))]) (fun i1 => [{ cells := [.d (I r_Poly_Degree), .d (I r_Poly_Taps), .d (I r_Most)], e := 113 }, { cells := (b1.map I).map .d, e := 3 }]) (ref02_Joined.b2 N length x1 x11 b1 K_1) r N (0 : Int) (by exact Nat.zero_le _) hrun (by (simp only [Env.frzL, Env.frz, frzOb, V.frz, V.frz.frzs, asD, map_asD, sw1, go_sem, ↓reduceIte, Nat.reduceEqDiff, Nat.reduceLT, Nat.reduceLeDiff, Nat.reduceAdd, Nat.reduceMul, Nat.reduceSub, Nat.reduceBEq]; done)) ?_
        rintro n i1 hrun N15 hN15
        unfold ref02_Joined.b2 at hrun
        try simp only [go_sem, ↓reduceIte, Nat.reduceEqDiff, Nat.reduceLT, Nat.reduceLeDiff, Nat.reduceAdd, Nat.reduceMul, Nat.reduceSub, Nat.reduceBEq]
        refine PW.seq ?_
        refine PW.seq ?_
        refine PW.regionK fun K hK => ?_
        refine OW.run [11, 14, 15, 76] ?_
        simp (config := { maxSteps := 2000000 }) only [go_sem, ↓reduceIte, Nat.reduceEqDiff, Nat.reduceLT, Nat.reduceLeDiff, Nat.reduceAdd, Nat.reduceMul, Nat.reduceSub, Nat.reduceBEq, Int.reduceToNat, and_assoc, sw0]
        refine OW.nil (hK _ ?_)
        clear hK K
        change PW _ _ _ _ _
        refine PW.cond rfl (fun h16 => ?_) (fun h16 => ?_)
        · replace hrun := br_t h16 hrun
          refine PW.skip ?_
          change PW _ _ _ _ _
          refine PW.seq ?_
          refine PW.block ?_
          refine PW.seq ?_
          obtain ⟨c17, hrun⟩ := chk_some hrun
          refine PW.regionK fun K hK => ?_
          refine OW.run [11, 14, 15, 83] ?_
          simp (config := { maxSteps := 2000000 }) only [go_sem, ↓reduceIte, Nat.reduceEqDiff, Nat.reduceLT, Nat.reduceLeDiff, Nat.reduceAdd, Nat.reduceMul, Nat.reduceSub, Nat.reduceBEq, Int.reduceToNat, and_assoc, sw0]
          refine And.intro (by omega) (And.intro (by omega) (And.intro (by omega) ?_))
          refine OW.nil (hK _ ?_)
          clear hK K
          change PW _ _ _ _ _
          refine PW.cond rfl (fun h18 => ?_) (fun h18 => ?_)
          · replace hrun := br_t h18 hrun
            refine PW.seq ?_
            refine PW.regionK fun K hK => ?_
            refine OW.run [6, 7, 8] ?_
            simp (config := { maxSteps := 2000000 }) only [go_sem, ↓reduceIte, Nat.reduceEqDiff, Nat.reduceLT, Nat.reduceLeDiff, Nat.reduceAdd, Nat.reduceMul, Nat.reduceSub, Nat.reduceBEq, Int.reduceToNat, and_assoc, sw0]
            refine OW.nil (hK _ ?_)
            clear hK K
            change PW _ _ _ _ _
            refine PW.ret ?_
            change PW.Ends _ _ _ _ _ _
            refine PW.Ends.intro (.inr rfl) ?_
            simp (config := { maxSteps := 2000000 }) only [go_sem, ↓reduceIte, Nat.reduceEqDiff, Nat.reduceLT, Nat.reduceLeDiff, Nat.reduceAdd, Nat.reduceMul, Nat.reduceSub, Nat.reduceBEq, Int.reduceToNat, and_assoc, sw0]
            obtain rfl := Option.some.inj hrun
            refine RetOK.data' 4 (by exact okD_all rfl) ?_
            rfl
          · replace hrun := br_f h18 hrun
            refine PW.skip ?_
            change PW _ _ _ _ _
            refine PW.regionK fun K hK => ?_
            refine OW.run [11, 14, 15] ?_
            simp (config := { maxSteps := 2000000 }) only [go_sem, ↓reduceIte, Nat.reduceEqDiff, Nat.reduceLT, Nat.reduceLeDiff, Nat.reduceAdd, Nat.reduceMul, Nat.reduceSub, Nat.reduceBEq, Int.reduceToNat, and_assoc, sw0]
            refine OW.nil (hK _ ?_)
            clear hK K
            refine hN15 [] (w64 (i1 + (1 : Int))) _ hrun (by exact trivial) ?_
            (simp only [Env.frzL, Env.frz, frzOb, V.frz, V.frz.frzs, asD, map_asD, sw1, go_sem, ↓reduceIte, Nat.reduceEqDiff, Nat.reduceLT, Nat.reduceLeDiff, Nat.reduceAdd, Nat.reduceMul, Nat.reduceSub, Nat.reduceBEq]; done)
        · replace hrun := br_f h16 hrun
          refine PW.exit ?_
          refine hN14 [] () _ hrun (by exact trivial) ?_
          (simp only [Env.frzL, Env.frz, frzOb, V.frz, V.frz.frzs, asD, map_asD, sw1, go_sem, ↓reduceIte, Nat.reduceEqDiff, Nat.reduceLT, Nat.reduceLeDiff, Nat.reduceAdd, Nat.reduceMul, Nat.reduceSub, Nat.reduceBEq]; done)
      · rintro _ hrun
        try simp only [go_sem, ↓reduceIte, Nat.reduceEqDiff, Nat.reduceLT, Nat.reduceLeDiff, Nat.reduceAdd, Nat.reduceMul, Nat.reduceSub, Nat.reduceBEq]
        refine PW.seq ?_
        obtain ⟨c19, hrun⟩ := chk_some hrun
        refine PW.regionK fun K hK => ?_
        refine OW.run [6, 7, 8] ?_
        simp (config := { maxSteps := 2000000 }) only [go_sem, ↓reduceIte, Nat.reduceEqDiff, Nat.reduceLT, Nat.reduceLeDiff, Nat.reduceAdd, Nat.reduceMul, Nat.reduceSub, Nat.reduceBEq, Int.reduceToNat, and_assoc, sw0]
        refine And.intro (by omega) (And.intro (by omega) (And.intro (by omega) (And.intro (by omega) ?_)))
        refine OW.nil (hK _ ?_)
        clear hK K
        change PW _ _ _ _ _
        refine PW.ret ?_
        change PW.Ends _ _ _ _ _ _
        refine PW.Ends.intro (.inr rfl) ?_
        simp (config := { maxSteps := 2000000 }) only [go_sem, ↓reduceIte, Nat.reduceEqDiff, Nat.reduceLT, Nat.reduceLeDiff, Nat.reduceAdd, Nat.reduceMul, Nat.reduceSub, Nat.reduceBEq, Int.reduceToNat, and_assoc, sw0]
        obtain rfl := Option.some.inj hrun
        refine RetOK.data' 4 (by (refine okAll_intro ?_; (simp only [go_sem, sw2, List.length_set, List.length_replicate, and_true, true_and, Nat.le_refl, ↓reduceIte, Nat.reduceEqDiff, Nat.reduceLT, Nat.reduceLeDiff, Nat.reduceAdd, Nat.reduceMul, Nat.reduceSub, Nat.reduceBEq]; omega))) ?_
        (((simp only [go_sem, sw1, ↓reduceIte, Nat.reduceEqDiff, Nat.reduceLT, Nat.reduceLeDiff, Nat.reduceAdd, Nat.reduceMul, Nat.reduceSub, Nat.reduceBEq]; try simp only [seg, go_sem, ↓reduceIte, Nat.reduceEqDiff, Nat.reduceLT, Nat.reduceLeDiff, Nat.reduceAdd, Nat.reduceMul, Nat.reduceSub, Nat.reduceBEq])); (repeat' (first | rfl | (refine list_congr ?_; simp only [List.length_take, List.length_drop, List.length_set, List.length_replicate] <;> omega) | (refine congr (congrArg List.cons ?_) ?_) | (refine congrArg D.agg ?_) | (refine congrArg D.tup ?_) | (refine congrArg D.ref ?_) | (refine congrArg (D.list _) ?_) | (refine congrArg (D.clo _) ?_))))

set_option maxRecDepth 20000 in
set_option maxHeartbeats 8000000 in
theorem code_Segments_ok (N : Nat) (r_Poly_Degree : Int) (r_Poly_Taps : Int) (r_Most : Int) (bits : List Int) (r : List (List Int) × Int) (hrun : code_Segments N r_Poly_Degree r_Poly_Taps r_Most bits = some r) : CallOK Try.prog 87 [(.agg [(I r_Poly_Degree), (I r_Poly_Taps), (I r_Most)]), (L bits)] (.d (.tup [(.list r.1.length (r.1.map L)), (I r.2)])) [] := by
  refine CallOK.of_PW Try.func87 rfl (by rw [Try.results87]) Try.ntmps87 Try.call87 ?_
  change PW _ _ _ _ _
  refine PW.least ?_
  try simp only [go_sem, ↓reduceIte, Nat.reduceEqDiff, Nat.reduceLT, Nat.reduceLeDiff, Nat.reduceAdd, Nat.reduceMul, Nat.reduceSub, Nat.reduceBEq]
  unfold code_Segments at hrun
  refine PW.seq ?_
  refine PW.regionK fun K hK => ?_
  refine OW.run [1, 2] ?_
  simp (config := { maxSteps := 2000000 }) only [go_sem, ↓reduceIte, Nat.reduceEqDiff, Nat.reduceLT, Nat.reduceLeDiff, Nat.reduceAdd, Nat.reduceMul, Nat.reduceSub, Nat.reduceBEq, Int.reduceToNat, and_assoc, sw0]
  refine OW.nil (hK _ ?_)
  clear hK K
  change PW _ _ _ _ _
  refine PW.seq ?_
  refine PW.seq ?_
  obtain ⟨x1, e1, hrun⟩ := bnd_some hrun
  obtain ⟨x2, e2, hrun⟩ := bnd_some hrun
  obtain ⟨x3, e3, hrun⟩ := bnd_some hrun
  refine PW.regionK fun K hK => ?_
  refine OW.run [1, 2, 6] ?_
  simp (config := { maxSteps := 2000000 }) only [go_sem, ↓reduceIte, Nat.reduceEqDiff, Nat.reduceLT, Nat.reduceLeDiff, Nat.reduceAdd, Nat.reduceMul, Nat.reduceSub, Nat.reduceBEq, Int.reduceToNat, and_assoc, sw0]
  refine OW.call' 4 rfl rfl rfl (by ((simp only [go_sem, List.toList_toArray, ↓reduceIte, Nat.reduceEqDiff, Nat.reduceLT, Nat.reduceBEq]); exact rfl)) ?_ (code_ruleErr_ok N _ _ _ _ e1) ?_ ?_ ?_ ?_
  · rfl
  · (refine okAll_intro ?_; (simp only [go_sem, sw2, List.length_set, List.length_replicate, and_true, true_and, Nat.le_refl, ↓reduceIte, Nat.reduceEqDiff, Nat.reduceLT, Nat.reduceLeDiff, Nat.reduceAdd, Nat.reduceMul, Nat.reduceSub, Nat.reduceBEq]; done))
  · exact .inl rfl
  · (simp only [go_sem, Nat.reduceLT])
  refine OW.run [1, 2, 6] ?_
  simp (config := { maxSteps := 2000000 }) only [go_sem, ↓reduceIte, Nat.reduceEqDiff, Nat.reduceLT, Nat.reduceLeDiff, Nat.reduceAdd, Nat.reduceMul, Nat.reduceSub, Nat.reduceBEq, Int.reduceToNat, and_assoc, sw0]
  refine OW.call' 4 rfl rfl rfl (by ((simp only [go_sem, List.toList_toArray, ↓reduceIte, Nat.reduceEqDiff, Nat.reduceLT, Nat.reduceBEq]); exact rfl)) ?_ (code_bitsErr_ok N _ _ e2) ?_ ?_ ?_ ?_
  · rfl
  · exact okD_all rfl
  · exact .inl rfl
  · (simp only [go_sem, Nat.reduceLT])
  refine OW.run [1, 2, 6] ?_
  simp (config := { maxSteps := 2000000 }) only [go_sem, ↓reduceIte, Nat.reduceEqDiff, Nat.reduceLT, Nat.reduceLeDiff, Nat.reduceAdd, Nat.reduceMul, Nat.reduceSub, Nat.reduceBEq, Int.reduceToNat, and_assoc, sw0]
  refine OW.call' 4 rfl rfl rfl (by ((simp only [go_sem, List.toList_toArray, ↓reduceIte, Nat.reduceEqDiff, Nat.reduceLT, Nat.reduceBEq]); exact rfl)) ?_ (code_first_ok N _ _ e3) ?_ ?_ ?_ ?_
  · rfl
  · (refine okAll_intro ?_; (simp only [go_sem, sw2, List.length_set, List.length_replicate, and_true, true_and, Nat.le_refl, ↓reduceIte, Nat.reduceEqDiff, Nat.reduceLT, Nat.reduceLeDiff, Nat.reduceAdd, Nat.reduceMul, Nat.reduceSub, Nat.reduceBEq]; simp only [seg, go_sem, sw2, List.length_set, List.length_replicate, and_true, true_and, Nat.le_refl, ↓reduceIte, Nat.reduceEqDiff, Nat.reduceLT, Nat.reduceLeDiff, Nat.reduceAdd, Nat.reduceMul, Nat.reduceSub, Nat.reduceBEq]; done))
  · exact .inr ⟨rfl, rfl⟩
  · (simp only [go_sem, Nat.reduceLT])
  refine OW.run [1, 2, 6] ?_
  simp (config := { maxSteps := 2000000 }) only [go_sem, ↓reduceIte, Nat.reduceEqDiff, Nat.reduceLT, Nat.reduceLeDiff, Nat.reduceAdd, Nat.reduceMul, Nat.reduceSub, Nat.reduceBEq, Int.reduceToNat, and_assoc, sw0]
  refine OW.nil (hK _ ?_)
  clear hK K
  change PW _ _ _ _ _
  refine PW.seq ?_
  refine PW.regionK fun K hK => ?_
  refine OW.run [1, 2, 6, 18] ?_
  simp (config := { maxSteps := 2000000 }) only [go_sem, ↓reduceIte, Nat.reduceEqDiff, Nat.reduceLT, Nat.reduceLeDiff, Nat.reduceAdd, Nat.reduceMul, Nat.reduceSub, Nat.reduceBEq, Int.reduceToNat, and_assoc, sw0]
  refine OW.nil (hK _ ?_)
  clear hK K
  change PW _ _ _ _ _
  refine PW.cond rfl (fun h1 => ?_) (fun h1 => ?_)
  · replace hrun := br_t h1 hrun
    refine PW.seq ?_
    refine PW.regionK fun K hK => ?_
    refine OW.run [4, 5] ?_
    simp (config := { maxSteps := 2000000 }) only [go_sem, ↓reduceIte, Nat.reduceEqDiff, Nat.reduceLT, Nat.reduceLeDiff, Nat.reduceAdd, Nat.reduceMul, Nat.reduceSub, Nat.reduceBEq, Int.reduceToNat, and_assoc, sw0]
    refine OW.nil (hK _ ?_)
    clear hK K
    change PW _ _ _ _ _
    refine PW.ret ?_
    change PW.Ends _ _ _ _ _ _
    refine PW.Ends.intro (.inr rfl) ?_
    simp (config := { maxSteps := 2000000 }) only [go_sem, ↓reduceIte, Nat.reduceEqDiff, Nat.reduceLT, Nat.reduceLeDiff, Nat.reduceAdd, Nat.reduceMul, Nat.reduceSub, Nat.reduceBEq, Int.reduceToNat, and_assoc, sw0]
    obtain rfl := Option.some.inj hrun
    refine RetOK.data' 4 (by exact okD_all rfl) ?_
    rfl
  · replace hrun := br_f h1 hrun
    refine PW.skip ?_
    change PW _ _ _ _ _
    refine PW.seq ?_
    obtain ⟨⟨x4, x41, x42⟩, e4, hrun⟩ := bnd_some hrun
    refine PW.regionK fun K hK => ?_
    refine OW.run [1, 2, 7] ?_
    simp (config := { maxSteps := 2000000 }) only [go_sem, ↓reduceIte, Nat.reduceEqDiff, Nat.reduceLT, Nat.reduceLeDiff, Nat.reduceAdd, Nat.reduceMul, Nat.reduceSub, Nat.reduceBEq, Int.reduceToNat, and_assoc, sw0]
    refine OW.call' 4 rfl rfl rfl (by ((simp only [go_sem, List.toList_toArray, ↓reduceIte, Nat.reduceEqDiff, Nat.reduceLT, Nat.reduceBEq]); exact rfl)) ?_ (code_cutOf_ok N _ _ _ _ _ e4) ?_ ?_ ?_ ?_
    · rfl
    · (refine okAll_intro ?_; (simp only [go_sem, sw2, List.length_set, List.length_replicate, and_true, true_and, Nat.le_refl, ↓reduceIte, Nat.reduceEqDiff, Nat.reduceLT, Nat.reduceLeDiff, Nat.reduceAdd, Nat.reduceMul, Nat.reduceSub, Nat.reduceBEq]; done))
    · exact .inl rfl
    · (simp only [go_sem, Nat.reduceLT])
    refine OW.run [1, 2, 7] ?_
    simp (config := { maxSteps := 2000000 }) only [go_sem, ↓reduceIte, Nat.reduceEqDiff, Nat.reduceLT, Nat.reduceLeDiff, Nat.reduceAdd, Nat.reduceMul, Nat.reduceSub, Nat.reduceBEq, Int.reduceToNat, and_assoc, sw0]
    refine OW.nil (hK _ ?_)
    clear hK K
    change PW _ _ _ _ _
    refine PW.seq ?_
    obtain ⟨c2, hrun⟩ := chk_some hrun
    obtain ⟨c3, hrun⟩ := chk_some hrun
    refine PW.regionK fun K hK => ?_
    refine OW.run [2, 7, 8] ?_
    simp (config := { maxSteps := 2000000 }) only [go_sem, ↓reduceIte, Nat.reduceEqDiff, Nat.reduceLT, Nat.reduceLeDiff, Nat.reduceAdd, Nat.reduceMul, Nat.reduceSub, Nat.reduceBEq, Int.reduceToNat, and_assoc, sw0]
    refine And.intro (by omega) (And.intro (by omega) (And.intro (by omega) (And.intro (by omega) (And.intro (by omega) (And.intro (by (simp only [List.length_map, List.length_replicate, List.length_append, List.length_take, List.length_drop, List.length_set, List.length_cons, List.length_nil, Nat.zero_add, Int.toNat_natCast]; done)) (And.intro (by omega) (And.intro (by omega) (And.intro (by omega) ?_))))))))
    refine OW.nil (hK _ ?_)
    clear hK K
    change PW _ _ _ _ _
    refine PW.seq ?_
    refine PW.regionK fun K hK => ?_
    refine OW.run [2, 7, 8, 9] ?_
    simp (config := { maxSteps := 2000000 }) only [go_sem, ↓reduceIte, Nat.reduceEqDiff, Nat.reduceLT, Nat.reduceLeDiff, Nat.reduceAdd, Nat.reduceMul, Nat.reduceSub, Nat.reduceBEq, Int.reduceToNat, and_assoc, sw0]
    refine OW.nil (hK _ ?_)
    clear hK K
    change PW _ _ _ _ _
    refine PW.joinS (τ := List Int × List (List Int)) [9] 8 (fun (b5, b7) => []) (fun (b5, b7) => [{ cells := [.d (I r_Poly_Degree), .d (I r_Poly_Taps), .d (I r_Most)], e := 113 }, { cells := [.d (I x1), .d (I x2)], e := 29 }, { cells := [.d (I x4), .d (I x41), .d (I x42)], e := 160 }, { cells := [], e := 3 }, { cells := [.own 7 0 b7.length 1], e := 95 }, { cells := [.d (L b5)], e := 22 }, { cells := [.d (I x41)], e := 3 }, { cells := (b7.map L).map .d, e := 22 }]) _ _ r (by exact Nat.zero_le _) hrun ?_ ?_
    · intro K_ hrun N4 hN4
      refine PW.seq ?_
      refine PW.regionK fun K hK => ?_
      refine OW.run [2, 9, 32] ?_
      simp (config := { maxSteps := 2000000 }) only [go_sem, ↓reduceIte, Nat.reduceEqDiff, Nat.reduceLT, Nat.reduceLeDiff, Nat.reduceAdd, Nat.reduceMul, Nat.reduceSub, Nat.reduceBEq, Int.reduceToNat, and_assoc, sw0]
      refine And.intro (by omega) ?_
      refine OW.inlineA rfl rfl rfl (by ((simp only [go_sem, List.toList_toArray, ↓reduceIte, Nat.reduceEqDiff, Nat.reduceLT, Nat.reduceBEq]); exact rfl)) Try.func139 rfl (by rw [Try.results139]) Try.ntmps139 Try.call139 (by (simp only [go_sem, Nat.reduceLT])) ?_
      intro p G
      change PW _ _ _ _ _
      try simp only [go_sem, ↓reduceIte, Nat.reduceEqDiff, Nat.reduceLT, Nat.reduceLeDiff, Nat.reduceAdd, Nat.reduceMul, Nat.reduceSub, Nat.reduceBEq]
      refine PW.seq ?_
      refine PW.regionK fun K hK => ?_
      refine OW.run [2, 3] ?_
      simp (config := { maxSteps := 2000000 }) only [go_sem, ↓reduceIte, Nat.reduceEqDiff, Nat.reduceLT, Nat.reduceLeDiff, Nat.reduceAdd, Nat.reduceMul, Nat.reduceSub, Nat.reduceBEq, Int.reduceToNat, and_assoc, sw0]
      refine OW.nil (hK _ ?_)
      clear hK K
      change PW _ _ _ _ _
      refine PW.seq ?_
      refine PW.seq ?_
      refine PW.regionK fun K hK => ?_
      refine OW.run [2, 3, 6] ?_
      simp (config := { maxSteps := 2000000 }) only [go_sem, ↓reduceIte, Nat.reduceEqDiff, Nat.reduceLT, Nat.reduceLeDiff, Nat.reduceAdd, Nat.reduceMul, Nat.reduceSub, Nat.reduceBEq, Int.reduceToNat, and_assoc, sw0]
      refine OW.nil (hK _ ?_)
      clear hK K
      change PW _ _ _ _ _
      refine PW.cond rfl (fun h5 => ?_) (fun h5 => ?_)
      · replace hrun := br_t h5 hrun
        cases hrun
      · replace hrun := br_f h5 hrun
        refine PW.skip ?_
        change PW _ _ _ _ _
        refine PW.seq ?_
        refine PW.regionK fun K hK => ?_
        refine OW.run [4] ?_
        simp (config := { maxSteps := 2000000 }) only [go_sem, ↓reduceIte, Nat.reduceEqDiff, Nat.reduceLT, Nat.reduceLeDiff, Nat.reduceAdd, Nat.reduceMul, Nat.reduceSub, Nat.reduceBEq, Int.reduceToNat, and_assoc, sw0]
        refine OW.nil (hK _ ?_)
        clear hK K
        change PW _ _ _ _ _
        refine PW.ret ?_
        refine ⟨.inr rfl, rfl, rfl, ?_⟩
        simp (config := { maxSteps := 2000000 }) only [go_sem, ↓reduceIte, Nat.reduceEqDiff, Nat.reduceLT, Nat.reduceLeDiff, Nat.reduceAdd, Nat.reduceMul, Nat.reduceSub, Nat.reduceBEq, Int.reduceToNat, and_assoc, sw0]
        change OW _ _ _ _ _ _
        refine OW.run [2, 9, 32] ?_
        simp (config := { maxSteps := 2000000 }) only [go_sem, ↓reduceIte, Nat.reduceEqDiff, Nat.reduceLT, Nat.reduceLeDiff, Nat.reduceAdd, Nat.reduceMul, Nat.reduceSub, Nat.reduceBEq, Int.reduceToNat, and_assoc, sw0]
        refine OW.nil (hK _ ?_)
        clear hK K
        change PW _ _ _ _ _
        refine PW.block ?_
        refine PW.frz 3 (by exact Nat.zero_le _) (by (simp only [go_sem, isD, allD_mapV]; done)) ?_
        simp only [Env.frzL, Env.frz, frzOb, V.frz, V.frz.frzs, asD, map_asD, map_nz_I, map_nz_Bo, map_nz_Sx, map_nz_L, nz_int, nz_bool, nz_str, nz_list, nz_ref, nz_nil, go_sem, ↓reduceIte, Nat.reduceEqDiff, Nat.reduceLT, Nat.reduceLeDiff, Nat.reduceAdd, Nat.reduceMul, Nat.reduceSub, Nat.reduceBEq]
        obtain ⟨z, hz, hrun⟩ := bnd_some hrun
        simp only [Option.some.inj hz]
        refine PW.kept [2, 9, 32] ?_
        try simp only [go_sem, ↓reduceIte, Nat.reduceEqDiff, Nat.reduceLT, Nat.reduceLeDiff, Nat.reduceAdd, Nat.reduceMul, Nat.reduceSub, Nat.reduceBEq]
        refine PW.range (fun _ => none) rfl rfl Try.func160 rfl (by rw [Try.results160]) Try.ntmps160 Try.call160 ?_
        rintro lc4 lc4_1 lc4_2 lc4_3 lc4_4 lc4_5
        change PW _ _ _ _ _
        try simp only [go_sem, ↓reduceIte, Nat.reduceEqDiff, Nat.reduceLT, Nat.reduceLeDiff, Nat.reduceAdd, Nat.reduceMul, Nat.reduceSub, Nat.reduceBEq]
        refine PW.seq ?_
        refine PW.regionK fun K hK => ?_
        refine OW.run [0, 1, 2, 4] ?_
        simp (config := { maxSteps := 2000000 }) only [go_sem, ↓reduceIte, Nat.reduceEqDiff, Nat.reduceLT, Nat.reduceLeDiff, Nat.reduceAdd, Nat.reduceMul, Nat.reduceSub, Nat.reduceBEq, Int.reduceToNat, and_assoc, sw0]
        refine OW.nil (hK _ ?_)
        clear hK K
        change PW _ _ _ _ _
        refine PW.block ?_
        refine PW.virtC 4 0 22 1 _ rfl rfl ?_
        try simp only [go_sem, ↓reduceIte, Nat.reduceEqDiff, Nat.reduceLT, Nat.reduceLeDiff, Nat.reduceAdd, Nat.reduceMul, Nat.reduceSub, Nat.reduceBEq]
        refine PW.loopS (σ := Int × List (List Int)) [0, 1, 2, 4] 8 (fun (i, b71) => [(4, .d (I i))]) (fun (i, b71) => [{ cells := [.d (I r_Poly_Degree), .d (I r_Poly_Taps), .d (I r_Most)], e := 113 }, { cells := [.d (I x1), .d (I x2)], e := 29 }, { cells := [.d (I x4), .d (I x41), .d (I x42)], e := 160 }, { cells := [], e := 3 }, { cells := [.own 7 0 b71.length 1], e := 95 }, { cells := [.d (L z)], e := 22 }, { cells := [.d (I x41)], e := 3 }, { cells := (b71.map L).map .d, e := 22 }]) (code_Segments.b1 N r_Poly_Degree r_Poly_Taps x41 K_ z) r N ((0 : Int), ([] : List (List Int))) (by (simp only [go_sem]; omega)) hrun (by (simp only [Env.frzL, Env.frz, frzOb, V.frz, V.frz.frzs, asD, map_asD, sw1, go_sem, ↓reduceIte, Nat.reduceEqDiff, Nat.reduceLT, Nat.reduceLeDiff, Nat.reduceAdd, Nat.reduceMul, Nat.reduceSub, Nat.reduceBEq]; done)) ?_
        rintro n ⟨i, b71⟩ hrun N6 hN6
        unfold code_Segments.b1 at hrun
        try simp only [go_sem, ↓reduceIte, Nat.reduceEqDiff, Nat.reduceLT, Nat.reduceLeDiff, Nat.reduceAdd, Nat.reduceMul, Nat.reduceSub, Nat.reduceBEq]
        refine PW.seq ?_
        refine PW.seq ?_
        refine PW.regionK fun K hK => ?_
        refine OW.run [0, 1, 2, 4, 9] ?_
        simp (config := { maxSteps := 2000000 }) only [go_sem, ↓reduceIte, Nat.reduceEqDiff, Nat.reduceLT, Nat.reduceLeDiff, Nat.reduceAdd, Nat.reduceMul, Nat.reduceSub, Nat.reduceBEq, Int.reduceToNat, and_assoc, sw0]
        refine OW.nil (hK _ ?_)
        clear hK K
        change PW _ _ _ _ _
        refine PW.cond rfl (fun h7 => ?_) (fun h7 => ?_)
        · replace hrun := br_t h7 hrun
          refine PW.skip ?_
          change PW _ _ _ _ _
          refine PW.seq ?_
          refine PW.block ?_
          refine PW.seq ?_
          obtain ⟨c8, hrun⟩ := chk_some hrun
          refine PW.drawK 5 mixed (by kernel_rfl) fun K hK => ?_
          change FW _ _ _ _ _
          refine FW.run ?_
          (simp (config := { maxSteps := 2000000 }) only [go_sem, ↓reduceIte, Nat.reduceEqDiff, Nat.reduceLT, Nat.reduceLeDiff, Nat.reduceAdd, Nat.reduceMul, Nat.reduceSub, Nat.reduceBEq, Int.reduceToNat, and_assoc, sw0, slice_len I ((z.drop i.toNat).take (z.length - i.toNat)) (z.length - i.toNat) (by simp only [List.length_take, List.length_drop]; omega)])
          refine And.intro (by omega) (And.intro (by omega) (And.intro (by omega) ?_))
          refine FW.nil ?_
          change OW _ _ _ _ _ _
          refine OW.run [0, 1, 2, 4, 5] ?_
          (simp (config := { maxSteps := 2000000 }) only [go_sem, ↓reduceIte, Nat.reduceEqDiff, Nat.reduceLT, Nat.reduceLeDiff, Nat.reduceAdd, Nat.reduceMul, Nat.reduceSub, Nat.reduceBEq, Int.reduceToNat, and_assoc, sw0, slice_len I ((z.drop i.toNat).take (z.length - i.toNat)) (z.length - i.toNat) (by simp only [List.length_take, List.length_drop]; omega)])
          refine OW.nil (hK _ ?_)
          clear hK K
          change PW _ _ _ _ _
          refine PW.seq ?_
          obtain ⟨c9, hrun⟩ := chk_some hrun
          refine PW.regionK fun K hK => ?_
          refine OW.run [0, 1, 2, 4, 30] ?_
          (simp (config := { maxSteps := 2000000 }) only [go_sem, ↓reduceIte, Nat.reduceEqDiff, Nat.reduceLT, Nat.reduceLeDiff, Nat.reduceAdd, Nat.reduceMul, Nat.reduceSub, Nat.reduceBEq, Int.reduceToNat, and_assoc, sw0, slice_len I ((z.drop i.toNat).take ((w64 (i + (if (((z.drop i.toNat).take (z.length - i.toNat)).length : Int) < x41 then (((z.drop i.toNat).take (z.length - i.toNat)).length : Int) else x41))).toNat - i.toNat)) ((w64 (i + (if (((z.drop i.toNat).take (z.length - i.toNat)).length : Int) < x41 then (((z.drop i.toNat).take (z.length - i.toNat)).length : Int) else x41))).toNat - i.toNat) (take_drop_len _ _ _ (by omega) (by omega))])
          refine And.intro (by omega) (And.intro (by omega) (And.intro (by omega) (And.intro (by omega) ?_)))
          refine OW.yield lc4 42 _ _ [] rfl rfl rfl rfl lc4_5 (by rw [lc4_1]; rfl) (by rw [lc4_1]; decide) (List.append_nil _).symm (by (simp only [go_sem, Nat.reduceLT])) ?_
          intro us
          rw [lc4_1, lc4_2]
          change PW _ _ _ _ _
          try simp only [go_sem, ↓reduceIte, Nat.reduceEqDiff, Nat.reduceLT, Nat.reduceLeDiff, Nat.reduceAdd, Nat.reduceMul, Nat.reduceSub, Nat.reduceBEq]
          refine PW.regionK fun K hK => ?_
          refine OW.run [2, 9, 10] ?_
          simp (config := { maxSteps := 2000000 }) only [go_sem, ↓reduceIte, Nat.reduceEqDiff, Nat.reduceLT, Nat.reduceLeDiff, Nat.reduceAdd, Nat.reduceMul, Nat.reduceSub, Nat.reduceBEq, Int.reduceToNat, and_assoc, sw0]
          refine OW.nil (hK _ ?_)
          clear hK K
          refine ⟨rfl, rfl, ?_⟩
          rw [lc4_3]
          change PW _ _ _ _ _
          try simp only [go_sem, ↓reduceIte, Nat.reduceEqDiff, Nat.reduceLT, Nat.reduceLeDiff, Nat.reduceAdd, Nat.reduceMul, Nat.reduceSub, Nat.reduceBEq]
          refine PW.block ?_
          obtain ⟨x5, e5, hrun⟩ := bnd_some hrun
          obtain ⟨c10, hrun⟩ := chk_some hrun
          refine PW.drawK 6 mixed (by kernel_rfl) fun K hK => ?_
          change FW _ _ _ _ _
          refine FW.run ?_
          simp (config := { maxSteps := 2000000 }) only [go_sem, ↓reduceIte, Nat.reduceEqDiff, Nat.reduceLT, Nat.reduceLeDiff, Nat.reduceAdd, Nat.reduceMul, Nat.reduceSub, Nat.reduceBEq, Int.reduceToNat, and_assoc, sw0]
          refine And.intro (by omega) ?_
          refine FW.call' 4 rfl rfl rfl (by ((simp only [go_sem, List.toList_toArray, ↓reduceIte, Nat.reduceEqDiff, Nat.reduceLT, Nat.reduceBEq]); exact rfl)) ?_ (code_checked_ok N _ _ _ _ e5) ?_ ?_ ?_ ?_
          · rfl
          · (refine okAll_intro ?_; (simp only [go_sem, sw2, List.length_set, List.length_replicate, and_true, true_and, Nat.le_refl, ↓reduceIte, Nat.reduceEqDiff, Nat.reduceLT, Nat.reduceLeDiff, Nat.reduceAdd, Nat.reduceMul, Nat.reduceSub, Nat.reduceBEq]; done))
          · exact .inl rfl
          · (simp only [go_sem, Nat.reduceLT])
          refine FW.run ?_
          simp (config := { maxSteps := 2000000 }) only [go_sem, ↓reduceIte, Nat.reduceEqDiff, Nat.reduceLT, Nat.reduceLeDiff, Nat.reduceAdd, Nat.reduceMul, Nat.reduceSub, Nat.reduceBEq, Int.reduceToNat, and_assoc, sw0]
          refine FW.nil ?_
          change OW _ _ _ _ _ _
          refine OW.run [] ?_
          simp (config := { maxSteps := 2000000 }) only [go_sem, ↓reduceIte, Nat.reduceEqDiff, Nat.reduceLT, Nat.reduceLeDiff, Nat.reduceAdd, Nat.reduceMul, Nat.reduceSub, Nat.reduceBEq, Int.reduceToNat, and_assoc, sw0]
          refine And.intro (by omega) (And.intro (by omega) (And.intro (by omega) ?_))
          refine OW.nil (hK _ ?_)
          clear hK K
          refine ⟨0, .inl ⟨rfl, rfl⟩, rfl, rfl, ?_⟩
          try simp only [go_sem, ↓reduceIte, Nat.reduceEqDiff, Nat.reduceLT, Nat.reduceLeDiff, Nat.reduceAdd, Nat.reduceMul, Nat.reduceSub, Nat.reduceBEq]
          change OW _ _ _ _ _ _
          refine OW.run [0, 1, 2, 4, 30] ?_
          simp (config := { maxSteps := 2000000 }) only [go_sem, ↓reduceIte, Nat.reduceEqDiff, Nat.reduceLT, Nat.reduceLeDiff, Nat.reduceAdd, Nat.reduceMul, Nat.reduceSub, Nat.reduceBEq, Int.reduceToNat, and_assoc, sw0]
          refine OW.nil (hK _ ?_)
          clear hK K
          change PW _ _ _ _ _
          refine PW.cond rfl (fun h11 => ?_) (fun h11 => ?_)
          · replace hrun := br_t h11 hrun
            refine PW.ret ?_
            refine ⟨.inr rfl, 0, rfl, rfl, fun _ => ?_, fun h => absurd rfl h⟩
            try simp only [go_sem, ↓reduceIte, Nat.reduceEqDiff, Nat.reduceLT, Nat.reduceLeDiff, Nat.reduceAdd, Nat.reduceMul, Nat.reduceSub, Nat.reduceBEq]
            refine hN4 [] (z, (b71 ++ ([x5] : List (List Int)))) _ hrun (by exact trivial) ?_
            (simp only [Env.frzL, Env.frz, frzOb, V.frz, V.frz.frzs, asD, map_asD, sw1, go_sem, ↓reduceIte, Nat.reduceEqDiff, Nat.reduceLT, Nat.reduceLeDiff, Nat.reduceAdd, Nat.reduceMul, Nat.reduceSub, Nat.reduceBEq]; done)
          · replace hrun := br_f h11 hrun
            refine PW.skip ?_
            change PW _ _ _ _ _
            refine PW.regionK fun K hK => ?_
            refine OW.run [0, 1, 2, 4] ?_
            simp (config := { maxSteps := 2000000 }) only [go_sem, ↓reduceIte, Nat.reduceEqDiff, Nat.reduceLT, Nat.reduceLeDiff, Nat.reduceAdd, Nat.reduceMul, Nat.reduceSub, Nat.reduceBEq, Int.reduceToNat, and_assoc, sw0]
            refine OW.nil (hK _ ?_)
            clear hK K
            refine hN6 [] (w64 (i + x41), (b71 ++ ([x5] : List (List Int)))) _ hrun (by exact trivial) ?_
            (simp only [Env.frzL, Env.frz, frzOb, V.frz, V.frz.frzs, asD, map_asD, sw1, go_sem, ↓reduceIte, Nat.reduceEqDiff, Nat.reduceLT, Nat.reduceLeDiff, Nat.reduceAdd, Nat.reduceMul, Nat.reduceSub, Nat.reduceBEq]; done)
        · replace hrun := br_f h7 hrun
          refine PW.exit ?_
          refine ⟨.inl rfl, 0, rfl, rfl, fun _ => ?_, fun h => absurd rfl h⟩
          try simp only [go_sem, ↓reduceIte, Nat.reduceEqDiff, Nat.reduceLT, Nat.reduceLeDiff, Nat.reduceAdd, Nat.reduceMul, Nat.reduceSub, Nat.reduceBEq]
          refine hN4 [] (z, b71) _ hrun (by exact trivial) ?_
          (simp only [Env.frzL, Env.frz, frzOb, V.frz, V.frz.frzs, asD, map_asD, sw1, go_sem, ↓reduceIte, Nat.reduceEqDiff, Nat.reduceLT, Nat.reduceLeDiff, Nat.reduceAdd, Nat.reduceMul, Nat.reduceSub, Nat.reduceBEq]; done)
    · rintro ⟨b5, b7⟩ hrun
      try simp only [go_sem, ↓reduceIte, Nat.reduceEqDiff, Nat.reduceLT, Nat.reduceLeDiff, Nat.reduceAdd, Nat.reduceMul, Nat.reduceSub, Nat.reduceBEq]
      refine PW.seq ?_
      refine PW.regionK fun K hK => ?_
      refine OW.run [4, 5] ?_
      simp (config := { maxSteps := 2000000 }) only [go_sem, ↓reduceIte, Nat.reduceEqDiff, Nat.reduceLT, Nat.reduceLeDiff, Nat.reduceAdd, Nat.reduceMul, Nat.reduceSub, Nat.reduceBEq, Int.reduceToNat, and_assoc, sw0]
      refine OW.nil (hK _ ?_)
      clear hK K
      change PW _ _ _ _ _
      refine PW.ret ?_
      change PW.Ends _ _ _ _ _ _
      refine PW.Ends.intro (.inr rfl) ?_
      simp (config := { maxSteps := 2000000 }) only [go_sem, ↓reduceIte, Nat.reduceEqDiff, Nat.reduceLT, Nat.reduceLeDiff, Nat.reduceAdd, Nat.reduceMul, Nat.reduceSub, Nat.reduceBEq, Int.reduceToNat, and_assoc, sw0]
      obtain rfl := Option.some.inj hrun
      refine RetOK.data' 4 (by (refine okAll_intro ?_; (simp only [go_sem, sw2, List.length_set, List.length_replicate, and_true, true_and, Nat.le_refl, ↓reduceIte, Nat.reduceEqDiff, Nat.reduceLT, Nat.reduceLeDiff, Nat.reduceAdd, Nat.reduceMul, Nat.reduceSub, Nat.reduceBEq]; done))) ?_
      (((simp only [go_sem, sw1, ↓reduceIte, Nat.reduceEqDiff, Nat.reduceLT, Nat.reduceLeDiff, Nat.reduceAdd, Nat.reduceMul, Nat.reduceSub, Nat.reduceBEq]; try simp only [seg, go_sem, ↓reduceIte, Nat.reduceEqDiff, Nat.reduceLT, Nat.reduceLeDiff, Nat.reduceAdd, Nat.reduceMul, Nat.reduceSub, Nat.reduceBEq])); done)

set_option maxRecDepth 20000 in
set_option maxHeartbeats 8000000 in
theorem ref02_Segments_ok (N : Nat) (r_Poly_Degree : Int) (r_Poly_Taps : Int) (r_Most : Int) (bits : List Int) (r : List (List Int)) (hrun : ref02_Segments N r_Poly_Degree r_Poly_Taps r_Most bits = some r) : CallOK Try.prog 89 [(.agg [(I r_Poly_Degree), (I r_Poly_Taps), (I r_Most)]), (L bits)] (.d (.list r.length (r.map L))) [] := by
  refine CallOK.of_PW Try.func89 rfl (by rw [Try.results89]) Try.ntmps89 Try.call89 ?_
  change PW _ _ _ _ _
  try simp only [go_sem, ↓reduceIte, Nat.reduceEqDiff, Nat.reduceLT, Nat.reduceLeDiff, Nat.reduceAdd, Nat.reduceMul, Nat.reduceSub, Nat.reduceBEq]
  unfold ref02_Segments at hrun
  refine PW.seq ?_
  refine PW.regionK fun K hK => ?_
  refine OW.run [1, 2] ?_
  simp (config := { maxSteps := 2000000 }) only [go_sem, ↓reduceIte, Nat.reduceEqDiff, Nat.reduceLT, Nat.reduceLeDiff, Nat.reduceAdd, Nat.reduceMul, Nat.reduceSub, Nat.reduceBEq, Int.reduceToNat, and_assoc, sw0]
  refine OW.nil (hK _ ?_)
  clear hK K
  change PW _ _ _ _ _
  refine PW.seq ?_
  obtain ⟨⟨x1, x11⟩, e1, hrun⟩ := bnd_some hrun
  refine PW.regionK fun K hK => ?_
  refine OW.run [1, 2, 5, 6] ?_
  simp (config := { maxSteps := 2000000 }) only [go_sem, ↓reduceIte, Nat.reduceEqDiff, Nat.reduceLT, Nat.reduceLeDiff, Nat.reduceAdd, Nat.reduceMul, Nat.reduceSub, Nat.reduceBEq, Int.reduceToNat, and_assoc, sw0]
  refine OW.call' 4 rfl rfl rfl (by ((simp only [go_sem, List.toList_toArray, ↓reduceIte, Nat.reduceEqDiff, Nat.reduceLT, Nat.reduceBEq]); exact rfl)) ?_ (ref02_Cut_ok N _ _ _ _ _ e1) ?_ ?_ ?_ ?_
  · rfl
  · (refine okAll_intro ?_; (simp only [go_sem, sw2, List.length_set, List.length_replicate, and_true, true_and, Nat.le_refl, ↓reduceIte, Nat.reduceEqDiff, Nat.reduceLT, Nat.reduceLeDiff, Nat.reduceAdd, Nat.reduceMul, Nat.reduceSub, Nat.reduceBEq]; done))
  · exact .inl rfl
  · (simp only [go_sem, Nat.reduceLT])
  refine OW.run [1, 2, 5, 6] ?_
  simp (config := { maxSteps := 2000000 }) only [go_sem, ↓reduceIte, Nat.reduceEqDiff, Nat.reduceLT, Nat.reduceLeDiff, Nat.reduceAdd, Nat.reduceMul, Nat.reduceSub, Nat.reduceBEq, Int.reduceToNat, and_assoc, sw0]
  refine OW.nil (hK _ ?_)
  clear hK K
  change PW _ _ _ _ _
  refine PW.seq ?_
  obtain ⟨c1, hrun⟩ := chk_some hrun
  obtain ⟨c2, hrun⟩ := chk_some hrun
  refine PW.regionK fun K hK => ?_
  refine OW.run [2, 5, 6, 7] ?_
  simp (config := { maxSteps := 2000000 }) only [go_sem, ↓reduceIte, Nat.reduceEqDiff, Nat.reduceLT, Nat.reduceLeDiff, Nat.reduceAdd, Nat.reduceMul, Nat.reduceSub, Nat.reduceBEq, Int.reduceToNat, and_assoc, sw0]
  refine And.intro (by omega) (And.intro (by omega) (And.intro (by omega) (And.intro (by omega) (And.intro (by (simp only [List.length_map, List.length_replicate, List.length_append, List.length_take, List.length_drop, List.length_set, List.length_cons, List.length_nil, Nat.zero_add, Int.toNat_natCast]; done)) (And.intro (by omega) (And.intro (by omega) (And.intro (by omega) ?_)))))))
  refine OW.nil (hK _ ?_)
  clear hK K
  change PW _ _ _ _ _
  refine PW.seq ?_
  refine PW.regionK fun K hK => ?_
  refine OW.run [2, 5, 6, 7, 8] ?_
  simp (config := { maxSteps := 2000000 }) only [go_sem, ↓reduceIte, Nat.reduceEqDiff, Nat.reduceLT, Nat.reduceLeDiff, Nat.reduceAdd, Nat.reduceMul, Nat.reduceSub, Nat.reduceBEq, Int.reduceToNat, and_assoc, sw0]
  refine OW.nil (hK _ ?_)
  clear hK K
  change PW _ _ _ _ _
  refine PW.joinS (τ := List (List Int)) [8] 3 (fun b2 => [(8, .own 2 0 b2.length 1)]) (fun b2 => [{ cells := [.d (I r_Poly_Degree), .d (I r_Poly_Taps), .d (I r_Most)], e := 113 }, { cells := [], e := 3 }, { cells := (b2.map L).map .d, e := 22 }]) _ _ r (by exact Nat.zero_le _) hrun ?_ ?_
  · intro K_ hrun N3 hN3
    refine PW.seq ?_
    refine PW.regionK fun K hK => ?_
    refine OW.run [2, 5, 6, 7, 8, 9] ?_
    simp (config := { maxSteps := 2000000 }) only [go_sem, ↓reduceIte, Nat.reduceEqDiff, Nat.reduceLT, Nat.reduceLeDiff, Nat.reduceAdd, Nat.reduceMul, Nat.reduceSub, Nat.reduceBEq, Int.reduceToNat, and_assoc, sw0]
    refine OW.nil (hK _ ?_)
    clear hK K
    change PW _ _ _ _ _
    refine PW.block ?_
    refine PW.virt 8 22 1 rfl ?_
    try simp only [go_sem, ↓reduceIte, Nat.reduceEqDiff, Nat.reduceLT, Nat.reduceLeDiff, Nat.reduceAdd, Nat.reduceMul, Nat.reduceSub, Nat.reduceBEq]
    refine PW.frz 1 (by exact Nat.zero_le _) (by (simp only [go_sem, isD, allD_mapV]; done)) ?_
    simp only [Env.frzL, Env.frz, frzOb, V.frz, V.frz.frzs, asD, map_asD, map_nz_I, map_nz_Bo, map_nz_Sx, map_nz_L, nz_int, nz_bool, nz_str, nz_list, nz_ref, nz_nil, go_sem, ↓reduceIte, Nat.reduceEqDiff, Nat.reduceLT, Nat.reduceLeDiff, Nat.reduceAdd, Nat.reduceMul, Nat.reduceSub, Nat.reduceBEq]
    obtain ⟨z, hz, hrun⟩ := bnd_some hrun
    simp only [Option.some.inj hz]
    refine PW.loopS (σ := Int × List (List Int)) [2, 5, 6, 7, 8, 9] 3 (fun (i1, b22) => [(8, .own 2 0 b22.length 1), (9, .d (I i1))]) (fun (i1, b22) => [{ cells := [.d (I r_Poly_Degree), .d (I r_Poly_Taps), .d (I r_Most)], e := 113 }, { cells := [], e := 3 }, { cells := (b22.map L).map .d, e := 22 }]) (ref02_Segments.b1 N r_Poly_Degree r_Poly_Taps x1 x11 K_ z) r N ((0 : Int), ([] : List (List Int))) (by exact Nat.zero_le _) hrun (by (simp only [Env.frzL, Env.frz, frzOb, V.frz, V.frz.frzs, asD, map_asD, sw1, go_sem, ↓reduceIte, Nat.reduceEqDiff, Nat.reduceLT, Nat.reduceLeDiff, Nat.reduceAdd, Nat.reduceMul, Nat.reduceSub, Nat.reduceBEq]; done)) ?_
    rintro n ⟨i1, b22⟩ hrun N4 hN4
    unfold ref02_Segments.b1 at hrun
    try simp only [go_sem, ↓reduceIte, Nat.reduceEqDiff, Nat.reduceLT, Nat.reduceLeDiff, Nat.reduceAdd, Nat.reduceMul, Nat.reduceSub, Nat.reduceBEq]
    refine PW.seq ?_
    refine PW.seq ?_
    refine PW.regionK fun K hK => ?_
    refine OW.run [2, 5, 6, 7, 8, 9, 28] ?_
    simp (config := { maxSteps := 2000000 }) only [go_sem, ↓reduceIte, Nat.reduceEqDiff, Nat.reduceLT, Nat.reduceLeDiff, Nat.reduceAdd, Nat.reduceMul, Nat.reduceSub, Nat.reduceBEq, Int.reduceToNat, and_assoc, sw0]
    refine OW.nil (hK _ ?_)
    clear hK K
    change PW _ _ _ _ _
    refine PW.cond rfl (fun h5 => ?_) (fun h5 => ?_)
    · replace hrun := br_t h5 hrun
      refine PW.skip ?_
      change PW _ _ _ _ _
      refine PW.seq ?_
      refine PW.block ?_
      obtain ⟨c6, hrun⟩ := chk_some hrun
      obtain ⟨x2, e2, hrun⟩ := bnd_some hrun
      obtain ⟨c7, hrun⟩ := chk_some hrun
      refine PW.drawK 14 mixed (by kernel_rfl) fun K hK => ?_
      change FW _ _ _ _ _
      refine FW.run ?_
      (simp (config := { maxSteps := 2000000 }) only [go_sem, ↓reduceIte, Nat.reduceEqDiff, Nat.reduceLT, Nat.reduceLeDiff, Nat.reduceAdd, Nat.reduceMul, Nat.reduceSub, Nat.reduceBEq, Int.reduceToNat, and_assoc, sw0, slice_len I ((z.drop ((w64 (i1 * x11)).toNat)).take ((w64 ((w64 (i1 + (1 : Int))) * x11)).toNat - (w64 (i1 * x11)).toNat)) ((w64 ((w64 (i1 + (1 : Int))) * x11)).toNat - (w64 (i1 * x11)).toNat) (by simp only [List.length_take, List.length_drop]; omega)])
      refine And.intro (by omega) (And.intro (by omega) (And.intro (by omega) (And.intro (by omega) ?_)))
      refine FW.call' 4 rfl rfl rfl (by ((simp only [go_sem, List.toList_toArray, ↓reduceIte, Nat.reduceEqDiff, Nat.reduceLT, Nat.reduceBEq]); exact rfl)) ?_ (ref02_Checked_ok N _ _ _ _ e2) ?_ ?_ ?_ ?_
      · rfl
      · (refine okAll_intro ?_; (simp only [go_sem, sw2, List.length_set, List.length_replicate, and_true, true_and, Nat.le_refl, ↓reduceIte, Nat.reduceEqDiff, Nat.reduceLT, Nat.reduceLeDiff, Nat.reduceAdd, Nat.reduceMul, Nat.reduceSub, Nat.reduceBEq]; done))
      · exact .inl rfl
      · (simp only [go_sem, Nat.reduceLT])
      refine FW.run ?_
      (simp (config := { maxSteps := 2000000 }) only [go_sem, ↓reduceIte, Nat.reduceEqDiff, Nat.reduceLT, Nat.reduceLeDiff, Nat.reduceAdd, Nat.reduceMul, Nat.reduceSub, Nat.reduceBEq, Int.reduceToNat, and_assoc, sw0, slice_len I ((z.drop ((w64 (i1 * x11)).toNat)).take ((w64 ((w64 (i1 + (1 : Int))) * x11)).toNat - (w64 (i1 * x11)).toNat)) ((w64 ((w64 (i1 + (1 : Int))) * x11)).toNat - (w64 (i1 * x11)).toNat) (by simp only [List.length_take, List.length_drop]; omega)])
      refine FW.nil ?_
      change OW _ _ _ _ _ _
      refine OW.run [2, 5, 6, 7, 8, 9] ?_
      (simp (config := { maxSteps := 2000000 }) only [go_sem, ↓reduceIte, Nat.reduceEqDiff, Nat.reduceLT, Nat.reduceLeDiff, Nat.reduceAdd, Nat.reduceMul, Nat.reduceSub, Nat.reduceBEq, Int.reduceToNat, and_assoc, sw0, slice_len I ((z.drop ((w64 (i1 * x11)).toNat)).take ((w64 ((w64 (i1 + (1 : Int))) * x11)).toNat - (w64 (i1 * x11)).toNat)) ((w64 ((w64 (i1 + (1 : Int))) * x11)).toNat - (w64 (i1 * x11)).toNat) (by simp only [List.length_take, List.length_drop]; omega)])
      refine And.intro (by omega) (And.intro (by omega) (And.intro (by omega) ?_))
      refine OW.nil (hK _ ?_)
      clear hK K
      change PW _ _ _ _ _
      refine PW.regionK fun K hK => ?_
      refine OW.run [2, 5, 6, 7, 8, 9] ?_
      simp (config := { maxSteps := 2000000 }) only [go_sem, ↓reduceIte, Nat.reduceEqDiff, Nat.reduceLT, Nat.reduceLeDiff, Nat.reduceAdd, Nat.reduceMul, Nat.reduceSub, Nat.reduceBEq, Int.reduceToNat, and_assoc, sw0]
      refine OW.nil (hK _ ?_)
      clear hK K
      refine hN4 [] (w64 (i1 + (1 : Int)), (b22 ++ ([x2] : List (List Int)))) _ hrun (by exact trivial) ?_
      (simp only [Env.frzL, Env.frz, frzOb, V.frz, V.frz.frzs, asD, map_asD, sw1, go_sem, ↓reduceIte, Nat.reduceEqDiff, Nat.reduceLT, Nat.reduceLeDiff, Nat.reduceAdd, Nat.reduceMul, Nat.reduceSub, Nat.reduceBEq]; done)
    · replace hrun := br_f h5 hrun
      refine PW.exit ?_
      refine hN3 [] b22 _ hrun (by exact trivial) ?_
      (simp only [Env.frzL, Env.frz, frzOb, V.frz, V.frz.frzs, asD, map_asD, sw1, go_sem, ↓reduceIte, Nat.reduceEqDiff, Nat.reduceLT, Nat.reduceLeDiff, Nat.reduceAdd, Nat.reduceMul, Nat.reduceSub, Nat.reduceBEq]; done)
  · rintro b2 hrun
    try simp only [go_sem, ↓reduceIte, Nat.reduceEqDiff, Nat.reduceLT, Nat.reduceLeDiff, Nat.reduceAdd, Nat.reduceMul, Nat.reduceSub, Nat.reduceBEq]
    refine PW.seq ?_
    refine PW.regionK fun K hK => ?_
    refine OW.run [4] ?_
    simp (config := { maxSteps := 2000000 }) only [go_sem, ↓reduceIte, Nat.reduceEqDiff, Nat.reduceLT, Nat.reduceLeDiff, Nat.reduceAdd, Nat.reduceMul, Nat.reduceSub, Nat.reduceBEq, Int.reduceToNat, and_assoc, sw0]
    refine OW.nil (hK _ ?_)
    clear hK K
    change PW _ _ _ _ _
    refine PW.ret ?_
    change PW.Ends _ _ _ _ _ _
    refine PW.Ends.intro (.inr rfl) ?_
    simp (config := { maxSteps := 2000000 }) only [go_sem, ↓reduceIte, Nat.reduceEqDiff, Nat.reduceLT, Nat.reduceLeDiff, Nat.reduceAdd, Nat.reduceMul, Nat.reduceSub, Nat.reduceBEq, Int.reduceToNat, and_assoc, sw0]
    obtain rfl := Option.some.inj hrun
    refine RetOK.data' 4 (by (simp only [go_sem, sw2, List.length_set, List.length_replicate, and_true, true_and, Nat.le_refl, ↓reduceIte, Nat.reduceEqDiff, Nat.reduceLT, Nat.reduceLeDiff, Nat.reduceAdd, Nat.reduceMul, Nat.reduceSub, Nat.reduceBEq]; done)) ?_
    (((simp only [go_sem, sw1, ↓reduceIte, Nat.reduceEqDiff, Nat.reduceLT, Nat.reduceLeDiff, Nat.reduceAdd, Nat.reduceMul, Nat.reduceSub, Nat.reduceBEq]; try simp only [seg, go_sem, ↓reduceIte, Nat.reduceEqDiff, Nat.reduceLT, Nat.reduceLeDiff, Nat.reduceAdd, Nat.reduceMul, Nat.reduceSub, Nat.reduceBEq])); done)

set_option maxRecDepth 20000 in
set_option maxHeartbeats 8000000 in
theorem base_Lists_ok (N : Nat) (a : List (List Int)) (b : List (List Int)) (r : Bool) (hrun : base_Lists N a b = some r) : CallOK Try.prog 88 [(.list a.length (a.map L)), (.list b.length (b.map L))] (.d (Bo r)) [] := by
  refine CallOK.of_PW Try.func88 rfl (by rw [Try.results88]) Try.ntmps88 Try.call88 ?_
  change PW _ _ _ _ _
  try simp only [go_sem, ↓reduceIte, Nat.reduceEqDiff, Nat.reduceLT, Nat.reduceLeDiff, Nat.reduceAdd, Nat.reduceMul, Nat.reduceSub, Nat.reduceBEq]
  unfold base_Lists at hrun
  refine PW.seq ?_
  refine PW.regionK fun K hK => ?_
  refine OW.run [0, 1] ?_
  simp (config := { maxSteps := 2000000 }) only [go_sem, ↓reduceIte, Nat.reduceEqDiff, Nat.reduceLT, Nat.reduceLeDiff, Nat.reduceAdd, Nat.reduceMul, Nat.reduceSub, Nat.reduceBEq, Int.reduceToNat, and_assoc, sw0]
  refine OW.nil (hK _ ?_)
  clear hK K
  change PW _ _ _ _ _
  refine PW.seq ?_
  refine PW.seq ?_
  refine PW.regionK fun K hK => ?_
  refine OW.run [0, 1, 10] ?_
  simp (config := { maxSteps := 2000000 }) only [go_sem, ↓reduceIte, Nat.reduceEqDiff, Nat.reduceLT, Nat.reduceLeDiff, Nat.reduceAdd, Nat.reduceMul, Nat.reduceSub, Nat.reduceBEq, Int.reduceToNat, and_assoc, sw0]
  refine OW.nil (hK _ ?_)
  clear hK K
  change PW _ _ _ _ _
  refine PW.cond rfl (fun h1 => ?_) (fun h1 => ?_)
  · replace hrun := br_t h1 hrun
    refine PW.seq ?_
    refine PW.regionK fun K hK => ?_
    refine OW.run [4] ?_
    simp (config := { maxSteps := 2000000 }) only [go_sem, ↓reduceIte, Nat.reduceEqDiff, Nat.reduceLT, Nat.reduceLeDiff, Nat.reduceAdd, Nat.reduceMul, Nat.reduceSub, Nat.reduceBEq, Int.reduceToNat, and_assoc, sw0]
    refine OW.nil (hK _ ?_)
    clear hK K
    change PW _ _ _ _ _
    refine PW.ret ?_
    change PW.Ends _ _ _ _ _ _
    refine PW.Ends.intro (.inr rfl) ?_
    simp (config := { maxSteps := 2000000 }) only [go_sem, ↓reduceIte, Nat.reduceEqDiff, Nat.reduceLT, Nat.reduceLeDiff, Nat.reduceAdd, Nat.reduceMul, Nat.reduceSub, Nat.reduceBEq, Int.reduceToNat, and_assoc, sw0]
    obtain rfl := Option.some.inj hrun
    refine RetOK.data' 4 (by exact trivial) ?_
    rfl
  · replace hrun := br_f h1 hrun
    refine PW.skip ?_
    change PW _ _ _ _ _
    refine PW.joinS (τ := Unit) [] 0 (fun _ => []) (fun _ => []) _ _ r (by exact Nat.le_refl _) hrun ?_ ?_
    · intro K_ hrun N2 hN2
      refine PW.seq ?_
      refine PW.regionK fun K hK => ?_
      refine OW.run [0, 1, 5] ?_
      simp (config := { maxSteps := 2000000 }) only [go_sem, ↓reduceIte, Nat.reduceEqDiff, Nat.reduceLT, Nat.reduceLeDiff, Nat.reduceAdd, Nat.reduceMul, Nat.reduceSub, Nat.reduceBEq, Int.reduceToNat, and_assoc, sw0]
      refine OW.nil (hK _ ?_)
      clear hK K
      change PW _ _ _ _ _
      refine PW.block ?_
      refine PW.loopS (σ := Int) [0, 1, 5] 0 (fun i => [(5, .d (I i))]) (fun i => []) (base_Lists.b1 N a b K_) r N (0 : Int) (by exact Nat.le_refl _) hrun (by (simp only [Env.frzL, Env.frz, frzOb, V.frz, V.frz.frzs, asD, map_asD, sw1, go_sem, ↓reduceIte, Nat.reduceEqDiff, Nat.reduceLT, Nat.reduceLeDiff, Nat.reduceAdd, Nat.reduceMul, Nat.reduceSub, Nat.reduceBEq]; done)) ?_
      rintro n i hrun N3 hN3
      unfold base_Lists.b1 at hrun
      try simp only [go_sem, ↓reduceIte, Nat.reduceEqDiff, Nat.reduceLT, Nat.reduceLeDiff, Nat.reduceAdd, Nat.reduceMul, Nat.reduceSub, Nat.reduceBEq]
      refine PW.seq ?_
      refine PW.seq ?_
      refine PW.regionK fun K hK => ?_
      refine OW.run [0, 1, 5, 14] ?_
      simp (config := { maxSteps := 2000000 }) only [go_sem, ↓reduceIte, Nat.reduceEqDiff, Nat.reduceLT, Nat.reduceLeDiff, Nat.reduceAdd, Nat.reduceMul, Nat.reduceSub, Nat.reduceBEq, Int.reduceToNat, and_assoc, sw0]
      refine OW.nil (hK _ ?_)
      clear hK K
      change PW _ _ _ _ _
      refine PW.cond rfl (fun h4 => ?_) (fun h4 => ?_)
      · replace hrun := br_t h4 hrun
        refine PW.skip ?_
        change PW _ _ _ _ _
        refine PW.seq ?_
        refine PW.block ?_
        refine PW.seq ?_
        obtain ⟨c5, hrun⟩ := chk_some hrun
        obtain ⟨c6, hrun⟩ := chk_some hrun
        obtain ⟨x1, e1, hrun⟩ := bnd_some hrun
        refine PW.drawK 8 mixed (by kernel_rfl) fun K hK => ?_
        change FW _ _ _ _ _
        refine FW.run ?_
        (simp (config := { maxSteps := 2000000 }) only [go_sem, ↓reduceIte, Nat.reduceEqDiff, Nat.reduceLT, Nat.reduceLeDiff, Nat.reduceAdd, Nat.reduceMul, Nat.reduceSub, Nat.reduceBEq, Int.reduceToNat, and_assoc, sw0, getD_mapF L a i.toNat default (by omega), getD_mapF L b i.toNat default (by omega)])
        refine And.intro (by omega) (And.intro (by omega) (And.intro (by omega) (And.intro (by omega) (And.intro (by omega) (And.intro (by omega) (And.intro (by omega) (And.intro (by omega) ?_)))))))
        refine FW.nil ?_
        change OW _ _ _ _ _ _
        refine OW.run [0, 1, 5, 26] ?_
        (simp (config := { maxSteps := 2000000 }) only [go_sem, ↓reduceIte, Nat.reduceEqDiff, Nat.reduceLT, Nat.reduceLeDiff, Nat.reduceAdd, Nat.reduceMul, Nat.reduceSub, Nat.reduceBEq, Int.reduceToNat, and_assoc, sw0, getD_mapF L a i.toNat default (by omega), getD_mapF L b i.toNat default (by omega)])
        refine OW.call' 4 rfl rfl rfl (by ((simp only [go_sem, List.toList_toArray, ↓reduceIte, Nat.reduceEqDiff, Nat.reduceLT, Nat.reduceBEq]); exact rfl)) ?_ (base_Ints_ok N _ _ _ e1) ?_ ?_ ?_ ?_
        · rfl
        · exact okD_all rfl
        · exact .inl rfl
        · (simp only [go_sem, Nat.reduceLT])
        refine OW.run [0, 1, 5, 26] ?_
        (simp (config := { maxSteps := 2000000 }) only [go_sem, ↓reduceIte, Nat.reduceEqDiff, Nat.reduceLT, Nat.reduceLeDiff, Nat.reduceAdd, Nat.reduceMul, Nat.reduceSub, Nat.reduceBEq, Int.reduceToNat, and_assoc, sw0, getD_mapF L a i.toNat default (by omega), getD_mapF L b i.toNat default (by omega)])
        refine OW.nil (hK _ ?_)
        clear hK K
        change PW _ _ _ _ _
        refine PW.cond rfl (fun h7 => ?_) (fun h7 => ?_)
        · replace hrun := br_t h7 hrun
          refine PW.seq ?_
          refine PW.regionK fun K hK => ?_
          refine OW.run [4] ?_
          simp (config := { maxSteps := 2000000 }) only [go_sem, ↓reduceIte, Nat.reduceEqDiff, Nat.reduceLT, Nat.reduceLeDiff, Nat.reduceAdd, Nat.reduceMul, Nat.reduceSub, Nat.reduceBEq, Int.reduceToNat, and_assoc, sw0]
          refine OW.nil (hK _ ?_)
          clear hK K
          change PW _ _ _ _ _
          refine PW.ret ?_
          change PW.Ends _ _ _ _ _ _
          refine PW.Ends.intro (.inr rfl) ?_
          simp (config := { maxSteps := 2000000 }) only [go_sem, ↓reduceIte, Nat.reduceEqDiff, Nat.reduceLT, Nat.reduceLeDiff, Nat.reduceAdd, Nat.reduceMul, Nat.reduceSub, Nat.reduceBEq, Int.reduceToNat, and_assoc, sw0]
          obtain rfl := Option.some.inj hrun
          refine RetOK.data' 4 (by exact trivial) ?_
          rfl
        · replace hrun := br_f h7 hrun
          refine PW.skip ?_
          change PW _ _ _ _ _
          refine PW.regionK fun K hK => ?_
          refine OW.run [0, 1, 5] ?_
          simp (config := { maxSteps := 2000000 }) only [go_sem, ↓reduceIte, Nat.reduceEqDiff, Nat.reduceLT, Nat.reduceLeDiff, Nat.reduceAdd, Nat.reduceMul, Nat.reduceSub, Nat.reduceBEq, Int.reduceToNat, and_assoc, sw0]
          refine OW.nil (hK _ ?_)
          clear hK K
          refine hN3 [] (w64 (i + (1 : Int))) _ hrun (by exact trivial) ?_
          (simp only [Env.frzL, Env.frz, frzOb, V.frz, V.frz.frzs, asD, map_asD, sw1, go_sem, ↓reduceIte, Nat.reduceEqDiff, Nat.reduceLT, Nat.reduceLeDiff, Nat.reduceAdd, Nat.reduceMul, Nat.reduceSub, Nat.reduceBEq]; done)
      · replace hrun := br_f h4 hrun
        refine PW.exit ?_
        refine hN2 [] () _ hrun (by exact trivial) ?_
        (simp only [Env.frzL, Env.frz, frzOb, V.frz, V.frz.frzs, asD, map_asD, sw1, go_sem, ↓reduceIte, Nat.reduceEqDiff, Nat.reduceLT, Nat.reduceLeDiff, Nat.reduceAdd, Nat.reduceMul, Nat.reduceSub, Nat.reduceBEq]; done)
    · rintro _ hrun
      try simp only [go_sem, ↓reduceIte, Nat.reduceEqDiff, Nat.reduceLT, Nat.reduceLeDiff, Nat.reduceAdd, Nat.reduceMul, Nat.reduceSub, Nat.reduceBEq]
      refine PW.seq ?_
      refine PW.regionK fun K hK => ?_
      refine OW.run [4] ?_
      simp (config := { maxSteps := 2000000 }) only [go_sem, ↓reduceIte, Nat.reduceEqDiff, Nat.reduceLT, Nat.reduceLeDiff, Nat.reduceAdd, Nat.reduceMul, Nat.reduceSub, Nat.reduceBEq, Int.reduceToNat, and_assoc, sw0]
      refine OW.nil (hK _ ?_)
      clear hK K
      change PW _ _ _ _ _
      refine PW.ret ?_
      change PW.Ends _ _ _ _ _ _
      refine PW.Ends.intro (.inr rfl) ?_
      simp (config := { maxSteps := 2000000 }) only [go_sem, ↓reduceIte, Nat.reduceEqDiff, Nat.reduceLT, Nat.reduceLeDiff, Nat.reduceAdd, Nat.reduceMul, Nat.reduceSub, Nat.reduceBEq, Int.reduceToNat, and_assoc, sw0]
      obtain rfl := Option.some.inj hrun
      refine RetOK.data' 4 (by exact trivial) ?_
      rfl

set_option maxRecDepth 20000 in
set_option maxHeartbeats 8000000 in
theorem law02_CodeSegments_ok (N : Nat) (r_Poly_Degree : Int) (r_Poly_Taps : Int) (r_Most : Int) (bits : List Int) (x_Parts : List (List Int)) (x_Length : Int) (r : Bool) (hrun : law02_CodeSegments N r_Poly_Degree r_Poly_Taps r_Most bits x_Parts x_Length = some r) : CallOK Try.prog 14 [(.agg [(I r_Poly_Degree), (I r_Poly_Taps), (I r_Most)]), (L bits), (.agg [(.list x_Parts.length (x_Parts.map L)), (I x_Length)])] (.d (Bo r)) [] := by
  refine CallOK.of_PW Try.func14 rfl (by rw [Try.results14]) Try.ntmps14 Try.call14 ?_
  change PW _ _ _ _ _
  try simp only [go_sem, ↓reduceIte, Nat.reduceEqDiff, Nat.reduceLT, Nat.reduceLeDiff, Nat.reduceAdd, Nat.reduceMul, Nat.reduceSub, Nat.reduceBEq]
  unfold law02_CodeSegments at hrun
  refine PW.seq ?_
  refine PW.regionK fun K hK => ?_
  refine OW.run [1, 3, 5] ?_
  simp (config := { maxSteps := 2000000 }) only [go_sem, ↓reduceIte, Nat.reduceEqDiff, Nat.reduceLT, Nat.reduceLeDiff, Nat.reduceAdd, Nat.reduceMul, Nat.reduceSub, Nat.reduceBEq, Int.reduceToNat, and_assoc, sw0]
  refine OW.nil (hK _ ?_)
  clear hK K
  change PW _ _ _ _ _
  refine PW.seq ?_
  refine PW.seq ?_
  obtain ⟨x1, e1, hrun⟩ := bnd_some hrun
  refine PW.regionK fun K hK => ?_
  refine OW.run [1, 3, 5, 21] ?_
  simp (config := { maxSteps := 2000000 }) only [go_sem, ↓reduceIte, Nat.reduceEqDiff, Nat.reduceLT, Nat.reduceLeDiff, Nat.reduceAdd, Nat.reduceMul, Nat.reduceSub, Nat.reduceBEq, Int.reduceToNat, and_assoc, sw0]
  refine OW.call' 4 rfl rfl rfl (by ((simp only [go_sem, List.toList_toArray, ↓reduceIte, Nat.reduceEqDiff, Nat.reduceLT, Nat.reduceBEq]); exact rfl)) ?_ (law02_awake_ok N  _ e1) ?_ ?_ ?_ ?_
  · rfl
  · exact okD_all rfl
  · exact .inl rfl
  · (simp only [go_sem, Nat.reduceLT])
  refine OW.run [1, 3, 5, 21] ?_
  simp (config := { maxSteps := 2000000 }) only [go_sem, ↓reduceIte, Nat.reduceEqDiff, Nat.reduceLT, Nat.reduceLeDiff, Nat.reduceAdd, Nat.reduceMul, Nat.reduceSub, Nat.reduceBEq, Int.reduceToNat, and_assoc, sw0]
  refine OW.nil (hK _ ?_)
  clear hK K
  change PW _ _ _ _ _
  refine PW.cond rfl (fun h1 => ?_) (fun h1 => ?_)
  · replace hrun := br_t h1 hrun
    refine PW.seq ?_
    refine PW.regionK fun K hK => ?_
    refine OW.run [6] ?_
    simp (config := { maxSteps := 2000000 }) only [go_sem, ↓reduceIte, Nat.reduceEqDiff, Nat.reduceLT, Nat.reduceLeDiff, Nat.reduceAdd, Nat.reduceMul, Nat.reduceSub, Nat.reduceBEq, Int.reduceToNat, and_assoc, sw0]
    refine OW.nil (hK _ ?_)
    clear hK K
    change PW _ _ _ _ _
    refine PW.ret ?_
    change PW.Ends _ _ _ _ _ _
    refine PW.Ends.intro (.inr rfl) ?_
    simp (config := { maxSteps := 2000000 }) only [go_sem, ↓reduceIte, Nat.reduceEqDiff, Nat.reduceLT, Nat.reduceLeDiff, Nat.reduceAdd, Nat.reduceMul, Nat.reduceSub, Nat.reduceBEq, Int.reduceToNat, and_assoc, sw0]
    obtain rfl := Option.some.inj hrun
    refine RetOK.data' 4 (by exact trivial) ?_
    rfl
  · replace hrun := br_f h1 hrun
    refine PW.skip ?_
    change PW _ _ _ _ _
    refine PW.seq ?_
    refine PW.seq ?_
    obtain ⟨x2, e2, hrun⟩ := bnd_some hrun
    refine PW.regionK fun K hK => ?_
    refine OW.run [1, 3, 5, 30] ?_
    simp (config := { maxSteps := 2000000 }) only [go_sem, ↓reduceIte, Nat.reduceEqDiff, Nat.reduceLT, Nat.reduceLeDiff, Nat.reduceAdd, Nat.reduceMul, Nat.reduceSub, Nat.reduceBEq, Int.reduceToNat, and_assoc, sw0]
    refine OW.call' 4 rfl rfl rfl (by ((simp only [go_sem, List.toList_toArray, ↓reduceIte, Nat.reduceEqDiff, Nat.reduceLT, Nat.reduceBEq]); exact rfl)) ?_ (law02_few_ok N _ _ _ e2) ?_ ?_ ?_ ?_
    · rfl
    · exact okD_all rfl
    · exact .inl rfl
    · (simp only [go_sem, Nat.reduceLT])
    refine OW.run [1, 3, 5, 30] ?_
    simp (config := { maxSteps := 2000000 }) only [go_sem, ↓reduceIte, Nat.reduceEqDiff, Nat.reduceLT, Nat.reduceLeDiff, Nat.reduceAdd, Nat.reduceMul, Nat.reduceSub, Nat.reduceBEq, Int.reduceToNat, and_assoc, sw0]
    refine And.intro (by omega) ?_
    refine OW.nil (hK _ ?_)
    clear hK K
    change PW _ _ _ _ _
    refine PW.cond rfl (fun h2 => ?_) (fun h2 => ?_)
    · replace hrun := br_t h2 hrun
      refine PW.seq ?_
      refine PW.regionK fun K hK => ?_
      refine OW.run [6] ?_
      simp (config := { maxSteps := 2000000 }) only [go_sem, ↓reduceIte, Nat.reduceEqDiff, Nat.reduceLT, Nat.reduceLeDiff, Nat.reduceAdd, Nat.reduceMul, Nat.reduceSub, Nat.reduceBEq, Int.reduceToNat, and_assoc, sw0]
      refine OW.nil (hK _ ?_)
      clear hK K
      change PW _ _ _ _ _
      refine PW.ret ?_
      change PW.Ends _ _ _ _ _ _
      refine PW.Ends.intro (.inr rfl) ?_
      simp (config := { maxSteps := 2000000 }) only [go_sem, ↓reduceIte, Nat.reduceEqDiff, Nat.reduceLT, Nat.reduceLeDiff, Nat.reduceAdd, Nat.reduceMul, Nat.reduceSub, Nat.reduceBEq, Int.reduceToNat, and_assoc, sw0]
      obtain rfl := Option.some.inj hrun
      refine RetOK.data' 4 (by exact trivial) ?_
      rfl
    · replace hrun := br_f h2 hrun
      refine PW.skip ?_
      change PW _ _ _ _ _
      refine PW.joinS (τ := Unit) [1, 3, 5] 2 (fun _ => []) (fun _ => [{ cells := [.d (I r_Poly_Degree), .d (I r_Poly_Taps), .d (I r_Most)], e := 113 }, { cells := [.d (.list x_Parts.length (x_Parts.map L)), .d (I x_Length)], e := 115 }]) _ _ r (by exact Nat.zero_le _) hrun ?_ ?_
      · intro K_ hrun N3 hN3
        refine PW.seq ?_
        refine PW.regionK fun K hK => ?_
        refine OW.run [1, 3, 5, 7] ?_
        simp (config := { maxSteps := 2000000 }) only [go_sem, ↓reduceIte, Nat.reduceEqDiff, Nat.reduceLT, Nat.reduceLeDiff, Nat.reduceAdd, Nat.reduceMul, Nat.reduceSub, Nat.reduceBEq, Int.reduceToNat, and_assoc, sw0]
        refine OW.nil (hK _ ?_)
        clear hK K
        change PW _ _ _ _ _
        refine PW.block ?_
        refine PW.loopS (σ := Int) [1, 3, 5, 7] 2 (fun i => [(7, .d (I i))]) (fun i => [{ cells := [.d (I r_Poly_Degree), .d (I r_Poly_Taps), .d (I r_Most)], e := 113 }, { cells := [.d (.list x_Parts.length (x_Parts.map L)), .d (I x_Length)], e := 115 }]) (law02_CodeSegments.b1 N x_Parts K_) r N (0 : Int) (by exact Nat.zero_le _) hrun (by (simp only [Env.frzL, Env.frz, frzOb, V.frz, V.frz.frzs, asD, map_asD, sw1, go_sem, ↓reduceIte, Nat.reduceEqDiff, Nat.reduceLT, Nat.reduceLeDiff, Nat.reduceAdd, Nat.reduceMul, Nat.reduceSub, Nat.reduceBEq]; done)) ?_
        rintro n i hrun N4 hN4
        unfold law02_CodeSegments.b1 at hrun
        try simp only [go_sem, ↓reduceIte, Nat.reduceEqDiff, Nat.reduceLT, Nat.reduceLeDiff, Nat.reduceAdd, Nat.reduceMul, Nat.reduceSub, Nat.reduceBEq]
        refine PW.seq ?_
        refine PW.seq ?_
        refine PW.regionK fun K hK => ?_
        refine OW.run [1, 3, 5, 7, 35] ?_
        simp (config := { maxSteps := 2000000 }) only [go_sem, ↓reduceIte, Nat.reduceEqDiff, Nat.reduceLT, Nat.reduceLeDiff, Nat.reduceAdd, Nat.reduceMul, Nat.reduceSub, Nat.reduceBEq, Int.reduceToNat, and_assoc, sw0]
        refine And.intro (by omega) ?_
        refine OW.nil (hK _ ?_)
        clear hK K
        change PW _ _ _ _ _
        refine PW.cond rfl (fun h5 => ?_) (fun h5 => ?_)
        · replace hrun := br_t h5 hrun
          refine PW.skip ?_
          change PW _ _ _ _ _
          refine PW.seq ?_
          refine PW.block ?_
          refine PW.seq ?_
          obtain ⟨c6, hrun⟩ := chk_some hrun
          refine PW.regionK fun K hK => ?_
          refine OW.run [1, 3, 5, 7, 44] ?_
          (simp (config := { maxSteps := 2000000 }) only [go_sem, ↓reduceIte, Nat.reduceEqDiff, Nat.reduceLT, Nat.reduceLeDiff, Nat.reduceAdd, Nat.reduceMul, Nat.reduceSub, Nat.reduceBEq, Int.reduceToNat, and_assoc, sw0, getD_mapF L x_Parts i.toNat default (by omega)])
          refine And.intro (by omega) (And.intro (by omega) (And.intro (by omega) (And.intro (by omega) (And.intro (by omega) ?_))))
          refine OW.nil (hK _ ?_)
          clear hK K
          change PW _ _ _ _ _
          refine PW.cond rfl (fun h7 => ?_) (fun h7 => ?_)
          · replace hrun := br_t h7 hrun
            refine PW.seq ?_
            refine PW.regionK fun K hK => ?_
            refine OW.run [6] ?_
            simp (config := { maxSteps := 2000000 }) only [go_sem, ↓reduceIte, Nat.reduceEqDiff, Nat.reduceLT, Nat.reduceLeDiff, Nat.reduceAdd, Nat.reduceMul, Nat.reduceSub, Nat.reduceBEq, Int.reduceToNat, and_assoc, sw0]
            refine OW.nil (hK _ ?_)
            clear hK K
            change PW _ _ _ _ _
            refine PW.ret ?_
            change PW.Ends _ _ _ _ _ _
            refine PW.Ends.intro (.inr rfl) ?_
            simp (config := { maxSteps := 2000000 }) only [go_sem, ↓reduceIte, Nat.reduceEqDiff, Nat.reduceLT, Nat.reduceLeDiff, Nat.reduceAdd, Nat.reduceMul, Nat.reduceSub, Nat.reduceBEq, Int.reduceToNat, and_assoc, sw0]
            obtain rfl := Option.some.inj hrun
            refine RetOK.data' 4 (by exact trivial) ?_
            rfl
          · replace hrun := br_f h7 hrun
            refine PW.skip ?_
            change PW _ _ _ _ _
            refine PW.regionK fun K hK => ?_
            refine OW.run [1, 3, 5, 7] ?_
            simp (config := { maxSteps := 2000000 }) only [go_sem, ↓reduceIte, Nat.reduceEqDiff, Nat.reduceLT, Nat.reduceLeDiff, Nat.reduceAdd, Nat.reduceMul, Nat.reduceSub, Nat.reduceBEq, Int.reduceToNat, and_assoc, sw0]
            refine OW.nil (hK _ ?_)
            clear hK K
            refine hN4 [] (w64 (i + (1 : Int))) _ hrun (by exact trivial) ?_
            (simp only [Env.frzL, Env.frz, frzOb, V.frz, V.frz.frzs, asD, map_asD, sw1, go_sem, ↓reduceIte, Nat.reduceEqDiff, Nat.reduceLT, Nat.reduceLeDiff, Nat.reduceAdd, Nat.reduceMul, Nat.reduceSub, Nat.reduceBEq]; done)
        · replace hrun := br_f h5 hrun
          refine PW.exit ?_
          refine hN3 [] () _ hrun (by exact trivial) ?_
          (simp only [Env.frzL, Env.frz, frzOb, V.frz, V.frz.frzs, asD, map_asD, sw1, go_sem, ↓reduceIte, Nat.reduceEqDiff, Nat.reduceLT, Nat.reduceLeDiff, Nat.reduceAdd, Nat.reduceMul, Nat.reduceSub, Nat.reduceBEq]; done)
      · rintro _ hrun
        try simp only [go_sem, ↓reduceIte, Nat.reduceEqDiff, Nat.reduceLT, Nat.reduceLeDiff, Nat.reduceAdd, Nat.reduceMul, Nat.reduceSub, Nat.reduceBEq]
        refine PW.seq ?_
        obtain ⟨x3, e3, hrun⟩ := bnd_some hrun
        obtain ⟨⟨x4, x41, x42⟩, e4, hrun⟩ := bnd_some hrun
        refine PW.drawK 13 mixed (by kernel_rfl) fun K hK => ?_
        change FW _ _ _ _ _
        refine FW.run ?_
        simp (config := { maxSteps := 2000000 }) only [go_sem, ↓reduceIte, Nat.reduceEqDiff, Nat.reduceLT, Nat.reduceLeDiff, Nat.reduceAdd, Nat.reduceMul, Nat.reduceSub, Nat.reduceBEq, Int.reduceToNat, and_assoc, sw0]
        refine And.intro (by omega) ?_
        refine FW.call' 4 rfl rfl rfl (by ((simp only [go_sem, List.toList_toArray, ↓reduceIte, Nat.reduceEqDiff, Nat.reduceLT, Nat.reduceBEq]); exact rfl)) ?_ (base_CopyLists_ok N _ _ e3) ?_ ?_ ?_ ?_
        · rfl
        · exact okD_all rfl
        · exact .inl rfl
        · (simp only [go_sem, Nat.reduceLT])
        refine FW.run ?_
        simp (config := { maxSteps := 2000000 }) only [go_sem, ↓reduceIte, Nat.reduceEqDiff, Nat.reduceLT, Nat.reduceLeDiff, Nat.reduceAdd, Nat.reduceMul, Nat.reduceSub, Nat.reduceBEq, Int.reduceToNat, and_assoc, sw0]
        refine And.intro (by omega) ?_
        refine FW.call' 4 rfl rfl rfl (by ((simp only [go_sem, List.toList_toArray, ↓reduceIte, Nat.reduceEqDiff, Nat.reduceLT, Nat.reduceBEq]); exact rfl)) ?_ (code_Joined_ok N _ _ _ _ _ _ e4) ?_ ?_ ?_ ?_
        · rfl
        · (refine okAll_intro ?_; (simp only [go_sem, sw2, List.length_set, List.length_replicate, and_true, true_and, Nat.le_refl, ↓reduceIte, Nat.reduceEqDiff, Nat.reduceLT, Nat.reduceLeDiff, Nat.reduceAdd, Nat.reduceMul, Nat.reduceSub, Nat.reduceBEq]; done))
        · exact .inl rfl
        · (simp only [go_sem, Nat.reduceLT])
        refine FW.run ?_
        simp (config := { maxSteps := 2000000 }) only [go_sem, ↓reduceIte, Nat.reduceEqDiff, Nat.reduceLT, Nat.reduceLeDiff, Nat.reduceAdd, Nat.reduceMul, Nat.reduceSub, Nat.reduceBEq, Int.reduceToNat, and_assoc, sw0]
        refine FW.nil ?_
        change OW _ _ _ _ _ _
        refine OW.run [1, 3, 5, 8, 9, 10] ?_
        simp (config := { maxSteps := 2000000 }) only [go_sem, ↓reduceIte, Nat.reduceEqDiff, Nat.reduceLT, Nat.reduceLeDiff, Nat.reduceAdd, Nat.reduceMul, Nat.reduceSub, Nat.reduceBEq, Int.reduceToNat, and_assoc, sw0]
        refine OW.nil (hK _ ?_)
        clear hK K
        change PW _ _ _ _ _
        refine PW.seq ?_
        obtain ⟨x5, e5, hrun⟩ := bnd_some hrun
        refine PW.regionK fun K hK => ?_
        refine OW.run [1, 3, 5, 8, 9, 10, 11] ?_
        simp (config := { maxSteps := 2000000 }) only [go_sem, ↓reduceIte, Nat.reduceEqDiff, Nat.reduceLT, Nat.reduceLeDiff, Nat.reduceAdd, Nat.reduceMul, Nat.reduceSub, Nat.reduceBEq, Int.reduceToNat, and_assoc, sw0]
        refine OW.call' 4 rfl rfl rfl (by ((simp only [go_sem, List.toList_toArray, ↓reduceIte, Nat.reduceEqDiff, Nat.reduceLT, Nat.reduceBEq]); exact rfl)) ?_ (ref02_RuleErr_ok N _ _ _ _ e5) ?_ ?_ ?_ ?_
        · rfl
        · (refine okAll_intro ?_; (simp only [go_sem, sw2, List.length_set, List.length_replicate, and_true, true_and, Nat.le_refl, ↓reduceIte, Nat.reduceEqDiff, Nat.reduceLT, Nat.reduceLeDiff, Nat.reduceAdd, Nat.reduceMul, Nat.reduceSub, Nat.reduceBEq]; done))
        · exact .inl rfl
        · (simp only [go_sem, Nat.reduceLT])
        refine OW.run [1, 3, 5, 8, 9, 10, 11] ?_
        simp (config := { maxSteps := 2000000 }) only [go_sem, ↓reduceIte, Nat.reduceEqDiff, Nat.reduceLT, Nat.reduceLeDiff, Nat.reduceAdd, Nat.reduceMul, Nat.reduceSub, Nat.reduceBEq, Int.reduceToNat, and_assoc, sw0]
        refine OW.nil (hK _ ?_)
        clear hK K
        change PW _ _ _ _ _
        refine PW.joinS (τ := Int) [1, 3, 5, 8, 9, 10, 11] 2 (fun d => [(11, .d (I d))]) (fun d => [{ cells := [.d (I r_Poly_Degree), .d (I r_Poly_Taps), .d (I r_Most)], e := 113 }, { cells := [.d (.list x_Parts.length (x_Parts.map L)), .d (I x_Length)], e := 115 }]) _ _ r (by exact Nat.zero_le _) hrun ?_ ?_
        · intro K_1 hrun N8 hN8
          refine PW.seq ?_
          refine PW.regionK fun K hK => ?_
          refine OW.run [1, 3, 5, 8, 9, 10, 11, 59] ?_
          simp (config := { maxSteps := 2000000 }) only [go_sem, ↓reduceIte, Nat.reduceEqDiff, Nat.reduceLT, Nat.reduceLeDiff, Nat.reduceAdd, Nat.reduceMul, Nat.reduceSub, Nat.reduceBEq, Int.reduceToNat, and_assoc, sw0]
          refine OW.nil (hK _ ?_)
          clear hK K
          change PW _ _ _ _ _
          refine PW.cond rfl (fun h9 => ?_) (fun h9 => ?_)
          · replace hrun := br_t h9 hrun
            obtain ⟨x6, e6, hrun⟩ := bnd_some hrun
            refine PW.regionK fun K hK => ?_
            refine OW.run [1, 3, 5, 8, 9, 10, 11] ?_
            simp (config := { maxSteps := 2000000 }) only [go_sem, ↓reduceIte, Nat.reduceEqDiff, Nat.reduceLT, Nat.reduceLeDiff, Nat.reduceAdd, Nat.reduceMul, Nat.reduceSub, Nat.reduceBEq, Int.reduceToNat, and_assoc, sw0]
            refine And.intro (by omega) ?_
            refine OW.call' 4 rfl rfl rfl (by ((simp only [go_sem, List.toList_toArray, ↓reduceIte, Nat.reduceEqDiff, Nat.reduceLT, Nat.reduceBEq]); exact rfl)) ?_ (ref02_LengthErr_ok N _ _ e6) ?_ ?_ ?_ ?_
            · rfl
            · exact okD_all rfl
            · exact .inl rfl
            · (simp only [go_sem, Nat.reduceLT])
            refine OW.run [1, 3, 5, 8, 9, 10, 11] ?_
            simp (config := { maxSteps := 2000000 }) only [go_sem, ↓reduceIte, Nat.reduceEqDiff, Nat.reduceLT, Nat.reduceLeDiff, Nat.reduceAdd, Nat.reduceMul, Nat.reduceSub, Nat.reduceBEq, Int.reduceToNat, and_assoc, sw0]
            refine OW.nil (hK _ ?_)
            clear hK K
            refine hN8 [] x6 _ hrun (by exact trivial) ?_
            (simp only [Env.frzL, Env.frz, frzOb, V.frz, V.frz.frzs, asD, map_asD, sw1, go_sem, ↓reduceIte, Nat.reduceEqDiff, Nat.reduceLT, Nat.reduceLeDiff, Nat.reduceAdd, Nat.reduceMul, Nat.reduceSub, Nat.reduceBEq]; done)
          · replace hrun := br_f h9 hrun
            refine PW.skip ?_
            refine hN8 [] x5 _ hrun (by exact trivial) ?_
            (simp only [Env.frzL, Env.frz, frzOb, V.frz, V.frz.frzs, asD, map_asD, sw1, go_sem, ↓reduceIte, Nat.reduceEqDiff, Nat.reduceLT, Nat.reduceLeDiff, Nat.reduceAdd, Nat.reduceMul, Nat.reduceSub, Nat.reduceBEq]; done)
        · rintro d hrun
          try simp only [go_sem, ↓reduceIte, Nat.reduceEqDiff, Nat.reduceLT, Nat.reduceLeDiff, Nat.reduceAdd, Nat.reduceMul, Nat.reduceSub, Nat.reduceBEq]
          refine PW.seq ?_
          refine PW.regionK fun K hK => ?_
          refine OW.run [1, 3, 5, 8, 9, 10, 11, 12] ?_
          simp (config := { maxSteps := 2000000 }) only [go_sem, ↓reduceIte, Nat.reduceEqDiff, Nat.reduceLT, Nat.reduceLeDiff, Nat.reduceAdd, Nat.reduceMul, Nat.reduceSub, Nat.reduceBEq, Int.reduceToNat, and_assoc, sw0]
          refine OW.nil (hK _ ?_)
          clear hK K
          change PW _ _ _ _ _
          refine PW.seq ?_
          refine PW.regionK fun K hK => ?_
          refine OW.run [1, 3, 5, 8, 9, 10, 11, 12, 13] ?_
          simp (config := { maxSteps := 2000000 }) only [go_sem, ↓reduceIte, Nat.reduceEqDiff, Nat.reduceLT, Nat.reduceLeDiff, Nat.reduceAdd, Nat.reduceMul, Nat.reduceSub, Nat.reduceBEq, Int.reduceToNat, and_assoc, sw0]
          refine OW.nil (hK _ ?_)
          clear hK K
          change PW _ _ _ _ _
          refine PW.nilList 12 rfl ?_
          try simp only [go_sem, ↓reduceIte, Nat.reduceEqDiff, Nat.reduceLT, Nat.reduceLeDiff, Nat.reduceAdd, Nat.reduceMul, Nat.reduceSub, Nat.reduceBEq]
          refine PW.joinS (τ := Int × List Int × Int) [1, 3, 8, 9, 10, 11, 12, 13] 1 (fun (d1, want, number) => [(11, .d (I d1)), (12, .d (L want)), (13, .d (I number))]) (fun (d1, want, number) => [{ cells := [.d (I r_Poly_Degree), .d (I r_Poly_Taps), .d (I r_Most)], e := 113 }]) _ _ r (by exact Nat.zero_le _) hrun ?_ ?_
          · intro K_2 hrun N10 hN10
            refine PW.seq ?_
            refine PW.regionK fun K hK => ?_
            refine OW.run [1, 3, 5, 8, 9, 10, 11, 12, 13, 64] ?_
            simp (config := { maxSteps := 2000000 }) only [go_sem, ↓reduceIte, Nat.reduceEqDiff, Nat.reduceLT, Nat.reduceLeDiff, Nat.reduceAdd, Nat.reduceMul, Nat.reduceSub, Nat.reduceBEq, Int.reduceToNat, and_assoc, sw0]
            refine OW.nil (hK _ ?_)
            clear hK K
            change PW _ _ _ _ _
            refine PW.cond rfl (fun h11 => ?_) (fun h11 => ?_)
            · replace hrun := br_t h11 hrun
              obtain ⟨⟨x7, x71, x72⟩, e7, hrun⟩ := bnd_some hrun
              refine PW.regionK fun K hK => ?_
              refine OW.run [1, 3, 8, 9, 10, 11, 12, 13] ?_
              simp (config := { maxSteps := 2000000 }) only [go_sem, ↓reduceIte, Nat.reduceEqDiff, Nat.reduceLT, Nat.reduceLeDiff, Nat.reduceAdd, Nat.reduceMul, Nat.reduceSub, Nat.reduceBEq, Int.reduceToNat, and_assoc, sw0]
              refine And.intro (by omega) (And.intro (by omega) ?_)
              refine OW.call' 4 rfl rfl rfl (by ((simp only [go_sem, List.toList_toArray, ↓reduceIte, Nat.reduceEqDiff, Nat.reduceLT, Nat.reduceBEq]); exact rfl)) ?_ (ref02_Joined_ok N _ _ _ _ _ _ e7) ?_ ?_ ?_ ?_
              · rfl
              · (refine okAll_intro ?_; (simp only [go_sem, sw2, List.length_set, List.length_replicate, and_true, true_and, Nat.le_refl, ↓reduceIte, Nat.reduceEqDiff, Nat.reduceLT, Nat.reduceLeDiff, Nat.reduceAdd, Nat.reduceMul, Nat.reduceSub, Nat.reduceBEq]; done))
              · exact .inl rfl
              · (simp only [go_sem, Nat.reduceLT])
              refine OW.run [1, 3, 8, 9, 10, 11, 12, 13] ?_
              simp (config := { maxSteps := 2000000 }) only [go_sem, ↓reduceIte, Nat.reduceEqDiff, Nat.reduceLT, Nat.reduceLeDiff, Nat.reduceAdd, Nat.reduceMul, Nat.reduceSub, Nat.reduceBEq, Int.reduceToNat, and_assoc, sw0]
              refine OW.nil (hK _ ?_)
              clear hK K
              refine hN10 [] (x72, x7, x71) _ hrun (by exact trivial) ?_
              (simp only [Env.frzL, Env.frz, frzOb, V.frz, V.frz.frzs, asD, map_asD, sw1, go_sem, ↓reduceIte, Nat.reduceEqDiff, Nat.reduceLT, Nat.reduceLeDiff, Nat.reduceAdd, Nat.reduceMul, Nat.reduceSub, Nat.reduceBEq]; done)
            · replace hrun := br_f h11 hrun
              refine PW.skip ?_
              refine hN10 [] (d, ([] : List Int), (0 : Int)) _ hrun (by exact trivial) ?_
              (simp only [Env.frzL, Env.frz, frzOb, V.frz, V.frz.frzs, asD, map_asD, sw1, go_sem, ↓reduceIte, Nat.reduceEqDiff, Nat.reduceLT, Nat.reduceLeDiff, Nat.reduceAdd, Nat.reduceMul, Nat.reduceSub, Nat.reduceBEq]; rfl)
          · rintro ⟨d1, want, number⟩ hrun
            try simp only [go_sem, ↓reduceIte, Nat.reduceEqDiff, Nat.reduceLT, Nat.reduceLeDiff, Nat.reduceAdd, Nat.reduceMul, Nat.reduceSub, Nat.reduceBEq]
            refine PW.seq ?_
            refine PW.seq ?_
            obtain ⟨x8, e8, hrun⟩ := bnd_some hrun
            refine PW.regionK fun K hK => ?_
            refine OW.run [1, 3, 88] ?_
            simp (config := { maxSteps := 2000000 }) only [go_sem, ↓reduceIte, Nat.reduceEqDiff, Nat.reduceLT, Nat.reduceLeDiff, Nat.reduceAdd, Nat.reduceMul, Nat.reduceSub, Nat.reduceBEq, Int.reduceToNat, and_assoc, sw0]
            refine OW.callG' (g := (!((x42 != d1) || (x41 != number)))) 4 rfl rfl ?_ (fun hg => rfl) (fun hg => by ((simp only [go_sem, List.toList_toArray, ↓reduceIte, Nat.reduceEqDiff, Nat.reduceLT, Nat.reduceBEq]); exact rfl)) (fun hg => ?_) (fun hg => (base_Ints_ok N _ _ _ (grd_t hg e8))) ?_ ?_ ?_ ?_
            · (simp only [go_sem, ↓reduceIte, Nat.reduceEqDiff, Nat.reduceLT, Nat.reduceLeDiff, Nat.reduceAdd, Nat.reduceMul, Nat.reduceSub, Nat.reduceBEq]; done)
            · rfl
            · exact okD_all rfl
            · exact .inl rfl
            · (simp only [go_sem, Nat.reduceLT])
            refine OW.run [1, 3, 88] ?_
            simp (config := { maxSteps := 2000000 }) only [go_sem, ↓reduceIte, Nat.reduceEqDiff, Nat.reduceLT, Nat.reduceLeDiff, Nat.reduceAdd, Nat.reduceMul, Nat.reduceSub, Nat.reduceBEq, Int.reduceToNat, and_assoc, sw0]
            refine OW.nil (hK _ ?_)
            clear hK K
            change PW _ _ _ _ _
            refine PW.cond rfl (fun h12 => ?_) (fun h12 => ?_)
            · replace hrun := br_t h12 hrun
              refine PW.seq ?_
              refine PW.regionK fun K hK => ?_
              refine OW.run [6] ?_
              simp (config := { maxSteps := 2000000 }) only [go_sem, ↓reduceIte, Nat.reduceEqDiff, Nat.reduceLT, Nat.reduceLeDiff, Nat.reduceAdd, Nat.reduceMul, Nat.reduceSub, Nat.reduceBEq, Int.reduceToNat, and_assoc, sw0]
              refine OW.nil (hK _ ?_)
              clear hK K
              change PW _ _ _ _ _
              refine PW.ret ?_
              change PW.Ends _ _ _ _ _ _
              refine PW.Ends.intro (.inr rfl) ?_
              simp (config := { maxSteps := 2000000 }) only [go_sem, ↓reduceIte, Nat.reduceEqDiff, Nat.reduceLT, Nat.reduceLeDiff, Nat.reduceAdd, Nat.reduceMul, Nat.reduceSub, Nat.reduceBEq, Int.reduceToNat, and_assoc, sw0]
              obtain rfl := Option.some.inj hrun
              refine RetOK.data' 4 (by exact trivial) ?_
              rfl
            · replace hrun := br_f h12 hrun
              refine PW.skip ?_
              change PW _ _ _ _ _
              refine PW.seq ?_
              obtain ⟨x9, e9, hrun⟩ := bnd_some hrun
              obtain ⟨⟨x10, x101⟩, e10, hrun⟩ := bnd_some hrun
              refine PW.drawK 8 mixed (by kernel_rfl) fun K hK => ?_
              change FW _ _ _ _ _
              refine FW.run ?_
              simp (config := { maxSteps := 2000000 }) only [go_sem, ↓reduceIte, Nat.reduceEqDiff, Nat.reduceLT, Nat.reduceLeDiff, Nat.reduceAdd, Nat.reduceMul, Nat.reduceSub, Nat.reduceBEq, Int.reduceToNat, and_assoc, sw0]
              refine FW.call' 4 rfl rfl rfl (by ((simp only [go_sem, List.toList_toArray, ↓reduceIte, Nat.reduceEqDiff, Nat.reduceLT, Nat.reduceBEq]); exact rfl)) ?_ (base_CopyInts_okd N _ _ e9) ?_ ?_ ?_ ?_
              · rfl
              · exact okD_all rfl
              · exact .inl rfl
              · (simp only [go_sem, Nat.reduceLT])
              refine FW.run ?_
              simp (config := { maxSteps := 2000000 }) only [go_sem, ↓reduceIte, Nat.reduceEqDiff, Nat.reduceLT, Nat.reduceLeDiff, Nat.reduceAdd, Nat.reduceMul, Nat.reduceSub, Nat.reduceBEq, Int.reduceToNat, and_assoc, sw0]
              refine FW.call' 4 rfl rfl rfl (by ((simp only [go_sem, List.toList_toArray, ↓reduceIte, Nat.reduceEqDiff, Nat.reduceLT, Nat.reduceBEq]); exact rfl)) ?_ (code_Segments_ok N _ _ _ _ _ e10) ?_ ?_ ?_ ?_
              · rfl
              · (refine okAll_intro ?_; (simp only [go_sem, sw2, List.length_set, List.length_replicate, and_true, true_and, Nat.le_refl, ↓reduceIte, Nat.reduceEqDiff, Nat.reduceLT, Nat.reduceLeDiff, Nat.reduceAdd, Nat.reduceMul, Nat.reduceSub, Nat.reduceBEq]; done))
              · exact .inl rfl
              · (simp only [go_sem, Nat.reduceLT])
              refine FW.run ?_
              simp (config := { maxSteps := 2000000 }) only [go_sem, ↓reduceIte, Nat.reduceEqDiff, Nat.reduceLT, Nat.reduceLeDiff, Nat.reduceAdd, Nat.reduceMul, Nat.reduceSub, Nat.reduceBEq, Int.reduceToNat, and_assoc, sw0]
              refine FW.nil ?_
              change OW _ _ _ _ _ _
              refine OW.run [1, 3, 14, 15] ?_
              simp (config := { maxSteps := 2000000 }) only [go_sem, ↓reduceIte, Nat.reduceEqDiff, Nat.reduceLT, Nat.reduceLeDiff, Nat.reduceAdd, Nat.reduceMul, Nat.reduceSub, Nat.reduceBEq, Int.reduceToNat, and_assoc, sw0]
              refine OW.nil (hK _ ?_)
              clear hK K
              change PW _ _ _ _ _
              refine PW.seq ?_
              obtain ⟨x11, e11, hrun⟩ := bnd_some hrun
              refine PW.regionK fun K hK => ?_
              refine OW.run [1, 3, 11, 14, 15] ?_
              simp (config := { maxSteps := 2000000 }) only [go_sem, ↓reduceIte, Nat.reduceEqDiff, Nat.reduceLT, Nat.reduceLeDiff, Nat.reduceAdd, Nat.reduceMul, Nat.reduceSub, Nat.reduceBEq, Int.reduceToNat, and_assoc, sw0]
              refine OW.call' 4 rfl rfl rfl (by ((simp only [go_sem, List.toList_toArray, ↓reduceIte, Nat.reduceEqDiff, Nat.reduceLT, Nat.reduceBEq]); exact rfl)) ?_ (ref02_RuleErr_ok N _ _ _ _ e11) ?_ ?_ ?_ ?_
              · rfl
              · (refine okAll_intro ?_; (simp only [go_sem, sw2, List.length_set, List.length_replicate, and_true, true_and, Nat.le_refl, ↓reduceIte, Nat.reduceEqDiff, Nat.reduceLT, Nat.reduceLeDiff, Nat.reduceAdd, Nat.reduceMul, Nat.reduceSub, Nat.reduceBEq]; done))
              · exact .inl rfl
              · (simp only [go_sem, Nat.reduceLT])
              refine OW.run [1, 3, 11, 14, 15] ?_
              simp (config := { maxSteps := 2000000 }) only [go_sem, ↓reduceIte, Nat.reduceEqDiff, Nat.reduceLT, Nat.reduceLeDiff, Nat.reduceAdd, Nat.reduceMul, Nat.reduceSub, Nat.reduceBEq, Int.reduceToNat, and_assoc, sw0]
              refine OW.nil (hK _ ?_)
              clear hK K
              change PW _ _ _ _ _
              refine PW.joinS (τ := Int) [1, 3, 11, 14, 15] 1 (fun d2 => [(11, .d (I d2))]) (fun d2 => [{ cells := [.d (I r_Poly_Degree), .d (I r_Poly_Taps), .d (I r_Most)], e := 113 }]) _ _ r (by exact Nat.zero_le _) hrun ?_ ?_
              · intro K_3 hrun N13 hN13
                refine PW.seq ?_
                refine PW.regionK fun K hK => ?_
                refine OW.run [1, 3, 11, 14, 15, 99] ?_
                simp (config := { maxSteps := 2000000 }) only [go_sem, ↓reduceIte, Nat.reduceEqDiff, Nat.reduceLT, Nat.reduceLeDiff, Nat.reduceAdd, Nat.reduceMul, Nat.reduceSub, Nat.reduceBEq, Int.reduceToNat, and_assoc, sw0]
                refine OW.nil (hK _ ?_)
                clear hK K
                change PW _ _ _ _ _
                refine PW.cond rfl (fun h14 => ?_) (fun h14 => ?_)
                · replace hrun := br_t h14 hrun
                  obtain ⟨x12, e12, hrun⟩ := bnd_some hrun
                  refine PW.regionK fun K hK => ?_
                  refine OW.run [1, 3, 11, 14, 15] ?_
                  simp (config := { maxSteps := 2000000 }) only [go_sem, ↓reduceIte, Nat.reduceEqDiff, Nat.reduceLT, Nat.reduceLeDiff, Nat.reduceAdd, Nat.reduceMul, Nat.reduceSub, Nat.reduceBEq, Int.reduceToNat, and_assoc, sw0]
                  refine OW.call' 4 rfl rfl rfl (by ((simp only [go_sem, List.toList_toArray, ↓reduceIte, Nat.reduceEqDiff, Nat.reduceLT, Nat.reduceBEq]); exact rfl)) ?_ (ref02_BitsErr_ok N _ _ e12) ?_ ?_ ?_ ?_
                  · rfl
                  · exact okD_all rfl
                  · exact .inl rfl
                  · (simp only [go_sem, Nat.reduceLT])
                  refine OW.run [1, 3, 11, 14, 15] ?_
                  simp (config := { maxSteps := 2000000 }) only [go_sem, ↓reduceIte, Nat.reduceEqDiff, Nat.reduceLT, Nat.reduceLeDiff, Nat.reduceAdd, Nat.reduceMul, Nat.reduceSub, Nat.reduceBEq, Int.reduceToNat, and_assoc, sw0]
                  refine OW.nil (hK _ ?_)
                  clear hK K
                  refine hN13 [] x12 _ hrun (by exact trivial) ?_
                  (simp only [Env.frzL, Env.frz, frzOb, V.frz, V.frz.frzs, asD, map_asD, sw1, go_sem, ↓reduceIte, Nat.reduceEqDiff, Nat.reduceLT, Nat.reduceLeDiff, Nat.reduceAdd, Nat.reduceMul, Nat.reduceSub, Nat.reduceBEq]; done)
                · replace hrun := br_f h14 hrun
                  refine PW.skip ?_
                  refine hN13 [] x11 _ hrun (by exact trivial) ?_
                  (simp only [Env.frzL, Env.frz, frzOb, V.frz, V.frz.frzs, asD, map_asD, sw1, go_sem, ↓reduceIte, Nat.reduceEqDiff, Nat.reduceLT, Nat.reduceLeDiff, Nat.reduceAdd, Nat.reduceMul, Nat.reduceSub, Nat.reduceBEq]; done)
              · rintro d2 hrun
                try simp only [go_sem, ↓reduceIte, Nat.reduceEqDiff, Nat.reduceLT, Nat.reduceLeDiff, Nat.reduceAdd, Nat.reduceMul, Nat.reduceSub, Nat.reduceBEq]
                refine PW.seq ?_
                refine PW.seq ?_
                refine PW.regionK fun K hK => ?_
                refine OW.run [1, 3, 11, 14, 15, 103] ?_
                simp (config := { maxSteps := 2000000 }) only [go_sem, ↓reduceIte, Nat.reduceEqDiff, Nat.reduceLT, Nat.reduceLeDiff, Nat.reduceAdd, Nat.reduceMul, Nat.reduceSub, Nat.reduceBEq, Int.reduceToNat, and_assoc, sw0]
                refine OW.nil (hK _ ?_)
                clear hK K
                change PW _ _ _ _ _
                refine PW.cond rfl (fun h15 => ?_) (fun h15 => ?_)
                · replace hrun := br_t h15 hrun
                  refine PW.seq ?_
                  refine PW.regionK fun K hK => ?_
                  refine OW.run [6] ?_
                  simp (config := { maxSteps := 2000000 }) only [go_sem, ↓reduceIte, Nat.reduceEqDiff, Nat.reduceLT, Nat.reduceLeDiff, Nat.reduceAdd, Nat.reduceMul, Nat.reduceSub, Nat.reduceBEq, Int.reduceToNat, and_assoc, sw0]
                  refine OW.nil (hK _ ?_)
                  clear hK K
                  change PW _ _ _ _ _
                  refine PW.ret ?_
                  change PW.Ends _ _ _ _ _ _
                  refine PW.Ends.intro (.inr rfl) ?_
                  simp (config := { maxSteps := 2000000 }) only [go_sem, ↓reduceIte, Nat.reduceEqDiff, Nat.reduceLT, Nat.reduceLeDiff, Nat.reduceAdd, Nat.reduceMul, Nat.reduceSub, Nat.reduceBEq, Int.reduceToNat, and_assoc, sw0]
                  obtain rfl := Option.some.inj hrun
                  refine RetOK.data' 4 (by exact trivial) ?_
                  rfl
                · replace hrun := br_f h15 hrun
                  refine PW.skip ?_
                  change PW _ _ _ _ _
                  refine PW.seq ?_
                  refine PW.seq ?_
                  obtain ⟨x13, e13, hrun⟩ := bnd_some hrun
                  obtain ⟨x14, e14, hrun⟩ := bnd_some hrun
                  refine PW.regionK fun K hK => ?_
                  refine OW.run [1, 3, 14, 121] ?_
                  simp (config := { maxSteps := 2000000 }) only [go_sem, ↓reduceIte, Nat.reduceEqDiff, Nat.reduceLT, Nat.reduceLeDiff, Nat.reduceAdd, Nat.reduceMul, Nat.reduceSub, Nat.reduceBEq, Int.reduceToNat, and_assoc, sw0]
                  refine OW.callG' (g := (!(x101 != (0 : Int)))) 4 rfl rfl ?_ (fun hg => rfl) (fun hg => by ((simp only [go_sem, List.toList_toArray, ↓reduceIte, Nat.reduceEqDiff, Nat.reduceLT, Nat.reduceBEq]); exact rfl)) (fun hg => ?_) (fun hg => (ref02_Segments_ok N _ _ _ _ _ (grd_t hg e13))) ?_ ?_ ?_ ?_
                  · (simp only [go_sem, ↓reduceIte, Nat.reduceEqDiff, Nat.reduceLT, Nat.reduceLeDiff, Nat.reduceAdd, Nat.reduceMul, Nat.reduceSub, Nat.reduceBEq]; done)
                  · rfl
                  · (refine okAll_intro ?_; (simp only [go_sem, sw2, List.length_set, List.length_replicate, and_true, true_and, Nat.le_refl, ↓reduceIte, Nat.reduceEqDiff, Nat.reduceLT, Nat.reduceLeDiff, Nat.reduceAdd, Nat.reduceMul, Nat.reduceSub, Nat.reduceBEq]; done))
                  · exact .inl rfl
                  · (simp only [go_sem, Nat.reduceLT])
                  refine OW.run [1, 3, 14, 121] ?_
                  simp (config := { maxSteps := 2000000 }) only [go_sem, ↓reduceIte, Nat.reduceEqDiff, Nat.reduceLT, Nat.reduceLeDiff, Nat.reduceAdd, Nat.reduceMul, Nat.reduceSub, Nat.reduceBEq, Int.reduceToNat, and_assoc, sw0]
                  refine OW.callG' (g := (!(x101 != (0 : Int)))) 4 rfl rfl ?_ (fun hg => rfl) (fun hg => by ((simp only [go_sem, List.toList_toArray, ↓reduceIte, Nat.reduceEqDiff, Nat.reduceLT, Nat.reduceBEq]); exact rfl)) (fun hg => ?_) (fun hg => (base_Lists_ok N _ _ _ (grd_t hg e14))) ?_ ?_ ?_ ?_
                  · (simp only [go_sem, ↓reduceIte, Nat.reduceEqDiff, Nat.reduceLT, Nat.reduceLeDiff, Nat.reduceAdd, Nat.reduceMul, Nat.reduceSub, Nat.reduceBEq]; done)
                  · rfl
                  · exact okD_all rfl
                  · exact .inl rfl
                  · (simp only [go_sem, Nat.reduceLT])
                  refine OW.run [1, 3, 14, 121] ?_
                  simp (config := { maxSteps := 2000000 }) only [go_sem, ↓reduceIte, Nat.reduceEqDiff, Nat.reduceLT, Nat.reduceLeDiff, Nat.reduceAdd, Nat.reduceMul, Nat.reduceSub, Nat.reduceBEq, Int.reduceToNat, and_assoc, sw0]
                  refine OW.nil (hK _ ?_)
                  clear hK K
                  change PW _ _ _ _ _
                  refine PW.cond rfl (fun h16 => ?_) (fun h16 => ?_)
                  · replace hrun := br_t h16 hrun
                    refine PW.seq ?_
                    refine PW.regionK fun K hK => ?_
                    refine OW.run [6] ?_
                    simp (config := { maxSteps := 2000000 }) only [go_sem, ↓reduceIte, Nat.reduceEqDiff, Nat.reduceLT, Nat.reduceLeDiff, Nat.reduceAdd, Nat.reduceMul, Nat.reduceSub, Nat.reduceBEq, Int.reduceToNat, and_assoc, sw0]
                    refine OW.nil (hK _ ?_)
                    clear hK K
                    change PW _ _ _ _ _
                    refine PW.ret ?_
                    change PW.Ends _ _ _ _ _ _
                    refine PW.Ends.intro (.inr rfl) ?_
                    simp (config := { maxSteps := 2000000 }) only [go_sem, ↓reduceIte, Nat.reduceEqDiff, Nat.reduceLT, Nat.reduceLeDiff, Nat.reduceAdd, Nat.reduceMul, Nat.reduceSub, Nat.reduceBEq, Int.reduceToNat, and_assoc, sw0]
                    obtain rfl := Option.some.inj hrun
                    refine RetOK.data' 4 (by exact trivial) ?_
                    rfl
                  · replace hrun := br_f h16 hrun
                    refine PW.skip ?_
                    change PW _ _ _ _ _
                    refine PW.joinS (τ := Unit) [1, 3, 14] 1 (fun _ => []) (fun _ => [{ cells := [.d (I r_Poly_Degree), .d (I r_Poly_Taps), .d (I r_Most)], e := 113 }]) _ _ r (by exact Nat.zero_le _) hrun ?_ ?_
                    · intro K_4 hrun N17 hN17
                      refine PW.seq ?_
                      refine PW.regionK fun K hK => ?_
                      refine OW.run [1, 3, 14, 16] ?_
                      simp (config := { maxSteps := 2000000 }) only [go_sem, ↓reduceIte, Nat.reduceEqDiff, Nat.reduceLT, Nat.reduceLeDiff, Nat.reduceAdd, Nat.reduceMul, Nat.reduceSub, Nat.reduceBEq, Int.reduceToNat, and_assoc, sw0]
                      refine OW.nil (hK _ ?_)
                      clear hK K
                      change PW _ _ _ _ _
                      refine PW.block ?_
                      refine PW.loopS (σ := Int) [1, 3, 14, 16] 1 (fun i1 => [(16, .d (I i1))]) (fun i1 => [{ cells := [.d (I r_Poly_Degree), .d (I r_Poly_Taps), .d (I r_Most)], e := 113 }]) (law02_CodeSegments.b2 N r_Most x10 K_4) r N (0 : Int) (by exact Nat.zero_le _) hrun (by (simp only [Env.frzL, Env.frz, frzOb, V.frz, V.frz.frzs, asD, map_asD, sw1, go_sem, ↓reduceIte, Nat.reduceEqDiff, Nat.reduceLT, Nat.reduceLeDiff, Nat.reduceAdd, Nat.reduceMul, Nat.reduceSub, Nat.reduceBEq]; done)) ?_
                      rintro n i1 hrun N18 hN18
                      unfold law02_CodeSegments.b2 at hrun
                      try simp only [go_sem, ↓reduceIte, Nat.reduceEqDiff, Nat.reduceLT, Nat.reduceLeDiff, Nat.reduceAdd, Nat.reduceMul, Nat.reduceSub, Nat.reduceBEq]
                      refine PW.seq ?_
                      refine PW.seq ?_
                      refine PW.regionK fun K hK => ?_
                      refine OW.run [1, 3, 14, 16, 125] ?_
                      simp (config := { maxSteps := 2000000 }) only [go_sem, ↓reduceIte, Nat.reduceEqDiff, Nat.reduceLT, Nat.reduceLeDiff, Nat.reduceAdd, Nat.reduceMul, Nat.reduceSub, Nat.reduceBEq, Int.reduceToNat, and_assoc, sw0]
                      refine OW.nil (hK _ ?_)
                      clear hK K
                      change PW _ _ _ _ _
                      refine PW.cond rfl (fun h19 => ?_) (fun h19 => ?_)
                      · replace hrun := br_t h19 hrun
                        refine PW.skip ?_
                        change PW _ _ _ _ _
                        refine PW.seq ?_
                        refine PW.block ?_
                        refine PW.seq ?_
                        obtain ⟨c20, hrun⟩ := chk_some hrun
                        obtain ⟨c21, hrun⟩ := chk_some hrun
                        obtain ⟨c22, hrun⟩ := chk_some hrun
                        refine PW.drawK 18 mixed (by kernel_rfl) fun K hK => ?_
                        change FW _ _ _ _ _
                        refine FW.run ?_
                        (simp (config := { maxSteps := 2000000 }) only [go_sem, ↓reduceIte, Nat.reduceEqDiff, Nat.reduceLT, Nat.reduceLeDiff, Nat.reduceAdd, Nat.reduceMul, Nat.reduceSub, Nat.reduceBEq, Int.reduceToNat, and_assoc, sw0, getD_mapF L x10 i1.toNat default (by omega), getD_mapF L x10 0 default (by omega)])
                        repeat (refine And.intro (by first | omega | (intro hg; have hq := c22 hg; first | omega | exact hq | (simp only [List.length_map]; omega)) | (first | omega | assumption | rfl | decide | (simp only [List.length_map, List.length_replicate, List.length_append, List.length_take, List.length_drop, List.length_set, List.length_cons, List.length_nil, Nat.zero_add, Int.toNat_natCast] at *; omega) | (simp only [List.length_map, List.length_replicate, List.length_append, List.length_take, List.length_drop, List.length_set, List.length_cons, List.length_nil, Nat.zero_add, Int.toNat_natCast]; done) | trivial)) ?_)
                        refine FW.nil ?_
                        change OW _ _ _ _ _ _
                        refine OW.run [1, 3, 14, 16, 147] ?_
                        (simp (config := { maxSteps := 2000000 }) only [go_sem, ↓reduceIte, Nat.reduceEqDiff, Nat.reduceLT, Nat.reduceLeDiff, Nat.reduceAdd, Nat.reduceMul, Nat.reduceSub, Nat.reduceBEq, Int.reduceToNat, and_assoc, sw0, getD_mapF L x10 i1.toNat default (by omega), getD_mapF L x10 0 default (by omega)])
                        repeat (refine And.intro (by first | omega | (intro hg; have hq := c22 hg; first | omega | exact hq | (simp only [List.length_map]; omega)) | (first | omega | assumption | rfl | decide | (simp only [List.length_map, List.length_replicate, List.length_append, List.length_take, List.length_drop, List.length_set, List.length_cons, List.length_nil, Nat.zero_add, Int.toNat_natCast] at *; omega) | (simp only [List.length_map, List.length_replicate, List.length_append, List.length_take, List.length_drop, List.length_set, List.length_cons, List.length_nil, Nat.zero_add, Int.toNat_natCast]; done) | trivial)) ?_)
                        refine OW.nil (hK _ ?_)
                        clear hK K
                        change PW _ _ _ _ _
                        refine PW.cond rfl (fun h23 => ?_) (fun h23 => ?_)
                        · replace hrun := br_t h23 hrun
                          refine PW.seq ?_
                          refine PW.regionK fun K hK => ?_
                          refine OW.run [6] ?_
                          simp (config := { maxSteps := 2000000 }) only [go_sem, ↓reduceIte, Nat.reduceEqDiff, Nat.reduceLT, Nat.reduceLeDiff, Nat.reduceAdd, Nat.reduceMul, Nat.reduceSub, Nat.reduceBEq, Int.reduceToNat, and_assoc, sw0]
                          refine OW.nil (hK _ ?_)
                          clear hK K
                          change PW _ _ _ _ _
                          refine PW.ret ?_
                          change PW.Ends _ _ _ _ _ _
                          refine PW.Ends.intro (.inr rfl) ?_
                          simp (config := { maxSteps := 2000000 }) only [go_sem, ↓reduceIte, Nat.reduceEqDiff, Nat.reduceLT, Nat.reduceLeDiff, Nat.reduceAdd, Nat.reduceMul, Nat.reduceSub, Nat.reduceBEq, Int.reduceToNat, and_assoc, sw0]
                          obtain rfl := Option.some.inj hrun
                          refine RetOK.data' 4 (by exact trivial) ?_
                          rfl
                        · replace hrun := br_f h23 hrun
                          refine PW.skip ?_
                          change PW _ _ _ _ _
                          refine PW.regionK fun K hK => ?_
                          refine OW.run [1, 3, 14, 16] ?_
                          simp (config := { maxSteps := 2000000 }) only [go_sem, ↓reduceIte, Nat.reduceEqDiff, Nat.reduceLT, Nat.reduceLeDiff, Nat.reduceAdd, Nat.reduceMul, Nat.reduceSub, Nat.reduceBEq, Int.reduceToNat, and_assoc, sw0]
                          refine OW.nil (hK _ ?_)
                          clear hK K
                          refine hN18 [] (w64 (i1 + (1 : Int))) _ hrun (by exact trivial) ?_
                          (simp only [Env.frzL, Env.frz, frzOb, V.frz, V.frz.frzs, asD, map_asD, sw1, go_sem, ↓reduceIte, Nat.reduceEqDiff, Nat.reduceLT, Nat.reduceLeDiff, Nat.reduceAdd, Nat.reduceMul, Nat.reduceSub, Nat.reduceBEq]; done)
                      · replace hrun := br_f h19 hrun
                        refine PW.exit ?_
                        refine hN17 [] () _ hrun (by exact trivial) ?_
                        (simp only [Env.frzL, Env.frz, frzOb, V.frz, V.frz.frzs, asD, map_asD, sw1, go_sem, ↓reduceIte, Nat.reduceEqDiff, Nat.reduceLT, Nat.reduceLeDiff, Nat.reduceAdd, Nat.reduceMul, Nat.reduceSub, Nat.reduceBEq]; done)
                    · rintro _ hrun
                      try simp only [go_sem, ↓reduceIte, Nat.reduceEqDiff, Nat.reduceLT, Nat.reduceLeDiff, Nat.reduceAdd, Nat.reduceMul, Nat.reduceSub, Nat.reduceBEq]
                      refine PW.seq ?_
                      obtain ⟨x15, e15, hrun⟩ := bnd_some hrun
                      obtain ⟨⟨x16, x161, x162⟩, e16, hrun⟩ := bnd_some hrun
                      refine PW.drawK 12 mixed (by kernel_rfl) fun K hK => ?_
                      change FW _ _ _ _ _
                      refine FW.run ?_
                      simp (config := { maxSteps := 2000000 }) only [go_sem, ↓reduceIte, Nat.reduceEqDiff, Nat.reduceLT, Nat.reduceLeDiff, Nat.reduceAdd, Nat.reduceMul, Nat.reduceSub, Nat.reduceBEq, Int.reduceToNat, and_assoc, sw0]
                      refine FW.call' 4 rfl rfl rfl (by ((simp only [go_sem, List.toList_toArray, ↓reduceIte, Nat.reduceEqDiff, Nat.reduceLT, Nat.reduceBEq]); exact rfl)) ?_ (base_CopyLists_ok N _ _ e15) ?_ ?_ ?_ ?_
                      · rfl
                      · exact okD_all rfl
                      · exact .inl rfl
                      · (simp only [go_sem, Nat.reduceLT])
                      refine FW.run ?_
                      simp (config := { maxSteps := 2000000 }) only [go_sem, ↓reduceIte, Nat.reduceEqDiff, Nat.reduceLT, Nat.reduceLeDiff, Nat.reduceAdd, Nat.reduceMul, Nat.reduceSub, Nat.reduceBEq, Int.reduceToNat, and_assoc, sw0]
                      refine FW.call' 4 rfl rfl rfl (by ((simp only [go_sem, List.toList_toArray, ↓reduceIte, Nat.reduceEqDiff, Nat.reduceLT, Nat.reduceBEq]); exact rfl)) ?_ (code_Joined_ok N _ _ _ _ _ _ e16) ?_ ?_ ?_ ?_
                      · rfl
                      · (refine okAll_intro ?_; (simp only [go_sem, sw2, List.length_set, List.length_replicate, and_true, true_and, Nat.le_refl, ↓reduceIte, Nat.reduceEqDiff, Nat.reduceLT, Nat.reduceLeDiff, Nat.reduceAdd, Nat.reduceMul, Nat.reduceSub, Nat.reduceBEq]; done))
                      · exact .inl rfl
                      · (simp only [go_sem, Nat.reduceLT])
                      refine FW.run ?_
                      simp (config := { maxSteps := 2000000 }) only [go_sem, ↓reduceIte, Nat.reduceEqDiff, Nat.reduceLT, Nat.reduceLeDiff, Nat.reduceAdd, Nat.reduceMul, Nat.reduceSub, Nat.reduceBEq, Int.reduceToNat, and_assoc, sw0]
                      refine FW.nil ?_
                      change OW _ _ _ _ _ _
                      refine OW.run [1, 17, 18, 19] ?_
                      simp (config := { maxSteps := 2000000 }) only [go_sem, ↓reduceIte, Nat.reduceEqDiff, Nat.reduceLT, Nat.reduceLeDiff, Nat.reduceAdd, Nat.reduceMul, Nat.reduceSub, Nat.reduceBEq, Int.reduceToNat, and_assoc, sw0]
                      refine OW.nil (hK _ ?_)
                      clear hK K
                      change PW _ _ _ _ _
                      refine PW.seq ?_
                      obtain ⟨x17, e17, hrun⟩ := bnd_some hrun
                      refine PW.regionK fun K hK => ?_
                      refine OW.run [6] ?_
                      simp (config := { maxSteps := 2000000 }) only [go_sem, ↓reduceIte, Nat.reduceEqDiff, Nat.reduceLT, Nat.reduceLeDiff, Nat.reduceAdd, Nat.reduceMul, Nat.reduceSub, Nat.reduceBEq, Int.reduceToNat, and_assoc, sw0]
                      refine OW.callG' (g := ((x162 == (0 : Int)) && (x161 == (0 : Int)))) 4 rfl rfl ?_ (fun hg => rfl) (fun hg => by ((simp only [go_sem, List.toList_toArray, ↓reduceIte, Nat.reduceEqDiff, Nat.reduceLT, Nat.reduceBEq]); exact rfl)) (fun hg => ?_) (fun hg => (base_Ints_ok N _ _ _ (grd_t hg e17))) ?_ ?_ ?_ ?_
                      · (simp only [go_sem, ↓reduceIte, Nat.reduceEqDiff, Nat.reduceLT, Nat.reduceLeDiff, Nat.reduceAdd, Nat.reduceMul, Nat.reduceSub, Nat.reduceBEq]; done)
                      · rfl
                      · exact okD_all rfl
                      · exact .inl rfl
                      · (simp only [go_sem, Nat.reduceLT])
                      refine OW.run [6] ?_
                      simp (config := { maxSteps := 2000000 }) only [go_sem, ↓reduceIte, Nat.reduceEqDiff, Nat.reduceLT, Nat.reduceLeDiff, Nat.reduceAdd, Nat.reduceMul, Nat.reduceSub, Nat.reduceBEq, Int.reduceToNat, and_assoc, sw0]
                      refine OW.nil (hK _ ?_)
                      clear hK K
                      change PW _ _ _ _ _
                      refine PW.ret ?_
                      change PW.Ends _ _ _ _ _ _
                      refine PW.Ends.intro (.inr rfl) ?_
                      simp (config := { maxSteps := 2000000 }) only [go_sem, ↓reduceIte, Nat.reduceEqDiff, Nat.reduceLT, Nat.reduceLeDiff, Nat.reduceAdd, Nat.reduceMul, Nat.reduceSub, Nat.reduceBEq, Int.reduceToNat, and_assoc, sw0]
                      obtain rfl := Option.some.inj hrun
                      refine RetOK.data' 4 (by exact trivial) ?_
                      rfl

end Go.Proofs.Ytikelkndldaejaa
