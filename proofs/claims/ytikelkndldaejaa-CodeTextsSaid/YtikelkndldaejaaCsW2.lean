import Derived.Test.YtikelkndldaejaaCsW1
set_option linter.all false
namespace Go.Proofs.Ytikelkndldaejaa
open Go.PW Go.Sh
set_option maxRecDepth 20000 in
set_option maxHeartbeats 8000000 in
theorem base_AreBits_ok (N : Nat) (l : List Int) (r : Bool) (hrun : base_AreBits N l = some r) : CallOK Try.prog 25 [(L l)] (.d (Bo r)) [] := by
  refine CallOK.of_PW Try.func25 rfl (by rw [Try.results25]) Try.ntmps25 Try.call25 ?_
  change PW _ _ _ _ _
  try simp only [go_sem, ↓reduceIte, Nat.reduceEqDiff, Nat.reduceLT, Nat.reduceLeDiff, Nat.reduceAdd, Nat.reduceMul, Nat.reduceSub, Nat.reduceBEq]
  unfold base_AreBits at hrun
  refine PW.seq ?_
  refine PW.regionK fun K hK => ?_
  refine OW.run [0] ?_
  simp (config := { maxSteps := 2000000 }) only [go_sem, ↓reduceIte, Nat.reduceEqDiff, Nat.reduceLT, Nat.reduceLeDiff, Nat.reduceAdd, Nat.reduceMul, Nat.reduceSub, Nat.reduceBEq, Int.reduceToNat, and_assoc, sw0]
  refine OW.nil (hK _ ?_)
  clear hK K
  change PW _ _ _ _ _
  refine PW.joinS (τ := Unit) [] 0 (fun _ => []) (fun _ => []) _ _ r (by exact Nat.le_refl _) hrun ?_ ?_
  · intro K_ hrun N1 hN1
    refine PW.seq ?_
    refine PW.regionK fun K hK => ?_
    refine OW.run [0, 3] ?_
    simp (config := { maxSteps := 2000000 }) only [go_sem, ↓reduceIte, Nat.reduceEqDiff, Nat.reduceLT, Nat.reduceLeDiff, Nat.reduceAdd, Nat.reduceMul, Nat.reduceSub, Nat.reduceBEq, Int.reduceToNat, and_assoc, sw0]
    refine OW.nil (hK _ ?_)
    clear hK K
    change PW _ _ _ _ _
    refine PW.block ?_
    refine PW.loopS (σ := Int) [0, 3] 0 (fun i => [(3, .d (I i))]) (fun i => []) (base_AreBits.b1 N l K_) r N (0 : Int) (by exact Nat.le_refl _) hrun (by (simp only [Env.frzL, Env.frz, frzOb, V.frz, V.frz.frzs, asD, map_asD, sw1, go_sem, ↓reduceIte, Nat.reduceEqDiff, Nat.reduceLT, Nat.reduceLeDiff, Nat.reduceAdd, Nat.reduceMul, Nat.reduceSub, Nat.reduceBEq]; done)) ?_
    rintro n i hrun N2 hN2
    unfold base_AreBits.b1 at hrun
    try simp only [go_sem, ↓reduceIte, Nat.reduceEqDiff, Nat.reduceLT, Nat.reduceLeDiff, Nat.reduceAdd, Nat.reduceMul, Nat.reduceSub, Nat.reduceBEq]
    refine PW.seq ?_
    refine PW.seq ?_
    refine PW.regionK fun K hK => ?_
    refine OW.run [0, 3, 7] ?_
    simp (config := { maxSteps := 2000000 }) only [go_sem, ↓reduceIte, Nat.reduceEqDiff, Nat.reduceLT, Nat.reduceLeDiff, Nat.reduceAdd, Nat.reduceMul, Nat.reduceSub, Nat.reduceBEq, Int.reduceToNat, and_assoc, sw0]
    refine OW.nil (hK _ ?_)
    clear hK K
    change PW _ _ _ _ _
    refine PW.cond rfl (fun h3 => ?_) (fun h3 => ?_)
    · replace hrun := br_t h3 hrun
      refine PW.skip ?_
      change PW _ _ _ _ _
      refine PW.seq ?_
      refine PW.block ?_
      refine PW.seq ?_
      obtain ⟨c4, hrun⟩ := chk_some hrun
      obtain ⟨c5, hrun⟩ := chk_some hrun
      refine PW.regionK fun K hK => ?_
      refine OW.run [0, 3, 21] ?_
      simp (config := { maxSteps := 2000000 }) only [go_sem, ↓reduceIte, Nat.reduceEqDiff, Nat.reduceLT, Nat.reduceLeDiff, Nat.reduceAdd, Nat.reduceMul, Nat.reduceSub, Nat.reduceBEq, Int.reduceToNat, and_assoc, sw0]
      repeat (refine And.intro (by first | omega | (intro hg; have hq := c5 hg; first | omega | exact hq | (simp only [List.length_map]; omega)) | (first | omega | assumption | rfl | decide | (simp only [List.length_map, List.length_replicate, List.length_append, List.length_take, List.length_drop, List.length_set, List.length_cons, List.length_nil, Nat.zero_add, Int.toNat_natCast] at *; omega) | (simp only [List.length_map, List.length_replicate, List.length_append, List.length_take, List.length_drop, List.length_set, List.length_cons, List.length_nil, Nat.zero_add, Int.toNat_natCast]; done) | trivial)) ?_)
      refine OW.nil (hK _ ?_)
      clear hK K
      change PW _ _ _ _ _
      refine PW.cond rfl (fun h6 => ?_) (fun h6 => ?_)
      · replace hrun := br_t h6 hrun
        refine PW.seq ?_
        refine PW.regionK fun K hK => ?_
        refine OW.run [2] ?_
        simp (config := { maxSteps := 2000000 }) only [go_sem, ↓reduceIte, Nat.reduceEqDiff, Nat.reduceLT, Nat.reduceLeDiff, Nat.reduceAdd, Nat.reduceMul, Nat.reduceSub, Nat.reduceBEq, Int.reduceToNat, and_assoc, sw0]
        refine OW.nil (hK _ ?_)
        clear hK K
        change PW _ _ _ _ _
        refine PW.ret ?_
        change PW.Ends _ _ _ _ _ _
        refine PW.Ends.intro (.inr rfl) ?_
        simp (config := { maxSteps := 2000000 }) only [go_sem, ↓reduceIte, Nat.reduceEqDiff, Nat.reduceLT, Nat.reduceLeDiff, Nat.reduceAdd, Nat.reduceMul, Nat.reduceSub, Nat.reduceBEq, Int.reduceToNat, and_assoc, sw0]
        obtain rfl := Option.some.inj hrun
        refine RetOK.data' 4 (by exact trivial) ?_
        rfl
      · replace hrun := br_f h6 hrun
        refine PW.skip ?_
        change PW _ _ _ _ _
        refine PW.regionK fun K hK => ?_
        refine OW.run [0, 3] ?_
        simp (config := { maxSteps := 2000000 }) only [go_sem, ↓reduceIte, Nat.reduceEqDiff, Nat.reduceLT, Nat.reduceLeDiff, Nat.reduceAdd, Nat.reduceMul, Nat.reduceSub, Nat.reduceBEq, Int.reduceToNat, and_assoc, sw0]
        refine OW.nil (hK _ ?_)
        clear hK K
        refine hN2 [] (w64 (i + (1 : Int))) _ hrun (by exact trivial) ?_
        (simp only [Env.frzL, Env.frz, frzOb, V.frz, V.frz.frzs, asD, map_asD, sw1, go_sem, ↓reduceIte, Nat.reduceEqDiff, Nat.reduceLT, Nat.reduceLeDiff, Nat.reduceAdd, Nat.reduceMul, Nat.reduceSub, Nat.reduceBEq]; done)
    · replace hrun := br_f h3 hrun
      refine PW.exit ?_
      refine hN1 [] () _ hrun (by exact trivial) ?_
      (simp only [Env.frzL, Env.frz, frzOb, V.frz, V.frz.frzs, asD, map_asD, sw1, go_sem, ↓reduceIte, Nat.reduceEqDiff, Nat.reduceLT, Nat.reduceLeDiff, Nat.reduceAdd, Nat.reduceMul, Nat.reduceSub, Nat.reduceBEq]; done)
  · rintro _ hrun
    try simp only [go_sem, ↓reduceIte, Nat.reduceEqDiff, Nat.reduceLT, Nat.reduceLeDiff, Nat.reduceAdd, Nat.reduceMul, Nat.reduceSub, Nat.reduceBEq]
    refine PW.seq ?_
    refine PW.regionK fun K hK => ?_
    refine OW.run [2] ?_
    simp (config := { maxSteps := 2000000 }) only [go_sem, ↓reduceIte, Nat.reduceEqDiff, Nat.reduceLT, Nat.reduceLeDiff, Nat.reduceAdd, Nat.reduceMul, Nat.reduceSub, Nat.reduceBEq, Int.reduceToNat, and_assoc, sw0]
    refine OW.nil (hK _ ?_)
    clear hK K
    change PW _ _ _ _ _
    refine PW.ret ?_
    change PW.Ends _ _ _ _ _ _
    refine PW.Ends.intro (.inr rfl) ?_
    simp (config := { maxSteps := 2000000 }) only [go_sem, ↓reduceIte, Nat.reduceEqDiff, Nat.reduceLT, Nat.reduceLeDiff, Nat.reduceAdd, Nat.reduceMul, Nat.reduceSub, Nat.reduceBEq, Int.reduceToNat, and_assoc, sw0]
    obtain rfl := Option.some.inj hrun
    refine RetOK.data' 4 (by exact trivial) ?_
    rfl

set_option maxRecDepth 20000 in
set_option maxHeartbeats 8000000 in
theorem base_CopyInts_ok (N : Nat) (l : List Int) (r : List Int) (hrun : base_CopyInts N l = some r) : CallOK Try.prog 24 [(L l)] (.own 0 0 r.length 1) [(r.map I, 3)] := by
  refine CallOK.of_PW Try.func24 rfl (by rw [Try.results24]) Try.ntmps24 Try.call24 ?_
  change PW _ _ _ _ _
  try simp only [go_sem, ↓reduceIte, Nat.reduceEqDiff, Nat.reduceLT, Nat.reduceLeDiff, Nat.reduceAdd, Nat.reduceMul, Nat.reduceSub, Nat.reduceBEq]
  unfold base_CopyInts at hrun
  refine PW.seq ?_
  refine PW.regionK fun K hK => ?_
  refine OW.run [0] ?_
  simp (config := { maxSteps := 2000000 }) only [go_sem, ↓reduceIte, Nat.reduceEqDiff, Nat.reduceLT, Nat.reduceLeDiff, Nat.reduceAdd, Nat.reduceMul, Nat.reduceSub, Nat.reduceBEq, Int.reduceToNat, and_assoc, sw0]
  refine OW.nil (hK _ ?_)
  clear hK K
  change PW _ _ _ _ _
  refine PW.seq ?_
  obtain ⟨c1, hrun⟩ := chk_some hrun
  refine PW.regionK fun K hK => ?_
  refine OW.run [2] ?_
  simp (config := { maxSteps := 2000000 }) only [go_sem, ↓reduceIte, Nat.reduceEqDiff, Nat.reduceLT, Nat.reduceLeDiff, Nat.reduceAdd, Nat.reduceMul, Nat.reduceSub, Nat.reduceBEq, Int.reduceToNat, and_assoc, sw0]
  refine And.intro (by omega) (And.intro (by omega) (And.intro (by omega) ?_))
  refine OW.nil (hK _ ?_)
  clear hK K
  change PW _ _ _ _ _
  refine PW.ret ?_
  change PW.Ends _ _ _ _ _ _
  refine PW.Ends.intro (.inr rfl) ?_
  simp (config := { maxSteps := 2000000 }) only [go_sem, ↓reduceIte, Nat.reduceEqDiff, Nat.reduceLT, Nat.reduceLeDiff, Nat.reduceAdd, Nat.reduceMul, Nat.reduceSub, Nat.reduceBEq, Int.reduceToNat, and_assoc, sw0]
  obtain rfl := Option.some.inj hrun
  refine RetOK.own 0 ((([] : List Int) ++ l).map I) 3 (by first | rfl | (first | (simp only [Env.frzL, Env.frz, frzOb, V.frz, V.frz.frzs, asD, map_asD, sw1, go_sem, ↓reduceIte, Nat.reduceEqDiff, Nat.reduceLT, Nat.reduceLeDiff, Nat.reduceAdd, Nat.reduceMul, Nat.reduceSub, Nat.reduceBEq]; done) | (simp only [Env.frzL, Env.frz, frzOb, V.frz, V.frz.frzs, asD, map_asD, sw1, go_sem, ↓reduceIte, Nat.reduceEqDiff, Nat.reduceLT, Nat.reduceLeDiff, Nat.reduceAdd, Nat.reduceMul, Nat.reduceSub, Nat.reduceBEq]; rfl) | (simp only [Env.frzL, Env.frz, frzOb, V.frz, V.frz.frzs, asD, map_asD, sw1, go_sem, ↓reduceIte, Nat.reduceEqDiff, Nat.reduceLT, Nat.reduceLeDiff, Nat.reduceAdd, Nat.reduceMul, Nat.reduceSub, Nat.reduceBEq]; simp only [List.length_set, List.length_append, List.length_cons, List.length_nil, Nat.zero_add, List.map_set, List.map_append, List.map_cons, List.map_nil]; done) | (simp only [Env.frzL, Env.frz, frzOb, V.frz, V.frz.frzs, asD, map_asD, sw1, go_sem, ↓reduceIte, Nat.reduceEqDiff, Nat.reduceLT, Nat.reduceLeDiff, Nat.reduceAdd, Nat.reduceMul, Nat.reduceSub, Nat.reduceBEq]; simp only [List.length_set, List.length_append, List.length_cons, List.length_nil, Nat.zero_add, List.map_set, List.map_append, List.map_cons, List.map_nil]; simp only [cut_mapD, V.cut]; done) | (simp only [Env.frzL, Env.frz, frzOb, V.frz, V.frz.frzs, asD, map_asD, sw1, go_sem, ↓reduceIte, Nat.reduceEqDiff, Nat.reduceLT, Nat.reduceLeDiff, Nat.reduceAdd, Nat.reduceMul, Nat.reduceSub, Nat.reduceBEq]; simp only [List.length_set, List.length_append, List.length_cons, List.length_nil, Nat.zero_add, List.map_set, List.map_append, List.map_cons, List.map_nil, List.flatMap_append, List.flatMap_cons, List.flatMap_nil, List.append_nil, List.cons_append, List.nil_append]; done) | (simp only [Env.frzL, Env.frz, frzOb, V.frz, V.frz.frzs, asD, map_asD, sw1, go_sem, ↓reduceIte, Nat.reduceEqDiff, Nat.reduceLT, Nat.reduceLeDiff, Nat.reduceAdd, Nat.reduceMul, Nat.reduceSub, Nat.reduceBEq]; simp only [List.length_set, List.length_append, List.length_cons, List.length_nil, Nat.zero_add, List.map_set, List.map_append, List.map_cons, List.map_nil, List.flatMap_append, List.flatMap_cons, List.flatMap_nil, List.append_nil, List.cons_append, List.nil_append]; rfl) | rfl)) ?_
  rfl
theorem base_CopyInts_okd (N : Nat) (l : List Int) (r : List Int) (hrun : base_CopyInts N l = some r) : CallOK Try.prog 24 [(L l)] (.d (L r)) [] := (base_CopyInts_ok N l r hrun).asData (by simp) (by simp only [List.mem_map]; rintro _ ⟨_, _, rfl⟩; rfl)

end Go.Proofs.Ytikelkndldaejaa
