import Derived.Test.YtikelkndldaejaaCsW4
set_option linter.all false
namespace Go.Proofs.Ytikelkndldaejaa
open Go.PW Go.Sh
set_option maxRecDepth 20000 in
set_option maxHeartbeats 8000000 in
theorem base_Has_ok (N : Nat) (l : List Int) (n : Int) (r : Bool) (hrun : base_Has N l n = some r) : CallOK Try.prog 93 [(L l), (I n)] (.d (Bo r)) [] := by
  refine CallOK.of_PW Try.func93 rfl (by rw [Try.results93]) Try.ntmps93 Try.call93 ?_
  change PW _ _ _ _ _
  try simp only [go_sem, ↓reduceIte, Nat.reduceEqDiff, Nat.reduceLT, Nat.reduceLeDiff, Nat.reduceAdd, Nat.reduceMul, Nat.reduceSub, Nat.reduceBEq]
  unfold base_Has at hrun
  refine PW.seq ?_
  refine PW.regionK fun K hK => ?_
  refine OW.run [0, 1] ?_
  simp (config := { maxSteps := 2000000 }) only [go_sem, ↓reduceIte, Nat.reduceEqDiff, Nat.reduceLT, Nat.reduceLeDiff, Nat.reduceAdd, Nat.reduceMul, Nat.reduceSub, Nat.reduceBEq, Int.reduceToNat, and_assoc, sw0]
  refine OW.nil (hK _ ?_)
  clear hK K
  change PW _ _ _ _ _
  refine PW.joinS (τ := Unit) [] 0 (fun _ => []) (fun _ => []) _ _ r (by exact Nat.le_refl _) hrun ?_ ?_
  · intro K_ hrun N1 hN1
    refine PW.seq ?_
    refine PW.regionK fun K hK => ?_
    refine OW.run [0, 1, 5] ?_
    simp (config := { maxSteps := 2000000 }) only [go_sem, ↓reduceIte, Nat.reduceEqDiff, Nat.reduceLT, Nat.reduceLeDiff, Nat.reduceAdd, Nat.reduceMul, Nat.reduceSub, Nat.reduceBEq, Int.reduceToNat, and_assoc, sw0]
    refine OW.nil (hK _ ?_)
    clear hK K
    change PW _ _ _ _ _
    refine PW.block ?_
    refine PW.loopS (σ := Int) [0, 1, 5] 0 (fun i => [(5, .d (I i))]) (fun i => []) (base_Has.b1 N l n K_) r N (0 : Int) (by exact Nat.le_refl _) hrun (by (simp only [Env.frzL, Env.frz, frzOb, V.frz, V.frz.frzs, asD, map_asD, sw1, go_sem, ↓reduceIte, Nat.reduceEqDiff, Nat.reduceLT, Nat.reduceLeDiff, Nat.reduceAdd, Nat.reduceMul, Nat.reduceSub, Nat.reduceBEq]; done)) ?_
    rintro n i hrun N2 hN2
    unfold base_Has.b1 at hrun
    try simp only [go_sem, ↓reduceIte, Nat.reduceEqDiff, Nat.reduceLT, Nat.reduceLeDiff, Nat.reduceAdd, Nat.reduceMul, Nat.reduceSub, Nat.reduceBEq]
    refine PW.seq ?_
    refine PW.seq ?_
    refine PW.regionK fun K hK => ?_
    refine OW.run [0, 1, 5, 9] ?_
    simp (config := { maxSteps := 2000000 }) only [go_sem, ↓reduceIte, Nat.reduceEqDiff, Nat.reduceLT, Nat.reduceLeDiff, Nat.reduceAdd, Nat.reduceMul, Nat.reduceSub, Nat.reduceBEq, Int.reduceToNat, and_assoc, sw0]
    refine OW.nil (hK _ ?_)
    clear hK K
    change PW _ _ _ _ _
    refine PW.cond rfl (fun h3 => ?_) (fun h3 => ?_)
    · replace hrun := br_t h3 hrun
      refine PW.skip ?_
      change PW _ _ _ _ _
      refine PW.seq ?_
      refine PW.block ?_
      refine PW.seq ?_
      obtain ⟨c4, hrun⟩ := chk_some hrun
      refine PW.regionK fun K hK => ?_
      refine OW.run [0, 1, 5, 17] ?_
      simp (config := { maxSteps := 2000000 }) only [go_sem, ↓reduceIte, Nat.reduceEqDiff, Nat.reduceLT, Nat.reduceLeDiff, Nat.reduceAdd, Nat.reduceMul, Nat.reduceSub, Nat.reduceBEq, Int.reduceToNat, and_assoc, sw0]
      refine And.intro (by omega) (And.intro (by omega) (And.intro (by omega) (And.intro (by omega) ?_)))
      refine OW.nil (hK _ ?_)
      clear hK K
      change PW _ _ _ _ _
      refine PW.cond rfl (fun h5 => ?_) (fun h5 => ?_)
      · replace hrun := br_t h5 hrun
        refine PW.seq ?_
        refine PW.regionK fun K hK => ?_
        refine OW.run [4] ?_
        simp (config := { maxSteps := 2000000 }) only [go_sem, ↓reduceIte, Nat.reduceEqDiff, Nat.reduceLT, Nat.reduceLeDiff, Nat.reduceAdd, Nat.reduceMul, Nat.reduceSub, Nat.reduceBEq, Int.reduceToNat, and_assoc, sw0]
        refine OW.nil (hK _ ?_)
        clear hK K
        change PW _ _ _ _ _
        refine PW.ret ?_
        change PW.Ends _ _ _ _ _ _
        refine PW.Ends.intro (.inr rfl) ?_
        simp (config := { maxSteps := 2000000 }) only [go_sem, ↓reduceIte, Nat.reduceEqDiff, Nat.reduceLT, Nat.reduceLeDiff, Nat.reduceAdd, Nat.reduceMul, Nat.reduceSub, Nat.reduceBEq, Int.reduceToNat, and_assoc, sw0]
        obtain rfl := Option.some.inj hrun
        refine RetOK.data' 4 (by exact trivial) ?_
        rfl
      · replace hrun := br_f h5 hrun
        refine PW.skip ?_
        change PW _ _ _ _ _
        refine PW.regionK fun K hK => ?_
        refine OW.run [0, 1, 5] ?_
        simp (config := { maxSteps := 2000000 }) only [go_sem, ↓reduceIte, Nat.reduceEqDiff, Nat.reduceLT, Nat.reduceLeDiff, Nat.reduceAdd, Nat.reduceMul, Nat.reduceSub, Nat.reduceBEq, Int.reduceToNat, and_assoc, sw0]
        refine OW.nil (hK _ ?_)
        clear hK K
        refine hN2 [] (w64 (i + (1 : Int))) _ hrun (by exact trivial) ?_
        (simp only [Env.frzL, Env.frz, frzOb, V.frz, V.frz.frzs, asD, map_asD, sw1, go_sem, ↓reduceIte, Nat.reduceEqDiff, Nat.reduceLT, Nat.reduceLeDiff, Nat.reduceAdd, Nat.reduceMul, Nat.reduceSub, Nat.reduceBEq]; done)
    · replace hrun := br_f h3 hrun
      refine PW.exit ?_
      refine hN1 [] () _ hrun (by exact trivial) ?_
      (simp only [Env.frzL, Env.frz, frzOb, V.frz, V.frz.frzs, asD, map_asD, sw1, go_sem, ↓reduceIte, Nat.reduceEqDiff, Nat.reduceLT, Nat.reduceLeDiff, Nat.reduceAdd, Nat.reduceMul, Nat.reduceSub, Nat.reduceBEq]; done)
  · rintro _ hrun
    try simp only [go_sem, ↓reduceIte, Nat.reduceEqDiff, Nat.reduceLT, Nat.reduceLeDiff, Nat.reduceAdd, Nat.reduceMul, Nat.reduceSub, Nat.reduceBEq]
    refine PW.seq ?_
    refine PW.regionK fun K hK => ?_
    refine OW.run [4] ?_
    simp (config := { maxSteps := 2000000 }) only [go_sem, ↓reduceIte, Nat.reduceEqDiff, Nat.reduceLT, Nat.reduceLeDiff, Nat.reduceAdd, Nat.reduceMul, Nat.reduceSub, Nat.reduceBEq, Int.reduceToNat, and_assoc, sw0]
    refine OW.nil (hK _ ?_)
    clear hK K
    change PW _ _ _ _ _
    refine PW.ret ?_
    change PW.Ends _ _ _ _ _ _
    refine PW.Ends.intro (.inr rfl) ?_
    simp (config := { maxSteps := 2000000 }) only [go_sem, ↓reduceIte, Nat.reduceEqDiff, Nat.reduceLT, Nat.reduceLeDiff, Nat.reduceAdd, Nat.reduceMul, Nat.reduceSub, Nat.reduceBEq, Int.reduceToNat, and_assoc, sw0]
    obtain rfl := Option.some.inj hrun
    refine RetOK.data' 4 (by exact trivial) ?_
    rfl

set_option maxRecDepth 20000 in
set_option maxHeartbeats 8000000 in
theorem ref02_sign_ok (N : Nat) (n : Int) (r : Int) (hrun : ref02_sign N n = some r) : CallOK Try.prog 173 [(I n)] (.d (I r)) [] := by
  refine CallOK.of_PW Try.func173 rfl (by rw [Try.results173]) Try.ntmps173 Try.call173 ?_
  change PW _ _ _ _ _
  try simp only [go_sem, ↓reduceIte, Nat.reduceEqDiff, Nat.reduceLT, Nat.reduceLeDiff, Nat.reduceAdd, Nat.reduceMul, Nat.reduceSub, Nat.reduceBEq]
  unfold ref02_sign at hrun
  refine PW.seq ?_
  refine PW.regionK fun K hK => ?_
  refine OW.run [0] ?_
  simp (config := { maxSteps := 2000000 }) only [go_sem, ↓reduceIte, Nat.reduceEqDiff, Nat.reduceLT, Nat.reduceLeDiff, Nat.reduceAdd, Nat.reduceMul, Nat.reduceSub, Nat.reduceBEq, Int.reduceToNat, and_assoc, sw0]
  refine OW.nil (hK _ ?_)
  clear hK K
  change PW _ _ _ _ _
  refine PW.seq ?_
  refine PW.regionK fun K hK => ?_
  refine OW.run [2] ?_
  simp (config := { maxSteps := 2000000 }) only [go_sem, ↓reduceIte, Nat.reduceEqDiff, Nat.reduceLT, Nat.reduceLeDiff, Nat.reduceAdd, Nat.reduceMul, Nat.reduceSub, Nat.reduceBEq, Int.reduceToNat, and_assoc, sw0]
  refine OW.nil (hK _ ?_)
  clear hK K
  change PW _ _ _ _ _
  refine PW.ret ?_
  change PW.Ends _ _ _ _ _ _
  refine PW.Ends.intro (.inr rfl) ?_
  simp (config := { maxSteps := 2000000 }) only [go_sem, ↓reduceIte, Nat.reduceEqDiff, Nat.reduceLT, Nat.reduceLeDiff, Nat.reduceAdd, Nat.reduceMul, Nat.reduceSub, Nat.reduceBEq, Int.reduceToNat, and_assoc, sw0]
  obtain rfl := Option.some.inj hrun
  refine RetOK.data' 4 (by exact trivial) ?_
  rfl

set_option maxRecDepth 20000 in
set_option maxHeartbeats 8000000 in
theorem base_Size_ok (N : Nat) (n : Int) (r : Int) (hrun : base_Size N n = some r) : CallOK Try.prog 174 [(I n)] (.d (I r)) [] := by
  refine CallOK.of_PW Try.func174 rfl (by rw [Try.results174]) Try.ntmps174 Try.call174 ?_
  change PW _ _ _ _ _
  try simp only [go_sem, ↓reduceIte, Nat.reduceEqDiff, Nat.reduceLT, Nat.reduceLeDiff, Nat.reduceAdd, Nat.reduceMul, Nat.reduceSub, Nat.reduceBEq]
  unfold base_Size at hrun
  refine PW.seq ?_
  refine PW.regionK fun K hK => ?_
  refine OW.run [0] ?_
  simp (config := { maxSteps := 2000000 }) only [go_sem, ↓reduceIte, Nat.reduceEqDiff, Nat.reduceLT, Nat.reduceLeDiff, Nat.reduceAdd, Nat.reduceMul, Nat.reduceSub, Nat.reduceBEq, Int.reduceToNat, and_assoc, sw0]
  refine OW.nil (hK _ ?_)
  clear hK K
  change PW _ _ _ _ _
  refine PW.seq ?_
  refine PW.regionK fun K hK => ?_
  refine OW.run [2] ?_
  simp (config := { maxSteps := 2000000 }) only [go_sem, ↓reduceIte, Nat.reduceEqDiff, Nat.reduceLT, Nat.reduceLeDiff, Nat.reduceAdd, Nat.reduceMul, Nat.reduceSub, Nat.reduceBEq, Int.reduceToNat, and_assoc, sw0]
  refine OW.nil (hK _ ?_)
  clear hK K
  change PW _ _ _ _ _
  refine PW.ret ?_
  change PW.Ends _ _ _ _ _ _
  refine PW.Ends.intro (.inr rfl) ?_
  simp (config := { maxSteps := 2000000 }) only [go_sem, ↓reduceIte, Nat.reduceEqDiff, Nat.reduceLT, Nat.reduceLeDiff, Nat.reduceAdd, Nat.reduceMul, Nat.reduceSub, Nat.reduceBEq, Int.reduceToNat, and_assoc, sw0]
  obtain rfl := Option.some.inj hrun
  refine RetOK.data' 4 (by exact trivial) ?_
  rfl

set_option maxRecDepth 20000 in
set_option maxHeartbeats 8000000 in
theorem ref02_cancel_okr (N : Nat)  : ∀ (n : Nat) (c_Power : Int) (c_Info : List Int) (first : Int) (soft : List Int) (r : List Int), rds (ref02_cancel.b N ) n (c_Power, c_Info, first, soft) = some r → CallOK Try.prog 155 [(.agg [(I c_Power), (L c_Info)]), (I first), (L soft)] (.own 0 0 r.length 1) [(r.map I, 3)] := by
  intro n
  induction n with
  | zero => intro _ _ _ _ _ h; cases h
  | succ n ih =>
    intro c_Power c_Info first soft r hrun
    generalize hself : rds (ref02_cancel.b N ) n = self_ at ih
    rw [rds_succ] at hrun
    rw [hself] at hrun
    clear hself
    refine CallOK.of_PW Try.func155 rfl (by rw [Try.results155]) Try.ntmps155 Try.call155 ?_
    change PW _ _ _ _ _
    try simp only [go_sem, ↓reduceIte, Nat.reduceEqDiff, Nat.reduceLT, Nat.reduceLeDiff, Nat.reduceAdd, Nat.reduceMul, Nat.reduceSub, Nat.reduceBEq]
    unfold ref02_cancel.b at hrun
    try simp only [go_sem, ↓reduceIte, Nat.reduceEqDiff, Nat.reduceLT, Nat.reduceLeDiff, Nat.reduceAdd, Nat.reduceMul, Nat.reduceSub, Nat.reduceBEq]
    refine PW.seq ?_
    refine PW.regionK fun K hK => ?_
    refine OW.run [1, 2, 3] ?_
    simp (config := { maxSteps := 2000000 }) only [go_sem, ↓reduceIte, Nat.reduceEqDiff, Nat.reduceLT, Nat.reduceLeDiff, Nat.reduceAdd, Nat.reduceMul, Nat.reduceSub, Nat.reduceBEq, Int.reduceToNat, and_assoc, sw0]
    refine OW.nil (hK _ ?_)
    clear hK K
    change PW _ _ _ _ _
    refine PW.seq ?_
    refine PW.seq ?_
    refine PW.regionK fun K hK => ?_
    refine OW.run [1, 2, 3, 18] ?_
    simp (config := { maxSteps := 2000000 }) only [go_sem, ↓reduceIte, Nat.reduceEqDiff, Nat.reduceLT, Nat.reduceLeDiff, Nat.reduceAdd, Nat.reduceMul, Nat.reduceSub, Nat.reduceBEq, Int.reduceToNat, and_assoc, sw0]
    refine OW.nil (hK _ ?_)
    clear hK K
    change PW _ _ _ _ _
    refine PW.cond rfl (fun h1 => ?_) (fun h1 => ?_)
    · replace hrun := br_t h1 hrun
      refine PW.seq ?_
      refine PW.seq ?_
      obtain ⟨x1, e1, hrun⟩ := bnd_some hrun
      obtain ⟨c2, hrun⟩ := chk_some hrun
      refine PW.regionK fun K hK => ?_
      refine OW.run [28] ?_
      simp (config := { maxSteps := 2000000 }) only [go_sem, ↓reduceIte, Nat.reduceEqDiff, Nat.reduceLT, Nat.reduceLeDiff, Nat.reduceAdd, Nat.reduceMul, Nat.reduceSub, Nat.reduceBEq, Int.reduceToNat, and_assoc, sw0]
      repeat (refine And.intro (by first | omega | (intro hg; have hq := c2 hg; first | omega | exact hq | (simp only [List.length_map]; omega)) | (first | omega | assumption | rfl | decide | (simp only [List.length_map, List.length_replicate, List.length_append, List.length_take, List.length_drop, List.length_set, List.length_cons, List.length_nil, Nat.zero_add, Int.toNat_natCast] at *; omega) | trivial)) ?_)
      refine OW.call' 4 rfl rfl rfl (by ((simp only [go_sem, List.toList_toArray, ↓reduceIte, Nat.reduceEqDiff, Nat.reduceLT, Nat.reduceBEq]); exact rfl)) ?_ (base_Has_ok N _ _ _ e1) ?_ ?_ ?_ ?_
      · rfl
      · exact okD_all rfl
      · exact .inl rfl
      · (simp only [go_sem, Nat.reduceLT])
      refine OW.run [28] ?_
      simp (config := { maxSteps := 2000000 }) only [go_sem, ↓reduceIte, Nat.reduceEqDiff, Nat.reduceLT, Nat.reduceLeDiff, Nat.reduceAdd, Nat.reduceMul, Nat.reduceSub, Nat.reduceBEq, Int.reduceToNat, and_assoc, sw0]
      repeat (refine And.intro (by first | omega | (intro hg; have hq := c2 hg; first | omega | exact hq | (simp only [List.length_map]; omega)) | (first | omega | assumption | rfl | decide | (simp only [List.length_map, List.length_replicate, List.length_append, List.length_take, List.length_drop, List.length_set, List.length_cons, List.length_nil, Nat.zero_add, Int.toNat_natCast] at *; omega) | trivial)) ?_)
      refine OW.nil (hK _ ?_)
      clear hK K
      change PW _ _ _ _ _
      refine PW.cond rfl (fun h3 => ?_) (fun h3 => ?_)
      · replace hrun := br_t h3 hrun
        refine PW.seq ?_
        refine PW.regionK fun K hK => ?_
        refine OW.run [6] ?_
        simp (config := { maxSteps := 2000000 }) only [go_sem, ↓reduceIte, Nat.reduceEqDiff, Nat.reduceLT, Nat.reduceLeDiff, Nat.reduceAdd, Nat.reduceMul, Nat.reduceSub, Nat.reduceBEq, Int.reduceToNat, and_assoc, sw0]
        refine OW.nil (hK _ ?_)
        clear hK K
        change PW _ _ _ _ _
        refine PW.ret ?_
        change PW.Ends _ _ _ _ _ _
        refine PW.Ends.intro (.inr rfl) ?_
        simp (config := { maxSteps := 2000000 }) only [go_sem, ↓reduceIte, Nat.reduceEqDiff, Nat.reduceLT, Nat.reduceLeDiff, Nat.reduceAdd, Nat.reduceMul, Nat.reduceSub, Nat.reduceBEq, Int.reduceToNat, and_assoc, sw0]
        obtain rfl := Option.some.inj hrun
        refine RetOK.own 1 (([(1 : Int)] : List Int).map I) 3 (by first | rfl | (first | (simp only [Env.frzL, Env.frz, frzOb, V.frz, V.frz.frzs, asD, map_asD, sw1, go_sem, ↓reduceIte, Nat.reduceEqDiff, Nat.reduceLT, Nat.reduceLeDiff, Nat.reduceAdd, Nat.reduceMul, Nat.reduceSub, Nat.reduceBEq]; done) | (simp only [Env.frzL, Env.frz, frzOb, V.frz, V.frz.frzs, asD, map_asD, sw1, go_sem, ↓reduceIte, Nat.reduceEqDiff, Nat.reduceLT, Nat.reduceLeDiff, Nat.reduceAdd, Nat.reduceMul, Nat.reduceSub, Nat.reduceBEq]; rfl) | (simp only [Env.frzL, Env.frz, frzOb, V.frz, V.frz.frzs, asD, map_asD, sw1, go_sem, ↓reduceIte, Nat.reduceEqDiff, Nat.reduceLT, Nat.reduceLeDiff, Nat.reduceAdd, Nat.reduceMul, Nat.reduceSub, Nat.reduceBEq]; simp only [List.length_set, List.length_append, List.length_cons, List.length_nil, Nat.zero_add, List.map_set, List.map_append, List.map_cons, List.map_nil]; done) | (simp only [Env.frzL, Env.frz, frzOb, V.frz, V.frz.frzs, asD, map_asD, sw1, go_sem, ↓reduceIte, Nat.reduceEqDiff, Nat.reduceLT, Nat.reduceLeDiff, Nat.reduceAdd, Nat.reduceMul, Nat.reduceSub, Nat.reduceBEq]; simp only [List.length_set, List.length_append, List.length_cons, List.length_nil, Nat.zero_add, List.map_set, List.map_append, List.map_cons, List.map_nil]; simp only [cut_mapD, V.cut]; done) | (simp only [Env.frzL, Env.frz, frzOb, V.frz, V.frz.frzs, asD, map_asD, sw1, go_sem, ↓reduceIte, Nat.reduceEqDiff, Nat.reduceLT, Nat.reduceLeDiff, Nat.reduceAdd, Nat.reduceMul, Nat.reduceSub, Nat.reduceBEq]; simp only [List.length_set, List.length_append, List.length_cons, List.length_nil, Nat.zero_add, List.map_set, List.map_append, List.map_cons, List.map_nil, List.flatMap_append, List.flatMap_cons, List.flatMap_nil, List.append_nil, List.cons_append, List.nil_append]; done) | (simp only [Env.frzL, Env.frz, frzOb, V.frz, V.frz.frzs, asD, map_asD, sw1, go_sem, ↓reduceIte, Nat.reduceEqDiff, Nat.reduceLT, Nat.reduceLeDiff, Nat.reduceAdd, Nat.reduceMul, Nat.reduceSub, Nat.reduceBEq]; simp only [List.length_set, List.length_append, List.length_cons, List.length_nil, Nat.zero_add, List.map_set, List.map_append, List.map_cons, List.map_nil, List.flatMap_append, List.flatMap_cons, List.flatMap_nil, List.append_nil, List.cons_append, List.nil_append]; rfl) | rfl)) ?_
        rfl
      · replace hrun := br_f h3 hrun
        refine PW.skip ?_
        change PW _ _ _ _ _
        refine PW.seq ?_
        refine PW.regionK fun K hK => ?_
        refine OW.run [6] ?_
        simp (config := { maxSteps := 2000000 }) only [go_sem, ↓reduceIte, Nat.reduceEqDiff, Nat.reduceLT, Nat.reduceLeDiff, Nat.reduceAdd, Nat.reduceMul, Nat.reduceSub, Nat.reduceBEq, Int.reduceToNat, and_assoc, sw0]
        refine OW.nil (hK _ ?_)
        clear hK K
        change PW _ _ _ _ _
        refine PW.ret ?_
        change PW.Ends _ _ _ _ _ _
        refine PW.Ends.intro (.inr rfl) ?_
        simp (config := { maxSteps := 2000000 }) only [go_sem, ↓reduceIte, Nat.reduceEqDiff, Nat.reduceLT, Nat.reduceLeDiff, Nat.reduceAdd, Nat.reduceMul, Nat.reduceSub, Nat.reduceBEq, Int.reduceToNat, and_assoc, sw0]
        obtain rfl := Option.some.inj hrun
        refine RetOK.own 1 (([(0 : Int)] : List Int).map I) 3 (by first | rfl | (first | (simp only [Env.frzL, Env.frz, frzOb, V.frz, V.frz.frzs, asD, map_asD, sw1, go_sem, ↓reduceIte, Nat.reduceEqDiff, Nat.reduceLT, Nat.reduceLeDiff, Nat.reduceAdd, Nat.reduceMul, Nat.reduceSub, Nat.reduceBEq]; done) | (simp only [Env.frzL, Env.frz, frzOb, V.frz, V.frz.frzs, asD, map_asD, sw1, go_sem, ↓reduceIte, Nat.reduceEqDiff, Nat.reduceLT, Nat.reduceLeDiff, Nat.reduceAdd, Nat.reduceMul, Nat.reduceSub, Nat.reduceBEq]; rfl) | (simp only [Env.frzL, Env.frz, frzOb, V.frz, V.frz.frzs, asD, map_asD, sw1, go_sem, ↓reduceIte, Nat.reduceEqDiff, Nat.reduceLT, Nat.reduceLeDiff, Nat.reduceAdd, Nat.reduceMul, Nat.reduceSub, Nat.reduceBEq]; simp only [List.length_set, List.length_append, List.length_cons, List.length_nil, Nat.zero_add, List.map_set, List.map_append, List.map_cons, List.map_nil]; done) | (simp only [Env.frzL, Env.frz, frzOb, V.frz, V.frz.frzs, asD, map_asD, sw1, go_sem, ↓reduceIte, Nat.reduceEqDiff, Nat.reduceLT, Nat.reduceLeDiff, Nat.reduceAdd, Nat.reduceMul, Nat.reduceSub, Nat.reduceBEq]; simp only [List.length_set, List.length_append, List.length_cons, List.length_nil, Nat.zero_add, List.map_set, List.map_append, List.map_cons, List.map_nil]; simp only [cut_mapD, V.cut]; done) | (simp only [Env.frzL, Env.frz, frzOb, V.frz, V.frz.frzs, asD, map_asD, sw1, go_sem, ↓reduceIte, Nat.reduceEqDiff, Nat.reduceLT, Nat.reduceLeDiff, Nat.reduceAdd, Nat.reduceMul, Nat.reduceSub, Nat.reduceBEq]; simp only [List.length_set, List.length_append, List.length_cons, List.length_nil, Nat.zero_add, List.map_set, List.map_append, List.map_cons, List.map_nil, List.flatMap_append, List.flatMap_cons, List.flatMap_nil, List.append_nil, List.cons_append, List.nil_append]; done) | (simp only [Env.frzL, Env.frz, frzOb, V.frz, V.frz.frzs, asD, map_asD, sw1, go_sem, ↓reduceIte, Nat.reduceEqDiff, Nat.reduceLT, Nat.reduceLeDiff, Nat.reduceAdd, Nat.reduceMul, Nat.reduceSub, Nat.reduceBEq]; simp only [List.length_set, List.length_append, List.length_cons, List.length_nil, Nat.zero_add, List.map_set, List.map_append, List.map_cons, List.map_nil, List.flatMap_append, List.flatMap_cons, List.flatMap_nil, List.append_nil, List.cons_append, List.nil_append]; rfl) | rfl)) ?_
        rfl
    · replace hrun := br_f h1 hrun
      refine PW.skip ?_
      change PW _ _ _ _ _
      refine PW.seq ?_
      refine PW.regionK fun K hK => ?_
      refine OW.run [1, 2, 3, 7] ?_
      simp (config := { maxSteps := 2000000 }) only [go_sem, ↓reduceIte, Nat.reduceEqDiff, Nat.reduceLT, Nat.reduceLeDiff, Nat.reduceAdd, Nat.reduceMul, Nat.reduceSub, Nat.reduceBEq, Int.reduceToNat, and_assoc, sw0]
      refine And.intro (by omega) ?_
      refine OW.nil (hK _ ?_)
      clear hK K
      change PW _ _ _ _ _
      refine PW.seq ?_
      refine PW.regionK fun K hK => ?_
      refine OW.run [1, 2, 3, 7, 8] ?_
      simp (config := { maxSteps := 2000000 }) only [go_sem, ↓reduceIte, Nat.reduceEqDiff, Nat.reduceLT, Nat.reduceLeDiff, Nat.reduceAdd, Nat.reduceMul, Nat.reduceSub, Nat.reduceBEq, Int.reduceToNat, and_assoc, sw0]
      refine OW.nil (hK _ ?_)
      clear hK K
      change PW _ _ _ _ _
      refine PW.joinS (τ := List Int) [1, 2, 3, 7, 8] 2 (fun b1 => [(8, .own 1 0 b1.length 1)]) (fun b1 => [{ cells := [.d (I c_Power), .d (L c_Info)], e := 24 }, { cells := (b1.map I).map .d, e := 3 }]) _ _ r (by exact Nat.zero_le _) hrun ?_ ?_
      · intro K_ hrun N4 hN4
        refine PW.seq ?_
        refine PW.regionK fun K hK => ?_
        refine OW.run [1, 2, 3, 7, 8, 9] ?_
        simp (config := { maxSteps := 2000000 }) only [go_sem, ↓reduceIte, Nat.reduceEqDiff, Nat.reduceLT, Nat.reduceLeDiff, Nat.reduceAdd, Nat.reduceMul, Nat.reduceSub, Nat.reduceBEq, Int.reduceToNat, and_assoc, sw0]
        refine OW.nil (hK _ ?_)
        clear hK K
        change PW _ _ _ _ _
        refine PW.block ?_
        refine PW.virt 8 3 1 rfl ?_
        try simp only [go_sem, ↓reduceIte, Nat.reduceEqDiff, Nat.reduceLT, Nat.reduceLeDiff, Nat.reduceAdd, Nat.reduceMul, Nat.reduceSub, Nat.reduceBEq]
        refine PW.loopS (σ := Int × List Int) [1, 2, 3, 7, 8, 9] 2 (fun (k, b11) => [(8, .own 1 0 b11.length 1), (9, .d (I k))]) (fun (k, b11) => [{ cells := [.d (I c_Power), .d (L c_Info)], e := 24 }, { cells := (b11.map I).map .d, e := 3 }]) (ref02_cancel.b1 N soft K_) r N ((0 : Int), ([] : List Int)) (by exact Nat.zero_le _) hrun (by (simp only [Env.frzL, Env.frz, frzOb, V.frz, V.frz.frzs, asD, map_asD, sw1, go_sem, ↓reduceIte, Nat.reduceEqDiff, Nat.reduceLT, Nat.reduceLeDiff, Nat.reduceAdd, Nat.reduceMul, Nat.reduceSub, Nat.reduceBEq]; done)) ?_
        rintro n ⟨k, b11⟩ hrun N5 hN5
        unfold ref02_cancel.b1 at hrun
        try simp only [go_sem, ↓reduceIte, Nat.reduceEqDiff, Nat.reduceLT, Nat.reduceLeDiff, Nat.reduceAdd, Nat.reduceMul, Nat.reduceSub, Nat.reduceBEq]
        refine PW.seq ?_
        refine PW.seq ?_
        refine PW.regionK fun K hK => ?_
        refine OW.run [1, 2, 3, 7, 8, 9, 36] ?_
        simp (config := { maxSteps := 2000000 }) only [go_sem, ↓reduceIte, Nat.reduceEqDiff, Nat.reduceLT, Nat.reduceLeDiff, Nat.reduceAdd, Nat.reduceMul, Nat.reduceSub, Nat.reduceBEq, Int.reduceToNat, and_assoc, sw0]
        refine OW.nil (hK _ ?_)
        clear hK K
        change PW _ _ _ _ _
        refine PW.cond rfl (fun h6 => ?_) (fun h6 => ?_)
        · replace hrun := br_t h6 hrun
          refine PW.skip ?_
          change PW _ _ _ _ _
          refine PW.seq ?_
          refine PW.block ?_
          refine PW.seq ?_
          obtain ⟨c7, hrun⟩ := chk_some hrun
          obtain ⟨c8, hrun⟩ := chk_some hrun
          refine PW.drawK 11 mixed (by kernel_rfl) fun K hK => ?_
          change FW _ _ _ _ _
          refine FW.run ?_
          simp (config := { maxSteps := 2000000 }) only [go_sem, ↓reduceIte, Nat.reduceEqDiff, Nat.reduceLT, Nat.reduceLeDiff, Nat.reduceAdd, Nat.reduceMul, Nat.reduceSub, Nat.reduceBEq, Int.reduceToNat, and_assoc, sw0]
          refine And.intro (by omega) (And.intro (by omega) (And.intro (by omega) (And.intro (by omega) (And.intro (by omega) (And.intro (by omega) (And.intro (by omega) (And.intro (by omega) ?_)))))))
          refine FW.nil ?_
          change OW _ _ _ _ _ _
          refine OW.run [1, 2, 3, 7, 8, 9, 10, 11] ?_
          simp (config := { maxSteps := 2000000 }) only [go_sem, ↓reduceIte, Nat.reduceEqDiff, Nat.reduceLT, Nat.reduceLeDiff, Nat.reduceAdd, Nat.reduceMul, Nat.reduceSub, Nat.reduceBEq, Int.reduceToNat, and_assoc, sw0]
          refine OW.nil (hK _ ?_)
          clear hK K
          change PW _ _ _ _ _
          obtain ⟨x2, e2, hrun⟩ := bnd_some hrun
          obtain ⟨x3, e3, hrun⟩ := bnd_some hrun
          obtain ⟨x4, e4, hrun⟩ := bnd_some hrun
          obtain ⟨x5, e5, hrun⟩ := bnd_some hrun
          obtain ⟨c9, hrun⟩ := chk_some hrun
          refine PW.regionK fun K hK => ?_
          refine OW.run [1, 2, 3, 7, 8, 9] ?_
          simp (config := { maxSteps := 2000000 }) only [go_sem, ↓reduceIte, Nat.reduceEqDiff, Nat.reduceLT, Nat.reduceLeDiff, Nat.reduceAdd, Nat.reduceMul, Nat.reduceSub, Nat.reduceBEq, Int.reduceToNat, and_assoc, sw0]
          refine OW.call' 4 rfl rfl rfl (by ((simp only [go_sem, List.toList_toArray, ↓reduceIte, Nat.reduceEqDiff, Nat.reduceLT, Nat.reduceBEq]); exact rfl)) ?_ (ref02_sign_ok N _ _ e2) ?_ ?_ ?_ ?_
          · rfl
          · exact okD_all rfl
          · exact .inl rfl
          · (simp only [go_sem, Nat.reduceLT])
          refine OW.run [1, 2, 3, 7, 8, 9] ?_
          simp (config := { maxSteps := 2000000 }) only [go_sem, ↓reduceIte, Nat.reduceEqDiff, Nat.reduceLT, Nat.reduceLeDiff, Nat.reduceAdd, Nat.reduceMul, Nat.reduceSub, Nat.reduceBEq, Int.reduceToNat, and_assoc, sw0]
          refine OW.call' 4 rfl rfl rfl (by ((simp only [go_sem, List.toList_toArray, ↓reduceIte, Nat.reduceEqDiff, Nat.reduceLT, Nat.reduceBEq]); exact rfl)) ?_ (ref02_sign_ok N _ _ e3) ?_ ?_ ?_ ?_
          · rfl
          · exact okD_all rfl
          · exact .inl rfl
          · (simp only [go_sem, Nat.reduceLT])
          refine OW.run [1, 2, 3, 7, 8, 9] ?_
          simp (config := { maxSteps := 2000000 }) only [go_sem, ↓reduceIte, Nat.reduceEqDiff, Nat.reduceLT, Nat.reduceLeDiff, Nat.reduceAdd, Nat.reduceMul, Nat.reduceSub, Nat.reduceBEq, Int.reduceToNat, and_assoc, sw0]
          refine OW.call' 4 rfl rfl rfl (by ((simp only [go_sem, List.toList_toArray, ↓reduceIte, Nat.reduceEqDiff, Nat.reduceLT, Nat.reduceBEq]); exact rfl)) ?_ (base_Size_ok N _ _ e4) ?_ ?_ ?_ ?_
          · rfl
          · exact okD_all rfl
          · exact .inl rfl
          · (simp only [go_sem, Nat.reduceLT])
          refine OW.run [1, 2, 3, 7, 8, 9] ?_
          simp (config := { maxSteps := 2000000 }) only [go_sem, ↓reduceIte, Nat.reduceEqDiff, Nat.reduceLT, Nat.reduceLeDiff, Nat.reduceAdd, Nat.reduceMul, Nat.reduceSub, Nat.reduceBEq, Int.reduceToNat, and_assoc, sw0]
          refine OW.call' 4 rfl rfl rfl (by ((simp only [go_sem, List.toList_toArray, ↓reduceIte, Nat.reduceEqDiff, Nat.reduceLT, Nat.reduceBEq]); exact rfl)) ?_ (base_Size_ok N _ _ e5) ?_ ?_ ?_ ?_
          · rfl
          · exact okD_all rfl
          · exact .inl rfl
          · (simp only [go_sem, Nat.reduceLT])
          refine OW.run [1, 2, 3, 7, 8, 9] ?_
          simp (config := { maxSteps := 2000000 }) only [go_sem, ↓reduceIte, Nat.reduceEqDiff, Nat.reduceLT, Nat.reduceLeDiff, Nat.reduceAdd, Nat.reduceMul, Nat.reduceSub, Nat.reduceBEq, Int.reduceToNat, and_assoc, sw0]
          refine And.intro (by omega) (And.intro (by omega) (And.intro (by omega) ?_))
          refine OW.nil (hK _ ?_)
          clear hK K
          change PW _ _ _ _ _
          refine PW.regionK fun K hK => ?_
          refine OW.run [1, 2, 3, 7, 8, 9] ?_
          simp (config := { maxSteps := 2000000 }) only [go_sem, ↓reduceIte, Nat.reduceEqDiff, Nat.reduceLT, Nat.reduceLeDiff, Nat.reduceAdd, Nat.reduceMul, Nat.reduceSub, Nat.reduceBEq, Int.reduceToNat, and_assoc, sw0]
          refine OW.nil (hK _ ?_)
          clear hK K
          refine hN5 [] (w64 (k + (1 : Int)), (b11 ++ ([w64 ((w64 (x2 * x3)) * (if x5 < x4 then x5 else x4))] : List Int))) _ hrun (by exact trivial) ?_
          (simp only [Env.frzL, Env.frz, frzOb, V.frz, V.frz.frzs, asD, map_asD, sw1, go_sem, ↓reduceIte, Nat.reduceEqDiff, Nat.reduceLT, Nat.reduceLeDiff, Nat.reduceAdd, Nat.reduceMul, Nat.reduceSub, Nat.reduceBEq]; done)
        · replace hrun := br_f h6 hrun
          refine PW.exit ?_
          refine hN4 [] b11 _ hrun (by exact trivial) ?_
          (simp only [Env.frzL, Env.frz, frzOb, V.frz, V.frz.frzs, asD, map_asD, sw1, go_sem, ↓reduceIte, Nat.reduceEqDiff, Nat.reduceLT, Nat.reduceLeDiff, Nat.reduceAdd, Nat.reduceMul, Nat.reduceSub, Nat.reduceBEq]; done)
      · rintro b1 hrun
        try simp only [go_sem, ↓reduceIte, Nat.reduceEqDiff, Nat.reduceLT, Nat.reduceLeDiff, Nat.reduceAdd, Nat.reduceMul, Nat.reduceSub, Nat.reduceBEq]
        refine PW.seq ?_
        obtain ⟨x6, e6, hrun⟩ := bnd_some hrun
        refine PW.regionK fun K hK => ?_
        refine OW.run [1, 2, 3, 7, 12] ?_
        simp (config := { maxSteps := 2000000 }) only [go_sem, ↓reduceIte, Nat.reduceEqDiff, Nat.reduceLT, Nat.reduceLeDiff, Nat.reduceAdd, Nat.reduceMul, Nat.reduceSub, Nat.reduceBEq, Int.reduceToNat, and_assoc, sw0]
        refine OW.call' 4 rfl rfl rfl (by ((simp only [go_sem, List.toList_toArray, ↓reduceIte, Nat.reduceEqDiff, Nat.reduceLT, Nat.reduceBEq]); exact rfl)) ?_ (ih _ _ _ _ _ e6) ?_ ?_ ?_ ?_
        · (((simp only [go_sem, sw1, ↓reduceIte, Nat.reduceEqDiff, Nat.reduceLT, Nat.reduceLeDiff, Nat.reduceAdd, Nat.reduceMul, Nat.reduceSub, Nat.reduceBEq]; try simp only [seg, go_sem, ↓reduceIte, Nat.reduceEqDiff, Nat.reduceLT, Nat.reduceLeDiff, Nat.reduceAdd, Nat.reduceMul, Nat.reduceSub, Nat.reduceBEq])); done)
        · (refine okAll_intro ?_; (simp only [go_sem, sw2, List.length_set, List.length_replicate, and_true, true_and, Nat.le_refl, ↓reduceIte, Nat.reduceEqDiff, Nat.reduceLT, Nat.reduceLeDiff, Nat.reduceAdd, Nat.reduceMul, Nat.reduceSub, Nat.reduceBEq]; done))
        · exact .inr ⟨rfl, by simp only [List.all_cons, List.all_nil, all_isValD_I, Bool.and_self]⟩
        · (simp only [go_sem, Nat.reduceLT])
        refine OW.run [1, 2, 3, 7, 12] ?_
        simp (config := { maxSteps := 2000000 }) only [go_sem, ↓reduceIte, Nat.reduceEqDiff, Nat.reduceLT, Nat.reduceLeDiff, Nat.reduceAdd, Nat.reduceMul, Nat.reduceSub, Nat.reduceBEq, Int.reduceToNat, and_assoc, sw0]
        refine OW.nil (hK _ ?_)
        clear hK K
        change PW _ _ _ _ _
        refine PW.seq ?_
        obtain ⟨x7, e7, hrun⟩ := bnd_some hrun
        refine PW.regionK fun K hK => ?_
        refine OW.run [1, 2, 3, 7, 12, 13] ?_
        simp (config := { maxSteps := 2000000 }) only [go_sem, ↓reduceIte, Nat.reduceEqDiff, Nat.reduceLT, Nat.reduceLeDiff, Nat.reduceAdd, Nat.reduceMul, Nat.reduceSub, Nat.reduceBEq, Int.reduceToNat, and_assoc, sw0]
        refine OW.call' 4 rfl rfl rfl (by ((simp only [go_sem, List.toList_toArray, ↓reduceIte, Nat.reduceEqDiff, Nat.reduceLT, Nat.reduceBEq]); exact rfl)) ?_ (ref02_word_ok N _ _ e7) ?_ ?_ ?_ ?_
        · (((simp only [go_sem, sw1, ↓reduceIte, Nat.reduceEqDiff, Nat.reduceLT, Nat.reduceLeDiff, Nat.reduceAdd, Nat.reduceMul, Nat.reduceSub, Nat.reduceBEq]; try simp only [seg, go_sem, ↓reduceIte, Nat.reduceEqDiff, Nat.reduceLT, Nat.reduceLeDiff, Nat.reduceAdd, Nat.reduceMul, Nat.reduceSub, Nat.reduceBEq])); done)
        · (refine okAll_intro ?_; (simp only [go_sem, sw2, List.length_set, List.length_replicate, and_true, true_and, Nat.le_refl, ↓reduceIte, Nat.reduceEqDiff, Nat.reduceLT, Nat.reduceLeDiff, Nat.reduceAdd, Nat.reduceMul, Nat.reduceSub, Nat.reduceBEq]; done))
        · exact .inr ⟨rfl, by simp only [List.all_cons, List.all_nil, all_isValD_I, Bool.and_self]⟩
        · (simp only [go_sem, Nat.reduceLT])
        refine OW.run [1, 2, 3, 7, 12, 13] ?_
        simp (config := { maxSteps := 2000000 }) only [go_sem, ↓reduceIte, Nat.reduceEqDiff, Nat.reduceLT, Nat.reduceLeDiff, Nat.reduceAdd, Nat.reduceMul, Nat.reduceSub, Nat.reduceBEq, Int.reduceToNat, and_assoc, sw0]
        refine OW.nil (hK _ ?_)
        clear hK K
        change PW _ _ _ _ _
        refine PW.seq ?_
        refine PW.regionK fun K hK => ?_
        refine OW.run [1, 2, 3, 7, 12, 13, 14] ?_
        simp (config := { maxSteps := 2000000 }) only [go_sem, ↓reduceIte, Nat.reduceEqDiff, Nat.reduceLT, Nat.reduceLeDiff, Nat.reduceAdd, Nat.reduceMul, Nat.reduceSub, Nat.reduceBEq, Int.reduceToNat, and_assoc, sw0]
        refine OW.nil (hK _ ?_)
        clear hK K
        change PW _ _ _ _ _
        refine PW.joinS (τ := List Int) [1, 3, 7, 12, 14] 5 (fun b4 => [(14, .own 4 0 b4.length 1)]) (fun b4 => [{ cells := [.d (I c_Power), .d (L c_Info)], e := 24 }, { cells := (b1.map I).map .d, e := 3 }, { cells := (x6.map I).map .d, e := 3 }, { cells := (x7.map I).map .d, e := 3 }, { cells := (b4.map I).map .d, e := 3 }]) _ _ r (by exact Nat.zero_le _) hrun ?_ ?_
        · intro K_1 hrun N10 hN10
          refine PW.seq ?_
          refine PW.regionK fun K hK => ?_
          refine OW.run [1, 2, 3, 7, 12, 13, 14, 15] ?_
          simp (config := { maxSteps := 2000000 }) only [go_sem, ↓reduceIte, Nat.reduceEqDiff, Nat.reduceLT, Nat.reduceLeDiff, Nat.reduceAdd, Nat.reduceMul, Nat.reduceSub, Nat.reduceBEq, Int.reduceToNat, and_assoc, sw0]
          refine OW.nil (hK _ ?_)
          clear hK K
          change PW _ _ _ _ _
          refine PW.block ?_
          refine PW.virt 14 3 1 rfl ?_
          try simp only [go_sem, ↓reduceIte, Nat.reduceEqDiff, Nat.reduceLT, Nat.reduceLeDiff, Nat.reduceAdd, Nat.reduceMul, Nat.reduceSub, Nat.reduceBEq]
          refine PW.loopS (σ := Int × List Int) [1, 2, 3, 7, 12, 13, 14, 15] 5 (fun (k1, b41) => [(14, .own 4 0 b41.length 1), (15, .d (I k1))]) (fun (k1, b41) => [{ cells := [.d (I c_Power), .d (L c_Info)], e := 24 }, { cells := (b1.map I).map .d, e := 3 }, { cells := (x6.map I).map .d, e := 3 }, { cells := (x7.map I).map .d, e := 3 }, { cells := (b41.map I).map .d, e := 3 }]) (ref02_cancel.b2 N soft x7 K_1) r N ((0 : Int), ([] : List Int)) (by exact Nat.zero_le _) hrun (by (simp only [Env.frzL, Env.frz, frzOb, V.frz, V.frz.frzs, asD, map_asD, sw1, go_sem, ↓reduceIte, Nat.reduceEqDiff, Nat.reduceLT, Nat.reduceLeDiff, Nat.reduceAdd, Nat.reduceMul, Nat.reduceSub, Nat.reduceBEq]; done)) ?_
          rintro n ⟨k1, b41⟩ hrun N11 hN11
          unfold ref02_cancel.b2 at hrun
          try simp only [go_sem, ↓reduceIte, Nat.reduceEqDiff, Nat.reduceLT, Nat.reduceLeDiff, Nat.reduceAdd, Nat.reduceMul, Nat.reduceSub, Nat.reduceBEq]
          refine PW.seq ?_
          refine PW.seq ?_
          refine PW.regionK fun K hK => ?_
          refine OW.run [1, 2, 3, 7, 12, 13, 14, 15, 71] ?_
          simp (config := { maxSteps := 2000000 }) only [go_sem, ↓reduceIte, Nat.reduceEqDiff, Nat.reduceLT, Nat.reduceLeDiff, Nat.reduceAdd, Nat.reduceMul, Nat.reduceSub, Nat.reduceBEq, Int.reduceToNat, and_assoc, sw0]
          refine OW.nil (hK _ ?_)
          clear hK K
          change PW _ _ _ _ _
          refine PW.cond rfl (fun h12 => ?_) (fun h12 => ?_)
          · replace hrun := br_t h12 hrun
            refine PW.skip ?_
            change PW _ _ _ _ _
            refine PW.seq ?_
            refine PW.block ?_
            obtain ⟨c13, hrun⟩ := chk_some hrun
            obtain ⟨c14, hrun⟩ := chk_some hrun
            obtain ⟨c15, hrun⟩ := chk_some hrun
            obtain ⟨c16, hrun⟩ := chk_some hrun
            refine PW.drawK 20 mixed (by kernel_rfl) fun K hK => ?_
            change FW _ _ _ _ _
            refine FW.run ?_
            simp (config := { maxSteps := 2000000 }) only [go_sem, ↓reduceIte, Nat.reduceEqDiff, Nat.reduceLT, Nat.reduceLeDiff, Nat.reduceAdd, Nat.reduceMul, Nat.reduceSub, Nat.reduceBEq, Int.reduceToNat, and_assoc, sw0]
            refine And.intro (by omega) (And.intro (by omega) (And.intro (by omega) (And.intro (by omega) (And.intro (by omega) (And.intro (by omega) (And.intro (by omega) (And.intro (by omega) (And.intro (by omega) (And.intro (by omega) (And.intro (by omega) ?_))))))))))
            refine FW.nil ?_
            change OW _ _ _ _ _ _
            refine OW.run [1, 2, 3, 7, 12, 13, 14, 15] ?_
            simp (config := { maxSteps := 2000000 }) only [go_sem, ↓reduceIte, Nat.reduceEqDiff, Nat.reduceLT, Nat.reduceLeDiff, Nat.reduceAdd, Nat.reduceMul, Nat.reduceSub, Nat.reduceBEq, Int.reduceToNat, and_assoc, sw0]
            refine And.intro (by omega) (And.intro (by omega) (And.intro (by omega) ?_))
            refine OW.nil (hK _ ?_)
            clear hK K
            change PW _ _ _ _ _
            refine PW.regionK fun K hK => ?_
            refine OW.run [1, 2, 3, 7, 12, 13, 14, 15] ?_
            simp (config := { maxSteps := 2000000 }) only [go_sem, ↓reduceIte, Nat.reduceEqDiff, Nat.reduceLT, Nat.reduceLeDiff, Nat.reduceAdd, Nat.reduceMul, Nat.reduceSub, Nat.reduceBEq, Int.reduceToNat, and_assoc, sw0]
            refine OW.nil (hK _ ?_)
            clear hK K
            refine hN11 [] (w64 (k1 + (1 : Int)), (b41 ++ ([w64 ((soft.getD ((w64 ((w64 ((soft.length : Int).tdiv (2 : Int))) + k1)).toNat) 0) + (w64 ((w64 ((1 : Int) - (w64 ((2 : Int) * (x7.getD k1.toNat 0))))) * (soft.getD k1.toNat 0))))] : List Int))) _ hrun (by exact trivial) ?_
            (simp only [Env.frzL, Env.frz, frzOb, V.frz, V.frz.frzs, asD, map_asD, sw1, go_sem, ↓reduceIte, Nat.reduceEqDiff, Nat.reduceLT, Nat.reduceLeDiff, Nat.reduceAdd, Nat.reduceMul, Nat.reduceSub, Nat.reduceBEq]; done)
          · replace hrun := br_f h12 hrun
            refine PW.exit ?_
            refine hN10 [] b41 _ hrun (by exact trivial) ?_
            (simp only [Env.frzL, Env.frz, frzOb, V.frz, V.frz.frzs, asD, map_asD, sw1, go_sem, ↓reduceIte, Nat.reduceEqDiff, Nat.reduceLT, Nat.reduceLeDiff, Nat.reduceAdd, Nat.reduceMul, Nat.reduceSub, Nat.reduceBEq]; done)
        · rintro b4 hrun
          try simp only [go_sem, ↓reduceIte, Nat.reduceEqDiff, Nat.reduceLT, Nat.reduceLeDiff, Nat.reduceAdd, Nat.reduceMul, Nat.reduceSub, Nat.reduceBEq]
          refine PW.seq ?_
          obtain ⟨x8, e8, hrun⟩ := bnd_some hrun
          obtain ⟨c17, hrun⟩ := chk_some hrun
          refine PW.regionK fun K hK => ?_
          refine OW.run [6] ?_
          simp (config := { maxSteps := 2000000 }) only [go_sem, ↓reduceIte, Nat.reduceEqDiff, Nat.reduceLT, Nat.reduceLeDiff, Nat.reduceAdd, Nat.reduceMul, Nat.reduceSub, Nat.reduceBEq, Int.reduceToNat, and_assoc, sw0]
          refine OW.call' 4 rfl rfl rfl (by ((simp only [go_sem, List.toList_toArray, ↓reduceIte, Nat.reduceEqDiff, Nat.reduceLT, Nat.reduceBEq]); exact rfl)) ?_ (ih _ _ _ _ _ e8) ?_ ?_ ?_ ?_
          · (((simp only [go_sem, sw1, ↓reduceIte, Nat.reduceEqDiff, Nat.reduceLT, Nat.reduceLeDiff, Nat.reduceAdd, Nat.reduceMul, Nat.reduceSub, Nat.reduceBEq]; try simp only [seg, go_sem, ↓reduceIte, Nat.reduceEqDiff, Nat.reduceLT, Nat.reduceLeDiff, Nat.reduceAdd, Nat.reduceMul, Nat.reduceSub, Nat.reduceBEq])); done)
          · (refine okAll_intro ?_; (simp only [go_sem, sw2, List.length_set, List.length_replicate, and_true, true_and, Nat.le_refl, ↓reduceIte, Nat.reduceEqDiff, Nat.reduceLT, Nat.reduceLeDiff, Nat.reduceAdd, Nat.reduceMul, Nat.reduceSub, Nat.reduceBEq]; done))
          · exact .inr ⟨rfl, by simp only [List.all_cons, List.all_nil, all_isValD_I, Bool.and_self]⟩
          · (simp only [go_sem, Nat.reduceLT])
          refine OW.run [6] ?_
          simp (config := { maxSteps := 2000000 }) only [go_sem, ↓reduceIte, Nat.reduceEqDiff, Nat.reduceLT, Nat.reduceLeDiff, Nat.reduceAdd, Nat.reduceMul, Nat.reduceSub, Nat.reduceBEq, Int.reduceToNat, and_assoc, sw0]
          refine And.intro (by omega) (And.intro (by omega) (And.intro (by omega) (And.intro (by omega) ?_)))
          refine OW.nil (hK _ ?_)
          clear hK K
          change PW _ _ _ _ _
          refine PW.ret ?_
          change PW.Ends _ _ _ _ _ _
          refine PW.Ends.intro (.inr rfl) ?_
          simp (config := { maxSteps := 2000000 }) only [go_sem, ↓reduceIte, Nat.reduceEqDiff, Nat.reduceLT, Nat.reduceLeDiff, Nat.reduceAdd, Nat.reduceMul, Nat.reduceSub, Nat.reduceBEq, Int.reduceToNat, and_assoc, sw0]
          obtain rfl := Option.some.inj hrun
          refine RetOK.own 2 ((x6 ++ x8).map I) 3 (by first | rfl | (simp only [Env.frzL, Env.frz, frzOb, V.frz, V.frz.frzs, asD, map_asD, sw1, go_sem, ↓reduceIte, Nat.reduceEqDiff, Nat.reduceLT, Nat.reduceLeDiff, Nat.reduceAdd, Nat.reduceMul, Nat.reduceSub, Nat.reduceBEq]; done)) ?_
          (simp only [ren, ↓reduceIte, List.length_replicate, List.length_set, List.length_append, List.length_cons, List.length_nil, Nat.reduceAdd]; done)
theorem ref02_cancel_ok (N : Nat) (c_Power : Int) (c_Info : List Int) (first : Int) (soft : List Int) (r : List Int) (hrun : ref02_cancel N c_Power c_Info first soft = some r) : CallOK Try.prog 155 [(.agg [(I c_Power), (L c_Info)]), (I first), (L soft)] (.own 0 0 r.length 1) [(r.map I, 3)] := ref02_cancel_okr N  N c_Power c_Info first soft r hrun

set_option maxRecDepth 20000 in
set_option maxHeartbeats 8000000 in
theorem ref02_Decode_ok (N : Nat) (c_Power : Int) (c_Info : List Int) (soft : List Int) (r : List Int) (hrun : ref02_Decode N c_Power c_Info soft = some r) : CallOK Try.prog 123 [(.agg [(I c_Power), (L c_Info)]), (L soft)] (.d (L r)) [] := by
  refine CallOK.of_PW Try.func123 rfl (by rw [Try.results123]) Try.ntmps123 Try.call123 ?_
  change PW _ _ _ _ _
  try simp only [go_sem, ↓reduceIte, Nat.reduceEqDiff, Nat.reduceLT, Nat.reduceLeDiff, Nat.reduceAdd, Nat.reduceMul, Nat.reduceSub, Nat.reduceBEq]
  unfold ref02_Decode at hrun
  refine PW.seq ?_
  refine PW.regionK fun K hK => ?_
  refine OW.run [1, 2] ?_
  simp (config := { maxSteps := 2000000 }) only [go_sem, ↓reduceIte, Nat.reduceEqDiff, Nat.reduceLT, Nat.reduceLeDiff, Nat.reduceAdd, Nat.reduceMul, Nat.reduceSub, Nat.reduceBEq, Int.reduceToNat, and_assoc, sw0]
  refine OW.nil (hK _ ?_)
  clear hK K
  change PW _ _ _ _ _
  refine PW.seq ?_
  obtain ⟨x1, e1, hrun⟩ := bnd_some hrun
  refine PW.regionK fun K hK => ?_
  refine OW.run [2, 5] ?_
  simp (config := { maxSteps := 2000000 }) only [go_sem, ↓reduceIte, Nat.reduceEqDiff, Nat.reduceLT, Nat.reduceLeDiff, Nat.reduceAdd, Nat.reduceMul, Nat.reduceSub, Nat.reduceBEq, Int.reduceToNat, and_assoc, sw0]
  refine OW.call' 4 rfl rfl rfl (by ((simp only [go_sem, List.toList_toArray, ↓reduceIte, Nat.reduceEqDiff, Nat.reduceLT, Nat.reduceBEq]); exact rfl)) ?_ (ref02_cancel_ok N _ _ _ _ _ e1) ?_ ?_ ?_ ?_
  · rfl
  · (refine okAll_intro ?_; (simp only [go_sem, sw2, List.length_set, List.length_replicate, and_true, true_and, Nat.le_refl, ↓reduceIte, Nat.reduceEqDiff, Nat.reduceLT, Nat.reduceLeDiff, Nat.reduceAdd, Nat.reduceMul, Nat.reduceSub, Nat.reduceBEq]; done))
  · exact .inl rfl
  · (simp only [go_sem, Nat.reduceLT])
  refine OW.run [2, 5] ?_
  simp (config := { maxSteps := 2000000 }) only [go_sem, ↓reduceIte, Nat.reduceEqDiff, Nat.reduceLT, Nat.reduceLeDiff, Nat.reduceAdd, Nat.reduceMul, Nat.reduceSub, Nat.reduceBEq, Int.reduceToNat, and_assoc, sw0]
  refine OW.nil (hK _ ?_)
  clear hK K
  change PW _ _ _ _ _
  refine PW.seq ?_
  refine PW.regionK fun K hK => ?_
  refine OW.run [2, 5, 6] ?_
  simp (config := { maxSteps := 2000000 }) only [go_sem, ↓reduceIte, Nat.reduceEqDiff, Nat.reduceLT, Nat.reduceLeDiff, Nat.reduceAdd, Nat.reduceMul, Nat.reduceSub, Nat.reduceBEq, Int.reduceToNat, and_assoc, sw0]
  refine OW.nil (hK _ ?_)
  clear hK K
  change PW _ _ _ _ _
  refine PW.joinS (τ := List Int) [6] 3 (fun b2 => [(6, .own 2 0 b2.length 1)]) (fun b2 => [{ cells := [.d (I c_Power), .d (L c_Info)], e := 24 }, { cells := (x1.map I).map .d, e := 3 }, { cells := (b2.map I).map .d, e := 3 }]) _ _ r (by exact Nat.zero_le _) hrun ?_ ?_
  · intro K_ hrun N1 hN1
    refine PW.seq ?_
    refine PW.regionK fun K hK => ?_
    refine OW.run [2, 5, 6, 7] ?_
    simp (config := { maxSteps := 2000000 }) only [go_sem, ↓reduceIte, Nat.reduceEqDiff, Nat.reduceLT, Nat.reduceLeDiff, Nat.reduceAdd, Nat.reduceMul, Nat.reduceSub, Nat.reduceBEq, Int.reduceToNat, and_assoc, sw0]
    refine OW.nil (hK _ ?_)
    clear hK K
    change PW _ _ _ _ _
    refine PW.block ?_
    refine PW.virt 6 3 1 rfl ?_
    try simp only [go_sem, ↓reduceIte, Nat.reduceEqDiff, Nat.reduceLT, Nat.reduceLeDiff, Nat.reduceAdd, Nat.reduceMul, Nat.reduceSub, Nat.reduceBEq]
    refine PW.loopS (σ := Int × List Int) [2, 5, 6, 7] 3 (fun (i, b21) => [(6, .own 2 0 b21.length 1), (7, .d (I i))]) (fun (i, b21) => [{ cells := [.d (I c_Power), .d (L c_Info)], e := 24 }, { cells := (x1.map I).map .d, e := 3 }, { cells := (b21.map I).map .d, e := 3 }]) (ref02_Decode.b1 N c_Info x1 K_) r N ((0 : Int), ([] : List Int)) (by exact Nat.zero_le _) hrun (by (simp only [Env.frzL, Env.frz, frzOb, V.frz, V.frz.frzs, asD, map_asD, sw1, go_sem, ↓reduceIte, Nat.reduceEqDiff, Nat.reduceLT, Nat.reduceLeDiff, Nat.reduceAdd, Nat.reduceMul, Nat.reduceSub, Nat.reduceBEq]; done)) ?_
    rintro n ⟨i, b21⟩ hrun N2 hN2
    unfold ref02_Decode.b1 at hrun
    try simp only [go_sem, ↓reduceIte, Nat.reduceEqDiff, Nat.reduceLT, Nat.reduceLeDiff, Nat.reduceAdd, Nat.reduceMul, Nat.reduceSub, Nat.reduceBEq]
    refine PW.seq ?_
    refine PW.seq ?_
    refine PW.regionK fun K hK => ?_
    refine OW.run [2, 5, 6, 7, 15] ?_
    simp (config := { maxSteps := 2000000 }) only [go_sem, ↓reduceIte, Nat.reduceEqDiff, Nat.reduceLT, Nat.reduceLeDiff, Nat.reduceAdd, Nat.reduceMul, Nat.reduceSub, Nat.reduceBEq, Int.reduceToNat, and_assoc, sw0]
    refine And.intro (by omega) ?_
    refine OW.nil (hK _ ?_)
    clear hK K
    change PW _ _ _ _ _
    refine PW.cond rfl (fun h3 => ?_) (fun h3 => ?_)
    · replace hrun := br_t h3 hrun
      refine PW.skip ?_
      change PW _ _ _ _ _
      refine PW.seq ?_
      refine PW.block ?_
      obtain ⟨c4, hrun⟩ := chk_some hrun
      obtain ⟨c5, hrun⟩ := chk_some hrun
      obtain ⟨c6, hrun⟩ := chk_some hrun
      refine PW.regionK fun K hK => ?_
      refine OW.run [2, 5, 6, 7] ?_
      simp (config := { maxSteps := 2000000 }) only [go_sem, ↓reduceIte, Nat.reduceEqDiff, Nat.reduceLT, Nat.reduceLeDiff, Nat.reduceAdd, Nat.reduceMul, Nat.reduceSub, Nat.reduceBEq, Int.reduceToNat, and_assoc, sw0]
      refine And.intro (by omega) (And.intro (by omega) (And.intro (by omega) (And.intro (by omega) (And.intro (by omega) (And.intro (by omega) (And.intro (by omega) (And.intro (by omega) (And.intro (by omega) (And.intro (by omega) (And.intro (by omega) ?_))))))))))
      refine OW.nil (hK _ ?_)
      clear hK K
      change PW _ _ _ _ _
      refine PW.regionK fun K hK => ?_
      refine OW.run [2, 5, 6, 7] ?_
      simp (config := { maxSteps := 2000000 }) only [go_sem, ↓reduceIte, Nat.reduceEqDiff, Nat.reduceLT, Nat.reduceLeDiff, Nat.reduceAdd, Nat.reduceMul, Nat.reduceSub, Nat.reduceBEq, Int.reduceToNat, and_assoc, sw0]
      refine OW.nil (hK _ ?_)
      clear hK K
      refine hN2 [] (w64 (i + (1 : Int)), (b21 ++ ([(x1.getD ((c_Info.getD i.toNat 0).toNat) 0)] : List Int))) _ hrun (by exact trivial) ?_
      (simp only [Env.frzL, Env.frz, frzOb, V.frz, V.frz.frzs, asD, map_asD, sw1, go_sem, ↓reduceIte, Nat.reduceEqDiff, Nat.reduceLT, Nat.reduceLeDiff, Nat.reduceAdd, Nat.reduceMul, Nat.reduceSub, Nat.reduceBEq]; done)
    · replace hrun := br_f h3 hrun
      refine PW.exit ?_
      refine hN1 [] b21 _ hrun (by exact trivial) ?_
      (simp only [Env.frzL, Env.frz, frzOb, V.frz, V.frz.frzs, asD, map_asD, sw1, go_sem, ↓reduceIte, Nat.reduceEqDiff, Nat.reduceLT, Nat.reduceLeDiff, Nat.reduceAdd, Nat.reduceMul, Nat.reduceSub, Nat.reduceBEq]; done)
  · rintro b2 hrun
    try simp only [go_sem, ↓reduceIte, Nat.reduceEqDiff, Nat.reduceLT, Nat.reduceLeDiff, Nat.reduceAdd, Nat.reduceMul, Nat.reduceSub, Nat.reduceBEq]
    refine PW.seq ?_
    refine PW.regionK fun K hK => ?_
    refine OW.run [4] ?_
    simp (config := { maxSteps := 2000000 }) only [go_sem, ↓reduceIte, Nat.reduceEqDiff, Nat.reduceLT, Nat.reduceLeDiff, Nat.reduceAdd, Nat.reduceMul, Nat.reduceSub, Nat.reduceBEq, Int.reduceToNat, and_assoc, sw0]
    refine OW.nil (hK _ ?_)
    clear hK K
    change PW _ _ _ _ _
    refine PW.ret ?_
    change PW.Ends _ _ _ _ _ _
    refine PW.Ends.intro (.inr rfl) ?_
    simp (config := { maxSteps := 2000000 }) only [go_sem, ↓reduceIte, Nat.reduceEqDiff, Nat.reduceLT, Nat.reduceLeDiff, Nat.reduceAdd, Nat.reduceMul, Nat.reduceSub, Nat.reduceBEq, Int.reduceToNat, and_assoc, sw0]
    obtain rfl := Option.some.inj hrun
    refine RetOK.data' 4 (by (simp only [go_sem, sw2, List.length_set, List.length_replicate, and_true, true_and, Nat.le_refl, ↓reduceIte, Nat.reduceEqDiff, Nat.reduceLT, Nat.reduceLeDiff, Nat.reduceAdd, Nat.reduceMul, Nat.reduceSub, Nat.reduceBEq]; done)) ?_
    (((simp only [go_sem, sw1, ↓reduceIte, Nat.reduceEqDiff, Nat.reduceLT, Nat.reduceLeDiff, Nat.reduceAdd, Nat.reduceMul, Nat.reduceSub, Nat.reduceBEq]; try simp only [seg, go_sem, ↓reduceIte, Nat.reduceEqDiff, Nat.reduceLT, Nat.reduceLeDiff, Nat.reduceAdd, Nat.reduceMul, Nat.reduceSub, Nat.reduceBEq])); done)

set_option maxRecDepth 20000 in
set_option maxHeartbeats 8000000 in
theorem ref02_Recovered_ok (N : Nat) (c_Poly_Degree : Int) (c_Poly_Taps : Int) (c_Polar_Power : Int) (c_Polar_Info : List Int) (c_Count : Int) (soft : List Int) (r : List Int × Int) (hrun : ref02_Recovered N c_Poly_Degree c_Poly_Taps c_Polar_Power c_Polar_Info c_Count soft = some r) : CallOK Try.prog 63 [(.agg [(I c_Poly_Degree), (I c_Poly_Taps), (I c_Polar_Power), (L c_Polar_Info), (I c_Count)]), (L soft)] (.d (.tup [(L r.1), (I r.2)])) [] := by
  refine CallOK.of_PW Try.func63 rfl (by rw [Try.results63]) Try.ntmps63 Try.call63 ?_
  change PW _ _ _ _ _
  try simp only [go_sem, ↓reduceIte, Nat.reduceEqDiff, Nat.reduceLT, Nat.reduceLeDiff, Nat.reduceAdd, Nat.reduceMul, Nat.reduceSub, Nat.reduceBEq]
  unfold ref02_Recovered at hrun
  refine PW.seq ?_
  refine PW.regionK fun K hK => ?_
  refine OW.run [1, 2] ?_
  simp (config := { maxSteps := 2000000 }) only [go_sem, ↓reduceIte, Nat.reduceEqDiff, Nat.reduceLT, Nat.reduceLeDiff, Nat.reduceAdd, Nat.reduceMul, Nat.reduceSub, Nat.reduceBEq, Int.reduceToNat, and_assoc, sw0]
  refine OW.nil (hK _ ?_)
  clear hK K
  change PW _ _ _ _ _
  refine PW.seq ?_
  obtain ⟨x1, e1, hrun⟩ := bnd_some hrun
  refine PW.regionK fun K hK => ?_
  refine OW.run [2, 6] ?_
  simp (config := { maxSteps := 2000000 }) only [go_sem, ↓reduceIte, Nat.reduceEqDiff, Nat.reduceLT, Nat.reduceLeDiff, Nat.reduceAdd, Nat.reduceMul, Nat.reduceSub, Nat.reduceBEq, Int.reduceToNat, and_assoc, sw0]
  refine And.intro (by omega) ?_
  refine OW.call' 4 rfl rfl rfl (by ((simp only [go_sem, List.toList_toArray, ↓reduceIte, Nat.reduceEqDiff, Nat.reduceLT, Nat.reduceBEq]); exact rfl)) ?_ (ref02_Decode_ok N _ _ _ _ e1) ?_ ?_ ?_ ?_
  · rfl
  · (refine okAll_intro ?_; (simp only [go_sem, sw2, List.length_set, List.length_replicate, and_true, true_and, Nat.le_refl, ↓reduceIte, Nat.reduceEqDiff, Nat.reduceLT, Nat.reduceLeDiff, Nat.reduceAdd, Nat.reduceMul, Nat.reduceSub, Nat.reduceBEq]; done))
  · exact .inl rfl
  · (simp only [go_sem, Nat.reduceLT])
  refine OW.run [2, 6] ?_
  simp (config := { maxSteps := 2000000 }) only [go_sem, ↓reduceIte, Nat.reduceEqDiff, Nat.reduceLT, Nat.reduceLeDiff, Nat.reduceAdd, Nat.reduceMul, Nat.reduceSub, Nat.reduceBEq, Int.reduceToNat, and_assoc, sw0]
  refine OW.nil (hK _ ?_)
  clear hK K
  change PW _ _ _ _ _
  refine PW.seq ?_
  refine PW.seq ?_
  obtain ⟨x2, e2, hrun⟩ := bnd_some hrun
  refine PW.regionK fun K hK => ?_
  refine OW.run [2, 6, 15] ?_
  simp (config := { maxSteps := 2000000 }) only [go_sem, ↓reduceIte, Nat.reduceEqDiff, Nat.reduceLT, Nat.reduceLeDiff, Nat.reduceAdd, Nat.reduceMul, Nat.reduceSub, Nat.reduceBEq, Int.reduceToNat, and_assoc, sw0]
  refine And.intro (by omega) ?_
  refine OW.call' 4 rfl rfl rfl (by ((simp only [go_sem, List.toList_toArray, ↓reduceIte, Nat.reduceEqDiff, Nat.reduceLT, Nat.reduceBEq]); exact rfl)) ?_ (ref02_IsRight_ok N _ _ _ _ e2) ?_ ?_ ?_ ?_
  · rfl
  · (refine okAll_intro ?_; (simp only [go_sem, sw2, List.length_set, List.length_replicate, and_true, true_and, Nat.le_refl, ↓reduceIte, Nat.reduceEqDiff, Nat.reduceLT, Nat.reduceLeDiff, Nat.reduceAdd, Nat.reduceMul, Nat.reduceSub, Nat.reduceBEq]; done))
  · exact .inl rfl
  · (simp only [go_sem, Nat.reduceLT])
  refine OW.run [2, 6, 15] ?_
  simp (config := { maxSteps := 2000000 }) only [go_sem, ↓reduceIte, Nat.reduceEqDiff, Nat.reduceLT, Nat.reduceLeDiff, Nat.reduceAdd, Nat.reduceMul, Nat.reduceSub, Nat.reduceBEq, Int.reduceToNat, and_assoc, sw0]
  refine OW.nil (hK _ ?_)
  clear hK K
  change PW _ _ _ _ _
  refine PW.cond rfl (fun h1 => ?_) (fun h1 => ?_)
  · replace hrun := br_t h1 hrun
    refine PW.seq ?_
    refine PW.regionK fun K hK => ?_
    refine OW.run [4, 5] ?_
    simp (config := { maxSteps := 2000000 }) only [go_sem, ↓reduceIte, Nat.reduceEqDiff, Nat.reduceLT, Nat.reduceLeDiff, Nat.reduceAdd, Nat.reduceMul, Nat.reduceSub, Nat.reduceBEq, Int.reduceToNat, and_assoc, sw0]
    refine OW.nil (hK _ ?_)
    clear hK K
    change PW _ _ _ _ _
    refine PW.ret ?_
    change PW.Ends _ _ _ _ _ _
    refine PW.Ends.intro (.inr rfl) ?_
    simp (config := { maxSteps := 2000000 }) only [go_sem, ↓reduceIte, Nat.reduceEqDiff, Nat.reduceLT, Nat.reduceLeDiff, Nat.reduceAdd, Nat.reduceMul, Nat.reduceSub, Nat.reduceBEq, Int.reduceToNat, and_assoc, sw0]
    obtain rfl := Option.some.inj hrun
    refine RetOK.data' 4 (by exact okD_all rfl) ?_
    rfl
  · replace hrun := br_f h1 hrun
    refine PW.skip ?_
    change PW _ _ _ _ _
    refine PW.seq ?_
    obtain ⟨c2, hrun⟩ := chk_some hrun
    refine PW.regionK fun K hK => ?_
    refine OW.run [4, 5] ?_
    (simp (config := { maxSteps := 2000000 }) only [go_sem, ↓reduceIte, Nat.reduceEqDiff, Nat.reduceLT, Nat.reduceLeDiff, Nat.reduceAdd, Nat.reduceMul, Nat.reduceSub, Nat.reduceBEq, Int.reduceToNat, and_assoc, sw0, slice_len I (x1.take ((w64 ((x1.length : Int) - c_Poly_Degree)).toNat)) ((w64 ((x1.length : Int) - c_Poly_Degree)).toNat) (by simp only [List.length_take, List.length_drop]; omega)])
    refine And.intro (by omega) (And.intro (by omega) (And.intro (by omega) (And.intro (by omega) (And.intro (by omega) ?_))))
    refine OW.nil (hK _ ?_)
    clear hK K
    change PW _ _ _ _ _
    refine PW.ret ?_
    change PW.Ends _ _ _ _ _ _
    refine PW.Ends.intro (.inr rfl) ?_
    simp (config := { maxSteps := 2000000 }) only [go_sem, ↓reduceIte, Nat.reduceEqDiff, Nat.reduceLT, Nat.reduceLeDiff, Nat.reduceAdd, Nat.reduceMul, Nat.reduceSub, Nat.reduceBEq, Int.reduceToNat, and_assoc, sw0]
    obtain rfl := Option.some.inj hrun
    refine RetOK.data' 4 (by exact okD_all rfl) ?_
    rfl

set_option maxRecDepth 20000 in
set_option maxHeartbeats 8000000 in
theorem law02_CodeChains_ok (N : Nat) (c_Poly_Degree : Int) (c_Poly_Taps : Int) (c_Polar_Power : Int) (c_Polar_Info : List Int) (c_Count : Int) (bits : List Int) (soft : List Int) (r : Bool) (hrun : law02_CodeChains N c_Poly_Degree c_Poly_Taps c_Polar_Power c_Polar_Info c_Count bits soft = some r) : CallOK Try.prog 9 [(.agg [(I c_Poly_Degree), (I c_Poly_Taps), (I c_Polar_Power), (L c_Polar_Info), (I c_Count)]), (L bits), (L soft)] (.d (Bo r)) [] := by
  refine CallOK.of_PW Try.func9 rfl (by rw [Try.results9]) Try.ntmps9 Try.call9 ?_
  change PW _ _ _ _ _
  try simp only [go_sem, ↓reduceIte, Nat.reduceEqDiff, Nat.reduceLT, Nat.reduceLeDiff, Nat.reduceAdd, Nat.reduceMul, Nat.reduceSub, Nat.reduceBEq]
  unfold law02_CodeChains at hrun
  refine PW.seq ?_
  refine PW.regionK fun K hK => ?_
  refine OW.run [1, 2, 3] ?_
  simp (config := { maxSteps := 2000000 }) only [go_sem, ↓reduceIte, Nat.reduceEqDiff, Nat.reduceLT, Nat.reduceLeDiff, Nat.reduceAdd, Nat.reduceMul, Nat.reduceSub, Nat.reduceBEq, Int.reduceToNat, and_assoc, sw0]
  refine OW.nil (hK _ ?_)
  clear hK K
  change PW _ _ _ _ _
  refine PW.seq ?_
  refine PW.seq ?_
  obtain ⟨x1, e1, hrun⟩ := bnd_some hrun
  refine PW.regionK fun K hK => ?_
  refine OW.run [1, 2, 3, 16] ?_
  simp (config := { maxSteps := 2000000 }) only [go_sem, ↓reduceIte, Nat.reduceEqDiff, Nat.reduceLT, Nat.reduceLeDiff, Nat.reduceAdd, Nat.reduceMul, Nat.reduceSub, Nat.reduceBEq, Int.reduceToNat, and_assoc, sw0]
  refine OW.call' 4 rfl rfl rfl (by ((simp only [go_sem, List.toList_toArray, ↓reduceIte, Nat.reduceEqDiff, Nat.reduceLT, Nat.reduceBEq]); exact rfl)) ?_ (law02_awake_ok N  _ e1) ?_ ?_ ?_ ?_
  · rfl
  · exact okD_all rfl
  · exact .inl rfl
  · (simp only [go_sem, Nat.reduceLT])
  refine OW.run [1, 2, 3, 16] ?_
  simp (config := { maxSteps := 2000000 }) only [go_sem, ↓reduceIte, Nat.reduceEqDiff, Nat.reduceLT, Nat.reduceLeDiff, Nat.reduceAdd, Nat.reduceMul, Nat.reduceSub, Nat.reduceBEq, Int.reduceToNat, and_assoc, sw0]
  refine OW.nil (hK _ ?_)
  clear hK K
  change PW _ _ _ _ _
  refine PW.cond rfl (fun h1 => ?_) (fun h1 => ?_)
  · replace hrun := br_t h1 hrun
    refine PW.seq ?_
    refine PW.regionK fun K hK => ?_
    refine OW.run [6] ?_
    simp (config := { maxSteps := 2000000 }) only [go_sem, ↓reduceIte, Nat.reduceEqDiff, Nat.reduceLT, Nat.reduceLeDiff, Nat.reduceAdd, Nat.reduceMul, Nat.reduceSub, Nat.reduceBEq, Int.reduceToNat, and_assoc, sw0]
    refine OW.nil (hK _ ?_)
    clear hK K
    change PW _ _ _ _ _
    refine PW.ret ?_
    change PW.Ends _ _ _ _ _ _
    refine PW.Ends.intro (.inr rfl) ?_
    simp (config := { maxSteps := 2000000 }) only [go_sem, ↓reduceIte, Nat.reduceEqDiff, Nat.reduceLT, Nat.reduceLeDiff, Nat.reduceAdd, Nat.reduceMul, Nat.reduceSub, Nat.reduceBEq, Int.reduceToNat, and_assoc, sw0]
    obtain rfl := Option.some.inj hrun
    refine RetOK.data' 4 (by exact trivial) ?_
    rfl
  · replace hrun := br_f h1 hrun
    refine PW.skip ?_
    change PW _ _ _ _ _
    refine PW.seq ?_
    refine PW.seq ?_
    obtain ⟨x2, e2, hrun⟩ := bnd_some hrun
    obtain ⟨x3, e3, hrun⟩ := bnd_some hrun
    refine PW.regionK fun K hK => ?_
    refine OW.toS [(1, .d (L bits)), (2, .d (L soft)), (3, .ptr 0 0), (55, .d (Bo ((((((!x2) || ((decide ((bits.length : Int) > (70 : Int))) && (decide ((bits.length : Int) ≤ (200 : Int))))) || (decide ((bits.length : Int) > (202 : Int)))) || ((decide ((soft.length : Int) > (70 : Int))) && (decide ((soft.length : Int) ≤ (200 : Int))))) || (decide ((soft.length : Int) > (202 : Int)))) || x3)))] [{ cells := [.d (I c_Poly_Degree), .d (I c_Poly_Taps), .d (I c_Polar_Power), .d (L c_Polar_Info), .d (I c_Count)], e := 68 }] ?_ (hK _ ?_)
    · intro K hKE
      rcases Bool.eq_false_or_eq_true (x2) with ha0 | ha0
      · rcases Bool.eq_false_or_eq_true ((decide ((bits.length : Int) > (70 : Int)))) with ha1 | ha1
        · rcases Bool.eq_false_or_eq_true ((decide ((bits.length : Int) ≤ (200 : Int)))) with ha2 | ha2
          · refine OW.run [1, 2, 3, 55] ?_
            (simp (config := { maxSteps := 2000000 }) only [go_sem, ↓reduceIte, Nat.reduceEqDiff, Nat.reduceLT, Nat.reduceLeDiff, Nat.reduceAdd, Nat.reduceMul, Nat.reduceSub, Nat.reduceBEq, Int.reduceToNat, and_assoc, sw0, ha0, ha1, ha2])
            refine And.intro (by omega) ?_
            refine OW.call' 4 rfl rfl rfl (by ((simp only [go_sem, List.toList_toArray, ↓reduceIte, Nat.reduceEqDiff, Nat.reduceLT, Nat.reduceBEq]); exact rfl)) ?_ (law02_small_ok N _ _ _ e2) ?_ ?_ ?_ ?_
            · rfl
            · (refine okAll_intro ?_; (simp only [go_sem, sw2, List.length_set, List.length_replicate, and_true, true_and, Nat.le_refl, ↓reduceIte, Nat.reduceEqDiff, Nat.reduceLT, Nat.reduceLeDiff, Nat.reduceAdd, Nat.reduceMul, Nat.reduceSub, Nat.reduceBEq]; done))
            · exact .inl rfl
            · (simp only [go_sem, Nat.reduceLT])
            refine OW.run [1, 2, 3, 55] ?_
            (simp (config := { maxSteps := 2000000 }) only [go_sem, ↓reduceIte, Nat.reduceEqDiff, Nat.reduceLT, Nat.reduceLeDiff, Nat.reduceAdd, Nat.reduceMul, Nat.reduceSub, Nat.reduceBEq, Int.reduceToNat, and_assoc, sw0, ha0, ha1, ha2])
            refine OW.callG' (g := (!(((((!x2) || ((decide ((bits.length : Int) > (70 : Int))) && (decide ((bits.length : Int) ≤ (200 : Int))))) || (decide ((bits.length : Int) > (202 : Int)))) || ((decide ((soft.length : Int) > (70 : Int))) && (decide ((soft.length : Int) ≤ (200 : Int))))) || (decide ((soft.length : Int) > (202 : Int)))))) 4 rfl rfl ?_ (fun hg => rfl) (fun hg => by (first | ((simp only [go_sem, List.toList_toArray, ↓reduceIte, Nat.reduceEqDiff, Nat.reduceLT, Nat.reduceBEq, ha0, ha1, ha2]); exact rfl) | exact rfl)) (fun hg => ?_) (fun hg => (base_Within_ok N _ _ _ _ (grd_t hg e3))) ?_ ?_ ?_ ?_
            · (first | rfl | (simp only [go_sem, ↓reduceIte, Nat.reduceEqDiff, Nat.reduceLT, Nat.reduceLeDiff, Nat.reduceAdd, Nat.reduceMul, Nat.reduceSub, Nat.reduceBEq, ha0, ha1, ha2]; done) | (simp only [go_sem, ↓reduceIte, Nat.reduceEqDiff, Nat.reduceLT, Nat.reduceLeDiff, Nat.reduceAdd, Nat.reduceMul, Nat.reduceSub, Nat.reduceBEq, ha0, ha1, ha2]; rfl))
            · first | (rfl; done) | (exfalso; simp only [ha0, ha1, ha2, Bool.and_true, Bool.true_and, Bool.and_false, Bool.false_and, Bool.or_true, Bool.true_or, Bool.or_false, Bool.false_or, Bool.not_true, Bool.not_false, Bool.false_eq_true] at hg)
            · exact okD_all rfl
            · exact .inl rfl
            · (simp only [go_sem, Nat.reduceLT])
            refine OW.run [1, 2, 3, 55] ?_
            (simp (config := { maxSteps := 2000000 }) only [go_sem, ↓reduceIte, Nat.reduceEqDiff, Nat.reduceLT, Nat.reduceLeDiff, Nat.reduceAdd, Nat.reduceMul, Nat.reduceSub, Nat.reduceBEq, Int.reduceToNat, and_assoc, sw0, ha0, ha1, ha2])
            refine OW.nil ((congrArg K ?_).mpr hKE)
            (first | rfl | (simp only [go_sem, ↓reduceIte, Nat.reduceEqDiff, Nat.reduceLT, Nat.reduceLeDiff, Nat.reduceAdd, Nat.reduceMul, Nat.reduceSub, Nat.reduceBEq, ha0, ha1, ha2]; done) | (simp only [go_sem, ↓reduceIte, Nat.reduceEqDiff, Nat.reduceLT, Nat.reduceLeDiff, Nat.reduceAdd, Nat.reduceMul, Nat.reduceSub, Nat.reduceBEq, ha0, ha1, ha2]; rfl))
          · rcases Bool.eq_false_or_eq_true ((decide ((bits.length : Int) > (202 : Int)))) with ha3 | ha3
            · refine OW.run [1, 2, 3, 55] ?_
              (simp (config := { maxSteps := 2000000 }) only [go_sem, ↓reduceIte, Nat.reduceEqDiff, Nat.reduceLT, Nat.reduceLeDiff, Nat.reduceAdd, Nat.reduceMul, Nat.reduceSub, Nat.reduceBEq, Int.reduceToNat, and_assoc, sw0, ha0, ha1, ha2, ha3])
              refine And.intro (by omega) ?_
              refine OW.call' 4 rfl rfl rfl (by ((simp only [go_sem, List.toList_toArray, ↓reduceIte, Nat.reduceEqDiff, Nat.reduceLT, Nat.reduceBEq]); exact rfl)) ?_ (law02_small_ok N _ _ _ e2) ?_ ?_ ?_ ?_
              · rfl
              · (refine okAll_intro ?_; (simp only [go_sem, sw2, List.length_set, List.length_replicate, and_true, true_and, Nat.le_refl, ↓reduceIte, Nat.reduceEqDiff, Nat.reduceLT, Nat.reduceLeDiff, Nat.reduceAdd, Nat.reduceMul, Nat.reduceSub, Nat.reduceBEq]; done))
              · exact .inl rfl
              · (simp only [go_sem, Nat.reduceLT])
              refine OW.run [1, 2, 3, 55] ?_
              (simp (config := { maxSteps := 2000000 }) only [go_sem, ↓reduceIte, Nat.reduceEqDiff, Nat.reduceLT, Nat.reduceLeDiff, Nat.reduceAdd, Nat.reduceMul, Nat.reduceSub, Nat.reduceBEq, Int.reduceToNat, and_assoc, sw0, ha0, ha1, ha2, ha3])
              refine OW.callG' (g := (!(((((!x2) || ((decide ((bits.length : Int) > (70 : Int))) && (decide ((bits.length : Int) ≤ (200 : Int))))) || (decide ((bits.length : Int) > (202 : Int)))) || ((decide ((soft.length : Int) > (70 : Int))) && (decide ((soft.length : Int) ≤ (200 : Int))))) || (decide ((soft.length : Int) > (202 : Int)))))) 4 rfl rfl ?_ (fun hg => rfl) (fun hg => by (first | ((simp only [go_sem, List.toList_toArray, ↓reduceIte, Nat.reduceEqDiff, Nat.reduceLT, Nat.reduceBEq, ha0, ha1, ha2, ha3]); exact rfl) | exact rfl)) (fun hg => ?_) (fun hg => (base_Within_ok N _ _ _ _ (grd_t hg e3))) ?_ ?_ ?_ ?_
              · (first | rfl | (simp only [go_sem, ↓reduceIte, Nat.reduceEqDiff, Nat.reduceLT, Nat.reduceLeDiff, Nat.reduceAdd, Nat.reduceMul, Nat.reduceSub, Nat.reduceBEq, ha0, ha1, ha2, ha3]; done) | (simp only [go_sem, ↓reduceIte, Nat.reduceEqDiff, Nat.reduceLT, Nat.reduceLeDiff, Nat.reduceAdd, Nat.reduceMul, Nat.reduceSub, Nat.reduceBEq, ha0, ha1, ha2, ha3]; rfl))
              · first | (rfl; done) | (exfalso; simp only [ha0, ha1, ha2, ha3, Bool.and_true, Bool.true_and, Bool.and_false, Bool.false_and, Bool.or_true, Bool.true_or, Bool.or_false, Bool.false_or, Bool.not_true, Bool.not_false, Bool.false_eq_true] at hg)
              · exact okD_all rfl
              · exact .inl rfl
              · (simp only [go_sem, Nat.reduceLT])
              refine OW.run [1, 2, 3, 55] ?_
              (simp (config := { maxSteps := 2000000 }) only [go_sem, ↓reduceIte, Nat.reduceEqDiff, Nat.reduceLT, Nat.reduceLeDiff, Nat.reduceAdd, Nat.reduceMul, Nat.reduceSub, Nat.reduceBEq, Int.reduceToNat, and_assoc, sw0, ha0, ha1, ha2, ha3])
              refine OW.nil ((congrArg K ?_).mpr hKE)
              (first | rfl | (simp only [go_sem, ↓reduceIte, Nat.reduceEqDiff, Nat.reduceLT, Nat.reduceLeDiff, Nat.reduceAdd, Nat.reduceMul, Nat.reduceSub, Nat.reduceBEq, ha0, ha1, ha2, ha3]; done) | (simp only [go_sem, ↓reduceIte, Nat.reduceEqDiff, Nat.reduceLT, Nat.reduceLeDiff, Nat.reduceAdd, Nat.reduceMul, Nat.reduceSub, Nat.reduceBEq, ha0, ha1, ha2, ha3]; rfl))
            · rcases Bool.eq_false_or_eq_true ((decide ((soft.length : Int) > (70 : Int)))) with ha4 | ha4
              · rcases Bool.eq_false_or_eq_true ((decide ((soft.length : Int) ≤ (200 : Int)))) with ha5 | ha5
                · refine OW.run [1, 2, 3, 55] ?_
                  (simp (config := { maxSteps := 2000000 }) only [go_sem, ↓reduceIte, Nat.reduceEqDiff, Nat.reduceLT, Nat.reduceLeDiff, Nat.reduceAdd, Nat.reduceMul, Nat.reduceSub, Nat.reduceBEq, Int.reduceToNat, and_assoc, sw0, ha0, ha1, ha2, ha3, ha4, ha5])
                  refine And.intro (by omega) ?_
                  refine OW.call' 4 rfl rfl rfl (by ((simp only [go_sem, List.toList_toArray, ↓reduceIte, Nat.reduceEqDiff, Nat.reduceLT, Nat.reduceBEq]); exact rfl)) ?_ (law02_small_ok N _ _ _ e2) ?_ ?_ ?_ ?_
                  · rfl
                  · (refine okAll_intro ?_; (simp only [go_sem, sw2, List.length_set, List.length_replicate, and_true, true_and, Nat.le_refl, ↓reduceIte, Nat.reduceEqDiff, Nat.reduceLT, Nat.reduceLeDiff, Nat.reduceAdd, Nat.reduceMul, Nat.reduceSub, Nat.reduceBEq]; done))
                  · exact .inl rfl
                  · (simp only [go_sem, Nat.reduceLT])
                  refine OW.run [1, 2, 3, 55] ?_
                  (simp (config := { maxSteps := 2000000 }) only [go_sem, ↓reduceIte, Nat.reduceEqDiff, Nat.reduceLT, Nat.reduceLeDiff, Nat.reduceAdd, Nat.reduceMul, Nat.reduceSub, Nat.reduceBEq, Int.reduceToNat, and_assoc, sw0, ha0, ha1, ha2, ha3, ha4, ha5])
                  refine OW.callG' (g := (!(((((!x2) || ((decide ((bits.length : Int) > (70 : Int))) && (decide ((bits.length : Int) ≤ (200 : Int))))) || (decide ((bits.length : Int) > (202 : Int)))) || ((decide ((soft.length : Int) > (70 : Int))) && (decide ((soft.length : Int) ≤ (200 : Int))))) || (decide ((soft.length : Int) > (202 : Int)))))) 4 rfl rfl ?_ (fun hg => rfl) (fun hg => by (first | ((simp only [go_sem, List.toList_toArray, ↓reduceIte, Nat.reduceEqDiff, Nat.reduceLT, Nat.reduceBEq, ha0, ha1, ha2, ha3, ha4, ha5]); exact rfl) | exact rfl)) (fun hg => ?_) (fun hg => (base_Within_ok N _ _ _ _ (grd_t hg e3))) ?_ ?_ ?_ ?_
                  · (first | rfl | (simp only [go_sem, ↓reduceIte, Nat.reduceEqDiff, Nat.reduceLT, Nat.reduceLeDiff, Nat.reduceAdd, Nat.reduceMul, Nat.reduceSub, Nat.reduceBEq, ha0, ha1, ha2, ha3, ha4, ha5]; done) | (simp only [go_sem, ↓reduceIte, Nat.reduceEqDiff, Nat.reduceLT, Nat.reduceLeDiff, Nat.reduceAdd, Nat.reduceMul, Nat.reduceSub, Nat.reduceBEq, ha0, ha1, ha2, ha3, ha4, ha5]; rfl))
                  · first | (rfl; done) | (exfalso; simp only [ha0, ha1, ha2, ha3, ha4, ha5, Bool.and_true, Bool.true_and, Bool.and_false, Bool.false_and, Bool.or_true, Bool.true_or, Bool.or_false, Bool.false_or, Bool.not_true, Bool.not_false, Bool.false_eq_true] at hg)
                  · exact okD_all rfl
                  · exact .inl rfl
                  · (simp only [go_sem, Nat.reduceLT])
                  refine OW.run [1, 2, 3, 55] ?_
                  (simp (config := { maxSteps := 2000000 }) only [go_sem, ↓reduceIte, Nat.reduceEqDiff, Nat.reduceLT, Nat.reduceLeDiff, Nat.reduceAdd, Nat.reduceMul, Nat.reduceSub, Nat.reduceBEq, Int.reduceToNat, and_assoc, sw0, ha0, ha1, ha2, ha3, ha4, ha5])
                  refine OW.nil ((congrArg K ?_).mpr hKE)
                  (first | rfl | (simp only [go_sem, ↓reduceIte, Nat.reduceEqDiff, Nat.reduceLT, Nat.reduceLeDiff, Nat.reduceAdd, Nat.reduceMul, Nat.reduceSub, Nat.reduceBEq, ha0, ha1, ha2, ha3, ha4, ha5]; done) | (simp only [go_sem, ↓reduceIte, Nat.reduceEqDiff, Nat.reduceLT, Nat.reduceLeDiff, Nat.reduceAdd, Nat.reduceMul, Nat.reduceSub, Nat.reduceBEq, ha0, ha1, ha2, ha3, ha4, ha5]; rfl))
                · rcases Bool.eq_false_or_eq_true ((decide ((soft.length : Int) > (202 : Int)))) with ha6 | ha6
                  · refine OW.run [1, 2, 3, 55] ?_
                    (simp (config := { maxSteps := 2000000 }) only [go_sem, ↓reduceIte, Nat.reduceEqDiff, Nat.reduceLT, Nat.reduceLeDiff, Nat.reduceAdd, Nat.reduceMul, Nat.reduceSub, Nat.reduceBEq, Int.reduceToNat, and_assoc, sw0, ha0, ha1, ha2, ha3, ha4, ha5, ha6])
                    refine And.intro (by omega) ?_
                    refine OW.call' 4 rfl rfl rfl (by ((simp only [go_sem, List.toList_toArray, ↓reduceIte, Nat.reduceEqDiff, Nat.reduceLT, Nat.reduceBEq]); exact rfl)) ?_ (law02_small_ok N _ _ _ e2) ?_ ?_ ?_ ?_
                    · rfl
                    · (refine okAll_intro ?_; (simp only [go_sem, sw2, List.length_set, List.length_replicate, and_true, true_and, Nat.le_refl, ↓reduceIte, Nat.reduceEqDiff, Nat.reduceLT, Nat.reduceLeDiff, Nat.reduceAdd, Nat.reduceMul, Nat.reduceSub, Nat.reduceBEq]; done))
                    · exact .inl rfl
                    · (simp only [go_sem, Nat.reduceLT])
                    refine OW.run [1, 2, 3, 55] ?_
                    (simp (config := { maxSteps := 2000000 }) only [go_sem, ↓reduceIte, Nat.reduceEqDiff, Nat.reduceLT, Nat.reduceLeDiff, Nat.reduceAdd, Nat.reduceMul, Nat.reduceSub, Nat.reduceBEq, Int.reduceToNat, and_assoc, sw0, ha0, ha1, ha2, ha3, ha4, ha5, ha6])
                    refine OW.callG' (g := (!(((((!x2) || ((decide ((bits.length : Int) > (70 : Int))) && (decide ((bits.length : Int) ≤ (200 : Int))))) || (decide ((bits.length : Int) > (202 : Int)))) || ((decide ((soft.length : Int) > (70 : Int))) && (decide ((soft.length : Int) ≤ (200 : Int))))) || (decide ((soft.length : Int) > (202 : Int)))))) 4 rfl rfl ?_ (fun hg => rfl) (fun hg => by (first | ((simp only [go_sem, List.toList_toArray, ↓reduceIte, Nat.reduceEqDiff, Nat.reduceLT, Nat.reduceBEq, ha0, ha1, ha2, ha3, ha4, ha5, ha6]); exact rfl) | exact rfl)) (fun hg => ?_) (fun hg => (base_Within_ok N _ _ _ _ (grd_t hg e3))) ?_ ?_ ?_ ?_
                    · (first | rfl | (simp only [go_sem, ↓reduceIte, Nat.reduceEqDiff, Nat.reduceLT, Nat.reduceLeDiff, Nat.reduceAdd, Nat.reduceMul, Nat.reduceSub, Nat.reduceBEq, ha0, ha1, ha2, ha3, ha4, ha5, ha6]; done) | (simp only [go_sem, ↓reduceIte, Nat.reduceEqDiff, Nat.reduceLT, Nat.reduceLeDiff, Nat.reduceAdd, Nat.reduceMul, Nat.reduceSub, Nat.reduceBEq, ha0, ha1, ha2, ha3, ha4, ha5, ha6]; rfl))
                    · first | (rfl; done) | (exfalso; simp only [ha0, ha1, ha2, ha3, ha4, ha5, ha6, Bool.and_true, Bool.true_and, Bool.and_false, Bool.false_and, Bool.or_true, Bool.true_or, Bool.or_false, Bool.false_or, Bool.not_true, Bool.not_false, Bool.false_eq_true] at hg)
                    · exact okD_all rfl
                    · exact .inl rfl
                    · (simp only [go_sem, Nat.reduceLT])
                    refine OW.run [1, 2, 3, 55] ?_
                    (simp (config := { maxSteps := 2000000 }) only [go_sem, ↓reduceIte, Nat.reduceEqDiff, Nat.reduceLT, Nat.reduceLeDiff, Nat.reduceAdd, Nat.reduceMul, Nat.reduceSub, Nat.reduceBEq, Int.reduceToNat, and_assoc, sw0, ha0, ha1, ha2, ha3, ha4, ha5, ha6])
                    refine OW.nil ((congrArg K ?_).mpr hKE)
                    (first | rfl | (simp only [go_sem, ↓reduceIte, Nat.reduceEqDiff, Nat.reduceLT, Nat.reduceLeDiff, Nat.reduceAdd, Nat.reduceMul, Nat.reduceSub, Nat.reduceBEq, ha0, ha1, ha2, ha3, ha4, ha5, ha6]; done) | (simp only [go_sem, ↓reduceIte, Nat.reduceEqDiff, Nat.reduceLT, Nat.reduceLeDiff, Nat.reduceAdd, Nat.reduceMul, Nat.reduceSub, Nat.reduceBEq, ha0, ha1, ha2, ha3, ha4, ha5, ha6]; rfl))
                  · refine OW.run [1, 2, 3, 55] ?_
                    (simp (config := { maxSteps := 2000000 }) only [go_sem, ↓reduceIte, Nat.reduceEqDiff, Nat.reduceLT, Nat.reduceLeDiff, Nat.reduceAdd, Nat.reduceMul, Nat.reduceSub, Nat.reduceBEq, Int.reduceToNat, and_assoc, sw0, ha0, ha1, ha2, ha3, ha4, ha5, ha6])
                    refine And.intro (by omega) ?_
                    refine OW.call' 4 rfl rfl rfl (by ((simp only [go_sem, List.toList_toArray, ↓reduceIte, Nat.reduceEqDiff, Nat.reduceLT, Nat.reduceBEq]); exact rfl)) ?_ (law02_small_ok N _ _ _ e2) ?_ ?_ ?_ ?_
                    · rfl
                    · (refine okAll_intro ?_; (simp only [go_sem, sw2, List.length_set, List.length_replicate, and_true, true_and, Nat.le_refl, ↓reduceIte, Nat.reduceEqDiff, Nat.reduceLT, Nat.reduceLeDiff, Nat.reduceAdd, Nat.reduceMul, Nat.reduceSub, Nat.reduceBEq]; done))
                    · exact .inl rfl
                    · (simp only [go_sem, Nat.reduceLT])
                    refine OW.run [1, 2, 3, 55] ?_
                    (simp (config := { maxSteps := 2000000 }) only [go_sem, ↓reduceIte, Nat.reduceEqDiff, Nat.reduceLT, Nat.reduceLeDiff, Nat.reduceAdd, Nat.reduceMul, Nat.reduceSub, Nat.reduceBEq, Int.reduceToNat, and_assoc, sw0, ha0, ha1, ha2, ha3, ha4, ha5, ha6])
                    refine And.intro (by omega) ?_
                    refine OW.callG' (g := (!(((((!x2) || ((decide ((bits.length : Int) > (70 : Int))) && (decide ((bits.length : Int) ≤ (200 : Int))))) || (decide ((bits.length : Int) > (202 : Int)))) || ((decide ((soft.length : Int) > (70 : Int))) && (decide ((soft.length : Int) ≤ (200 : Int))))) || (decide ((soft.length : Int) > (202 : Int)))))) 4 rfl rfl ?_ (fun hg => rfl) (fun hg => by (first | ((simp only [go_sem, List.toList_toArray, ↓reduceIte, Nat.reduceEqDiff, Nat.reduceLT, Nat.reduceBEq, ha0, ha1, ha2, ha3, ha4, ha5, ha6]); exact rfl) | exact rfl)) (fun hg => ?_) (fun hg => (base_Within_ok N _ _ _ _ (grd_t hg e3))) ?_ ?_ ?_ ?_
                    · (first | rfl | (simp only [go_sem, ↓reduceIte, Nat.reduceEqDiff, Nat.reduceLT, Nat.reduceLeDiff, Nat.reduceAdd, Nat.reduceMul, Nat.reduceSub, Nat.reduceBEq, ha0, ha1, ha2, ha3, ha4, ha5, ha6]; done) | (simp only [go_sem, ↓reduceIte, Nat.reduceEqDiff, Nat.reduceLT, Nat.reduceLeDiff, Nat.reduceAdd, Nat.reduceMul, Nat.reduceSub, Nat.reduceBEq, ha0, ha1, ha2, ha3, ha4, ha5, ha6]; rfl))
                    · first | (rfl; done) | (exfalso; simp only [ha0, ha1, ha2, ha3, ha4, ha5, ha6, Bool.and_true, Bool.true_and, Bool.and_false, Bool.false_and, Bool.or_true, Bool.true_or, Bool.or_false, Bool.false_or, Bool.not_true, Bool.not_false, Bool.false_eq_true] at hg)
                    · exact okD_all rfl
                    · exact .inl rfl
                    · (simp only [go_sem, Nat.reduceLT])
                    refine OW.run [1, 2, 3, 55] ?_
                    (simp (config := { maxSteps := 2000000 }) only [go_sem, ↓reduceIte, Nat.reduceEqDiff, Nat.reduceLT, Nat.reduceLeDiff, Nat.reduceAdd, Nat.reduceMul, Nat.reduceSub, Nat.reduceBEq, Int.reduceToNat, and_assoc, sw0, ha0, ha1, ha2, ha3, ha4, ha5, ha6])
                    refine OW.nil ((congrArg K ?_).mpr hKE)
                    (first | rfl | (simp only [go_sem, ↓reduceIte, Nat.reduceEqDiff, Nat.reduceLT, Nat.reduceLeDiff, Nat.reduceAdd, Nat.reduceMul, Nat.reduceSub, Nat.reduceBEq, ha0, ha1, ha2, ha3, ha4, ha5, ha6]; done) | (simp only [go_sem, ↓reduceIte, Nat.reduceEqDiff, Nat.reduceLT, Nat.reduceLeDiff, Nat.reduceAdd, Nat.reduceMul, Nat.reduceSub, Nat.reduceBEq, ha0, ha1, ha2, ha3, ha4, ha5, ha6]; rfl))
              · rcases Bool.eq_false_or_eq_true ((decide ((soft.length : Int) ≤ (200 : Int)))) with ha5 | ha5
                · rcases Bool.eq_false_or_eq_true ((decide ((soft.length : Int) > (202 : Int)))) with ha6 | ha6
                  · refine OW.run [1, 2, 3, 55] ?_
                    (simp (config := { maxSteps := 2000000 }) only [go_sem, ↓reduceIte, Nat.reduceEqDiff, Nat.reduceLT, Nat.reduceLeDiff, Nat.reduceAdd, Nat.reduceMul, Nat.reduceSub, Nat.reduceBEq, Int.reduceToNat, and_assoc, sw0, ha0, ha1, ha2, ha3, ha4, ha5, ha6])
                    refine And.intro (by omega) ?_
                    refine OW.call' 4 rfl rfl rfl (by ((simp only [go_sem, List.toList_toArray, ↓reduceIte, Nat.reduceEqDiff, Nat.reduceLT, Nat.reduceBEq]); exact rfl)) ?_ (law02_small_ok N _ _ _ e2) ?_ ?_ ?_ ?_
                    · rfl
                    · (refine okAll_intro ?_; (simp only [go_sem, sw2, List.length_set, List.length_replicate, and_true, true_and, Nat.le_refl, ↓reduceIte, Nat.reduceEqDiff, Nat.reduceLT, Nat.reduceLeDiff, Nat.reduceAdd, Nat.reduceMul, Nat.reduceSub, Nat.reduceBEq]; done))
                    · exact .inl rfl
                    · (simp only [go_sem, Nat.reduceLT])
                    refine OW.run [1, 2, 3, 55] ?_
                    (simp (config := { maxSteps := 2000000 }) only [go_sem, ↓reduceIte, Nat.reduceEqDiff, Nat.reduceLT, Nat.reduceLeDiff, Nat.reduceAdd, Nat.reduceMul, Nat.reduceSub, Nat.reduceBEq, Int.reduceToNat, and_assoc, sw0, ha0, ha1, ha2, ha3, ha4, ha5, ha6])
                    refine OW.callG' (g := (!(((((!x2) || ((decide ((bits.length : Int) > (70 : Int))) && (decide ((bits.length : Int) ≤ (200 : Int))))) || (decide ((bits.length : Int) > (202 : Int)))) || ((decide ((soft.length : Int) > (70 : Int))) && (decide ((soft.length : Int) ≤ (200 : Int))))) || (decide ((soft.length : Int) > (202 : Int)))))) 4 rfl rfl ?_ (fun hg => rfl) (fun hg => by (first | ((simp only [go_sem, List.toList_toArray, ↓reduceIte, Nat.reduceEqDiff, Nat.reduceLT, Nat.reduceBEq, ha0, ha1, ha2, ha3, ha4, ha5, ha6]); exact rfl) | exact rfl)) (fun hg => ?_) (fun hg => (base_Within_ok N _ _ _ _ (grd_t hg e3))) ?_ ?_ ?_ ?_
                    · (first | rfl | (simp only [go_sem, ↓reduceIte, Nat.reduceEqDiff, Nat.reduceLT, Nat.reduceLeDiff, Nat.reduceAdd, Nat.reduceMul, Nat.reduceSub, Nat.reduceBEq, ha0, ha1, ha2, ha3, ha4, ha5, ha6]; done) | (simp only [go_sem, ↓reduceIte, Nat.reduceEqDiff, Nat.reduceLT, Nat.reduceLeDiff, Nat.reduceAdd, Nat.reduceMul, Nat.reduceSub, Nat.reduceBEq, ha0, ha1, ha2, ha3, ha4, ha5, ha6]; rfl))
                    · first | (rfl; done) | (exfalso; simp only [ha0, ha1, ha2, ha3, ha4, ha5, ha6, Bool.and_true, Bool.true_and, Bool.and_false, Bool.false_and, Bool.or_true, Bool.true_or, Bool.or_false, Bool.false_or, Bool.not_true, Bool.not_false, Bool.false_eq_true] at hg)
                    · exact okD_all rfl
                    · exact .inl rfl
                    · (simp only [go_sem, Nat.reduceLT])
                    refine OW.run [1, 2, 3, 55] ?_
                    (simp (config := { maxSteps := 2000000 }) only [go_sem, ↓reduceIte, Nat.reduceEqDiff, Nat.reduceLT, Nat.reduceLeDiff, Nat.reduceAdd, Nat.reduceMul, Nat.reduceSub, Nat.reduceBEq, Int.reduceToNat, and_assoc, sw0, ha0, ha1, ha2, ha3, ha4, ha5, ha6])
                    refine OW.nil ((congrArg K ?_).mpr hKE)
                    (first | rfl | (simp only [go_sem, ↓reduceIte, Nat.reduceEqDiff, Nat.reduceLT, Nat.reduceLeDiff, Nat.reduceAdd, Nat.reduceMul, Nat.reduceSub, Nat.reduceBEq, ha0, ha1, ha2, ha3, ha4, ha5, ha6]; done) | (simp only [go_sem, ↓reduceIte, Nat.reduceEqDiff, Nat.reduceLT, Nat.reduceLeDiff, Nat.reduceAdd, Nat.reduceMul, Nat.reduceSub, Nat.reduceBEq, ha0, ha1, ha2, ha3, ha4, ha5, ha6]; rfl))
                  · refine OW.run [1, 2, 3, 55] ?_
                    (simp (config := { maxSteps := 2000000 }) only [go_sem, ↓reduceIte, Nat.reduceEqDiff, Nat.reduceLT, Nat.reduceLeDiff, Nat.reduceAdd, Nat.reduceMul, Nat.reduceSub, Nat.reduceBEq, Int.reduceToNat, and_assoc, sw0, ha0, ha1, ha2, ha3, ha4, ha5, ha6])
                    refine And.intro (by omega) ?_
                    refine OW.call' 4 rfl rfl rfl (by ((simp only [go_sem, List.toList_toArray, ↓reduceIte, Nat.reduceEqDiff, Nat.reduceLT, Nat.reduceBEq]); exact rfl)) ?_ (law02_small_ok N _ _ _ e2) ?_ ?_ ?_ ?_
                    · rfl
                    · (refine okAll_intro ?_; (simp only [go_sem, sw2, List.length_set, List.length_replicate, and_true, true_and, Nat.le_refl, ↓reduceIte, Nat.reduceEqDiff, Nat.reduceLT, Nat.reduceLeDiff, Nat.reduceAdd, Nat.reduceMul, Nat.reduceSub, Nat.reduceBEq]; done))
                    · exact .inl rfl
                    · (simp only [go_sem, Nat.reduceLT])
                    refine OW.run [1, 2, 3, 55] ?_
                    (simp (config := { maxSteps := 2000000 }) only [go_sem, ↓reduceIte, Nat.reduceEqDiff, Nat.reduceLT, Nat.reduceLeDiff, Nat.reduceAdd, Nat.reduceMul, Nat.reduceSub, Nat.reduceBEq, Int.reduceToNat, and_assoc, sw0, ha0, ha1, ha2, ha3, ha4, ha5, ha6])
                    refine And.intro (by omega) ?_
                    refine OW.callG' (g := (!(((((!x2) || ((decide ((bits.length : Int) > (70 : Int))) && (decide ((bits.length : Int) ≤ (200 : Int))))) || (decide ((bits.length : Int) > (202 : Int)))) || ((decide ((soft.length : Int) > (70 : Int))) && (decide ((soft.length : Int) ≤ (200 : Int))))) || (decide ((soft.length : Int) > (202 : Int)))))) 4 rfl rfl ?_ (fun hg => rfl) (fun hg => by (first | ((simp only [go_sem, List.toList_toArray, ↓reduceIte, Nat.reduceEqDiff, Nat.reduceLT, Nat.reduceBEq, ha0, ha1, ha2, ha3, ha4, ha5, ha6]); exact rfl) | exact rfl)) (fun hg => ?_) (fun hg => (base_Within_ok N _ _ _ _ (grd_t hg e3))) ?_ ?_ ?_ ?_
                    · (first | rfl | (simp only [go_sem, ↓reduceIte, Nat.reduceEqDiff, Nat.reduceLT, Nat.reduceLeDiff, Nat.reduceAdd, Nat.reduceMul, Nat.reduceSub, Nat.reduceBEq, ha0, ha1, ha2, ha3, ha4, ha5, ha6]; done) | (simp only [go_sem, ↓reduceIte, Nat.reduceEqDiff, Nat.reduceLT, Nat.reduceLeDiff, Nat.reduceAdd, Nat.reduceMul, Nat.reduceSub, Nat.reduceBEq, ha0, ha1, ha2, ha3, ha4, ha5, ha6]; rfl))
                    · first | (rfl; done) | (exfalso; simp only [ha0, ha1, ha2, ha3, ha4, ha5, ha6, Bool.and_true, Bool.true_and, Bool.and_false, Bool.false_and, Bool.or_true, Bool.true_or, Bool.or_false, Bool.false_or, Bool.not_true, Bool.not_false, Bool.false_eq_true] at hg)
                    · exact okD_all rfl
                    · exact .inl rfl
                    · (simp only [go_sem, Nat.reduceLT])
                    refine OW.run [1, 2, 3, 55] ?_
                    (simp (config := { maxSteps := 2000000 }) only [go_sem, ↓reduceIte, Nat.reduceEqDiff, Nat.reduceLT, Nat.reduceLeDiff, Nat.reduceAdd, Nat.reduceMul, Nat.reduceSub, Nat.reduceBEq, Int.reduceToNat, and_assoc, sw0, ha0, ha1, ha2, ha3, ha4, ha5, ha6])
                    refine OW.nil ((congrArg K ?_).mpr hKE)
                    (first | rfl | (simp only [go_sem, ↓reduceIte, Nat.reduceEqDiff, Nat.reduceLT, Nat.reduceLeDiff, Nat.reduceAdd, Nat.reduceMul, Nat.reduceSub, Nat.reduceBEq, ha0, ha1, ha2, ha3, ha4, ha5, ha6]; done) | (simp only [go_sem, ↓reduceIte, Nat.reduceEqDiff, Nat.reduceLT, Nat.reduceLeDiff, Nat.reduceAdd, Nat.reduceMul, Nat.reduceSub, Nat.reduceBEq, ha0, ha1, ha2, ha3, ha4, ha5, ha6]; rfl))
                · rcases Bool.eq_false_or_eq_true ((decide ((soft.length : Int) > (202 : Int)))) with ha6 | ha6
                  · refine OW.run [1, 2, 3, 55] ?_
                    (simp (config := { maxSteps := 2000000 }) only [go_sem, ↓reduceIte, Nat.reduceEqDiff, Nat.reduceLT, Nat.reduceLeDiff, Nat.reduceAdd, Nat.reduceMul, Nat.reduceSub, Nat.reduceBEq, Int.reduceToNat, and_assoc, sw0, ha0, ha1, ha2, ha3, ha4, ha5, ha6])
                    refine And.intro (by omega) ?_
                    refine OW.call' 4 rfl rfl rfl (by ((simp only [go_sem, List.toList_toArray, ↓reduceIte, Nat.reduceEqDiff, Nat.reduceLT, Nat.reduceBEq]); exact rfl)) ?_ (law02_small_ok N _ _ _ e2) ?_ ?_ ?_ ?_
                    · rfl
                    · (refine okAll_intro ?_; (simp only [go_sem, sw2, List.length_set, List.length_replicate, and_true, true_and, Nat.le_refl, ↓reduceIte, Nat.reduceEqDiff, Nat.reduceLT, Nat.reduceLeDiff, Nat.reduceAdd, Nat.reduceMul, Nat.reduceSub, Nat.reduceBEq]; done))
                    · exact .inl rfl
                    · (simp only [go_sem, Nat.reduceLT])
                    refine OW.run [1, 2, 3, 55] ?_
                    (simp (config := { maxSteps := 2000000 }) only [go_sem, ↓reduceIte, Nat.reduceEqDiff, Nat.reduceLT, Nat.reduceLeDiff, Nat.reduceAdd, Nat.reduceMul, Nat.reduceSub, Nat.reduceBEq, Int.reduceToNat, and_assoc, sw0, ha0, ha1, ha2, ha3, ha4, ha5, ha6])
                    refine OW.callG' (g := (!(((((!x2) || ((decide ((bits.length : Int) > (70 : Int))) && (decide ((bits.length : Int) ≤ (200 : Int))))) || (decide ((bits.length : Int) > (202 : Int)))) || ((decide ((soft.length : Int) > (70 : Int))) && (decide ((soft.length : Int) ≤ (200 : Int))))) || (decide ((soft.length : Int) > (202 : Int)))))) 4 rfl rfl ?_ (fun hg => rfl) (fun hg => by (first | ((simp only [go_sem, List.toList_toArray, ↓reduceIte, Nat.reduceEqDiff, Nat.reduceLT, Nat.reduceBEq, ha0, ha1, ha2, ha3, ha4, ha5, ha6]); exact rfl) | exact rfl)) (fun hg => ?_) (fun hg => (base_Within_ok N _ _ _ _ (grd_t hg e3))) ?_ ?_ ?_ ?_
                    · (first | rfl | (simp only [go_sem, ↓reduceIte, Nat.reduceEqDiff, Nat.reduceLT, Nat.reduceLeDiff, Nat.reduceAdd, Nat.reduceMul, Nat.reduceSub, Nat.reduceBEq, ha0, ha1, ha2, ha3, ha4, ha5, ha6]; done) | (simp only [go_sem, ↓reduceIte, Nat.reduceEqDiff, Nat.reduceLT, Nat.reduceLeDiff, Nat.reduceAdd, Nat.reduceMul, Nat.reduceSub, Nat.reduceBEq, ha0, ha1, ha2, ha3, ha4, ha5, ha6]; rfl))
                    · first | (rfl; done) | (exfalso; simp only [ha0, ha1, ha2, ha3, ha4, ha5, ha6, Bool.and_true, Bool.true_and, Bool.and_false, Bool.false_and, Bool.or_true, Bool.true_or, Bool.or_false, Bool.false_or, Bool.not_true, Bool.not_false, Bool.false_eq_true] at hg)
                    · exact okD_all rfl
                    · exact .inl rfl
                    · (simp only [go_sem, Nat.reduceLT])
                    refine OW.run [1, 2, 3, 55] ?_
                    (simp (config := { maxSteps := 2000000 }) only [go_sem, ↓reduceIte, Nat.reduceEqDiff, Nat.reduceLT, Nat.reduceLeDiff, Nat.reduceAdd, Nat.reduceMul, Nat.reduceSub, Nat.reduceBEq, Int.reduceToNat, and_assoc, sw0, ha0, ha1, ha2, ha3, ha4, ha5, ha6])
                    refine OW.nil ((congrArg K ?_).mpr hKE)
                    (first | rfl | (simp only [go_sem, ↓reduceIte, Nat.reduceEqDiff, Nat.reduceLT, Nat.reduceLeDiff, Nat.reduceAdd, Nat.reduceMul, Nat.reduceSub, Nat.reduceBEq, ha0, ha1, ha2, ha3, ha4, ha5, ha6]; done) | (simp only [go_sem, ↓reduceIte, Nat.reduceEqDiff, Nat.reduceLT, Nat.reduceLeDiff, Nat.reduceAdd, Nat.reduceMul, Nat.reduceSub, Nat.reduceBEq, ha0, ha1, ha2, ha3, ha4, ha5, ha6]; rfl))
                  · refine OW.run [1, 2, 3, 55] ?_
                    (simp (config := { maxSteps := 2000000 }) only [go_sem, ↓reduceIte, Nat.reduceEqDiff, Nat.reduceLT, Nat.reduceLeDiff, Nat.reduceAdd, Nat.reduceMul, Nat.reduceSub, Nat.reduceBEq, Int.reduceToNat, and_assoc, sw0, ha0, ha1, ha2, ha3, ha4, ha5, ha6])
                    refine And.intro (by omega) ?_
                    refine OW.call' 4 rfl rfl rfl (by ((simp only [go_sem, List.toList_toArray, ↓reduceIte, Nat.reduceEqDiff, Nat.reduceLT, Nat.reduceBEq]); exact rfl)) ?_ (law02_small_ok N _ _ _ e2) ?_ ?_ ?_ ?_
                    · rfl
                    · (refine okAll_intro ?_; (simp only [go_sem, sw2, List.length_set, List.length_replicate, and_true, true_and, Nat.le_refl, ↓reduceIte, Nat.reduceEqDiff, Nat.reduceLT, Nat.reduceLeDiff, Nat.reduceAdd, Nat.reduceMul, Nat.reduceSub, Nat.reduceBEq]; done))
                    · exact .inl rfl
                    · (simp only [go_sem, Nat.reduceLT])
                    refine OW.run [1, 2, 3, 55] ?_
                    (simp (config := { maxSteps := 2000000 }) only [go_sem, ↓reduceIte, Nat.reduceEqDiff, Nat.reduceLT, Nat.reduceLeDiff, Nat.reduceAdd, Nat.reduceMul, Nat.reduceSub, Nat.reduceBEq, Int.reduceToNat, and_assoc, sw0, ha0, ha1, ha2, ha3, ha4, ha5, ha6])
                    refine And.intro (by omega) ?_
                    refine OW.callG' (g := (!(((((!x2) || ((decide ((bits.length : Int) > (70 : Int))) && (decide ((bits.length : Int) ≤ (200 : Int))))) || (decide ((bits.length : Int) > (202 : Int)))) || ((decide ((soft.length : Int) > (70 : Int))) && (decide ((soft.length : Int) ≤ (200 : Int))))) || (decide ((soft.length : Int) > (202 : Int)))))) 4 rfl rfl ?_ (fun hg => rfl) (fun hg => by (first | ((simp only [go_sem, List.toList_toArray, ↓reduceIte, Nat.reduceEqDiff, Nat.reduceLT, Nat.reduceBEq, ha0, ha1, ha2, ha3, ha4, ha5, ha6]); exact rfl) | exact rfl)) (fun hg => ?_) (fun hg => (base_Within_ok N _ _ _ _ (grd_t hg e3))) ?_ ?_ ?_ ?_
                    · (first | rfl | (simp only [go_sem, ↓reduceIte, Nat.reduceEqDiff, Nat.reduceLT, Nat.reduceLeDiff, Nat.reduceAdd, Nat.reduceMul, Nat.reduceSub, Nat.reduceBEq, ha0, ha1, ha2, ha3, ha4, ha5, ha6]; done) | (simp only [go_sem, ↓reduceIte, Nat.reduceEqDiff, Nat.reduceLT, Nat.reduceLeDiff, Nat.reduceAdd, Nat.reduceMul, Nat.reduceSub, Nat.reduceBEq, ha0, ha1, ha2, ha3, ha4, ha5, ha6]; rfl))
                    · first | (rfl; done) | (exfalso; simp only [ha0, ha1, ha2, ha3, ha4, ha5, ha6, Bool.and_true, Bool.true_and, Bool.and_false, Bool.false_and, Bool.or_true, Bool.true_or, Bool.or_false, Bool.false_or, Bool.not_true, Bool.not_false, Bool.false_eq_true] at hg)
                    · exact okD_all rfl
                    · exact .inl rfl
                    · (simp only [go_sem, Nat.reduceLT])
                    refine OW.run [1, 2, 3, 55] ?_
                    (simp (config := { maxSteps := 2000000 }) only [go_sem, ↓reduceIte, Nat.reduceEqDiff, Nat.reduceLT, Nat.reduceLeDiff, Nat.reduceAdd, Nat.reduceMul, Nat.reduceSub, Nat.reduceBEq, Int.reduceToNat, and_assoc, sw0, ha0, ha1, ha2, ha3, ha4, ha5, ha6])
                    refine OW.nil ((congrArg K ?_).mpr hKE)
                    (first | rfl | (simp only [go_sem, ↓reduceIte, Nat.reduceEqDiff, Nat.reduceLT, Nat.reduceLeDiff, Nat.reduceAdd, Nat.reduceMul, Nat.reduceSub, Nat.reduceBEq, ha0, ha1, ha2, ha3, ha4, ha5, ha6]; done) | (simp only [go_sem, ↓reduceIte, Nat.reduceEqDiff, Nat.reduceLT, Nat.reduceLeDiff, Nat.reduceAdd, Nat.reduceMul, Nat.reduceSub, Nat.reduceBEq, ha0, ha1, ha2, ha3, ha4, ha5, ha6]; rfl))
        · rcases Bool.eq_false_or_eq_true ((decide ((bits.length : Int) ≤ (200 : Int)))) with ha2 | ha2
          · rcases Bool.eq_false_or_eq_true ((decide ((bits.length : Int) > (202 : Int)))) with ha3 | ha3
            · refine OW.run [1, 2, 3, 55] ?_
              (simp (config := { maxSteps := 2000000 }) only [go_sem, ↓reduceIte, Nat.reduceEqDiff, Nat.reduceLT, Nat.reduceLeDiff, Nat.reduceAdd, Nat.reduceMul, Nat.reduceSub, Nat.reduceBEq, Int.reduceToNat, and_assoc, sw0, ha0, ha1, ha2, ha3])
              refine And.intro (by omega) ?_
              refine OW.call' 4 rfl rfl rfl (by ((simp only [go_sem, List.toList_toArray, ↓reduceIte, Nat.reduceEqDiff, Nat.reduceLT, Nat.reduceBEq]); exact rfl)) ?_ (law02_small_ok N _ _ _ e2) ?_ ?_ ?_ ?_
              · rfl
              · (refine okAll_intro ?_; (simp only [go_sem, sw2, List.length_set, List.length_replicate, and_true, true_and, Nat.le_refl, ↓reduceIte, Nat.reduceEqDiff, Nat.reduceLT, Nat.reduceLeDiff, Nat.reduceAdd, Nat.reduceMul, Nat.reduceSub, Nat.reduceBEq]; done))
              · exact .inl rfl
              · (simp only [go_sem, Nat.reduceLT])
              refine OW.run [1, 2, 3, 55] ?_
              (simp (config := { maxSteps := 2000000 }) only [go_sem, ↓reduceIte, Nat.reduceEqDiff, Nat.reduceLT, Nat.reduceLeDiff, Nat.reduceAdd, Nat.reduceMul, Nat.reduceSub, Nat.reduceBEq, Int.reduceToNat, and_assoc, sw0, ha0, ha1, ha2, ha3])
              refine OW.callG' (g := (!(((((!x2) || ((decide ((bits.length : Int) > (70 : Int))) && (decide ((bits.length : Int) ≤ (200 : Int))))) || (decide ((bits.length : Int) > (202 : Int)))) || ((decide ((soft.length : Int) > (70 : Int))) && (decide ((soft.length : Int) ≤ (200 : Int))))) || (decide ((soft.length : Int) > (202 : Int)))))) 4 rfl rfl ?_ (fun hg => rfl) (fun hg => by (first | ((simp only [go_sem, List.toList_toArray, ↓reduceIte, Nat.reduceEqDiff, Nat.reduceLT, Nat.reduceBEq, ha0, ha1, ha2, ha3]); exact rfl) | exact rfl)) (fun hg => ?_) (fun hg => (base_Within_ok N _ _ _ _ (grd_t hg e3))) ?_ ?_ ?_ ?_
              · (first | rfl | (simp only [go_sem, ↓reduceIte, Nat.reduceEqDiff, Nat.reduceLT, Nat.reduceLeDiff, Nat.reduceAdd, Nat.reduceMul, Nat.reduceSub, Nat.reduceBEq, ha0, ha1, ha2, ha3]; done) | (simp only [go_sem, ↓reduceIte, Nat.reduceEqDiff, Nat.reduceLT, Nat.reduceLeDiff, Nat.reduceAdd, Nat.reduceMul, Nat.reduceSub, Nat.reduceBEq, ha0, ha1, ha2, ha3]; rfl))
              · first | (rfl; done) | (exfalso; simp only [ha0, ha1, ha2, ha3, Bool.and_true, Bool.true_and, Bool.and_false, Bool.false_and, Bool.or_true, Bool.true_or, Bool.or_false, Bool.false_or, Bool.not_true, Bool.not_false, Bool.false_eq_true] at hg)
              · exact okD_all rfl
              · exact .inl rfl
              · (simp only [go_sem, Nat.reduceLT])
              refine OW.run [1, 2, 3, 55] ?_
              (simp (config := { maxSteps := 2000000 }) only [go_sem, ↓reduceIte, Nat.reduceEqDiff, Nat.reduceLT, Nat.reduceLeDiff, Nat.reduceAdd, Nat.reduceMul, Nat.reduceSub, Nat.reduceBEq, Int.reduceToNat, and_assoc, sw0, ha0, ha1, ha2, ha3])
              refine OW.nil ((congrArg K ?_).mpr hKE)
              (first | rfl | (simp only [go_sem, ↓reduceIte, Nat.reduceEqDiff, Nat.reduceLT, Nat.reduceLeDiff, Nat.reduceAdd, Nat.reduceMul, Nat.reduceSub, Nat.reduceBEq, ha0, ha1, ha2, ha3]; done) | (simp only [go_sem, ↓reduceIte, Nat.reduceEqDiff, Nat.reduceLT, Nat.reduceLeDiff, Nat.reduceAdd, Nat.reduceMul, Nat.reduceSub, Nat.reduceBEq, ha0, ha1, ha2, ha3]; rfl))
            · rcases Bool.eq_false_or_eq_true ((decide ((soft.length : Int) > (70 : Int)))) with ha4 | ha4
              · rcases Bool.eq_false_or_eq_true ((decide ((soft.length : Int) ≤ (200 : Int)))) with ha5 | ha5
                · refine OW.run [1, 2, 3, 55] ?_
                  (simp (config := { maxSteps := 2000000 }) only [go_sem, ↓reduceIte, Nat.reduceEqDiff, Nat.reduceLT, Nat.reduceLeDiff, Nat.reduceAdd, Nat.reduceMul, Nat.reduceSub, Nat.reduceBEq, Int.reduceToNat, and_assoc, sw0, ha0, ha1, ha2, ha3, ha4, ha5])
                  refine And.intro (by omega) ?_
                  refine OW.call' 4 rfl rfl rfl (by ((simp only [go_sem, List.toList_toArray, ↓reduceIte, Nat.reduceEqDiff, Nat.reduceLT, Nat.reduceBEq]); exact rfl)) ?_ (law02_small_ok N _ _ _ e2) ?_ ?_ ?_ ?_
                  · rfl
                  · (refine okAll_intro ?_; (simp only [go_sem, sw2, List.length_set, List.length_replicate, and_true, true_and, Nat.le_refl, ↓reduceIte, Nat.reduceEqDiff, Nat.reduceLT, Nat.reduceLeDiff, Nat.reduceAdd, Nat.reduceMul, Nat.reduceSub, Nat.reduceBEq]; done))
                  · exact .inl rfl
                  · (simp only [go_sem, Nat.reduceLT])
                  refine OW.run [1, 2, 3, 55] ?_
                  (simp (config := { maxSteps := 2000000 }) only [go_sem, ↓reduceIte, Nat.reduceEqDiff, Nat.reduceLT, Nat.reduceLeDiff, Nat.reduceAdd, Nat.reduceMul, Nat.reduceSub, Nat.reduceBEq, Int.reduceToNat, and_assoc, sw0, ha0, ha1, ha2, ha3, ha4, ha5])
                  refine OW.callG' (g := (!(((((!x2) || ((decide ((bits.length : Int) > (70 : Int))) && (decide ((bits.length : Int) ≤ (200 : Int))))) || (decide ((bits.length : Int) > (202 : Int)))) || ((decide ((soft.length : Int) > (70 : Int))) && (decide ((soft.length : Int) ≤ (200 : Int))))) || (decide ((soft.length : Int) > (202 : Int)))))) 4 rfl rfl ?_ (fun hg => rfl) (fun hg => by (first | ((simp only [go_sem, List.toList_toArray, ↓reduceIte, Nat.reduceEqDiff, Nat.reduceLT, Nat.reduceBEq, ha0, ha1, ha2, ha3, ha4, ha5]); exact rfl) | exact rfl)) (fun hg => ?_) (fun hg => (base_Within_ok N _ _ _ _ (grd_t hg e3))) ?_ ?_ ?_ ?_
                  · (first | rfl | (simp only [go_sem, ↓reduceIte, Nat.reduceEqDiff, Nat.reduceLT, Nat.reduceLeDiff, Nat.reduceAdd, Nat.reduceMul, Nat.reduceSub, Nat.reduceBEq, ha0, ha1, ha2, ha3, ha4, ha5]; done) | (simp only [go_sem, ↓reduceIte, Nat.reduceEqDiff, Nat.reduceLT, Nat.reduceLeDiff, Nat.reduceAdd, Nat.reduceMul, Nat.reduceSub, Nat.reduceBEq, ha0, ha1, ha2, ha3, ha4, ha5]; rfl))
                  · first | (rfl; done) | (exfalso; simp only [ha0, ha1, ha2, ha3, ha4, ha5, Bool.and_true, Bool.true_and, Bool.and_false, Bool.false_and, Bool.or_true, Bool.true_or, Bool.or_false, Bool.false_or, Bool.not_true, Bool.not_false, Bool.false_eq_true] at hg)
                  · exact okD_all rfl
                  · exact .inl rfl
                  · (simp only [go_sem, Nat.reduceLT])
                  refine OW.run [1, 2, 3, 55] ?_
                  (simp (config := { maxSteps := 2000000 }) only [go_sem, ↓reduceIte, Nat.reduceEqDiff, Nat.reduceLT, Nat.reduceLeDiff, Nat.reduceAdd, Nat.reduceMul, Nat.reduceSub, Nat.reduceBEq, Int.reduceToNat, and_assoc, sw0, ha0, ha1, ha2, ha3, ha4, ha5])
                  refine OW.nil ((congrArg K ?_).mpr hKE)
                  (first | rfl | (simp only [go_sem, ↓reduceIte, Nat.reduceEqDiff, Nat.reduceLT, Nat.reduceLeDiff, Nat.reduceAdd, Nat.reduceMul, Nat.reduceSub, Nat.reduceBEq, ha0, ha1, ha2, ha3, ha4, ha5]; done) | (simp only [go_sem, ↓reduceIte, Nat.reduceEqDiff, Nat.reduceLT, Nat.reduceLeDiff, Nat.reduceAdd, Nat.reduceMul, Nat.reduceSub, Nat.reduceBEq, ha0, ha1, ha2, ha3, ha4, ha5]; rfl))
                · rcases Bool.eq_false_or_eq_true ((decide ((soft.length : Int) > (202 : Int)))) with ha6 | ha6
                  · refine OW.run [1, 2, 3, 55] ?_
                    (simp (config := { maxSteps := 2000000 }) only [go_sem, ↓reduceIte, Nat.reduceEqDiff, Nat.reduceLT, Nat.reduceLeDiff, Nat.reduceAdd, Nat.reduceMul, Nat.reduceSub, Nat.reduceBEq, Int.reduceToNat, and_assoc, sw0, ha0, ha1, ha2, ha3, ha4, ha5, ha6])
                    refine And.intro (by omega) ?_
                    refine OW.call' 4 rfl rfl rfl (by ((simp only [go_sem, List.toList_toArray, ↓reduceIte, Nat.reduceEqDiff, Nat.reduceLT, Nat.reduceBEq]); exact rfl)) ?_ (law02_small_ok N _ _ _ e2) ?_ ?_ ?_ ?_
                    · rfl
                    · (refine okAll_intro ?_; (simp only [go_sem, sw2, List.length_set, List.length_replicate, and_true, true_and, Nat.le_refl, ↓reduceIte, Nat.reduceEqDiff, Nat.reduceLT, Nat.reduceLeDiff, Nat.reduceAdd, Nat.reduceMul, Nat.reduceSub, Nat.reduceBEq]; done))
                    · exact .inl rfl
                    · (simp only [go_sem, Nat.reduceLT])
                    refine OW.run [1, 2, 3, 55] ?_
                    (simp (config := { maxSteps := 2000000 }) only [go_sem, ↓reduceIte, Nat.reduceEqDiff, Nat.reduceLT, Nat.reduceLeDiff, Nat.reduceAdd, Nat.reduceMul, Nat.reduceSub, Nat.reduceBEq, Int.reduceToNat, and_assoc, sw0, ha0, ha1, ha2, ha3, ha4, ha5, ha6])
                    refine OW.callG' (g := (!(((((!x2) || ((decide ((bits.length : Int) > (70 : Int))) && (decide ((bits.length : Int) ≤ (200 : Int))))) || (decide ((bits.length : Int) > (202 : Int)))) || ((decide ((soft.length : Int) > (70 : Int))) && (decide ((soft.length : Int) ≤ (200 : Int))))) || (decide ((soft.length : Int) > (202 : Int)))))) 4 rfl rfl ?_ (fun hg => rfl) (fun hg => by (first | ((simp only [go_sem, List.toList_toArray, ↓reduceIte, Nat.reduceEqDiff, Nat.reduceLT, Nat.reduceBEq, ha0, ha1, ha2, ha3, ha4, ha5, ha6]); exact rfl) | exact rfl)) (fun hg => ?_) (fun hg => (base_Within_ok N _ _ _ _ (grd_t hg e3))) ?_ ?_ ?_ ?_
                    · (first | rfl | (simp only [go_sem, ↓reduceIte, Nat.reduceEqDiff, Nat.reduceLT, Nat.reduceLeDiff, Nat.reduceAdd, Nat.reduceMul, Nat.reduceSub, Nat.reduceBEq, ha0, ha1, ha2, ha3, ha4, ha5, ha6]; done) | (simp only [go_sem, ↓reduceIte, Nat.reduceEqDiff, Nat.reduceLT, Nat.reduceLeDiff, Nat.reduceAdd, Nat.reduceMul, Nat.reduceSub, Nat.reduceBEq, ha0, ha1, ha2, ha3, ha4, ha5, ha6]; rfl))
                    · first | (rfl; done) | (exfalso; simp only [ha0, ha1, ha2, ha3, ha4, ha5, ha6, Bool.and_true, Bool.true_and, Bool.and_false, Bool.false_and, Bool.or_true, Bool.true_or, Bool.or_false, Bool.false_or, Bool.not_true, Bool.not_false, Bool.false_eq_true] at hg)
                    · exact okD_all rfl
                    · exact .inl rfl
                    · (simp only [go_sem, Nat.reduceLT])
                    refine OW.run [1, 2, 3, 55] ?_
                    (simp (config := { maxSteps := 2000000 }) only [go_sem, ↓reduceIte, Nat.reduceEqDiff, Nat.reduceLT, Nat.reduceLeDiff, Nat.reduceAdd, Nat.reduceMul, Nat.reduceSub, Nat.reduceBEq, Int.reduceToNat, and_assoc, sw0, ha0, ha1, ha2, ha3, ha4, ha5, ha6])
                    refine OW.nil ((congrArg K ?_).mpr hKE)
                    (first | rfl | (simp only [go_sem, ↓reduceIte, Nat.reduceEqDiff, Nat.reduceLT, Nat.reduceLeDiff, Nat.reduceAdd, Nat.reduceMul, Nat.reduceSub, Nat.reduceBEq, ha0, ha1, ha2, ha3, ha4, ha5, ha6]; done) | (simp only [go_sem, ↓reduceIte, Nat.reduceEqDiff, Nat.reduceLT, Nat.reduceLeDiff, Nat.reduceAdd, Nat.reduceMul, Nat.reduceSub, Nat.reduceBEq, ha0, ha1, ha2, ha3, ha4, ha5, ha6]; rfl))
                  · refine OW.run [1, 2, 3, 55] ?_
                    (simp (config := { maxSteps := 2000000 }) only [go_sem, ↓reduceIte, Nat.reduceEqDiff, Nat.reduceLT, Nat.reduceLeDiff, Nat.reduceAdd, Nat.reduceMul, Nat.reduceSub, Nat.reduceBEq, Int.reduceToNat, and_assoc, sw0, ha0, ha1, ha2, ha3, ha4, ha5, ha6])
                    refine And.intro (by omega) ?_
                    refine OW.call' 4 rfl rfl rfl (by ((simp only [go_sem, List.toList_toArray, ↓reduceIte, Nat.reduceEqDiff, Nat.reduceLT, Nat.reduceBEq]); exact rfl)) ?_ (law02_small_ok N _ _ _ e2) ?_ ?_ ?_ ?_
                    · rfl
                    · (refine okAll_intro ?_; (simp only [go_sem, sw2, List.length_set, List.length_replicate, and_true, true_and, Nat.le_refl, ↓reduceIte, Nat.reduceEqDiff, Nat.reduceLT, Nat.reduceLeDiff, Nat.reduceAdd, Nat.reduceMul, Nat.reduceSub, Nat.reduceBEq]; done))
                    · exact .inl rfl
                    · (simp only [go_sem, Nat.reduceLT])
                    refine OW.run [1, 2, 3, 55] ?_
                    (simp (config := { maxSteps := 2000000 }) only [go_sem, ↓reduceIte, Nat.reduceEqDiff, Nat.reduceLT, Nat.reduceLeDiff, Nat.reduceAdd, Nat.reduceMul, Nat.reduceSub, Nat.reduceBEq, Int.reduceToNat, and_assoc, sw0, ha0, ha1, ha2, ha3, ha4, ha5, ha6])
                    refine And.intro (by omega) ?_
                    refine OW.callG' (g := (!(((((!x2) || ((decide ((bits.length : Int) > (70 : Int))) && (decide ((bits.length : Int) ≤ (200 : Int))))) || (decide ((bits.length : Int) > (202 : Int)))) || ((decide ((soft.length : Int) > (70 : Int))) && (decide ((soft.length : Int) ≤ (200 : Int))))) || (decide ((soft.length : Int) > (202 : Int)))))) 4 rfl rfl ?_ (fun hg => rfl) (fun hg => by (first | ((simp only [go_sem, List.toList_toArray, ↓reduceIte, Nat.reduceEqDiff, Nat.reduceLT, Nat.reduceBEq, ha0, ha1, ha2, ha3, ha4, ha5, ha6]); exact rfl) | exact rfl)) (fun hg => ?_) (fun hg => (base_Within_ok N _ _ _ _ (grd_t hg e3))) ?_ ?_ ?_ ?_
                    · (first | rfl | (simp only [go_sem, ↓reduceIte, Nat.reduceEqDiff, Nat.reduceLT, Nat.reduceLeDiff, Nat.reduceAdd, Nat.reduceMul, Nat.reduceSub, Nat.reduceBEq, ha0, ha1, ha2, ha3, ha4, ha5, ha6]; done) | (simp only [go_sem, ↓reduceIte, Nat.reduceEqDiff, Nat.reduceLT, Nat.reduceLeDiff, Nat.reduceAdd, Nat.reduceMul, Nat.reduceSub, Nat.reduceBEq, ha0, ha1, ha2, ha3, ha4, ha5, ha6]; rfl))
                    · first | (rfl; done) | (exfalso; simp only [ha0, ha1, ha2, ha3, ha4, ha5, ha6, Bool.and_true, Bool.true_and, Bool.and_false, Bool.false_and, Bool.or_true, Bool.true_or, Bool.or_false, Bool.false_or, Bool.not_true, Bool.not_false, Bool.false_eq_true] at hg)
                    · exact okD_all rfl
                    · exact .inl rfl
                    · (simp only [go_sem, Nat.reduceLT])
                    refine OW.run [1, 2, 3, 55] ?_
                    (simp (config := { maxSteps := 2000000 }) only [go_sem, ↓reduceIte, Nat.reduceEqDiff, Nat.reduceLT, Nat.reduceLeDiff, Nat.reduceAdd, Nat.reduceMul, Nat.reduceSub, Nat.reduceBEq, Int.reduceToNat, and_assoc, sw0, ha0, ha1, ha2, ha3, ha4, ha5, ha6])
                    refine OW.nil ((congrArg K ?_).mpr hKE)
                    (first | rfl | (simp only [go_sem, ↓reduceIte, Nat.reduceEqDiff, Nat.reduceLT, Nat.reduceLeDiff, Nat.reduceAdd, Nat.reduceMul, Nat.reduceSub, Nat.reduceBEq, ha0, ha1, ha2, ha3, ha4, ha5, ha6]; done) | (simp only [go_sem, ↓reduceIte, Nat.reduceEqDiff, Nat.reduceLT, Nat.reduceLeDiff, Nat.reduceAdd, Nat.reduceMul, Nat.reduceSub, Nat.reduceBEq, ha0, ha1, ha2, ha3, ha4, ha5, ha6]; rfl))
              · rcases Bool.eq_false_or_eq_true ((decide ((soft.length : Int) ≤ (200 : Int)))) with ha5 | ha5
                · rcases Bool.eq_false_or_eq_true ((decide ((soft.length : Int) > (202 : Int)))) with ha6 | ha6
                  · refine OW.run [1, 2, 3, 55] ?_
                    (simp (config := { maxSteps := 2000000 }) only [go_sem, ↓reduceIte, Nat.reduceEqDiff, Nat.reduceLT, Nat.reduceLeDiff, Nat.reduceAdd, Nat.reduceMul, Nat.reduceSub, Nat.reduceBEq, Int.reduceToNat, and_assoc, sw0, ha0, ha1, ha2, ha3, ha4, ha5, ha6])
                    refine And.intro (by omega) ?_
                    refine OW.call' 4 rfl rfl rfl (by ((simp only [go_sem, List.toList_toArray, ↓reduceIte, Nat.reduceEqDiff, Nat.reduceLT, Nat.reduceBEq]); exact rfl)) ?_ (law02_small_ok N _ _ _ e2) ?_ ?_ ?_ ?_
                    · rfl
                    · (refine okAll_intro ?_; (simp only [go_sem, sw2, List.length_set, List.length_replicate, and_true, true_and, Nat.le_refl, ↓reduceIte, Nat.reduceEqDiff, Nat.reduceLT, Nat.reduceLeDiff, Nat.reduceAdd, Nat.reduceMul, Nat.reduceSub, Nat.reduceBEq]; done))
                    · exact .inl rfl
                    · (simp only [go_sem, Nat.reduceLT])
                    refine OW.run [1, 2, 3, 55] ?_
                    (simp (config := { maxSteps := 2000000 }) only [go_sem, ↓reduceIte, Nat.reduceEqDiff, Nat.reduceLT, Nat.reduceLeDiff, Nat.reduceAdd, Nat.reduceMul, Nat.reduceSub, Nat.reduceBEq, Int.reduceToNat, and_assoc, sw0, ha0, ha1, ha2, ha3, ha4, ha5, ha6])
                    refine OW.callG' (g := (!(((((!x2) || ((decide ((bits.length : Int) > (70 : Int))) && (decide ((bits.length : Int) ≤ (200 : Int))))) || (decide ((bits.length : Int) > (202 : Int)))) || ((decide ((soft.length : Int) > (70 : Int))) && (decide ((soft.length : Int) ≤ (200 : Int))))) || (decide ((soft.length : Int) > (202 : Int)))))) 4 rfl rfl ?_ (fun hg => rfl) (fun hg => by (first | ((simp only [go_sem, List.toList_toArray, ↓reduceIte, Nat.reduceEqDiff, Nat.reduceLT, Nat.reduceBEq, ha0, ha1, ha2, ha3, ha4, ha5, ha6]); exact rfl) | exact rfl)) (fun hg => ?_) (fun hg => (base_Within_ok N _ _ _ _ (grd_t hg e3))) ?_ ?_ ?_ ?_
                    · (first | rfl | (simp only [go_sem, ↓reduceIte, Nat.reduceEqDiff, Nat.reduceLT, Nat.reduceLeDiff, Nat.reduceAdd, Nat.reduceMul, Nat.reduceSub, Nat.reduceBEq, ha0, ha1, ha2, ha3, ha4, ha5, ha6]; done) | (simp only [go_sem, ↓reduceIte, Nat.reduceEqDiff, Nat.reduceLT, Nat.reduceLeDiff, Nat.reduceAdd, Nat.reduceMul, Nat.reduceSub, Nat.reduceBEq, ha0, ha1, ha2, ha3, ha4, ha5, ha6]; rfl))
                    · first | (rfl; done) | (exfalso; simp only [ha0, ha1, ha2, ha3, ha4, ha5, ha6, Bool.and_true, Bool.true_and, Bool.and_false, Bool.false_and, Bool.or_true, Bool.true_or, Bool.or_false, Bool.false_or, Bool.not_true, Bool.not_false, Bool.false_eq_true] at hg)
                    · exact okD_all rfl
                    · exact .inl rfl
                    · (simp only [go_sem, Nat.reduceLT])
                    refine OW.run [1, 2, 3, 55] ?_
                    (simp (config := { maxSteps := 2000000 }) only [go_sem, ↓reduceIte, Nat.reduceEqDiff, Nat.reduceLT, Nat.reduceLeDiff, Nat.reduceAdd, Nat.reduceMul, Nat.reduceSub, Nat.reduceBEq, Int.reduceToNat, and_assoc, sw0, ha0, ha1, ha2, ha3, ha4, ha5, ha6])
                    refine OW.nil ((congrArg K ?_).mpr hKE)
                    (first | rfl | (simp only [go_sem, ↓reduceIte, Nat.reduceEqDiff, Nat.reduceLT, Nat.reduceLeDiff, Nat.reduceAdd, Nat.reduceMul, Nat.reduceSub, Nat.reduceBEq, ha0, ha1, ha2, ha3, ha4, ha5, ha6]; done) | (simp only [go_sem, ↓reduceIte, Nat.reduceEqDiff, Nat.reduceLT, Nat.reduceLeDiff, Nat.reduceAdd, Nat.reduceMul, Nat.reduceSub, Nat.reduceBEq, ha0, ha1, ha2, ha3, ha4, ha5, ha6]; rfl))
                  · refine OW.run [1, 2, 3, 55] ?_
                    (simp (config := { maxSteps := 2000000 }) only [go_sem, ↓reduceIte, Nat.reduceEqDiff, Nat.reduceLT, Nat.reduceLeDiff, Nat.reduceAdd, Nat.reduceMul, Nat.reduceSub, Nat.reduceBEq, Int.reduceToNat, and_assoc, sw0, ha0, ha1, ha2, ha3, ha4, ha5, ha6])
                    refine And.intro (by omega) ?_
                    refine OW.call' 4 rfl rfl rfl (by ((simp only [go_sem, List.toList_toArray, ↓reduceIte, Nat.reduceEqDiff, Nat.reduceLT, Nat.reduceBEq]); exact rfl)) ?_ (law02_small_ok N _ _ _ e2) ?_ ?_ ?_ ?_
                    · rfl
                    · (refine okAll_intro ?_; (simp only [go_sem, sw2, List.length_set, List.length_replicate, and_true, true_and, Nat.le_refl, ↓reduceIte, Nat.reduceEqDiff, Nat.reduceLT, Nat.reduceLeDiff, Nat.reduceAdd, Nat.reduceMul, Nat.reduceSub, Nat.reduceBEq]; done))
                    · exact .inl rfl
                    · (simp only [go_sem, Nat.reduceLT])
                    refine OW.run [1, 2, 3, 55] ?_
                    (simp (config := { maxSteps := 2000000 }) only [go_sem, ↓reduceIte, Nat.reduceEqDiff, Nat.reduceLT, Nat.reduceLeDiff, Nat.reduceAdd, Nat.reduceMul, Nat.reduceSub, Nat.reduceBEq, Int.reduceToNat, and_assoc, sw0, ha0, ha1, ha2, ha3, ha4, ha5, ha6])
                    refine And.intro (by omega) ?_
                    refine OW.callG' (g := (!(((((!x2) || ((decide ((bits.length : Int) > (70 : Int))) && (decide ((bits.length : Int) ≤ (200 : Int))))) || (decide ((bits.length : Int) > (202 : Int)))) || ((decide ((soft.length : Int) > (70 : Int))) && (decide ((soft.length : Int) ≤ (200 : Int))))) || (decide ((soft.length : Int) > (202 : Int)))))) 4 rfl rfl ?_ (fun hg => rfl) (fun hg => by (first | ((simp only [go_sem, List.toList_toArray, ↓reduceIte, Nat.reduceEqDiff, Nat.reduceLT, Nat.reduceBEq, ha0, ha1, ha2, ha3, ha4, ha5, ha6]); exact rfl) | exact rfl)) (fun hg => ?_) (fun hg => (base_Within_ok N _ _ _ _ (grd_t hg e3))) ?_ ?_ ?_ ?_
                    · (first | rfl | (simp only [go_sem, ↓reduceIte, Nat.reduceEqDiff, Nat.reduceLT, Nat.reduceLeDiff, Nat.reduceAdd, Nat.reduceMul, Nat.reduceSub, Nat.reduceBEq, ha0, ha1, ha2, ha3, ha4, ha5, ha6]; done) | (simp only [go_sem, ↓reduceIte, Nat.reduceEqDiff, Nat.reduceLT, Nat.reduceLeDiff, Nat.reduceAdd, Nat.reduceMul, Nat.reduceSub, Nat.reduceBEq, ha0, ha1, ha2, ha3, ha4, ha5, ha6]; rfl))
                    · first | (rfl; done) | (exfalso; simp only [ha0, ha1, ha2, ha3, ha4, ha5, ha6, Bool.and_true, Bool.true_and, Bool.and_false, Bool.false_and, Bool.or_true, Bool.true_or, Bool.or_false, Bool.false_or, Bool.not_true, Bool.not_false, Bool.false_eq_true] at hg)
                    · exact okD_all rfl
                    · exact .inl rfl
                    · (simp only [go_sem, Nat.reduceLT])
                    refine OW.run [1, 2, 3, 55] ?_
                    (simp (config := { maxSteps := 2000000 }) only [go_sem, ↓reduceIte, Nat.reduceEqDiff, Nat.reduceLT, Nat.reduceLeDiff, Nat.reduceAdd, Nat.reduceMul, Nat.reduceSub, Nat.reduceBEq, Int.reduceToNat, and_assoc, sw0, ha0, ha1, ha2, ha3, ha4, ha5, ha6])
                    refine OW.nil ((congrArg K ?_).mpr hKE)
                    (first | rfl | (simp only [go_sem, ↓reduceIte, Nat.reduceEqDiff, Nat.reduceLT, Nat.reduceLeDiff, Nat.reduceAdd, Nat.reduceMul, Nat.reduceSub, Nat.reduceBEq, ha0, ha1, ha2, ha3, ha4, ha5, ha6]; done) | (simp only [go_sem, ↓reduceIte, Nat.reduceEqDiff, Nat.reduceLT, Nat.reduceLeDiff, Nat.reduceAdd, Nat.reduceMul, Nat.reduceSub, Nat.reduceBEq, ha0, ha1, ha2, ha3, ha4, ha5, ha6]; rfl))
                · rcases Bool.eq_false_or_eq_true ((decide ((soft.length : Int) > (202 : Int)))) with ha6 | ha6
                  · refine OW.run [1, 2, 3, 55] ?_
                    (simp (config := { maxSteps := 2000000 }) only [go_sem, ↓reduceIte, Nat.reduceEqDiff, Nat.reduceLT, Nat.reduceLeDiff, Nat.reduceAdd, Nat.reduceMul, Nat.reduceSub, Nat.reduceBEq, Int.reduceToNat, and_assoc, sw0, ha0, ha1, ha2, ha3, ha4, ha5, ha6])
                    refine And.intro (by omega) ?_
                    refine OW.call' 4 rfl rfl rfl (by ((simp only [go_sem, List.toList_toArray, ↓reduceIte, Nat.reduceEqDiff, Nat.reduceLT, Nat.reduceBEq]); exact rfl)) ?_ (law02_small_ok N _ _ _ e2) ?_ ?_ ?_ ?_
                    · rfl
                    · (refine okAll_intro ?_; (simp only [go_sem, sw2, List.length_set, List.length_replicate, and_true, true_and, Nat.le_refl, ↓reduceIte, Nat.reduceEqDiff, Nat.reduceLT, Nat.reduceLeDiff, Nat.reduceAdd, Nat.reduceMul, Nat.reduceSub, Nat.reduceBEq]; done))
                    · exact .inl rfl
                    · (simp only [go_sem, Nat.reduceLT])
                    refine OW.run [1, 2, 3, 55] ?_
                    (simp (config := { maxSteps := 2000000 }) only [go_sem, ↓reduceIte, Nat.reduceEqDiff, Nat.reduceLT, Nat.reduceLeDiff, Nat.reduceAdd, Nat.reduceMul, Nat.reduceSub, Nat.reduceBEq, Int.reduceToNat, and_assoc, sw0, ha0, ha1, ha2, ha3, ha4, ha5, ha6])
                    refine OW.callG' (g := (!(((((!x2) || ((decide ((bits.length : Int) > (70 : Int))) && (decide ((bits.length : Int) ≤ (200 : Int))))) || (decide ((bits.length : Int) > (202 : Int)))) || ((decide ((soft.length : Int) > (70 : Int))) && (decide ((soft.length : Int) ≤ (200 : Int))))) || (decide ((soft.length : Int) > (202 : Int)))))) 4 rfl rfl ?_ (fun hg => rfl) (fun hg => by (first | ((simp only [go_sem, List.toList_toArray, ↓reduceIte, Nat.reduceEqDiff, Nat.reduceLT, Nat.reduceBEq, ha0, ha1, ha2, ha3, ha4, ha5, ha6]); exact rfl) | exact rfl)) (fun hg => ?_) (fun hg => (base_Within_ok N _ _ _ _ (grd_t hg e3))) ?_ ?_ ?_ ?_
                    · (first | rfl | (simp only [go_sem, ↓reduceIte, Nat.reduceEqDiff, Nat.reduceLT, Nat.reduceLeDiff, Nat.reduceAdd, Nat.reduceMul, Nat.reduceSub, Nat.reduceBEq, ha0, ha1, ha2, ha3, ha4, ha5, ha6]; done) | (simp only [go_sem, ↓reduceIte, Nat.reduceEqDiff, Nat.reduceLT, Nat.reduceLeDiff, Nat.reduceAdd, Nat.reduceMul, Nat.reduceSub, Nat.reduceBEq, ha0, ha1, ha2, ha3, ha4, ha5, ha6]; rfl))
                    · first | (rfl; done) | (exfalso; simp only [ha0, ha1, ha2, ha3, ha4, ha5, ha6, Bool.and_true, Bool.true_and, Bool.and_false, Bool.false_and, Bool.or_true, Bool.true_or, Bool.or_false, Bool.false_or, Bool.not_true, Bool.not_false, Bool.false_eq_true] at hg)
                    · exact okD_all rfl
                    · exact .inl rfl
                    · (simp only [go_sem, Nat.reduceLT])
                    refine OW.run [1, 2, 3, 55] ?_
                    (simp (config := { maxSteps := 2000000 }) only [go_sem, ↓reduceIte, Nat.reduceEqDiff, Nat.reduceLT, Nat.reduceLeDiff, Nat.reduceAdd, Nat.reduceMul, Nat.reduceSub, Nat.reduceBEq, Int.reduceToNat, and_assoc, sw0, ha0, ha1, ha2, ha3, ha4, ha5, ha6])
                    refine OW.nil ((congrArg K ?_).mpr hKE)
                    (first | rfl | (simp only [go_sem, ↓reduceIte, Nat.reduceEqDiff, Nat.reduceLT, Nat.reduceLeDiff, Nat.reduceAdd, Nat.reduceMul, Nat.reduceSub, Nat.reduceBEq, ha0, ha1, ha2, ha3, ha4, ha5, ha6]; done) | (simp only [go_sem, ↓reduceIte, Nat.reduceEqDiff, Nat.reduceLT, Nat.reduceLeDiff, Nat.reduceAdd, Nat.reduceMul, Nat.reduceSub, Nat.reduceBEq, ha0, ha1, ha2, ha3, ha4, ha5, ha6]; rfl))
                  · refine OW.run [1, 2, 3, 55] ?_
                    (simp (config := { maxSteps := 2000000 }) only [go_sem, ↓reduceIte, Nat.reduceEqDiff, Nat.reduceLT, Nat.reduceLeDiff, Nat.reduceAdd, Nat.reduceMul, Nat.reduceSub, Nat.reduceBEq, Int.reduceToNat, and_assoc, sw0, ha0, ha1, ha2, ha3, ha4, ha5, ha6])
                    refine And.intro (by omega) ?_
                    refine OW.call' 4 rfl rfl rfl (by ((simp only [go_sem, List.toList_toArray, ↓reduceIte, Nat.reduceEqDiff, Nat.reduceLT, Nat.reduceBEq]); exact rfl)) ?_ (law02_small_ok N _ _ _ e2) ?_ ?_ ?_ ?_
                    · rfl
                    · (refine okAll_intro ?_; (simp only [go_sem, sw2, List.length_set, List.length_replicate, and_true, true_and, Nat.le_refl, ↓reduceIte, Nat.reduceEqDiff, Nat.reduceLT, Nat.reduceLeDiff, Nat.reduceAdd, Nat.reduceMul, Nat.reduceSub, Nat.reduceBEq]; done))
                    · exact .inl rfl
                    · (simp only [go_sem, Nat.reduceLT])
                    refine OW.run [1, 2, 3, 55] ?_
                    (simp (config := { maxSteps := 2000000 }) only [go_sem, ↓reduceIte, Nat.reduceEqDiff, Nat.reduceLT, Nat.reduceLeDiff, Nat.reduceAdd, Nat.reduceMul, Nat.reduceSub, Nat.reduceBEq, Int.reduceToNat, and_assoc, sw0, ha0, ha1, ha2, ha3, ha4, ha5, ha6])
                    refine And.intro (by omega) ?_
                    refine OW.callG' (g := (!(((((!x2) || ((decide ((bits.length : Int) > (70 : Int))) && (decide ((bits.length : Int) ≤ (200 : Int))))) || (decide ((bits.length : Int) > (202 : Int)))) || ((decide ((soft.length : Int) > (70 : Int))) && (decide ((soft.length : Int) ≤ (200 : Int))))) || (decide ((soft.length : Int) > (202 : Int)))))) 4 rfl rfl ?_ (fun hg => rfl) (fun hg => by (first | ((simp only [go_sem, List.toList_toArray, ↓reduceIte, Nat.reduceEqDiff, Nat.reduceLT, Nat.reduceBEq, ha0, ha1, ha2, ha3, ha4, ha5, ha6]); exact rfl) | exact rfl)) (fun hg => ?_) (fun hg => (base_Within_ok N _ _ _ _ (grd_t hg e3))) ?_ ?_ ?_ ?_
                    · (first | rfl | (simp only [go_sem, ↓reduceIte, Nat.reduceEqDiff, Nat.reduceLT, Nat.reduceLeDiff, Nat.reduceAdd, Nat.reduceMul, Nat.reduceSub, Nat.reduceBEq, ha0, ha1, ha2, ha3, ha4, ha5, ha6]; done) | (simp only [go_sem, ↓reduceIte, Nat.reduceEqDiff, Nat.reduceLT, Nat.reduceLeDiff, Nat.reduceAdd, Nat.reduceMul, Nat.reduceSub, Nat.reduceBEq, ha0, ha1, ha2, ha3, ha4, ha5, ha6]; rfl))
                    · first | (rfl; done) | (exfalso; simp only [ha0, ha1, ha2, ha3, ha4, ha5, ha6, Bool.and_true, Bool.true_and, Bool.and_false, Bool.false_and, Bool.or_true, Bool.true_or, Bool.or_false, Bool.false_or, Bool.not_true, Bool.not_false, Bool.false_eq_true] at hg)
                    · exact okD_all rfl
                    · exact .inl rfl
                    · (simp only [go_sem, Nat.reduceLT])
                    refine OW.run [1, 2, 3, 55] ?_
                    (simp (config := { maxSteps := 2000000 }) only [go_sem, ↓reduceIte, Nat.reduceEqDiff, Nat.reduceLT, Nat.reduceLeDiff, Nat.reduceAdd, Nat.reduceMul, Nat.reduceSub, Nat.reduceBEq, Int.reduceToNat, and_assoc, sw0, ha0, ha1, ha2, ha3, ha4, ha5, ha6])
                    refine OW.nil ((congrArg K ?_).mpr hKE)
                    (first | rfl | (simp only [go_sem, ↓reduceIte, Nat.reduceEqDiff, Nat.reduceLT, Nat.reduceLeDiff, Nat.reduceAdd, Nat.reduceMul, Nat.reduceSub, Nat.reduceBEq, ha0, ha1, ha2, ha3, ha4, ha5, ha6]; done) | (simp only [go_sem, ↓reduceIte, Nat.reduceEqDiff, Nat.reduceLT, Nat.reduceLeDiff, Nat.reduceAdd, Nat.reduceMul, Nat.reduceSub, Nat.reduceBEq, ha0, ha1, ha2, ha3, ha4, ha5, ha6]; rfl))
          · rcases Bool.eq_false_or_eq_true ((decide ((bits.length : Int) > (202 : Int)))) with ha3 | ha3
            · refine OW.run [1, 2, 3, 55] ?_
              (simp (config := { maxSteps := 2000000 }) only [go_sem, ↓reduceIte, Nat.reduceEqDiff, Nat.reduceLT, Nat.reduceLeDiff, Nat.reduceAdd, Nat.reduceMul, Nat.reduceSub, Nat.reduceBEq, Int.reduceToNat, and_assoc, sw0, ha0, ha1, ha2, ha3])
              refine And.intro (by omega) ?_
              refine OW.call' 4 rfl rfl rfl (by ((simp only [go_sem, List.toList_toArray, ↓reduceIte, Nat.reduceEqDiff, Nat.reduceLT, Nat.reduceBEq]); exact rfl)) ?_ (law02_small_ok N _ _ _ e2) ?_ ?_ ?_ ?_
              · rfl
              · (refine okAll_intro ?_; (simp only [go_sem, sw2, List.length_set, List.length_replicate, and_true, true_and, Nat.le_refl, ↓reduceIte, Nat.reduceEqDiff, Nat.reduceLT, Nat.reduceLeDiff, Nat.reduceAdd, Nat.reduceMul, Nat.reduceSub, Nat.reduceBEq]; done))
              · exact .inl rfl
              · (simp only [go_sem, Nat.reduceLT])
              refine OW.run [1, 2, 3, 55] ?_
              (simp (config := { maxSteps := 2000000 }) only [go_sem, ↓reduceIte, Nat.reduceEqDiff, Nat.reduceLT, Nat.reduceLeDiff, Nat.reduceAdd, Nat.reduceMul, Nat.reduceSub, Nat.reduceBEq, Int.reduceToNat, and_assoc, sw0, ha0, ha1, ha2, ha3])
              refine OW.callG' (g := (!(((((!x2) || ((decide ((bits.length : Int) > (70 : Int))) && (decide ((bits.length : Int) ≤ (200 : Int))))) || (decide ((bits.length : Int) > (202 : Int)))) || ((decide ((soft.length : Int) > (70 : Int))) && (decide ((soft.length : Int) ≤ (200 : Int))))) || (decide ((soft.length : Int) > (202 : Int)))))) 4 rfl rfl ?_ (fun hg => rfl) (fun hg => by (first | ((simp only [go_sem, List.toList_toArray, ↓reduceIte, Nat.reduceEqDiff, Nat.reduceLT, Nat.reduceBEq, ha0, ha1, ha2, ha3]); exact rfl) | exact rfl)) (fun hg => ?_) (fun hg => (base_Within_ok N _ _ _ _ (grd_t hg e3))) ?_ ?_ ?_ ?_
              · (first | rfl | (simp only [go_sem, ↓reduceIte, Nat.reduceEqDiff, Nat.reduceLT, Nat.reduceLeDiff, Nat.reduceAdd, Nat.reduceMul, Nat.reduceSub, Nat.reduceBEq, ha0, ha1, ha2, ha3]; done) | (simp only [go_sem, ↓reduceIte, Nat.reduceEqDiff, Nat.reduceLT, Nat.reduceLeDiff, Nat.reduceAdd, Nat.reduceMul, Nat.reduceSub, Nat.reduceBEq, ha0, ha1, ha2, ha3]; rfl))
              · first | (rfl; done) | (exfalso; simp only [ha0, ha1, ha2, ha3, Bool.and_true, Bool.true_and, Bool.and_false, Bool.false_and, Bool.or_true, Bool.true_or, Bool.or_false, Bool.false_or, Bool.not_true, Bool.not_false, Bool.false_eq_true] at hg)
              · exact okD_all rfl
              · exact .inl rfl
              · (simp only [go_sem, Nat.reduceLT])
              refine OW.run [1, 2, 3, 55] ?_
              (simp (config := { maxSteps := 2000000 }) only [go_sem, ↓reduceIte, Nat.reduceEqDiff, Nat.reduceLT, Nat.reduceLeDiff, Nat.reduceAdd, Nat.reduceMul, Nat.reduceSub, Nat.reduceBEq, Int.reduceToNat, and_assoc, sw0, ha0, ha1, ha2, ha3])
              refine OW.nil ((congrArg K ?_).mpr hKE)
              (first | rfl | (simp only [go_sem, ↓reduceIte, Nat.reduceEqDiff, Nat.reduceLT, Nat.reduceLeDiff, Nat.reduceAdd, Nat.reduceMul, Nat.reduceSub, Nat.reduceBEq, ha0, ha1, ha2, ha3]; done) | (simp only [go_sem, ↓reduceIte, Nat.reduceEqDiff, Nat.reduceLT, Nat.reduceLeDiff, Nat.reduceAdd, Nat.reduceMul, Nat.reduceSub, Nat.reduceBEq, ha0, ha1, ha2, ha3]; rfl))
            · rcases Bool.eq_false_or_eq_true ((decide ((soft.length : Int) > (70 : Int)))) with ha4 | ha4
              · rcases Bool.eq_false_or_eq_true ((decide ((soft.length : Int) ≤ (200 : Int)))) with ha5 | ha5
                · refine OW.run [1, 2, 3, 55] ?_
                  (simp (config := { maxSteps := 2000000 }) only [go_sem, ↓reduceIte, Nat.reduceEqDiff, Nat.reduceLT, Nat.reduceLeDiff, Nat.reduceAdd, Nat.reduceMul, Nat.reduceSub, Nat.reduceBEq, Int.reduceToNat, and_assoc, sw0, ha0, ha1, ha2, ha3, ha4, ha5])
                  refine And.intro (by omega) ?_
                  refine OW.call' 4 rfl rfl rfl (by ((simp only [go_sem, List.toList_toArray, ↓reduceIte, Nat.reduceEqDiff, Nat.reduceLT, Nat.reduceBEq]); exact rfl)) ?_ (law02_small_ok N _ _ _ e2) ?_ ?_ ?_ ?_
                  · rfl
                  · (refine okAll_intro ?_; (simp only [go_sem, sw2, List.length_set, List.length_replicate, and_true, true_and, Nat.le_refl, ↓reduceIte, Nat.reduceEqDiff, Nat.reduceLT, Nat.reduceLeDiff, Nat.reduceAdd, Nat.reduceMul, Nat.reduceSub, Nat.reduceBEq]; done))
                  · exact .inl rfl
                  · (simp only [go_sem, Nat.reduceLT])
                  refine OW.run [1, 2, 3, 55] ?_
                  (simp (config := { maxSteps := 2000000 }) only [go_sem, ↓reduceIte, Nat.reduceEqDiff, Nat.reduceLT, Nat.reduceLeDiff, Nat.reduceAdd, Nat.reduceMul, Nat.reduceSub, Nat.reduceBEq, Int.reduceToNat, and_assoc, sw0, ha0, ha1, ha2, ha3, ha4, ha5])
                  refine OW.callG' (g := (!(((((!x2) || ((decide ((bits.length : Int) > (70 : Int))) && (decide ((bits.length : Int) ≤ (200 : Int))))) || (decide ((bits.length : Int) > (202 : Int)))) || ((decide ((soft.length : Int) > (70 : Int))) && (decide ((soft.length : Int) ≤ (200 : Int))))) || (decide ((soft.length : Int) > (202 : Int)))))) 4 rfl rfl ?_ (fun hg => rfl) (fun hg => by (first | ((simp only [go_sem, List.toList_toArray, ↓reduceIte, Nat.reduceEqDiff, Nat.reduceLT, Nat.reduceBEq, ha0, ha1, ha2, ha3, ha4, ha5]); exact rfl) | exact rfl)) (fun hg => ?_) (fun hg => (base_Within_ok N _ _ _ _ (grd_t hg e3))) ?_ ?_ ?_ ?_
                  · (first | rfl | (simp only [go_sem, ↓reduceIte, Nat.reduceEqDiff, Nat.reduceLT, Nat.reduceLeDiff, Nat.reduceAdd, Nat.reduceMul, Nat.reduceSub, Nat.reduceBEq, ha0, ha1, ha2, ha3, ha4, ha5]; done) | (simp only [go_sem, ↓reduceIte, Nat.reduceEqDiff, Nat.reduceLT, Nat.reduceLeDiff, Nat.reduceAdd, Nat.reduceMul, Nat.reduceSub, Nat.reduceBEq, ha0, ha1, ha2, ha3, ha4, ha5]; rfl))
                  · first | (rfl; done) | (exfalso; simp only [ha0, ha1, ha2, ha3, ha4, ha5, Bool.and_true, Bool.true_and, Bool.and_false, Bool.false_and, Bool.or_true, Bool.true_or, Bool.or_false, Bool.false_or, Bool.not_true, Bool.not_false, Bool.false_eq_true] at hg)
                  · exact okD_all rfl
                  · exact .inl rfl
                  · (simp only [go_sem, Nat.reduceLT])
                  refine OW.run [1, 2, 3, 55] ?_
                  (simp (config := { maxSteps := 2000000 }) only [go_sem, ↓reduceIte, Nat.reduceEqDiff, Nat.reduceLT, Nat.reduceLeDiff, Nat.reduceAdd, Nat.reduceMul, Nat.reduceSub, Nat.reduceBEq, Int.reduceToNat, and_assoc, sw0, ha0, ha1, ha2, ha3, ha4, ha5])
                  refine OW.nil ((congrArg K ?_).mpr hKE)
                  (first | rfl | (simp only [go_sem, ↓reduceIte, Nat.reduceEqDiff, Nat.reduceLT, Nat.reduceLeDiff, Nat.reduceAdd, Nat.reduceMul, Nat.reduceSub, Nat.reduceBEq, ha0, ha1, ha2, ha3, ha4, ha5]; done) | (simp only [go_sem, ↓reduceIte, Nat.reduceEqDiff, Nat.reduceLT, Nat.reduceLeDiff, Nat.reduceAdd, Nat.reduceMul, Nat.reduceSub, Nat.reduceBEq, ha0, ha1, ha2, ha3, ha4, ha5]; rfl))
                · rcases Bool.eq_false_or_eq_true ((decide ((soft.length : Int) > (202 : Int)))) with ha6 | ha6
                  · refine OW.run [1, 2, 3, 55] ?_
                    (simp (config := { maxSteps := 2000000 }) only [go_sem, ↓reduceIte, Nat.reduceEqDiff, Nat.reduceLT, Nat.reduceLeDiff, Nat.reduceAdd, Nat.reduceMul, Nat.reduceSub, Nat.reduceBEq, Int.reduceToNat, and_assoc, sw0, ha0, ha1, ha2, ha3, ha4, ha5, ha6])
                    refine And.intro (by omega) ?_
                    refine OW.call' 4 rfl rfl rfl (by ((simp only [go_sem, List.toList_toArray, ↓reduceIte, Nat.reduceEqDiff, Nat.reduceLT, Nat.reduceBEq]); exact rfl)) ?_ (law02_small_ok N _ _ _ e2) ?_ ?_ ?_ ?_
                    · rfl
                    · (refine okAll_intro ?_; (simp only [go_sem, sw2, List.length_set, List.length_replicate, and_true, true_and, Nat.le_refl, ↓reduceIte, Nat.reduceEqDiff, Nat.reduceLT, Nat.reduceLeDiff, Nat.reduceAdd, Nat.reduceMul, Nat.reduceSub, Nat.reduceBEq]; done))
                    · exact .inl rfl
                    · (simp only [go_sem, Nat.reduceLT])
                    refine OW.run [1, 2, 3, 55] ?_
                    (simp (config := { maxSteps := 2000000 }) only [go_sem, ↓reduceIte, Nat.reduceEqDiff, Nat.reduceLT, Nat.reduceLeDiff, Nat.reduceAdd, Nat.reduceMul, Nat.reduceSub, Nat.reduceBEq, Int.reduceToNat, and_assoc, sw0, ha0, ha1, ha2, ha3, ha4, ha5, ha6])
                    refine OW.callG' (g := (!(((((!x2) || ((decide ((bits.length : Int) > (70 : Int))) && (decide ((bits.length : Int) ≤ (200 : Int))))) || (decide ((bits.length : Int) > (202 : Int)))) || ((decide ((soft.length : Int) > (70 : Int))) && (decide ((soft.length : Int) ≤ (200 : Int))))) || (decide ((soft.length : Int) > (202 : Int)))))) 4 rfl rfl ?_ (fun hg => rfl) (fun hg => by (first | ((simp only [go_sem, List.toList_toArray, ↓reduceIte, Nat.reduceEqDiff, Nat.reduceLT, Nat.reduceBEq, ha0, ha1, ha2, ha3, ha4, ha5, ha6]); exact rfl) | exact rfl)) (fun hg => ?_) (fun hg => (base_Within_ok N _ _ _ _ (grd_t hg e3))) ?_ ?_ ?_ ?_
                    · (first | rfl | (simp only [go_sem, ↓reduceIte, Nat.reduceEqDiff, Nat.reduceLT, Nat.reduceLeDiff, Nat.reduceAdd, Nat.reduceMul, Nat.reduceSub, Nat.reduceBEq, ha0, ha1, ha2, ha3, ha4, ha5, ha6]; done) | (simp only [go_sem, ↓reduceIte, Nat.reduceEqDiff, Nat.reduceLT, Nat.reduceLeDiff, Nat.reduceAdd, Nat.reduceMul, Nat.reduceSub, Nat.reduceBEq, ha0, ha1, ha2, ha3, ha4, ha5, ha6]; rfl))
                    · first | (rfl; done) | (exfalso; simp only [ha0, ha1, ha2, ha3, ha4, ha5, ha6, Bool.and_true, Bool.true_and, Bool.and_false, Bool.false_and, Bool.or_true, Bool.true_or, Bool.or_false, Bool.false_or, Bool.not_true, Bool.not_false, Bool.false_eq_true] at hg)
                    · exact okD_all rfl
                    · exact .inl rfl
                    · (simp only [go_sem, Nat.reduceLT])
                    refine OW.run [1, 2, 3, 55] ?_
                    (simp (config := { maxSteps := 2000000 }) only [go_sem, ↓reduceIte, Nat.reduceEqDiff, Nat.reduceLT, Nat.reduceLeDiff, Nat.reduceAdd, Nat.reduceMul, Nat.reduceSub, Nat.reduceBEq, Int.reduceToNat, and_assoc, sw0, ha0, ha1, ha2, ha3, ha4, ha5, ha6])
                    refine OW.nil ((congrArg K ?_).mpr hKE)
                    (first | rfl | (simp only [go_sem, ↓reduceIte, Nat.reduceEqDiff, Nat.reduceLT, Nat.reduceLeDiff, Nat.reduceAdd, Nat.reduceMul, Nat.reduceSub, Nat.reduceBEq, ha0, ha1, ha2, ha3, ha4, ha5, ha6]; done) | (simp only [go_sem, ↓reduceIte, Nat.reduceEqDiff, Nat.reduceLT, Nat.reduceLeDiff, Nat.reduceAdd, Nat.reduceMul, Nat.reduceSub, Nat.reduceBEq, ha0, ha1, ha2, ha3, ha4, ha5, ha6]; rfl))
                  · refine OW.run [1, 2, 3, 55] ?_
                    (simp (config := { maxSteps := 2000000 }) only [go_sem, ↓reduceIte, Nat.reduceEqDiff, Nat.reduceLT, Nat.reduceLeDiff, Nat.reduceAdd, Nat.reduceMul, Nat.reduceSub, Nat.reduceBEq, Int.reduceToNat, and_assoc, sw0, ha0, ha1, ha2, ha3, ha4, ha5, ha6])
                    refine And.intro (by omega) ?_
                    refine OW.call' 4 rfl rfl rfl (by ((simp only [go_sem, List.toList_toArray, ↓reduceIte, Nat.reduceEqDiff, Nat.reduceLT, Nat.reduceBEq]); exact rfl)) ?_ (law02_small_ok N _ _ _ e2) ?_ ?_ ?_ ?_
                    · rfl
                    · (refine okAll_intro ?_; (simp only [go_sem, sw2, List.length_set, List.length_replicate, and_true, true_and, Nat.le_refl, ↓reduceIte, Nat.reduceEqDiff, Nat.reduceLT, Nat.reduceLeDiff, Nat.reduceAdd, Nat.reduceMul, Nat.reduceSub, Nat.reduceBEq]; done))
                    · exact .inl rfl
                    · (simp only [go_sem, Nat.reduceLT])
                    refine OW.run [1, 2, 3, 55] ?_
                    (simp (config := { maxSteps := 2000000 }) only [go_sem, ↓reduceIte, Nat.reduceEqDiff, Nat.reduceLT, Nat.reduceLeDiff, Nat.reduceAdd, Nat.reduceMul, Nat.reduceSub, Nat.reduceBEq, Int.reduceToNat, and_assoc, sw0, ha0, ha1, ha2, ha3, ha4, ha5, ha6])
                    refine And.intro (by omega) ?_
                    refine OW.callG' (g := (!(((((!x2) || ((decide ((bits.length : Int) > (70 : Int))) && (decide ((bits.length : Int) ≤ (200 : Int))))) || (decide ((bits.length : Int) > (202 : Int)))) || ((decide ((soft.length : Int) > (70 : Int))) && (decide ((soft.length : Int) ≤ (200 : Int))))) || (decide ((soft.length : Int) > (202 : Int)))))) 4 rfl rfl ?_ (fun hg => rfl) (fun hg => by (first | ((simp only [go_sem, List.toList_toArray, ↓reduceIte, Nat.reduceEqDiff, Nat.reduceLT, Nat.reduceBEq, ha0, ha1, ha2, ha3, ha4, ha5, ha6]); exact rfl) | exact rfl)) (fun hg => ?_) (fun hg => (base_Within_ok N _ _ _ _ (grd_t hg e3))) ?_ ?_ ?_ ?_
                    · (first | rfl | (simp only [go_sem, ↓reduceIte, Nat.reduceEqDiff, Nat.reduceLT, Nat.reduceLeDiff, Nat.reduceAdd, Nat.reduceMul, Nat.reduceSub, Nat.reduceBEq, ha0, ha1, ha2, ha3, ha4, ha5, ha6]; done) | (simp only [go_sem, ↓reduceIte, Nat.reduceEqDiff, Nat.reduceLT, Nat.reduceLeDiff, Nat.reduceAdd, Nat.reduceMul, Nat.reduceSub, Nat.reduceBEq, ha0, ha1, ha2, ha3, ha4, ha5, ha6]; rfl))
                    · first | (rfl; done) | (exfalso; simp only [ha0, ha1, ha2, ha3, ha4, ha5, ha6, Bool.and_true, Bool.true_and, Bool.and_false, Bool.false_and, Bool.or_true, Bool.true_or, Bool.or_false, Bool.false_or, Bool.not_true, Bool.not_false, Bool.false_eq_true] at hg)
                    · exact okD_all rfl
                    · exact .inl rfl
                    · (simp only [go_sem, Nat.reduceLT])
                    refine OW.run [1, 2, 3, 55] ?_
                    (simp (config := { maxSteps := 2000000 }) only [go_sem, ↓reduceIte, Nat.reduceEqDiff, Nat.reduceLT, Nat.reduceLeDiff, Nat.reduceAdd, Nat.reduceMul, Nat.reduceSub, Nat.reduceBEq, Int.reduceToNat, and_assoc, sw0, ha0, ha1, ha2, ha3, ha4, ha5, ha6])
                    refine OW.nil ((congrArg K ?_).mpr hKE)
                    (first | rfl | (simp only [go_sem, ↓reduceIte, Nat.reduceEqDiff, Nat.reduceLT, Nat.reduceLeDiff, Nat.reduceAdd, Nat.reduceMul, Nat.reduceSub, Nat.reduceBEq, ha0, ha1, ha2, ha3, ha4, ha5, ha6]; done) | (simp only [go_sem, ↓reduceIte, Nat.reduceEqDiff, Nat.reduceLT, Nat.reduceLeDiff, Nat.reduceAdd, Nat.reduceMul, Nat.reduceSub, Nat.reduceBEq, ha0, ha1, ha2, ha3, ha4, ha5, ha6]; rfl))
              · rcases Bool.eq_false_or_eq_true ((decide ((soft.length : Int) ≤ (200 : Int)))) with ha5 | ha5
                · rcases Bool.eq_false_or_eq_true ((decide ((soft.length : Int) > (202 : Int)))) with ha6 | ha6
                  · refine OW.run [1, 2, 3, 55] ?_
                    (simp (config := { maxSteps := 2000000 }) only [go_sem, ↓reduceIte, Nat.reduceEqDiff, Nat.reduceLT, Nat.reduceLeDiff, Nat.reduceAdd, Nat.reduceMul, Nat.reduceSub, Nat.reduceBEq, Int.reduceToNat, and_assoc, sw0, ha0, ha1, ha2, ha3, ha4, ha5, ha6])
                    refine And.intro (by omega) ?_
                    refine OW.call' 4 rfl rfl rfl (by ((simp only [go_sem, List.toList_toArray, ↓reduceIte, Nat.reduceEqDiff, Nat.reduceLT, Nat.reduceBEq]); exact rfl)) ?_ (law02_small_ok N _ _ _ e2) ?_ ?_ ?_ ?_
                    · rfl
                    · (refine okAll_intro ?_; (simp only [go_sem, sw2, List.length_set, List.length_replicate, and_true, true_and, Nat.le_refl, ↓reduceIte, Nat.reduceEqDiff, Nat.reduceLT, Nat.reduceLeDiff, Nat.reduceAdd, Nat.reduceMul, Nat.reduceSub, Nat.reduceBEq]; done))
                    · exact .inl rfl
                    · (simp only [go_sem, Nat.reduceLT])
                    refine OW.run [1, 2, 3, 55] ?_
                    (simp (config := { maxSteps := 2000000 }) only [go_sem, ↓reduceIte, Nat.reduceEqDiff, Nat.reduceLT, Nat.reduceLeDiff, Nat.reduceAdd, Nat.reduceMul, Nat.reduceSub, Nat.reduceBEq, Int.reduceToNat, and_assoc, sw0, ha0, ha1, ha2, ha3, ha4, ha5, ha6])
                    refine OW.callG' (g := (!(((((!x2) || ((decide ((bits.length : Int) > (70 : Int))) && (decide ((bits.length : Int) ≤ (200 : Int))))) || (decide ((bits.length : Int) > (202 : Int)))) || ((decide ((soft.length : Int) > (70 : Int))) && (decide ((soft.length : Int) ≤ (200 : Int))))) || (decide ((soft.length : Int) > (202 : Int)))))) 4 rfl rfl ?_ (fun hg => rfl) (fun hg => by (first | ((simp only [go_sem, List.toList_toArray, ↓reduceIte, Nat.reduceEqDiff, Nat.reduceLT, Nat.reduceBEq, ha0, ha1, ha2, ha3, ha4, ha5, ha6]); exact rfl) | exact rfl)) (fun hg => ?_) (fun hg => (base_Within_ok N _ _ _ _ (grd_t hg e3))) ?_ ?_ ?_ ?_
                    · (first | rfl | (simp only [go_sem, ↓reduceIte, Nat.reduceEqDiff, Nat.reduceLT, Nat.reduceLeDiff, Nat.reduceAdd, Nat.reduceMul, Nat.reduceSub, Nat.reduceBEq, ha0, ha1, ha2, ha3, ha4, ha5, ha6]; done) | (simp only [go_sem, ↓reduceIte, Nat.reduceEqDiff, Nat.reduceLT, Nat.reduceLeDiff, Nat.reduceAdd, Nat.reduceMul, Nat.reduceSub, Nat.reduceBEq, ha0, ha1, ha2, ha3, ha4, ha5, ha6]; rfl))
                    · first | (rfl; done) | (exfalso; simp only [ha0, ha1, ha2, ha3, ha4, ha5, ha6, Bool.and_true, Bool.true_and, Bool.and_false, Bool.false_and, Bool.or_true, Bool.true_or, Bool.or_false, Bool.false_or, Bool.not_true, Bool.not_false, Bool.false_eq_true] at hg)
                    · exact okD_all rfl
                    · exact .inl rfl
                    · (simp only [go_sem, Nat.reduceLT])
                    refine OW.run [1, 2, 3, 55] ?_
                    (simp (config := { maxSteps := 2000000 }) only [go_sem, ↓reduceIte, Nat.reduceEqDiff, Nat.reduceLT, Nat.reduceLeDiff, Nat.reduceAdd, Nat.reduceMul, Nat.reduceSub, Nat.reduceBEq, Int.reduceToNat, and_assoc, sw0, ha0, ha1, ha2, ha3, ha4, ha5, ha6])
                    refine OW.nil ((congrArg K ?_).mpr hKE)
                    (first | rfl | (simp only [go_sem, ↓reduceIte, Nat.reduceEqDiff, Nat.reduceLT, Nat.reduceLeDiff, Nat.reduceAdd, Nat.reduceMul, Nat.reduceSub, Nat.reduceBEq, ha0, ha1, ha2, ha3, ha4, ha5, ha6]; done) | (simp only [go_sem, ↓reduceIte, Nat.reduceEqDiff, Nat.reduceLT, Nat.reduceLeDiff, Nat.reduceAdd, Nat.reduceMul, Nat.reduceSub, Nat.reduceBEq, ha0, ha1, ha2, ha3, ha4, ha5, ha6]; rfl))
                  · refine OW.run [1, 2, 3, 55] ?_
                    (simp (config := { maxSteps := 2000000 }) only [go_sem, ↓reduceIte, Nat.reduceEqDiff, Nat.reduceLT, Nat.reduceLeDiff, Nat.reduceAdd, Nat.reduceMul, Nat.reduceSub, Nat.reduceBEq, Int.reduceToNat, and_assoc, sw0, ha0, ha1, ha2, ha3, ha4, ha5, ha6])
                    refine And.intro (by omega) ?_
                    refine OW.call' 4 rfl rfl rfl (by ((simp only [go_sem, List.toList_toArray, ↓reduceIte, Nat.reduceEqDiff, Nat.reduceLT, Nat.reduceBEq]); exact rfl)) ?_ (law02_small_ok N _ _ _ e2) ?_ ?_ ?_ ?_
                    · rfl
                    · (refine okAll_intro ?_; (simp only [go_sem, sw2, List.length_set, List.length_replicate, and_true, true_and, Nat.le_refl, ↓reduceIte, Nat.reduceEqDiff, Nat.reduceLT, Nat.reduceLeDiff, Nat.reduceAdd, Nat.reduceMul, Nat.reduceSub, Nat.reduceBEq]; done))
                    · exact .inl rfl
                    · (simp only [go_sem, Nat.reduceLT])
                    refine OW.run [1, 2, 3, 55] ?_
                    (simp (config := { maxSteps := 2000000 }) only [go_sem, ↓reduceIte, Nat.reduceEqDiff, Nat.reduceLT, Nat.reduceLeDiff, Nat.reduceAdd, Nat.reduceMul, Nat.reduceSub, Nat.reduceBEq, Int.reduceToNat, and_assoc, sw0, ha0, ha1, ha2, ha3, ha4, ha5, ha6])
                    refine And.intro (by omega) ?_
                    refine OW.callG' (g := (!(((((!x2) || ((decide ((bits.length : Int) > (70 : Int))) && (decide ((bits.length : Int) ≤ (200 : Int))))) || (decide ((bits.length : Int) > (202 : Int)))) || ((decide ((soft.length : Int) > (70 : Int))) && (decide ((soft.length : Int) ≤ (200 : Int))))) || (decide ((soft.length : Int) > (202 : Int)))))) 4 rfl rfl ?_ (fun hg => rfl) (fun hg => by (first | ((simp only [go_sem, List.toList_toArray, ↓reduceIte, Nat.reduceEqDiff, Nat.reduceLT, Nat.reduceBEq, ha0, ha1, ha2, ha3, ha4, ha5, ha6]); exact rfl) | exact rfl)) (fun hg => ?_) (fun hg => (base_Within_ok N _ _ _ _ (grd_t hg e3))) ?_ ?_ ?_ ?_
                    · (first | rfl | (simp only [go_sem, ↓reduceIte, Nat.reduceEqDiff, Nat.reduceLT, Nat.reduceLeDiff, Nat.reduceAdd, Nat.reduceMul, Nat.reduceSub, Nat.reduceBEq, ha0, ha1, ha2, ha3, ha4, ha5, ha6]; done) | (simp only [go_sem, ↓reduceIte, Nat.reduceEqDiff, Nat.reduceLT, Nat.reduceLeDiff, Nat.reduceAdd, Nat.reduceMul, Nat.reduceSub, Nat.reduceBEq, ha0, ha1, ha2, ha3, ha4, ha5, ha6]; rfl))
                    · first | (rfl; done) | (exfalso; simp only [ha0, ha1, ha2, ha3, ha4, ha5, ha6, Bool.and_true, Bool.true_and, Bool.and_false, Bool.false_and, Bool.or_true, Bool.true_or, Bool.or_false, Bool.false_or, Bool.not_true, Bool.not_false, Bool.false_eq_true] at hg)
                    · exact okD_all rfl
                    · exact .inl rfl
                    · (simp only [go_sem, Nat.reduceLT])
                    refine OW.run [1, 2, 3, 55] ?_
                    (simp (config := { maxSteps := 2000000 }) only [go_sem, ↓reduceIte, Nat.reduceEqDiff, Nat.reduceLT, Nat.reduceLeDiff, Nat.reduceAdd, Nat.reduceMul, Nat.reduceSub, Nat.reduceBEq, Int.reduceToNat, and_assoc, sw0, ha0, ha1, ha2, ha3, ha4, ha5, ha6])
                    refine OW.nil ((congrArg K ?_).mpr hKE)
                    (first | rfl | (simp only [go_sem, ↓reduceIte, Nat.reduceEqDiff, Nat.reduceLT, Nat.reduceLeDiff, Nat.reduceAdd, Nat.reduceMul, Nat.reduceSub, Nat.reduceBEq, ha0, ha1, ha2, ha3, ha4, ha5, ha6]; done) | (simp only [go_sem, ↓reduceIte, Nat.reduceEqDiff, Nat.reduceLT, Nat.reduceLeDiff, Nat.reduceAdd, Nat.reduceMul, Nat.reduceSub, Nat.reduceBEq, ha0, ha1, ha2, ha3, ha4, ha5, ha6]; rfl))
                · rcases Bool.eq_false_or_eq_true ((decide ((soft.length : Int) > (202 : Int)))) with ha6 | ha6
                  · refine OW.run [1, 2, 3, 55] ?_
                    (simp (config := { maxSteps := 2000000 }) only [go_sem, ↓reduceIte, Nat.reduceEqDiff, Nat.reduceLT, Nat.reduceLeDiff, Nat.reduceAdd, Nat.reduceMul, Nat.reduceSub, Nat.reduceBEq, Int.reduceToNat, and_assoc, sw0, ha0, ha1, ha2, ha3, ha4, ha5, ha6])
                    refine And.intro (by omega) ?_
                    refine OW.call' 4 rfl rfl rfl (by ((simp only [go_sem, List.toList_toArray, ↓reduceIte, Nat.reduceEqDiff, Nat.reduceLT, Nat.reduceBEq]); exact rfl)) ?_ (law02_small_ok N _ _ _ e2) ?_ ?_ ?_ ?_
                    · rfl
                    · (refine okAll_intro ?_; (simp only [go_sem, sw2, List.length_set, List.length_replicate, and_true, true_and, Nat.le_refl, ↓reduceIte, Nat.reduceEqDiff, Nat.reduceLT, Nat.reduceLeDiff, Nat.reduceAdd, Nat.reduceMul, Nat.reduceSub, Nat.reduceBEq]; done))
                    · exact .inl rfl
                    · (simp only [go_sem, Nat.reduceLT])
                    refine OW.run [1, 2, 3, 55] ?_
                    (simp (config := { maxSteps := 2000000 }) only [go_sem, ↓reduceIte, Nat.reduceEqDiff, Nat.reduceLT, Nat.reduceLeDiff, Nat.reduceAdd, Nat.reduceMul, Nat.reduceSub, Nat.reduceBEq, Int.reduceToNat, and_assoc, sw0, ha0, ha1, ha2, ha3, ha4, ha5, ha6])
                    refine OW.callG' (g := (!(((((!x2) || ((decide ((bits.length : Int) > (70 : Int))) && (decide ((bits.length : Int) ≤ (200 : Int))))) || (decide ((bits.length : Int) > (202 : Int)))) || ((decide ((soft.length : Int) > (70 : Int))) && (decide ((soft.length : Int) ≤ (200 : Int))))) || (decide ((soft.length : Int) > (202 : Int)))))) 4 rfl rfl ?_ (fun hg => rfl) (fun hg => by (first | ((simp only [go_sem, List.toList_toArray, ↓reduceIte, Nat.reduceEqDiff, Nat.reduceLT, Nat.reduceBEq, ha0, ha1, ha2, ha3, ha4, ha5, ha6]); exact rfl) | exact rfl)) (fun hg => ?_) (fun hg => (base_Within_ok N _ _ _ _ (grd_t hg e3))) ?_ ?_ ?_ ?_
                    · (first | rfl | (simp only [go_sem, ↓reduceIte, Nat.reduceEqDiff, Nat.reduceLT, Nat.reduceLeDiff, Nat.reduceAdd, Nat.reduceMul, Nat.reduceSub, Nat.reduceBEq, ha0, ha1, ha2, ha3, ha4, ha5, ha6]; done) | (simp only [go_sem, ↓reduceIte, Nat.reduceEqDiff, Nat.reduceLT, Nat.reduceLeDiff, Nat.reduceAdd, Nat.reduceMul, Nat.reduceSub, Nat.reduceBEq, ha0, ha1, ha2, ha3, ha4, ha5, ha6]; rfl))
                    · first | (rfl; done) | (exfalso; simp only [ha0, ha1, ha2, ha3, ha4, ha5, ha6, Bool.and_true, Bool.true_and, Bool.and_false, Bool.false_and, Bool.or_true, Bool.true_or, Bool.or_false, Bool.false_or, Bool.not_true, Bool.not_false, Bool.false_eq_true] at hg)
                    · exact okD_all rfl
                    · exact .inl rfl
                    · (simp only [go_sem, Nat.reduceLT])
                    refine OW.run [1, 2, 3, 55] ?_
                    (simp (config := { maxSteps := 2000000 }) only [go_sem, ↓reduceIte, Nat.reduceEqDiff, Nat.reduceLT, Nat.reduceLeDiff, Nat.reduceAdd, Nat.reduceMul, Nat.reduceSub, Nat.reduceBEq, Int.reduceToNat, and_assoc, sw0, ha0, ha1, ha2, ha3, ha4, ha5, ha6])
                    refine OW.nil ((congrArg K ?_).mpr hKE)
                    (first | rfl | (simp only [go_sem, ↓reduceIte, Nat.reduceEqDiff, Nat.reduceLT, Nat.reduceLeDiff, Nat.reduceAdd, Nat.reduceMul, Nat.reduceSub, Nat.reduceBEq, ha0, ha1, ha2, ha3, ha4, ha5, ha6]; done) | (simp only [go_sem, ↓reduceIte, Nat.reduceEqDiff, Nat.reduceLT, Nat.reduceLeDiff, Nat.reduceAdd, Nat.reduceMul, Nat.reduceSub, Nat.reduceBEq, ha0, ha1, ha2, ha3, ha4, ha5, ha6]; rfl))
                  · refine OW.run [1, 2, 3, 55] ?_
                    (simp (config := { maxSteps := 2000000 }) only [go_sem, ↓reduceIte, Nat.reduceEqDiff, Nat.reduceLT, Nat.reduceLeDiff, Nat.reduceAdd, Nat.reduceMul, Nat.reduceSub, Nat.reduceBEq, Int.reduceToNat, and_assoc, sw0, ha0, ha1, ha2, ha3, ha4, ha5, ha6])
                    refine And.intro (by omega) ?_
                    refine OW.call' 4 rfl rfl rfl (by ((simp only [go_sem, List.toList_toArray, ↓reduceIte, Nat.reduceEqDiff, Nat.reduceLT, Nat.reduceBEq]); exact rfl)) ?_ (law02_small_ok N _ _ _ e2) ?_ ?_ ?_ ?_
                    · rfl
                    · (refine okAll_intro ?_; (simp only [go_sem, sw2, List.length_set, List.length_replicate, and_true, true_and, Nat.le_refl, ↓reduceIte, Nat.reduceEqDiff, Nat.reduceLT, Nat.reduceLeDiff, Nat.reduceAdd, Nat.reduceMul, Nat.reduceSub, Nat.reduceBEq]; done))
                    · exact .inl rfl
                    · (simp only [go_sem, Nat.reduceLT])
                    refine OW.run [1, 2, 3, 55] ?_
                    (simp (config := { maxSteps := 2000000 }) only [go_sem, ↓reduceIte, Nat.reduceEqDiff, Nat.reduceLT, Nat.reduceLeDiff, Nat.reduceAdd, Nat.reduceMul, Nat.reduceSub, Nat.reduceBEq, Int.reduceToNat, and_assoc, sw0, ha0, ha1, ha2, ha3, ha4, ha5, ha6])
                    refine And.intro (by omega) ?_
                    refine OW.callG' (g := (!(((((!x2) || ((decide ((bits.length : Int) > (70 : Int))) && (decide ((bits.length : Int) ≤ (200 : Int))))) || (decide ((bits.length : Int) > (202 : Int)))) || ((decide ((soft.length : Int) > (70 : Int))) && (decide ((soft.length : Int) ≤ (200 : Int))))) || (decide ((soft.length : Int) > (202 : Int)))))) 4 rfl rfl ?_ (fun hg => rfl) (fun hg => by (first | ((simp only [go_sem, List.toList_toArray, ↓reduceIte, Nat.reduceEqDiff, Nat.reduceLT, Nat.reduceBEq, ha0, ha1, ha2, ha3, ha4, ha5, ha6]); exact rfl) | exact rfl)) (fun hg => ?_) (fun hg => (base_Within_ok N _ _ _ _ (grd_t hg e3))) ?_ ?_ ?_ ?_
                    · (first | rfl | (simp only [go_sem, ↓reduceIte, Nat.reduceEqDiff, Nat.reduceLT, Nat.reduceLeDiff, Nat.reduceAdd, Nat.reduceMul, Nat.reduceSub, Nat.reduceBEq, ha0, ha1, ha2, ha3, ha4, ha5, ha6]; done) | (simp only [go_sem, ↓reduceIte, Nat.reduceEqDiff, Nat.reduceLT, Nat.reduceLeDiff, Nat.reduceAdd, Nat.reduceMul, Nat.reduceSub, Nat.reduceBEq, ha0, ha1, ha2, ha3, ha4, ha5, ha6]; rfl))
                    · first | (rfl; done) | (exfalso; simp only [ha0, ha1, ha2, ha3, ha4, ha5, ha6, Bool.and_true, Bool.true_and, Bool.and_false, Bool.false_and, Bool.or_true, Bool.true_or, Bool.or_false, Bool.false_or, Bool.not_true, Bool.not_false, Bool.false_eq_true] at hg)
                    · exact okD_all rfl
                    · exact .inl rfl
                    · (simp only [go_sem, Nat.reduceLT])
                    refine OW.run [1, 2, 3, 55] ?_
                    (simp (config := { maxSteps := 2000000 }) only [go_sem, ↓reduceIte, Nat.reduceEqDiff, Nat.reduceLT, Nat.reduceLeDiff, Nat.reduceAdd, Nat.reduceMul, Nat.reduceSub, Nat.reduceBEq, Int.reduceToNat, and_assoc, sw0, ha0, ha1, ha2, ha3, ha4, ha5, ha6])
                    refine OW.nil ((congrArg K ?_).mpr hKE)
                    (first | rfl | (simp only [go_sem, ↓reduceIte, Nat.reduceEqDiff, Nat.reduceLT, Nat.reduceLeDiff, Nat.reduceAdd, Nat.reduceMul, Nat.reduceSub, Nat.reduceBEq, ha0, ha1, ha2, ha3, ha4, ha5, ha6]; done) | (simp only [go_sem, ↓reduceIte, Nat.reduceEqDiff, Nat.reduceLT, Nat.reduceLeDiff, Nat.reduceAdd, Nat.reduceMul, Nat.reduceSub, Nat.reduceBEq, ha0, ha1, ha2, ha3, ha4, ha5, ha6]; rfl))
      · refine OW.run [1, 2, 3, 55] ?_
        (simp (config := { maxSteps := 2000000 }) only [go_sem, ↓reduceIte, Nat.reduceEqDiff, Nat.reduceLT, Nat.reduceLeDiff, Nat.reduceAdd, Nat.reduceMul, Nat.reduceSub, Nat.reduceBEq, Int.reduceToNat, and_assoc, sw0, ha0])
        refine And.intro (by omega) ?_
        refine OW.call' 4 rfl rfl rfl (by ((simp only [go_sem, List.toList_toArray, ↓reduceIte, Nat.reduceEqDiff, Nat.reduceLT, Nat.reduceBEq]); exact rfl)) ?_ (law02_small_ok N _ _ _ e2) ?_ ?_ ?_ ?_
        · rfl
        · (refine okAll_intro ?_; (simp only [go_sem, sw2, List.length_set, List.length_replicate, and_true, true_and, Nat.le_refl, ↓reduceIte, Nat.reduceEqDiff, Nat.reduceLT, Nat.reduceLeDiff, Nat.reduceAdd, Nat.reduceMul, Nat.reduceSub, Nat.reduceBEq]; done))
        · exact .inl rfl
        · (simp only [go_sem, Nat.reduceLT])
        refine OW.run [1, 2, 3, 55] ?_
        (simp (config := { maxSteps := 2000000 }) only [go_sem, ↓reduceIte, Nat.reduceEqDiff, Nat.reduceLT, Nat.reduceLeDiff, Nat.reduceAdd, Nat.reduceMul, Nat.reduceSub, Nat.reduceBEq, Int.reduceToNat, and_assoc, sw0, ha0])
        refine OW.callG' (g := (!(((((!x2) || ((decide ((bits.length : Int) > (70 : Int))) && (decide ((bits.length : Int) ≤ (200 : Int))))) || (decide ((bits.length : Int) > (202 : Int)))) || ((decide ((soft.length : Int) > (70 : Int))) && (decide ((soft.length : Int) ≤ (200 : Int))))) || (decide ((soft.length : Int) > (202 : Int)))))) 4 rfl rfl ?_ (fun hg => rfl) (fun hg => by (first | ((simp only [go_sem, List.toList_toArray, ↓reduceIte, Nat.reduceEqDiff, Nat.reduceLT, Nat.reduceBEq, ha0]); exact rfl) | exact rfl)) (fun hg => ?_) (fun hg => (base_Within_ok N _ _ _ _ (grd_t hg e3))) ?_ ?_ ?_ ?_
        · (first | rfl | (simp only [go_sem, ↓reduceIte, Nat.reduceEqDiff, Nat.reduceLT, Nat.reduceLeDiff, Nat.reduceAdd, Nat.reduceMul, Nat.reduceSub, Nat.reduceBEq, ha0]; done) | (simp only [go_sem, ↓reduceIte, Nat.reduceEqDiff, Nat.reduceLT, Nat.reduceLeDiff, Nat.reduceAdd, Nat.reduceMul, Nat.reduceSub, Nat.reduceBEq, ha0]; rfl))
        · first | (rfl; done) | (exfalso; simp only [ha0, Bool.and_true, Bool.true_and, Bool.and_false, Bool.false_and, Bool.or_true, Bool.true_or, Bool.or_false, Bool.false_or, Bool.not_true, Bool.not_false, Bool.false_eq_true] at hg)
        · exact okD_all rfl
        · exact .inl rfl
        · (simp only [go_sem, Nat.reduceLT])
        refine OW.run [1, 2, 3, 55] ?_
        (simp (config := { maxSteps := 2000000 }) only [go_sem, ↓reduceIte, Nat.reduceEqDiff, Nat.reduceLT, Nat.reduceLeDiff, Nat.reduceAdd, Nat.reduceMul, Nat.reduceSub, Nat.reduceBEq, Int.reduceToNat, and_assoc, sw0, ha0])
        refine OW.nil ((congrArg K ?_).mpr hKE)
        (first | rfl | (simp only [go_sem, ↓reduceIte, Nat.reduceEqDiff, Nat.reduceLT, Nat.reduceLeDiff, Nat.reduceAdd, Nat.reduceMul, Nat.reduceSub, Nat.reduceBEq, ha0]; done) | (simp only [go_sem, ↓reduceIte, Nat.reduceEqDiff, Nat.reduceLT, Nat.reduceLeDiff, Nat.reduceAdd, Nat.reduceMul, Nat.reduceSub, Nat.reduceBEq, ha0]; rfl))
    clear hK K
    change PW _ _ _ _ _
    refine PW.cond rfl (fun h2 => ?_) (fun h2 => ?_)
    · replace hrun := br_t h2 hrun
      refine PW.seq ?_
      refine PW.regionK fun K hK => ?_
      refine OW.run [6] ?_
      simp (config := { maxSteps := 2000000 }) only [go_sem, ↓reduceIte, Nat.reduceEqDiff, Nat.reduceLT, Nat.reduceLeDiff, Nat.reduceAdd, Nat.reduceMul, Nat.reduceSub, Nat.reduceBEq, Int.reduceToNat, and_assoc, sw0]
      refine OW.nil (hK _ ?_)
      clear hK K
      change PW _ _ _ _ _
      refine PW.ret ?_
      change PW.Ends _ _ _ _ _ _
      refine PW.Ends.intro (.inr rfl) ?_
      simp (config := { maxSteps := 2000000 }) only [go_sem, ↓reduceIte, Nat.reduceEqDiff, Nat.reduceLT, Nat.reduceLeDiff, Nat.reduceAdd, Nat.reduceMul, Nat.reduceSub, Nat.reduceBEq, Int.reduceToNat, and_assoc, sw0]
      obtain rfl := Option.some.inj hrun
      refine RetOK.data' 4 (by exact trivial) ?_
      rfl
    · replace hrun := br_f h2 hrun
      refine PW.skip ?_
      change PW _ _ _ _ _
      refine PW.joinS (τ := Unit) [2, 3] 1 (fun _ => []) (fun _ => [{ cells := [.d (I c_Poly_Degree), .d (I c_Poly_Taps), .d (I c_Polar_Power), .d (L c_Polar_Info), .d (I c_Count)], e := 68 }]) _ _ r (by exact Nat.zero_le _) hrun ?_ ?_
      · intro K_ hrun N3 hN3
        refine PW.seq ?_
        refine PW.regionK fun K hK => ?_
        refine OW.run [1, 2, 3, 7] ?_
        simp (config := { maxSteps := 2000000 }) only [go_sem, ↓reduceIte, Nat.reduceEqDiff, Nat.reduceLT, Nat.reduceLeDiff, Nat.reduceAdd, Nat.reduceMul, Nat.reduceSub, Nat.reduceBEq, Int.reduceToNat, and_assoc, sw0]
        refine OW.nil (hK _ ?_)
        clear hK K
        change PW _ _ _ _ _
        refine PW.block ?_
        refine PW.loopS (σ := Int) [1, 2, 3, 7] 1 (fun version => [(7, .d (I version))]) (fun version => [{ cells := [.d (I c_Poly_Degree), .d (I c_Poly_Taps), .d (I c_Polar_Power), .d (L c_Polar_Info), .d (I c_Count)], e := 68 }]) (law02_CodeChains.b1 N c_Poly_Degree c_Poly_Taps c_Polar_Power c_Polar_Info c_Count bits K_) r N (-1 : Int) (by exact Nat.zero_le _) hrun (by (simp only [Env.frzL, Env.frz, frzOb, V.frz, V.frz.frzs, asD, map_asD, sw1, go_sem, ↓reduceIte, Nat.reduceEqDiff, Nat.reduceLT, Nat.reduceLeDiff, Nat.reduceAdd, Nat.reduceMul, Nat.reduceSub, Nat.reduceBEq]; done)) ?_
        rintro n version hrun N4 hN4
        unfold law02_CodeChains.b1 at hrun
        try simp only [go_sem, ↓reduceIte, Nat.reduceEqDiff, Nat.reduceLT, Nat.reduceLeDiff, Nat.reduceAdd, Nat.reduceMul, Nat.reduceSub, Nat.reduceBEq]
        refine PW.seq ?_
        refine PW.seq ?_
        refine PW.regionK fun K hK => ?_
        refine OW.run [1, 2, 3, 7, 57] ?_
        simp (config := { maxSteps := 2000000 }) only [go_sem, ↓reduceIte, Nat.reduceEqDiff, Nat.reduceLT, Nat.reduceLeDiff, Nat.reduceAdd, Nat.reduceMul, Nat.reduceSub, Nat.reduceBEq, Int.reduceToNat, and_assoc, sw0]
        refine OW.nil (hK _ ?_)
        clear hK K
        change PW _ _ _ _ _
        refine PW.cond rfl (fun h5 => ?_) (fun h5 => ?_)
        · replace hrun := br_t h5 hrun
          refine PW.skip ?_
          change PW _ _ _ _ _
          refine PW.seq ?_
          refine PW.block ?_
          refine PW.seq ?_
          obtain ⟨⟨x4, x41, x42, x43, x44⟩, e4, hrun⟩ := bnd_some hrun
          obtain ⟨x5, e5, hrun⟩ := bnd_some hrun
          obtain ⟨⟨x6, x61⟩, e6, hrun⟩ := bnd_some hrun
          refine PW.regionK fun K hK => ?_
          refine OW.run [1, 2, 3, 7, 8, 9] ?_
          simp (config := { maxSteps := 2000000 }) only [go_sem, ↓reduceIte, Nat.reduceEqDiff, Nat.reduceLT, Nat.reduceLeDiff, Nat.reduceAdd, Nat.reduceMul, Nat.reduceSub, Nat.reduceBEq, Int.reduceToNat, and_assoc, sw0]
          refine OW.call' 4 rfl rfl rfl (by ((simp only [go_sem, List.toList_toArray, ↓reduceIte, Nat.reduceEqDiff, Nat.reduceLT, Nat.reduceBEq]); exact rfl)) ?_ (ref02_CopyChain_ok N _ _ _ _ _ _ e4) ?_ ?_ ?_ ?_
          · rfl
          · (refine okAll_intro ?_; (simp only [go_sem, sw2, List.length_set, List.length_replicate, and_true, true_and, Nat.le_refl, ↓reduceIte, Nat.reduceEqDiff, Nat.reduceLT, Nat.reduceLeDiff, Nat.reduceAdd, Nat.reduceMul, Nat.reduceSub, Nat.reduceBEq]; done))
          · exact .inl rfl
          · (simp only [go_sem, Nat.reduceLT])
          refine OW.run [1, 2, 3, 7, 8, 9] ?_
          simp (config := { maxSteps := 2000000 }) only [go_sem, ↓reduceIte, Nat.reduceEqDiff, Nat.reduceLT, Nat.reduceLeDiff, Nat.reduceAdd, Nat.reduceMul, Nat.reduceSub, Nat.reduceBEq, Int.reduceToNat, and_assoc, sw0]
          refine OW.call' 4 rfl rfl rfl (by ((simp only [go_sem, List.toList_toArray, ↓reduceIte, Nat.reduceEqDiff, Nat.reduceLT, Nat.reduceBEq]); exact rfl)) ?_ (base_CopyInts_okd N _ _ e5) ?_ ?_ ?_ ?_
          · rfl
          · exact okD_all rfl
          · exact .inl rfl
          · (simp only [go_sem, Nat.reduceLT])
          refine OW.run [1, 2, 3, 7, 8, 9] ?_
          simp (config := { maxSteps := 2000000 }) only [go_sem, ↓reduceIte, Nat.reduceEqDiff, Nat.reduceLT, Nat.reduceLeDiff, Nat.reduceAdd, Nat.reduceMul, Nat.reduceSub, Nat.reduceBEq, Int.reduceToNat, and_assoc, sw0]
          refine OW.call' 4 rfl rfl rfl (by ((simp only [go_sem, List.toList_toArray, ↓reduceIte, Nat.reduceEqDiff, Nat.reduceLT, Nat.reduceBEq]); exact rfl)) ?_ (code_Sent_ok N _ _ _ _ _ _ _ _ e6) ?_ ?_ ?_ ?_
          · rfl
          · exact okD_all rfl
          · exact .inl rfl
          · (simp only [go_sem, Nat.reduceLT])
          refine OW.run [1, 2, 3, 7, 8, 9] ?_
          simp (config := { maxSteps := 2000000 }) only [go_sem, ↓reduceIte, Nat.reduceEqDiff, Nat.reduceLT, Nat.reduceLeDiff, Nat.reduceAdd, Nat.reduceMul, Nat.reduceSub, Nat.reduceBEq, Int.reduceToNat, and_assoc, sw0]
          refine OW.nil (hK _ ?_)
          clear hK K
          change PW _ _ _ _ _
          refine PW.seq ?_
          obtain ⟨x7, e7, hrun⟩ := bnd_some hrun
          refine PW.regionK fun K hK => ?_
          refine OW.run [1, 2, 3, 7, 8, 9, 10] ?_
          simp (config := { maxSteps := 2000000 }) only [go_sem, ↓reduceIte, Nat.reduceEqDiff, Nat.reduceLT, Nat.reduceLeDiff, Nat.reduceAdd, Nat.reduceMul, Nat.reduceSub, Nat.reduceBEq, Int.reduceToNat, and_assoc, sw0]
          refine OW.call' 4 rfl rfl rfl (by ((simp only [go_sem, List.toList_toArray, ↓reduceIte, Nat.reduceEqDiff, Nat.reduceLT, Nat.reduceBEq]); exact rfl)) ?_ (ref02_ChainErr_ok N _ _ _ _ _ _ e7) ?_ ?_ ?_ ?_
          · rfl
          · (refine okAll_intro ?_; (simp only [go_sem, sw2, List.length_set, List.length_replicate, and_true, true_and, Nat.le_refl, ↓reduceIte, Nat.reduceEqDiff, Nat.reduceLT, Nat.reduceLeDiff, Nat.reduceAdd, Nat.reduceMul, Nat.reduceSub, Nat.reduceBEq]; done))
          · exact .inl rfl
          · (simp only [go_sem, Nat.reduceLT])
          refine OW.run [1, 2, 3, 7, 8, 9, 10] ?_
          simp (config := { maxSteps := 2000000 }) only [go_sem, ↓reduceIte, Nat.reduceEqDiff, Nat.reduceLT, Nat.reduceLeDiff, Nat.reduceAdd, Nat.reduceMul, Nat.reduceSub, Nat.reduceBEq, Int.reduceToNat, and_assoc, sw0]
          refine OW.nil (hK _ ?_)
          clear hK K
          change PW _ _ _ _ _
          refine PW.joinS (τ := Int) [1, 2, 3, 7, 8, 9, 10] 1 (fun d => [(10, .d (I d))]) (fun d => [{ cells := [.d (I c_Poly_Degree), .d (I c_Poly_Taps), .d (I c_Polar_Power), .d (L c_Polar_Info), .d (I c_Count)], e := 68 }]) _ _ r (by exact Nat.zero_le _) hrun ?_ ?_
          · intro K_1 hrun N6 hN6
            refine PW.seq ?_
            refine PW.regionK fun K hK => ?_
            refine OW.run [1, 2, 3, 7, 8, 9, 10, 72] ?_
            simp (config := { maxSteps := 2000000 }) only [go_sem, ↓reduceIte, Nat.reduceEqDiff, Nat.reduceLT, Nat.reduceLeDiff, Nat.reduceAdd, Nat.reduceMul, Nat.reduceSub, Nat.reduceBEq, Int.reduceToNat, and_assoc, sw0]
            refine OW.nil (hK _ ?_)
            clear hK K
            change PW _ _ _ _ _
            refine PW.cond rfl (fun h7 => ?_) (fun h7 => ?_)
            · replace hrun := br_t h7 hrun
              obtain ⟨x8, e8, hrun⟩ := bnd_some hrun
              refine PW.regionK fun K hK => ?_
              refine OW.run [1, 2, 3, 7, 8, 9, 10] ?_
              simp (config := { maxSteps := 2000000 }) only [go_sem, ↓reduceIte, Nat.reduceEqDiff, Nat.reduceLT, Nat.reduceLeDiff, Nat.reduceAdd, Nat.reduceMul, Nat.reduceSub, Nat.reduceBEq, Int.reduceToNat, and_assoc, sw0]
              refine OW.call' 4 rfl rfl rfl (by ((simp only [go_sem, List.toList_toArray, ↓reduceIte, Nat.reduceEqDiff, Nat.reduceLT, Nat.reduceBEq]); exact rfl)) ?_ (ref02_BitsErr_ok N _ _ e8) ?_ ?_ ?_ ?_
              · rfl
              · exact okD_all rfl
              · exact .inl rfl
              · (simp only [go_sem, Nat.reduceLT])
              refine OW.run [1, 2, 3, 7, 8, 9, 10] ?_
              simp (config := { maxSteps := 2000000 }) only [go_sem, ↓reduceIte, Nat.reduceEqDiff, Nat.reduceLT, Nat.reduceLeDiff, Nat.reduceAdd, Nat.reduceMul, Nat.reduceSub, Nat.reduceBEq, Int.reduceToNat, and_assoc, sw0]
              refine OW.nil (hK _ ?_)
              clear hK K
              refine hN6 [] x8 _ hrun (by exact trivial) ?_
              (simp only [Env.frzL, Env.frz, frzOb, V.frz, V.frz.frzs, asD, map_asD, sw1, go_sem, ↓reduceIte, Nat.reduceEqDiff, Nat.reduceLT, Nat.reduceLeDiff, Nat.reduceAdd, Nat.reduceMul, Nat.reduceSub, Nat.reduceBEq]; done)
            · replace hrun := br_f h7 hrun
              refine PW.skip ?_
              refine hN6 [] x7 _ hrun (by exact trivial) ?_
              (simp only [Env.frzL, Env.frz, frzOb, V.frz, V.frz.frzs, asD, map_asD, sw1, go_sem, ↓reduceIte, Nat.reduceEqDiff, Nat.reduceLT, Nat.reduceLeDiff, Nat.reduceAdd, Nat.reduceMul, Nat.reduceSub, Nat.reduceBEq]; done)
          · rintro d hrun
            try simp only [go_sem, ↓reduceIte, Nat.reduceEqDiff, Nat.reduceLT, Nat.reduceLeDiff, Nat.reduceAdd, Nat.reduceMul, Nat.reduceSub, Nat.reduceBEq]
            refine PW.joinS (τ := Int) [1, 2, 3, 7, 8, 9, 10] 1 (fun d1 => [(10, .d (I d1))]) (fun d1 => [{ cells := [.d (I c_Poly_Degree), .d (I c_Poly_Taps), .d (I c_Polar_Power), .d (L c_Polar_Info), .d (I c_Count)], e := 68 }]) _ _ r (by exact Nat.zero_le _) hrun ?_ ?_
            · intro K_2 hrun N8 hN8
              refine PW.seq ?_
              refine PW.regionK fun K hK => ?_
              refine OW.run [1, 2, 3, 7, 8, 9, 10, 89] ?_
              simp (config := { maxSteps := 2000000 }) only [go_sem, ↓reduceIte, Nat.reduceEqDiff, Nat.reduceLT, Nat.reduceLeDiff, Nat.reduceAdd, Nat.reduceMul, Nat.reduceSub, Nat.reduceBEq, Int.reduceToNat, and_assoc, sw0]
              refine And.intro (by omega) (And.intro (by omega) (And.intro (by omega) (And.intro (by omega) ?_)))
              refine OW.nil (hK _ ?_)
              clear hK K
              change PW _ _ _ _ _
              refine PW.cond rfl (fun h9 => ?_) (fun h9 => ?_)
              · replace hrun := br_t h9 hrun
                refine PW.regionK fun K hK => ?_
                refine OW.run [1, 2, 3, 7, 8, 9, 10] ?_
                simp (config := { maxSteps := 2000000 }) only [go_sem, ↓reduceIte, Nat.reduceEqDiff, Nat.reduceLT, Nat.reduceLeDiff, Nat.reduceAdd, Nat.reduceMul, Nat.reduceSub, Nat.reduceBEq, Int.reduceToNat, and_assoc, sw0]
                refine OW.nil (hK _ ?_)
                clear hK K
                refine hN8 [] (10 : Int) _ hrun (by exact trivial) ?_
                (simp only [Env.frzL, Env.frz, frzOb, V.frz, V.frz.frzs, asD, map_asD, sw1, go_sem, ↓reduceIte, Nat.reduceEqDiff, Nat.reduceLT, Nat.reduceLeDiff, Nat.reduceAdd, Nat.reduceMul, Nat.reduceSub, Nat.reduceBEq]; done)
              · replace hrun := br_f h9 hrun
                refine PW.skip ?_
                refine hN8 [] d _ hrun (by exact trivial) ?_
                (simp only [Env.frzL, Env.frz, frzOb, V.frz, V.frz.frzs, asD, map_asD, sw1, go_sem, ↓reduceIte, Nat.reduceEqDiff, Nat.reduceLT, Nat.reduceLeDiff, Nat.reduceAdd, Nat.reduceMul, Nat.reduceSub, Nat.reduceBEq]; done)
            · rintro d1 hrun
              try simp only [go_sem, ↓reduceIte, Nat.reduceEqDiff, Nat.reduceLT, Nat.reduceLeDiff, Nat.reduceAdd, Nat.reduceMul, Nat.reduceSub, Nat.reduceBEq]
              refine PW.joinS (τ := Int) [1, 2, 3, 7, 8, 9, 10] 1 (fun d2 => [(10, .d (I d2))]) (fun d2 => [{ cells := [.d (I c_Poly_Degree), .d (I c_Poly_Taps), .d (I c_Polar_Power), .d (L c_Polar_Info), .d (I c_Count)], e := 68 }]) _ _ r (by exact Nat.zero_le _) hrun ?_ ?_
              · intro K_3 hrun N10 hN10
                refine PW.seq ?_
                refine PW.regionK fun K hK => ?_
                refine OW.run [1, 2, 3, 7, 8, 9, 10, 91] ?_
                simp (config := { maxSteps := 2000000 }) only [go_sem, ↓reduceIte, Nat.reduceEqDiff, Nat.reduceLT, Nat.reduceLeDiff, Nat.reduceAdd, Nat.reduceMul, Nat.reduceSub, Nat.reduceBEq, Int.reduceToNat, and_assoc, sw0]
                refine OW.nil (hK _ ?_)
                clear hK K
                change PW _ _ _ _ _
                refine PW.cond rfl (fun h11 => ?_) (fun h11 => ?_)
                · replace hrun := br_t h11 hrun
                  obtain ⟨x9, e9, hrun⟩ := bnd_some hrun
                  refine PW.regionK fun K hK => ?_
                  refine OW.run [1, 2, 3, 7, 8, 9, 10] ?_
                  simp (config := { maxSteps := 2000000 }) only [go_sem, ↓reduceIte, Nat.reduceEqDiff, Nat.reduceLT, Nat.reduceLeDiff, Nat.reduceAdd, Nat.reduceMul, Nat.reduceSub, Nat.reduceBEq, Int.reduceToNat, and_assoc, sw0]
                  refine OW.call' 4 rfl rfl rfl (by ((simp only [go_sem, List.toList_toArray, ↓reduceIte, Nat.reduceEqDiff, Nat.reduceLT, Nat.reduceBEq]); exact rfl)) ?_ (ref02_VersionErr_ok N _ _ e9) ?_ ?_ ?_ ?_
                  · rfl
                  · exact okD_all rfl
                  · exact .inl rfl
                  · (simp only [go_sem, Nat.reduceLT])
                  refine OW.run [1, 2, 3, 7, 8, 9, 10] ?_
                  simp (config := { maxSteps := 2000000 }) only [go_sem, ↓reduceIte, Nat.reduceEqDiff, Nat.reduceLT, Nat.reduceLeDiff, Nat.reduceAdd, Nat.reduceMul, Nat.reduceSub, Nat.reduceBEq, Int.reduceToNat, and_assoc, sw0]
                  refine OW.nil (hK _ ?_)
                  clear hK K
                  refine hN10 [] x9 _ hrun (by exact trivial) ?_
                  (simp only [Env.frzL, Env.frz, frzOb, V.frz, V.frz.frzs, asD, map_asD, sw1, go_sem, ↓reduceIte, Nat.reduceEqDiff, Nat.reduceLT, Nat.reduceLeDiff, Nat.reduceAdd, Nat.reduceMul, Nat.reduceSub, Nat.reduceBEq]; done)
                · replace hrun := br_f h11 hrun
                  refine PW.skip ?_
                  refine hN10 [] d1 _ hrun (by exact trivial) ?_
                  (simp only [Env.frzL, Env.frz, frzOb, V.frz, V.frz.frzs, asD, map_asD, sw1, go_sem, ↓reduceIte, Nat.reduceEqDiff, Nat.reduceLT, Nat.reduceLeDiff, Nat.reduceAdd, Nat.reduceMul, Nat.reduceSub, Nat.reduceBEq]; done)
              · rintro d2 hrun
                try simp only [go_sem, ↓reduceIte, Nat.reduceEqDiff, Nat.reduceLT, Nat.reduceLeDiff, Nat.reduceAdd, Nat.reduceMul, Nat.reduceSub, Nat.reduceBEq]
                refine PW.seq ?_
                obtain ⟨x10, e10, hrun⟩ := bnd_some hrun
                obtain ⟨x11, e11, hrun⟩ := bnd_some hrun
                refine PW.regionK fun K hK => ?_
                refine OW.toS [(1, .d (L bits)), (2, .d (L soft)), (3, .ptr 0 0), (7, .d (I version)), (118, .d (Bo (((x61 != d2) || ((d2 != (0 : Int)) && (decide ((x6.length : Int) > (0 : Int))))) || ((d2 == (0 : Int)) && (!x11)))))] [{ cells := [.d (I c_Poly_Degree), .d (I c_Poly_Taps), .d (I c_Polar_Power), .d (L c_Polar_Info), .d (I c_Count)], e := 68 }] ?_ (hK _ ?_)
                · intro K hKE
                  rcases Bool.eq_false_or_eq_true ((x61 != d2)) with ha0 | ha0
                  · refine OW.run [1, 2, 3, 7, 118] ?_
                    (simp (config := { maxSteps := 2000000 }) only [go_sem, ↓reduceIte, Nat.reduceEqDiff, Nat.reduceLT, Nat.reduceLeDiff, Nat.reduceAdd, Nat.reduceMul, Nat.reduceSub, Nat.reduceBEq, Int.reduceToNat, and_assoc, sw0, ha0])
                    refine OW.callG' (g := ((!((x61 != d2) || ((d2 != (0 : Int)) && (decide ((x6.length : Int) > (0 : Int)))))) && (d2 == (0 : Int)))) 4 rfl rfl ?_ (fun hg => rfl) (fun hg => by (first | ((simp only [go_sem, List.toList_toArray, ↓reduceIte, Nat.reduceEqDiff, Nat.reduceLT, Nat.reduceBEq, ha0]); exact rfl) | exact rfl)) (fun hg => ?_) (fun hg => (ref02_Sent_ok N _ _ _ _ _ _ _ _ (grd_t hg e10))) ?_ ?_ ?_ ?_
                    · (first | rfl | (simp only [go_sem, ↓reduceIte, Nat.reduceEqDiff, Nat.reduceLT, Nat.reduceLeDiff, Nat.reduceAdd, Nat.reduceMul, Nat.reduceSub, Nat.reduceBEq, ha0]; done) | (simp only [go_sem, ↓reduceIte, Nat.reduceEqDiff, Nat.reduceLT, Nat.reduceLeDiff, Nat.reduceAdd, Nat.reduceMul, Nat.reduceSub, Nat.reduceBEq, ha0]; rfl))
                    · first | (rfl; done) | (exfalso; simp only [ha0, Bool.and_true, Bool.true_and, Bool.and_false, Bool.false_and, Bool.or_true, Bool.true_or, Bool.or_false, Bool.false_or, Bool.not_true, Bool.not_false, Bool.false_eq_true] at hg)
                    · (refine okAll_intro ?_; (simp only [go_sem, sw2, List.length_set, List.length_replicate, and_true, true_and, Nat.le_refl, ↓reduceIte, Nat.reduceEqDiff, Nat.reduceLT, Nat.reduceLeDiff, Nat.reduceAdd, Nat.reduceMul, Nat.reduceSub, Nat.reduceBEq]; done))
                    · exact .inl rfl
                    · (simp only [go_sem, Nat.reduceLT])
                    refine OW.run [1, 2, 3, 7, 118] ?_
                    (simp (config := { maxSteps := 2000000 }) only [go_sem, ↓reduceIte, Nat.reduceEqDiff, Nat.reduceLT, Nat.reduceLeDiff, Nat.reduceAdd, Nat.reduceMul, Nat.reduceSub, Nat.reduceBEq, Int.reduceToNat, and_assoc, sw0, ha0])
                    refine OW.callG' (g := ((!((x61 != d2) || ((d2 != (0 : Int)) && (decide ((x6.length : Int) > (0 : Int)))))) && (d2 == (0 : Int)))) 4 rfl rfl ?_ (fun hg => rfl) (fun hg => by (first | ((simp only [go_sem, List.toList_toArray, ↓reduceIte, Nat.reduceEqDiff, Nat.reduceLT, Nat.reduceBEq, ha0]); exact rfl) | exact rfl)) (fun hg => ?_) (fun hg => (base_Ints_ok N _ _ _ (grd_t hg e11))) ?_ ?_ ?_ ?_
                    · (first | rfl | (simp only [go_sem, ↓reduceIte, Nat.reduceEqDiff, Nat.reduceLT, Nat.reduceLeDiff, Nat.reduceAdd, Nat.reduceMul, Nat.reduceSub, Nat.reduceBEq, ha0]; done) | (simp only [go_sem, ↓reduceIte, Nat.reduceEqDiff, Nat.reduceLT, Nat.reduceLeDiff, Nat.reduceAdd, Nat.reduceMul, Nat.reduceSub, Nat.reduceBEq, ha0]; rfl))
                    · first | (rfl; done) | (exfalso; simp only [ha0, Bool.and_true, Bool.true_and, Bool.and_false, Bool.false_and, Bool.or_true, Bool.true_or, Bool.or_false, Bool.false_or, Bool.not_true, Bool.not_false, Bool.false_eq_true] at hg)
                    · exact okD_all rfl
                    · exact .inl rfl
                    · (simp only [go_sem, Nat.reduceLT])
                    refine OW.run [1, 2, 3, 7, 118] ?_
                    (simp (config := { maxSteps := 2000000 }) only [go_sem, ↓reduceIte, Nat.reduceEqDiff, Nat.reduceLT, Nat.reduceLeDiff, Nat.reduceAdd, Nat.reduceMul, Nat.reduceSub, Nat.reduceBEq, Int.reduceToNat, and_assoc, sw0, ha0])
                    refine OW.nil ((congrArg K ?_).mpr hKE)
                    (first | rfl | (simp only [go_sem, ↓reduceIte, Nat.reduceEqDiff, Nat.reduceLT, Nat.reduceLeDiff, Nat.reduceAdd, Nat.reduceMul, Nat.reduceSub, Nat.reduceBEq, ha0]; done) | (simp only [go_sem, ↓reduceIte, Nat.reduceEqDiff, Nat.reduceLT, Nat.reduceLeDiff, Nat.reduceAdd, Nat.reduceMul, Nat.reduceSub, Nat.reduceBEq, ha0]; rfl))
                  · rcases Bool.eq_false_or_eq_true ((d2 != (0 : Int))) with ha1 | ha1
                    · rcases Bool.eq_false_or_eq_true ((decide ((x6.length : Int) > (0 : Int)))) with ha2 | ha2
                      · refine OW.run [1, 2, 3, 7, 118] ?_
                        (simp (config := { maxSteps := 2000000 }) only [go_sem, ↓reduceIte, Nat.reduceEqDiff, Nat.reduceLT, Nat.reduceLeDiff, Nat.reduceAdd, Nat.reduceMul, Nat.reduceSub, Nat.reduceBEq, Int.reduceToNat, and_assoc, sw0, ha0, ha1, ha2])
                        refine OW.callG' (g := ((!((x61 != d2) || ((d2 != (0 : Int)) && (decide ((x6.length : Int) > (0 : Int)))))) && (d2 == (0 : Int)))) 4 rfl rfl ?_ (fun hg => rfl) (fun hg => by (first | ((simp only [go_sem, List.toList_toArray, ↓reduceIte, Nat.reduceEqDiff, Nat.reduceLT, Nat.reduceBEq, ha0, ha1, ha2]); exact rfl) | exact rfl)) (fun hg => ?_) (fun hg => (ref02_Sent_ok N _ _ _ _ _ _ _ _ (grd_t hg e10))) ?_ ?_ ?_ ?_
                        · (first | rfl | (simp only [go_sem, ↓reduceIte, Nat.reduceEqDiff, Nat.reduceLT, Nat.reduceLeDiff, Nat.reduceAdd, Nat.reduceMul, Nat.reduceSub, Nat.reduceBEq, ha0, ha1, ha2]; done) | (simp only [go_sem, ↓reduceIte, Nat.reduceEqDiff, Nat.reduceLT, Nat.reduceLeDiff, Nat.reduceAdd, Nat.reduceMul, Nat.reduceSub, Nat.reduceBEq, ha0, ha1, ha2]; rfl))
                        · first | (rfl; done) | (exfalso; simp only [ha0, ha1, ha2, Bool.and_true, Bool.true_and, Bool.and_false, Bool.false_and, Bool.or_true, Bool.true_or, Bool.or_false, Bool.false_or, Bool.not_true, Bool.not_false, Bool.false_eq_true] at hg)
                        · (refine okAll_intro ?_; (simp only [go_sem, sw2, List.length_set, List.length_replicate, and_true, true_and, Nat.le_refl, ↓reduceIte, Nat.reduceEqDiff, Nat.reduceLT, Nat.reduceLeDiff, Nat.reduceAdd, Nat.reduceMul, Nat.reduceSub, Nat.reduceBEq]; done))
                        · exact .inl rfl
                        · (simp only [go_sem, Nat.reduceLT])
                        refine OW.run [1, 2, 3, 7, 118] ?_
                        (simp (config := { maxSteps := 2000000 }) only [go_sem, ↓reduceIte, Nat.reduceEqDiff, Nat.reduceLT, Nat.reduceLeDiff, Nat.reduceAdd, Nat.reduceMul, Nat.reduceSub, Nat.reduceBEq, Int.reduceToNat, and_assoc, sw0, ha0, ha1, ha2])
                        refine OW.callG' (g := ((!((x61 != d2) || ((d2 != (0 : Int)) && (decide ((x6.length : Int) > (0 : Int)))))) && (d2 == (0 : Int)))) 4 rfl rfl ?_ (fun hg => rfl) (fun hg => by (first | ((simp only [go_sem, List.toList_toArray, ↓reduceIte, Nat.reduceEqDiff, Nat.reduceLT, Nat.reduceBEq, ha0, ha1, ha2]); exact rfl) | exact rfl)) (fun hg => ?_) (fun hg => (base_Ints_ok N _ _ _ (grd_t hg e11))) ?_ ?_ ?_ ?_
                        · (first | rfl | (simp only [go_sem, ↓reduceIte, Nat.reduceEqDiff, Nat.reduceLT, Nat.reduceLeDiff, Nat.reduceAdd, Nat.reduceMul, Nat.reduceSub, Nat.reduceBEq, ha0, ha1, ha2]; done) | (simp only [go_sem, ↓reduceIte, Nat.reduceEqDiff, Nat.reduceLT, Nat.reduceLeDiff, Nat.reduceAdd, Nat.reduceMul, Nat.reduceSub, Nat.reduceBEq, ha0, ha1, ha2]; rfl))
                        · first | (rfl; done) | (exfalso; simp only [ha0, ha1, ha2, Bool.and_true, Bool.true_and, Bool.and_false, Bool.false_and, Bool.or_true, Bool.true_or, Bool.or_false, Bool.false_or, Bool.not_true, Bool.not_false, Bool.false_eq_true] at hg)
                        · exact okD_all rfl
                        · exact .inl rfl
                        · (simp only [go_sem, Nat.reduceLT])
                        refine OW.run [1, 2, 3, 7, 118] ?_
                        (simp (config := { maxSteps := 2000000 }) only [go_sem, ↓reduceIte, Nat.reduceEqDiff, Nat.reduceLT, Nat.reduceLeDiff, Nat.reduceAdd, Nat.reduceMul, Nat.reduceSub, Nat.reduceBEq, Int.reduceToNat, and_assoc, sw0, ha0, ha1, ha2])
                        refine OW.nil ((congrArg K ?_).mpr hKE)
                        (first | rfl | (simp only [go_sem, ↓reduceIte, Nat.reduceEqDiff, Nat.reduceLT, Nat.reduceLeDiff, Nat.reduceAdd, Nat.reduceMul, Nat.reduceSub, Nat.reduceBEq, ha0, ha1, ha2]; done) | (simp only [go_sem, ↓reduceIte, Nat.reduceEqDiff, Nat.reduceLT, Nat.reduceLeDiff, Nat.reduceAdd, Nat.reduceMul, Nat.reduceSub, Nat.reduceBEq, ha0, ha1, ha2]; rfl))
                      · rcases Bool.eq_false_or_eq_true ((d2 == (0 : Int))) with ha3 | ha3
                        · refine OW.run [1, 2, 3, 7, 118] ?_
                          (simp (config := { maxSteps := 2000000 }) only [go_sem, ↓reduceIte, Nat.reduceEqDiff, Nat.reduceLT, Nat.reduceLeDiff, Nat.reduceAdd, Nat.reduceMul, Nat.reduceSub, Nat.reduceBEq, Int.reduceToNat, and_assoc, sw0, ha0, ha1, ha2, ha3])
                          refine OW.callG' (g := ((!((x61 != d2) || ((d2 != (0 : Int)) && (decide ((x6.length : Int) > (0 : Int)))))) && (d2 == (0 : Int)))) 4 rfl rfl ?_ (fun hg => rfl) (fun hg => by (first | ((simp only [go_sem, List.toList_toArray, ↓reduceIte, Nat.reduceEqDiff, Nat.reduceLT, Nat.reduceBEq, ha0, ha1, ha2, ha3]); exact rfl) | exact rfl)) (fun hg => ?_) (fun hg => (ref02_Sent_ok N _ _ _ _ _ _ _ _ (grd_t hg e10))) ?_ ?_ ?_ ?_
                          · (first | rfl | (simp only [go_sem, ↓reduceIte, Nat.reduceEqDiff, Nat.reduceLT, Nat.reduceLeDiff, Nat.reduceAdd, Nat.reduceMul, Nat.reduceSub, Nat.reduceBEq, ha0, ha1, ha2, ha3]; done) | (simp only [go_sem, ↓reduceIte, Nat.reduceEqDiff, Nat.reduceLT, Nat.reduceLeDiff, Nat.reduceAdd, Nat.reduceMul, Nat.reduceSub, Nat.reduceBEq, ha0, ha1, ha2, ha3]; rfl))
                          · first | (rfl; done) | (exfalso; simp only [ha0, ha1, ha2, ha3, Bool.and_true, Bool.true_and, Bool.and_false, Bool.false_and, Bool.or_true, Bool.true_or, Bool.or_false, Bool.false_or, Bool.not_true, Bool.not_false, Bool.false_eq_true] at hg)
                          · (refine okAll_intro ?_; (simp only [go_sem, sw2, List.length_set, List.length_replicate, and_true, true_and, Nat.le_refl, ↓reduceIte, Nat.reduceEqDiff, Nat.reduceLT, Nat.reduceLeDiff, Nat.reduceAdd, Nat.reduceMul, Nat.reduceSub, Nat.reduceBEq]; done))
                          · exact .inl rfl
                          · (simp only [go_sem, Nat.reduceLT])
                          refine OW.run [1, 2, 3, 7, 118] ?_
                          (simp (config := { maxSteps := 2000000 }) only [go_sem, ↓reduceIte, Nat.reduceEqDiff, Nat.reduceLT, Nat.reduceLeDiff, Nat.reduceAdd, Nat.reduceMul, Nat.reduceSub, Nat.reduceBEq, Int.reduceToNat, and_assoc, sw0, ha0, ha1, ha2, ha3])
                          refine OW.callG' (g := ((!((x61 != d2) || ((d2 != (0 : Int)) && (decide ((x6.length : Int) > (0 : Int)))))) && (d2 == (0 : Int)))) 4 rfl rfl ?_ (fun hg => rfl) (fun hg => by (first | ((simp only [go_sem, List.toList_toArray, ↓reduceIte, Nat.reduceEqDiff, Nat.reduceLT, Nat.reduceBEq, ha0, ha1, ha2, ha3]); exact rfl) | exact rfl)) (fun hg => ?_) (fun hg => (base_Ints_ok N _ _ _ (grd_t hg e11))) ?_ ?_ ?_ ?_
                          · (first | rfl | (simp only [go_sem, ↓reduceIte, Nat.reduceEqDiff, Nat.reduceLT, Nat.reduceLeDiff, Nat.reduceAdd, Nat.reduceMul, Nat.reduceSub, Nat.reduceBEq, ha0, ha1, ha2, ha3]; done) | (simp only [go_sem, ↓reduceIte, Nat.reduceEqDiff, Nat.reduceLT, Nat.reduceLeDiff, Nat.reduceAdd, Nat.reduceMul, Nat.reduceSub, Nat.reduceBEq, ha0, ha1, ha2, ha3]; rfl))
                          · first | (rfl; done) | (exfalso; simp only [ha0, ha1, ha2, ha3, Bool.and_true, Bool.true_and, Bool.and_false, Bool.false_and, Bool.or_true, Bool.true_or, Bool.or_false, Bool.false_or, Bool.not_true, Bool.not_false, Bool.false_eq_true] at hg)
                          · exact okD_all rfl
                          · exact .inl rfl
                          · (simp only [go_sem, Nat.reduceLT])
                          refine OW.run [1, 2, 3, 7, 118] ?_
                          (simp (config := { maxSteps := 2000000 }) only [go_sem, ↓reduceIte, Nat.reduceEqDiff, Nat.reduceLT, Nat.reduceLeDiff, Nat.reduceAdd, Nat.reduceMul, Nat.reduceSub, Nat.reduceBEq, Int.reduceToNat, and_assoc, sw0, ha0, ha1, ha2, ha3])
                          refine OW.nil ((congrArg K ?_).mpr hKE)
                          (first | rfl | (simp only [go_sem, ↓reduceIte, Nat.reduceEqDiff, Nat.reduceLT, Nat.reduceLeDiff, Nat.reduceAdd, Nat.reduceMul, Nat.reduceSub, Nat.reduceBEq, ha0, ha1, ha2, ha3]; done) | (simp only [go_sem, ↓reduceIte, Nat.reduceEqDiff, Nat.reduceLT, Nat.reduceLeDiff, Nat.reduceAdd, Nat.reduceMul, Nat.reduceSub, Nat.reduceBEq, ha0, ha1, ha2, ha3]; rfl))
                        · refine OW.run [1, 2, 3, 7, 118] ?_
                          (simp (config := { maxSteps := 2000000 }) only [go_sem, ↓reduceIte, Nat.reduceEqDiff, Nat.reduceLT, Nat.reduceLeDiff, Nat.reduceAdd, Nat.reduceMul, Nat.reduceSub, Nat.reduceBEq, Int.reduceToNat, and_assoc, sw0, ha0, ha1, ha2, ha3])
                          refine OW.callG' (g := ((!((x61 != d2) || ((d2 != (0 : Int)) && (decide ((x6.length : Int) > (0 : Int)))))) && (d2 == (0 : Int)))) 4 rfl rfl ?_ (fun hg => rfl) (fun hg => by (first | ((simp only [go_sem, List.toList_toArray, ↓reduceIte, Nat.reduceEqDiff, Nat.reduceLT, Nat.reduceBEq, ha0, ha1, ha2, ha3]); exact rfl) | exact rfl)) (fun hg => ?_) (fun hg => (ref02_Sent_ok N _ _ _ _ _ _ _ _ (grd_t hg e10))) ?_ ?_ ?_ ?_
                          · (first | rfl | (simp only [go_sem, ↓reduceIte, Nat.reduceEqDiff, Nat.reduceLT, Nat.reduceLeDiff, Nat.reduceAdd, Nat.reduceMul, Nat.reduceSub, Nat.reduceBEq, ha0, ha1, ha2, ha3]; done) | (simp only [go_sem, ↓reduceIte, Nat.reduceEqDiff, Nat.reduceLT, Nat.reduceLeDiff, Nat.reduceAdd, Nat.reduceMul, Nat.reduceSub, Nat.reduceBEq, ha0, ha1, ha2, ha3]; rfl))
                          · first | (rfl; done) | (exfalso; simp only [ha0, ha1, ha2, ha3, Bool.and_true, Bool.true_and, Bool.and_false, Bool.false_and, Bool.or_true, Bool.true_or, Bool.or_false, Bool.false_or, Bool.not_true, Bool.not_false, Bool.false_eq_true] at hg)
                          · (refine okAll_intro ?_; (simp only [go_sem, sw2, List.length_set, List.length_replicate, and_true, true_and, Nat.le_refl, ↓reduceIte, Nat.reduceEqDiff, Nat.reduceLT, Nat.reduceLeDiff, Nat.reduceAdd, Nat.reduceMul, Nat.reduceSub, Nat.reduceBEq]; done))
                          · exact .inl rfl
                          · (simp only [go_sem, Nat.reduceLT])
                          refine OW.run [1, 2, 3, 7, 118] ?_
                          (simp (config := { maxSteps := 2000000 }) only [go_sem, ↓reduceIte, Nat.reduceEqDiff, Nat.reduceLT, Nat.reduceLeDiff, Nat.reduceAdd, Nat.reduceMul, Nat.reduceSub, Nat.reduceBEq, Int.reduceToNat, and_assoc, sw0, ha0, ha1, ha2, ha3])
                          refine OW.callG' (g := ((!((x61 != d2) || ((d2 != (0 : Int)) && (decide ((x6.length : Int) > (0 : Int)))))) && (d2 == (0 : Int)))) 4 rfl rfl ?_ (fun hg => rfl) (fun hg => by (first | ((simp only [go_sem, List.toList_toArray, ↓reduceIte, Nat.reduceEqDiff, Nat.reduceLT, Nat.reduceBEq, ha0, ha1, ha2, ha3]); exact rfl) | exact rfl)) (fun hg => ?_) (fun hg => (base_Ints_ok N _ _ _ (grd_t hg e11))) ?_ ?_ ?_ ?_
                          · (first | rfl | (simp only [go_sem, ↓reduceIte, Nat.reduceEqDiff, Nat.reduceLT, Nat.reduceLeDiff, Nat.reduceAdd, Nat.reduceMul, Nat.reduceSub, Nat.reduceBEq, ha0, ha1, ha2, ha3]; done) | (simp only [go_sem, ↓reduceIte, Nat.reduceEqDiff, Nat.reduceLT, Nat.reduceLeDiff, Nat.reduceAdd, Nat.reduceMul, Nat.reduceSub, Nat.reduceBEq, ha0, ha1, ha2, ha3]; rfl))
                          · first | (rfl; done) | (exfalso; simp only [ha0, ha1, ha2, ha3, Bool.and_true, Bool.true_and, Bool.and_false, Bool.false_and, Bool.or_true, Bool.true_or, Bool.or_false, Bool.false_or, Bool.not_true, Bool.not_false, Bool.false_eq_true] at hg)
                          · exact okD_all rfl
                          · exact .inl rfl
                          · (simp only [go_sem, Nat.reduceLT])
                          refine OW.run [1, 2, 3, 7, 118] ?_
                          (simp (config := { maxSteps := 2000000 }) only [go_sem, ↓reduceIte, Nat.reduceEqDiff, Nat.reduceLT, Nat.reduceLeDiff, Nat.reduceAdd, Nat.reduceMul, Nat.reduceSub, Nat.reduceBEq, Int.reduceToNat, and_assoc, sw0, ha0, ha1, ha2, ha3])
                          refine OW.nil ((congrArg K ?_).mpr hKE)
                          (first | rfl | (simp only [go_sem, ↓reduceIte, Nat.reduceEqDiff, Nat.reduceLT, Nat.reduceLeDiff, Nat.reduceAdd, Nat.reduceMul, Nat.reduceSub, Nat.reduceBEq, ha0, ha1, ha2, ha3]; done) | (simp only [go_sem, ↓reduceIte, Nat.reduceEqDiff, Nat.reduceLT, Nat.reduceLeDiff, Nat.reduceAdd, Nat.reduceMul, Nat.reduceSub, Nat.reduceBEq, ha0, ha1, ha2, ha3]; rfl))
                    · rcases Bool.eq_false_or_eq_true ((decide ((x6.length : Int) > (0 : Int)))) with ha2 | ha2
                      · rcases Bool.eq_false_or_eq_true ((d2 == (0 : Int))) with ha3 | ha3
                        · refine OW.run [1, 2, 3, 7, 118] ?_
                          (simp (config := { maxSteps := 2000000 }) only [go_sem, ↓reduceIte, Nat.reduceEqDiff, Nat.reduceLT, Nat.reduceLeDiff, Nat.reduceAdd, Nat.reduceMul, Nat.reduceSub, Nat.reduceBEq, Int.reduceToNat, and_assoc, sw0, ha0, ha1, ha2, ha3])
                          refine OW.callG' (g := ((!((x61 != d2) || ((d2 != (0 : Int)) && (decide ((x6.length : Int) > (0 : Int)))))) && (d2 == (0 : Int)))) 4 rfl rfl ?_ (fun hg => rfl) (fun hg => by (first | ((simp only [go_sem, List.toList_toArray, ↓reduceIte, Nat.reduceEqDiff, Nat.reduceLT, Nat.reduceBEq, ha0, ha1, ha2, ha3]); exact rfl) | exact rfl)) (fun hg => ?_) (fun hg => (ref02_Sent_ok N _ _ _ _ _ _ _ _ (grd_t hg e10))) ?_ ?_ ?_ ?_
                          · (first | rfl | (simp only [go_sem, ↓reduceIte, Nat.reduceEqDiff, Nat.reduceLT, Nat.reduceLeDiff, Nat.reduceAdd, Nat.reduceMul, Nat.reduceSub, Nat.reduceBEq, ha0, ha1, ha2, ha3]; done) | (simp only [go_sem, ↓reduceIte, Nat.reduceEqDiff, Nat.reduceLT, Nat.reduceLeDiff, Nat.reduceAdd, Nat.reduceMul, Nat.reduceSub, Nat.reduceBEq, ha0, ha1, ha2, ha3]; rfl))
                          · first | (rfl; done) | (exfalso; simp only [ha0, ha1, ha2, ha3, Bool.and_true, Bool.true_and, Bool.and_false, Bool.false_and, Bool.or_true, Bool.true_or, Bool.or_false, Bool.false_or, Bool.not_true, Bool.not_false, Bool.false_eq_true] at hg)
                          · (refine okAll_intro ?_; (simp only [go_sem, sw2, List.length_set, List.length_replicate, and_true, true_and, Nat.le_refl, ↓reduceIte, Nat.reduceEqDiff, Nat.reduceLT, Nat.reduceLeDiff, Nat.reduceAdd, Nat.reduceMul, Nat.reduceSub, Nat.reduceBEq]; done))
                          · exact .inl rfl
                          · (simp only [go_sem, Nat.reduceLT])
                          refine OW.run [1, 2, 3, 7, 118] ?_
                          (simp (config := { maxSteps := 2000000 }) only [go_sem, ↓reduceIte, Nat.reduceEqDiff, Nat.reduceLT, Nat.reduceLeDiff, Nat.reduceAdd, Nat.reduceMul, Nat.reduceSub, Nat.reduceBEq, Int.reduceToNat, and_assoc, sw0, ha0, ha1, ha2, ha3])
                          refine OW.callG' (g := ((!((x61 != d2) || ((d2 != (0 : Int)) && (decide ((x6.length : Int) > (0 : Int)))))) && (d2 == (0 : Int)))) 4 rfl rfl ?_ (fun hg => rfl) (fun hg => by (first | ((simp only [go_sem, List.toList_toArray, ↓reduceIte, Nat.reduceEqDiff, Nat.reduceLT, Nat.reduceBEq, ha0, ha1, ha2, ha3]); exact rfl) | exact rfl)) (fun hg => ?_) (fun hg => (base_Ints_ok N _ _ _ (grd_t hg e11))) ?_ ?_ ?_ ?_
                          · (first | rfl | (simp only [go_sem, ↓reduceIte, Nat.reduceEqDiff, Nat.reduceLT, Nat.reduceLeDiff, Nat.reduceAdd, Nat.reduceMul, Nat.reduceSub, Nat.reduceBEq, ha0, ha1, ha2, ha3]; done) | (simp only [go_sem, ↓reduceIte, Nat.reduceEqDiff, Nat.reduceLT, Nat.reduceLeDiff, Nat.reduceAdd, Nat.reduceMul, Nat.reduceSub, Nat.reduceBEq, ha0, ha1, ha2, ha3]; rfl))
                          · first | (rfl; done) | (exfalso; simp only [ha0, ha1, ha2, ha3, Bool.and_true, Bool.true_and, Bool.and_false, Bool.false_and, Bool.or_true, Bool.true_or, Bool.or_false, Bool.false_or, Bool.not_true, Bool.not_false, Bool.false_eq_true] at hg)
                          · exact okD_all rfl
                          · exact .inl rfl
                          · (simp only [go_sem, Nat.reduceLT])
                          refine OW.run [1, 2, 3, 7, 118] ?_
                          (simp (config := { maxSteps := 2000000 }) only [go_sem, ↓reduceIte, Nat.reduceEqDiff, Nat.reduceLT, Nat.reduceLeDiff, Nat.reduceAdd, Nat.reduceMul, Nat.reduceSub, Nat.reduceBEq, Int.reduceToNat, and_assoc, sw0, ha0, ha1, ha2, ha3])
                          refine OW.nil ((congrArg K ?_).mpr hKE)
                          (first | rfl | (simp only [go_sem, ↓reduceIte, Nat.reduceEqDiff, Nat.reduceLT, Nat.reduceLeDiff, Nat.reduceAdd, Nat.reduceMul, Nat.reduceSub, Nat.reduceBEq, ha0, ha1, ha2, ha3]; done) | (simp only [go_sem, ↓reduceIte, Nat.reduceEqDiff, Nat.reduceLT, Nat.reduceLeDiff, Nat.reduceAdd, Nat.reduceMul, Nat.reduceSub, Nat.reduceBEq, ha0, ha1, ha2, ha3]; rfl))
                        · refine OW.run [1, 2, 3, 7, 118] ?_
                          (simp (config := { maxSteps := 2000000 }) only [go_sem, ↓reduceIte, Nat.reduceEqDiff, Nat.reduceLT, Nat.reduceLeDiff, Nat.reduceAdd, Nat.reduceMul, Nat.reduceSub, Nat.reduceBEq, Int.reduceToNat, and_assoc, sw0, ha0, ha1, ha2, ha3])
                          refine OW.callG' (g := ((!((x61 != d2) || ((d2 != (0 : Int)) && (decide ((x6.length : Int) > (0 : Int)))))) && (d2 == (0 : Int)))) 4 rfl rfl ?_ (fun hg => rfl) (fun hg => by (first | ((simp only [go_sem, List.toList_toArray, ↓reduceIte, Nat.reduceEqDiff, Nat.reduceLT, Nat.reduceBEq, ha0, ha1, ha2, ha3]); exact rfl) | exact rfl)) (fun hg => ?_) (fun hg => (ref02_Sent_ok N _ _ _ _ _ _ _ _ (grd_t hg e10))) ?_ ?_ ?_ ?_
                          · (first | rfl | (simp only [go_sem, ↓reduceIte, Nat.reduceEqDiff, Nat.reduceLT, Nat.reduceLeDiff, Nat.reduceAdd, Nat.reduceMul, Nat.reduceSub, Nat.reduceBEq, ha0, ha1, ha2, ha3]; done) | (simp only [go_sem, ↓reduceIte, Nat.reduceEqDiff, Nat.reduceLT, Nat.reduceLeDiff, Nat.reduceAdd, Nat.reduceMul, Nat.reduceSub, Nat.reduceBEq, ha0, ha1, ha2, ha3]; rfl))
                          · first | (rfl; done) | (exfalso; simp only [ha0, ha1, ha2, ha3, Bool.and_true, Bool.true_and, Bool.and_false, Bool.false_and, Bool.or_true, Bool.true_or, Bool.or_false, Bool.false_or, Bool.not_true, Bool.not_false, Bool.false_eq_true] at hg)
                          · (refine okAll_intro ?_; (simp only [go_sem, sw2, List.length_set, List.length_replicate, and_true, true_and, Nat.le_refl, ↓reduceIte, Nat.reduceEqDiff, Nat.reduceLT, Nat.reduceLeDiff, Nat.reduceAdd, Nat.reduceMul, Nat.reduceSub, Nat.reduceBEq]; done))
                          · exact .inl rfl
                          · (simp only [go_sem, Nat.reduceLT])
                          refine OW.run [1, 2, 3, 7, 118] ?_
                          (simp (config := { maxSteps := 2000000 }) only [go_sem, ↓reduceIte, Nat.reduceEqDiff, Nat.reduceLT, Nat.reduceLeDiff, Nat.reduceAdd, Nat.reduceMul, Nat.reduceSub, Nat.reduceBEq, Int.reduceToNat, and_assoc, sw0, ha0, ha1, ha2, ha3])
                          refine OW.callG' (g := ((!((x61 != d2) || ((d2 != (0 : Int)) && (decide ((x6.length : Int) > (0 : Int)))))) && (d2 == (0 : Int)))) 4 rfl rfl ?_ (fun hg => rfl) (fun hg => by (first | ((simp only [go_sem, List.toList_toArray, ↓reduceIte, Nat.reduceEqDiff, Nat.reduceLT, Nat.reduceBEq, ha0, ha1, ha2, ha3]); exact rfl) | exact rfl)) (fun hg => ?_) (fun hg => (base_Ints_ok N _ _ _ (grd_t hg e11))) ?_ ?_ ?_ ?_
                          · (first | rfl | (simp only [go_sem, ↓reduceIte, Nat.reduceEqDiff, Nat.reduceLT, Nat.reduceLeDiff, Nat.reduceAdd, Nat.reduceMul, Nat.reduceSub, Nat.reduceBEq, ha0, ha1, ha2, ha3]; done) | (simp only [go_sem, ↓reduceIte, Nat.reduceEqDiff, Nat.reduceLT, Nat.reduceLeDiff, Nat.reduceAdd, Nat.reduceMul, Nat.reduceSub, Nat.reduceBEq, ha0, ha1, ha2, ha3]; rfl))
                          · first | (rfl; done) | (exfalso; simp only [ha0, ha1, ha2, ha3, Bool.and_true, Bool.true_and, Bool.and_false, Bool.false_and, Bool.or_true, Bool.true_or, Bool.or_false, Bool.false_or, Bool.not_true, Bool.not_false, Bool.false_eq_true] at hg)
                          · exact okD_all rfl
                          · exact .inl rfl
                          · (simp only [go_sem, Nat.reduceLT])
                          refine OW.run [1, 2, 3, 7, 118] ?_
                          (simp (config := { maxSteps := 2000000 }) only [go_sem, ↓reduceIte, Nat.reduceEqDiff, Nat.reduceLT, Nat.reduceLeDiff, Nat.reduceAdd, Nat.reduceMul, Nat.reduceSub, Nat.reduceBEq, Int.reduceToNat, and_assoc, sw0, ha0, ha1, ha2, ha3])
                          refine OW.nil ((congrArg K ?_).mpr hKE)
                          (first | rfl | (simp only [go_sem, ↓reduceIte, Nat.reduceEqDiff, Nat.reduceLT, Nat.reduceLeDiff, Nat.reduceAdd, Nat.reduceMul, Nat.reduceSub, Nat.reduceBEq, ha0, ha1, ha2, ha3]; done) | (simp only [go_sem, ↓reduceIte, Nat.reduceEqDiff, Nat.reduceLT, Nat.reduceLeDiff, Nat.reduceAdd, Nat.reduceMul, Nat.reduceSub, Nat.reduceBEq, ha0, ha1, ha2, ha3]; rfl))
                      · rcases Bool.eq_false_or_eq_true ((d2 == (0 : Int))) with ha3 | ha3
                        · refine OW.run [1, 2, 3, 7, 118] ?_
                          (simp (config := { maxSteps := 2000000 }) only [go_sem, ↓reduceIte, Nat.reduceEqDiff, Nat.reduceLT, Nat.reduceLeDiff, Nat.reduceAdd, Nat.reduceMul, Nat.reduceSub, Nat.reduceBEq, Int.reduceToNat, and_assoc, sw0, ha0, ha1, ha2, ha3])
                          refine OW.callG' (g := ((!((x61 != d2) || ((d2 != (0 : Int)) && (decide ((x6.length : Int) > (0 : Int)))))) && (d2 == (0 : Int)))) 4 rfl rfl ?_ (fun hg => rfl) (fun hg => by (first | ((simp only [go_sem, List.toList_toArray, ↓reduceIte, Nat.reduceEqDiff, Nat.reduceLT, Nat.reduceBEq, ha0, ha1, ha2, ha3]); exact rfl) | exact rfl)) (fun hg => ?_) (fun hg => (ref02_Sent_ok N _ _ _ _ _ _ _ _ (grd_t hg e10))) ?_ ?_ ?_ ?_
                          · (first | rfl | (simp only [go_sem, ↓reduceIte, Nat.reduceEqDiff, Nat.reduceLT, Nat.reduceLeDiff, Nat.reduceAdd, Nat.reduceMul, Nat.reduceSub, Nat.reduceBEq, ha0, ha1, ha2, ha3]; done) | (simp only [go_sem, ↓reduceIte, Nat.reduceEqDiff, Nat.reduceLT, Nat.reduceLeDiff, Nat.reduceAdd, Nat.reduceMul, Nat.reduceSub, Nat.reduceBEq, ha0, ha1, ha2, ha3]; rfl))
                          · first | (rfl; done) | (exfalso; simp only [ha0, ha1, ha2, ha3, Bool.and_true, Bool.true_and, Bool.and_false, Bool.false_and, Bool.or_true, Bool.true_or, Bool.or_false, Bool.false_or, Bool.not_true, Bool.not_false, Bool.false_eq_true] at hg)
                          · (refine okAll_intro ?_; (simp only [go_sem, sw2, List.length_set, List.length_replicate, and_true, true_and, Nat.le_refl, ↓reduceIte, Nat.reduceEqDiff, Nat.reduceLT, Nat.reduceLeDiff, Nat.reduceAdd, Nat.reduceMul, Nat.reduceSub, Nat.reduceBEq]; done))
                          · exact .inl rfl
                          · (simp only [go_sem, Nat.reduceLT])
                          refine OW.run [1, 2, 3, 7, 118] ?_
                          (simp (config := { maxSteps := 2000000 }) only [go_sem, ↓reduceIte, Nat.reduceEqDiff, Nat.reduceLT, Nat.reduceLeDiff, Nat.reduceAdd, Nat.reduceMul, Nat.reduceSub, Nat.reduceBEq, Int.reduceToNat, and_assoc, sw0, ha0, ha1, ha2, ha3])
                          refine OW.callG' (g := ((!((x61 != d2) || ((d2 != (0 : Int)) && (decide ((x6.length : Int) > (0 : Int)))))) && (d2 == (0 : Int)))) 4 rfl rfl ?_ (fun hg => rfl) (fun hg => by (first | ((simp only [go_sem, List.toList_toArray, ↓reduceIte, Nat.reduceEqDiff, Nat.reduceLT, Nat.reduceBEq, ha0, ha1, ha2, ha3]); exact rfl) | exact rfl)) (fun hg => ?_) (fun hg => (base_Ints_ok N _ _ _ (grd_t hg e11))) ?_ ?_ ?_ ?_
                          · (first | rfl | (simp only [go_sem, ↓reduceIte, Nat.reduceEqDiff, Nat.reduceLT, Nat.reduceLeDiff, Nat.reduceAdd, Nat.reduceMul, Nat.reduceSub, Nat.reduceBEq, ha0, ha1, ha2, ha3]; done) | (simp only [go_sem, ↓reduceIte, Nat.reduceEqDiff, Nat.reduceLT, Nat.reduceLeDiff, Nat.reduceAdd, Nat.reduceMul, Nat.reduceSub, Nat.reduceBEq, ha0, ha1, ha2, ha3]; rfl))
                          · first | (rfl; done) | (exfalso; simp only [ha0, ha1, ha2, ha3, Bool.and_true, Bool.true_and, Bool.and_false, Bool.false_and, Bool.or_true, Bool.true_or, Bool.or_false, Bool.false_or, Bool.not_true, Bool.not_false, Bool.false_eq_true] at hg)
                          · exact okD_all rfl
                          · exact .inl rfl
                          · (simp only [go_sem, Nat.reduceLT])
                          refine OW.run [1, 2, 3, 7, 118] ?_
                          (simp (config := { maxSteps := 2000000 }) only [go_sem, ↓reduceIte, Nat.reduceEqDiff, Nat.reduceLT, Nat.reduceLeDiff, Nat.reduceAdd, Nat.reduceMul, Nat.reduceSub, Nat.reduceBEq, Int.reduceToNat, and_assoc, sw0, ha0, ha1, ha2, ha3])
                          refine OW.nil ((congrArg K ?_).mpr hKE)
                          (first | rfl | (simp only [go_sem, ↓reduceIte, Nat.reduceEqDiff, Nat.reduceLT, Nat.reduceLeDiff, Nat.reduceAdd, Nat.reduceMul, Nat.reduceSub, Nat.reduceBEq, ha0, ha1, ha2, ha3]; done) | (simp only [go_sem, ↓reduceIte, Nat.reduceEqDiff, Nat.reduceLT, Nat.reduceLeDiff, Nat.reduceAdd, Nat.reduceMul, Nat.reduceSub, Nat.reduceBEq, ha0, ha1, ha2, ha3]; rfl))
                        · refine OW.run [1, 2, 3, 7, 118] ?_
                          (simp (config := { maxSteps := 2000000 }) only [go_sem, ↓reduceIte, Nat.reduceEqDiff, Nat.reduceLT, Nat.reduceLeDiff, Nat.reduceAdd, Nat.reduceMul, Nat.reduceSub, Nat.reduceBEq, Int.reduceToNat, and_assoc, sw0, ha0, ha1, ha2, ha3])
                          refine OW.callG' (g := ((!((x61 != d2) || ((d2 != (0 : Int)) && (decide ((x6.length : Int) > (0 : Int)))))) && (d2 == (0 : Int)))) 4 rfl rfl ?_ (fun hg => rfl) (fun hg => by (first | ((simp only [go_sem, List.toList_toArray, ↓reduceIte, Nat.reduceEqDiff, Nat.reduceLT, Nat.reduceBEq, ha0, ha1, ha2, ha3]); exact rfl) | exact rfl)) (fun hg => ?_) (fun hg => (ref02_Sent_ok N _ _ _ _ _ _ _ _ (grd_t hg e10))) ?_ ?_ ?_ ?_
                          · (first | rfl | (simp only [go_sem, ↓reduceIte, Nat.reduceEqDiff, Nat.reduceLT, Nat.reduceLeDiff, Nat.reduceAdd, Nat.reduceMul, Nat.reduceSub, Nat.reduceBEq, ha0, ha1, ha2, ha3]; done) | (simp only [go_sem, ↓reduceIte, Nat.reduceEqDiff, Nat.reduceLT, Nat.reduceLeDiff, Nat.reduceAdd, Nat.reduceMul, Nat.reduceSub, Nat.reduceBEq, ha0, ha1, ha2, ha3]; rfl))
                          · first | (rfl; done) | (exfalso; simp only [ha0, ha1, ha2, ha3, Bool.and_true, Bool.true_and, Bool.and_false, Bool.false_and, Bool.or_true, Bool.true_or, Bool.or_false, Bool.false_or, Bool.not_true, Bool.not_false, Bool.false_eq_true] at hg)
                          · (refine okAll_intro ?_; (simp only [go_sem, sw2, List.length_set, List.length_replicate, and_true, true_and, Nat.le_refl, ↓reduceIte, Nat.reduceEqDiff, Nat.reduceLT, Nat.reduceLeDiff, Nat.reduceAdd, Nat.reduceMul, Nat.reduceSub, Nat.reduceBEq]; done))
                          · exact .inl rfl
                          · (simp only [go_sem, Nat.reduceLT])
                          refine OW.run [1, 2, 3, 7, 118] ?_
                          (simp (config := { maxSteps := 2000000 }) only [go_sem, ↓reduceIte, Nat.reduceEqDiff, Nat.reduceLT, Nat.reduceLeDiff, Nat.reduceAdd, Nat.reduceMul, Nat.reduceSub, Nat.reduceBEq, Int.reduceToNat, and_assoc, sw0, ha0, ha1, ha2, ha3])
                          refine OW.callG' (g := ((!((x61 != d2) || ((d2 != (0 : Int)) && (decide ((x6.length : Int) > (0 : Int)))))) && (d2 == (0 : Int)))) 4 rfl rfl ?_ (fun hg => rfl) (fun hg => by (first | ((simp only [go_sem, List.toList_toArray, ↓reduceIte, Nat.reduceEqDiff, Nat.reduceLT, Nat.reduceBEq, ha0, ha1, ha2, ha3]); exact rfl) | exact rfl)) (fun hg => ?_) (fun hg => (base_Ints_ok N _ _ _ (grd_t hg e11))) ?_ ?_ ?_ ?_
                          · (first | rfl | (simp only [go_sem, ↓reduceIte, Nat.reduceEqDiff, Nat.reduceLT, Nat.reduceLeDiff, Nat.reduceAdd, Nat.reduceMul, Nat.reduceSub, Nat.reduceBEq, ha0, ha1, ha2, ha3]; done) | (simp only [go_sem, ↓reduceIte, Nat.reduceEqDiff, Nat.reduceLT, Nat.reduceLeDiff, Nat.reduceAdd, Nat.reduceMul, Nat.reduceSub, Nat.reduceBEq, ha0, ha1, ha2, ha3]; rfl))
                          · first | (rfl; done) | (exfalso; simp only [ha0, ha1, ha2, ha3, Bool.and_true, Bool.true_and, Bool.and_false, Bool.false_and, Bool.or_true, Bool.true_or, Bool.or_false, Bool.false_or, Bool.not_true, Bool.not_false, Bool.false_eq_true] at hg)
                          · exact okD_all rfl
                          · exact .inl rfl
                          · (simp only [go_sem, Nat.reduceLT])
                          refine OW.run [1, 2, 3, 7, 118] ?_
                          (simp (config := { maxSteps := 2000000 }) only [go_sem, ↓reduceIte, Nat.reduceEqDiff, Nat.reduceLT, Nat.reduceLeDiff, Nat.reduceAdd, Nat.reduceMul, Nat.reduceSub, Nat.reduceBEq, Int.reduceToNat, and_assoc, sw0, ha0, ha1, ha2, ha3])
                          refine OW.nil ((congrArg K ?_).mpr hKE)
                          (first | rfl | (simp only [go_sem, ↓reduceIte, Nat.reduceEqDiff, Nat.reduceLT, Nat.reduceLeDiff, Nat.reduceAdd, Nat.reduceMul, Nat.reduceSub, Nat.reduceBEq, ha0, ha1, ha2, ha3]; done) | (simp only [go_sem, ↓reduceIte, Nat.reduceEqDiff, Nat.reduceLT, Nat.reduceLeDiff, Nat.reduceAdd, Nat.reduceMul, Nat.reduceSub, Nat.reduceBEq, ha0, ha1, ha2, ha3]; rfl))
                clear hK K
                change PW _ _ _ _ _
                refine PW.cond rfl (fun h12 => ?_) (fun h12 => ?_)
                · replace hrun := br_t h12 hrun
                  refine PW.seq ?_
                  refine PW.regionK fun K hK => ?_
                  refine OW.run [6] ?_
                  simp (config := { maxSteps := 2000000 }) only [go_sem, ↓reduceIte, Nat.reduceEqDiff, Nat.reduceLT, Nat.reduceLeDiff, Nat.reduceAdd, Nat.reduceMul, Nat.reduceSub, Nat.reduceBEq, Int.reduceToNat, and_assoc, sw0]
                  refine OW.nil (hK _ ?_)
                  clear hK K
                  change PW _ _ _ _ _
                  refine PW.ret ?_
                  change PW.Ends _ _ _ _ _ _
                  refine PW.Ends.intro (.inr rfl) ?_
                  simp (config := { maxSteps := 2000000 }) only [go_sem, ↓reduceIte, Nat.reduceEqDiff, Nat.reduceLT, Nat.reduceLeDiff, Nat.reduceAdd, Nat.reduceMul, Nat.reduceSub, Nat.reduceBEq, Int.reduceToNat, and_assoc, sw0]
                  obtain rfl := Option.some.inj hrun
                  refine RetOK.data' 4 (by exact trivial) ?_
                  rfl
                · replace hrun := br_f h12 hrun
                  refine PW.skip ?_
                  change PW _ _ _ _ _
                  refine PW.regionK fun K hK => ?_
                  refine OW.run [1, 2, 3, 7] ?_
                  simp (config := { maxSteps := 2000000 }) only [go_sem, ↓reduceIte, Nat.reduceEqDiff, Nat.reduceLT, Nat.reduceLeDiff, Nat.reduceAdd, Nat.reduceMul, Nat.reduceSub, Nat.reduceBEq, Int.reduceToNat, and_assoc, sw0]
                  refine OW.nil (hK _ ?_)
                  clear hK K
                  refine hN4 [] (w64 (version + (1 : Int))) _ hrun (by exact trivial) ?_
                  (simp only [Env.frzL, Env.frz, frzOb, V.frz, V.frz.frzs, asD, map_asD, sw1, go_sem, ↓reduceIte, Nat.reduceEqDiff, Nat.reduceLT, Nat.reduceLeDiff, Nat.reduceAdd, Nat.reduceMul, Nat.reduceSub, Nat.reduceBEq]; done)
        · replace hrun := br_f h5 hrun
          refine PW.exit ?_
          refine hN3 [] () _ hrun (by exact trivial) ?_
          (simp only [Env.frzL, Env.frz, frzOb, V.frz, V.frz.frzs, asD, map_asD, sw1, go_sem, ↓reduceIte, Nat.reduceEqDiff, Nat.reduceLT, Nat.reduceLeDiff, Nat.reduceAdd, Nat.reduceMul, Nat.reduceSub, Nat.reduceBEq]; done)
      · rintro _ hrun
        try simp only [go_sem, ↓reduceIte, Nat.reduceEqDiff, Nat.reduceLT, Nat.reduceLeDiff, Nat.reduceAdd, Nat.reduceMul, Nat.reduceSub, Nat.reduceBEq]
        refine PW.seq ?_
        obtain ⟨⟨x12, x121, x122, x123, x124⟩, e12, hrun⟩ := bnd_some hrun
        obtain ⟨x13, e13, hrun⟩ := bnd_some hrun
        obtain ⟨⟨x14, x141⟩, e14, hrun⟩ := bnd_some hrun
        refine PW.regionK fun K hK => ?_
        refine OW.run [2, 3, 11, 12] ?_
        simp (config := { maxSteps := 2000000 }) only [go_sem, ↓reduceIte, Nat.reduceEqDiff, Nat.reduceLT, Nat.reduceLeDiff, Nat.reduceAdd, Nat.reduceMul, Nat.reduceSub, Nat.reduceBEq, Int.reduceToNat, and_assoc, sw0]
        refine OW.call' 4 rfl rfl rfl (by ((simp only [go_sem, List.toList_toArray, ↓reduceIte, Nat.reduceEqDiff, Nat.reduceLT, Nat.reduceBEq]); exact rfl)) ?_ (ref02_CopyChain_ok N _ _ _ _ _ _ e12) ?_ ?_ ?_ ?_
        · rfl
        · (refine okAll_intro ?_; (simp only [go_sem, sw2, List.length_set, List.length_replicate, and_true, true_and, Nat.le_refl, ↓reduceIte, Nat.reduceEqDiff, Nat.reduceLT, Nat.reduceLeDiff, Nat.reduceAdd, Nat.reduceMul, Nat.reduceSub, Nat.reduceBEq]; done))
        · exact .inl rfl
        · (simp only [go_sem, Nat.reduceLT])
        refine OW.run [2, 3, 11, 12] ?_
        simp (config := { maxSteps := 2000000 }) only [go_sem, ↓reduceIte, Nat.reduceEqDiff, Nat.reduceLT, Nat.reduceLeDiff, Nat.reduceAdd, Nat.reduceMul, Nat.reduceSub, Nat.reduceBEq, Int.reduceToNat, and_assoc, sw0]
        refine OW.call' 4 rfl rfl rfl (by ((simp only [go_sem, List.toList_toArray, ↓reduceIte, Nat.reduceEqDiff, Nat.reduceLT, Nat.reduceBEq]); exact rfl)) ?_ (base_CopyInts_okd N _ _ e13) ?_ ?_ ?_ ?_
        · rfl
        · exact okD_all rfl
        · exact .inl rfl
        · (simp only [go_sem, Nat.reduceLT])
        refine OW.run [2, 3, 11, 12] ?_
        simp (config := { maxSteps := 2000000 }) only [go_sem, ↓reduceIte, Nat.reduceEqDiff, Nat.reduceLT, Nat.reduceLeDiff, Nat.reduceAdd, Nat.reduceMul, Nat.reduceSub, Nat.reduceBEq, Int.reduceToNat, and_assoc, sw0]
        refine OW.call' 4 rfl rfl rfl (by ((simp only [go_sem, List.toList_toArray, ↓reduceIte, Nat.reduceEqDiff, Nat.reduceLT, Nat.reduceBEq]); exact rfl)) ?_ (code_Recovered_ok N _ _ _ _ _ _ _ e14) ?_ ?_ ?_ ?_
        · rfl
        · exact okD_all rfl
        · exact .inl rfl
        · (simp only [go_sem, Nat.reduceLT])
        refine OW.run [2, 3, 11, 12] ?_
        simp (config := { maxSteps := 2000000 }) only [go_sem, ↓reduceIte, Nat.reduceEqDiff, Nat.reduceLT, Nat.reduceLeDiff, Nat.reduceAdd, Nat.reduceMul, Nat.reduceSub, Nat.reduceBEq, Int.reduceToNat, and_assoc, sw0]
        refine OW.nil (hK _ ?_)
        clear hK K
        change PW _ _ _ _ _
        refine PW.seq ?_
        obtain ⟨x15, e15, hrun⟩ := bnd_some hrun
        refine PW.regionK fun K hK => ?_
        refine OW.run [2, 3, 11, 12, 13] ?_
        simp (config := { maxSteps := 2000000 }) only [go_sem, ↓reduceIte, Nat.reduceEqDiff, Nat.reduceLT, Nat.reduceLeDiff, Nat.reduceAdd, Nat.reduceMul, Nat.reduceSub, Nat.reduceBEq, Int.reduceToNat, and_assoc, sw0]
        refine OW.call' 4 rfl rfl rfl (by ((simp only [go_sem, List.toList_toArray, ↓reduceIte, Nat.reduceEqDiff, Nat.reduceLT, Nat.reduceBEq]); exact rfl)) ?_ (ref02_ChainErr_ok N _ _ _ _ _ _ e15) ?_ ?_ ?_ ?_
        · rfl
        · (refine okAll_intro ?_; (simp only [go_sem, sw2, List.length_set, List.length_replicate, and_true, true_and, Nat.le_refl, ↓reduceIte, Nat.reduceEqDiff, Nat.reduceLT, Nat.reduceLeDiff, Nat.reduceAdd, Nat.reduceMul, Nat.reduceSub, Nat.reduceBEq]; done))
        · exact .inl rfl
        · (simp only [go_sem, Nat.reduceLT])
        refine OW.run [2, 3, 11, 12, 13] ?_
        simp (config := { maxSteps := 2000000 }) only [go_sem, ↓reduceIte, Nat.reduceEqDiff, Nat.reduceLT, Nat.reduceLeDiff, Nat.reduceAdd, Nat.reduceMul, Nat.reduceSub, Nat.reduceBEq, Int.reduceToNat, and_assoc, sw0]
        refine OW.nil (hK _ ?_)
        clear hK K
        change PW _ _ _ _ _
        refine PW.joinS (τ := Int) [2, 3, 11, 12, 13] 1 (fun d3 => [(13, .d (I d3))]) (fun d3 => [{ cells := [.d (I c_Poly_Degree), .d (I c_Poly_Taps), .d (I c_Polar_Power), .d (L c_Polar_Info), .d (I c_Count)], e := 68 }]) _ _ r (by exact Nat.zero_le _) hrun ?_ ?_
        · intro K_4 hrun N13 hN13
          refine PW.seq ?_
          refine PW.regionK fun K hK => ?_
          refine OW.run [2, 3, 11, 12, 13, 130] ?_
          simp (config := { maxSteps := 2000000 }) only [go_sem, ↓reduceIte, Nat.reduceEqDiff, Nat.reduceLT, Nat.reduceLeDiff, Nat.reduceAdd, Nat.reduceMul, Nat.reduceSub, Nat.reduceBEq, Int.reduceToNat, and_assoc, sw0]
          refine OW.nil (hK _ ?_)
          clear hK K
          change PW _ _ _ _ _
          refine PW.cond rfl (fun h14 => ?_) (fun h14 => ?_)
          · replace hrun := br_t h14 hrun
            obtain ⟨x16, e16, hrun⟩ := bnd_some hrun
            refine PW.regionK fun K hK => ?_
            refine OW.run [2, 3, 11, 12, 13] ?_
            simp (config := { maxSteps := 2000000 }) only [go_sem, ↓reduceIte, Nat.reduceEqDiff, Nat.reduceLT, Nat.reduceLeDiff, Nat.reduceAdd, Nat.reduceMul, Nat.reduceSub, Nat.reduceBEq, Int.reduceToNat, and_assoc, sw0]
            refine OW.call' 4 rfl rfl rfl (by ((simp only [go_sem, List.toList_toArray, ↓reduceIte, Nat.reduceEqDiff, Nat.reduceLT, Nat.reduceBEq]); exact rfl)) ?_ (ref02_SumsErr_ok N _ _ e16) ?_ ?_ ?_ ?_
            · rfl
            · exact okD_all rfl
            · exact .inl rfl
            · (simp only [go_sem, Nat.reduceLT])
            refine OW.run [2, 3, 11, 12, 13] ?_
            simp (config := { maxSteps := 2000000 }) only [go_sem, ↓reduceIte, Nat.reduceEqDiff, Nat.reduceLT, Nat.reduceLeDiff, Nat.reduceAdd, Nat.reduceMul, Nat.reduceSub, Nat.reduceBEq, Int.reduceToNat, and_assoc, sw0]
            refine OW.nil (hK _ ?_)
            clear hK K
            refine hN13 [] x16 _ hrun (by exact trivial) ?_
            (simp only [Env.frzL, Env.frz, frzOb, V.frz, V.frz.frzs, asD, map_asD, sw1, go_sem, ↓reduceIte, Nat.reduceEqDiff, Nat.reduceLT, Nat.reduceLeDiff, Nat.reduceAdd, Nat.reduceMul, Nat.reduceSub, Nat.reduceBEq]; done)
          · replace hrun := br_f h14 hrun
            refine PW.skip ?_
            refine hN13 [] x15 _ hrun (by exact trivial) ?_
            (simp only [Env.frzL, Env.frz, frzOb, V.frz, V.frz.frzs, asD, map_asD, sw1, go_sem, ↓reduceIte, Nat.reduceEqDiff, Nat.reduceLT, Nat.reduceLeDiff, Nat.reduceAdd, Nat.reduceMul, Nat.reduceSub, Nat.reduceBEq]; done)
        · rintro d3 hrun
          try simp only [go_sem, ↓reduceIte, Nat.reduceEqDiff, Nat.reduceLT, Nat.reduceLeDiff, Nat.reduceAdd, Nat.reduceMul, Nat.reduceSub, Nat.reduceBEq]
          refine PW.joinS (τ := Int) [2, 3, 11, 12, 13] 1 (fun d4 => [(13, .d (I d4))]) (fun d4 => [{ cells := [.d (I c_Poly_Degree), .d (I c_Poly_Taps), .d (I c_Polar_Power), .d (L c_Polar_Info), .d (I c_Count)], e := 68 }]) _ _ r (by exact Nat.zero_le _) hrun ?_ ?_
          · intro K_5 hrun N15 hN15
            refine PW.seq ?_
            obtain ⟨x17, e17, hrun⟩ := bnd_some hrun
            refine PW.regionK fun K hK => ?_
            refine OW.run [2, 3, 11, 12, 13, 142] ?_
            simp (config := { maxSteps := 2000000 }) only [go_sem, ↓reduceIte, Nat.reduceEqDiff, Nat.reduceLT, Nat.reduceLeDiff, Nat.reduceAdd, Nat.reduceMul, Nat.reduceSub, Nat.reduceBEq, Int.reduceToNat, and_assoc, sw0]
            refine And.intro (by omega) ?_
            refine OW.callG' (g := (d3 == (0 : Int))) 4 rfl rfl ?_ (fun hg => rfl) (fun hg => by ((simp only [go_sem, List.toList_toArray, ↓reduceIte, Nat.reduceEqDiff, Nat.reduceLT, Nat.reduceBEq]); exact rfl)) (fun hg => ?_) (fun hg => (ref02_Length_ok N _ _ _ (grd_t hg e17))) ?_ ?_ ?_ ?_
            · (simp only [go_sem, ↓reduceIte, Nat.reduceEqDiff, Nat.reduceLT, Nat.reduceLeDiff, Nat.reduceAdd, Nat.reduceMul, Nat.reduceSub, Nat.reduceBEq]; done)
            · rfl
            · (refine okAll_intro ?_; (simp only [go_sem, sw2, List.length_set, List.length_replicate, and_true, true_and, Nat.le_refl, ↓reduceIte, Nat.reduceEqDiff, Nat.reduceLT, Nat.reduceLeDiff, Nat.reduceAdd, Nat.reduceMul, Nat.reduceSub, Nat.reduceBEq]; done))
            · exact .inl rfl
            · (simp only [go_sem, Nat.reduceLT])
            refine OW.run [2, 3, 11, 12, 13, 142] ?_
            simp (config := { maxSteps := 2000000 }) only [go_sem, ↓reduceIte, Nat.reduceEqDiff, Nat.reduceLT, Nat.reduceLeDiff, Nat.reduceAdd, Nat.reduceMul, Nat.reduceSub, Nat.reduceBEq, Int.reduceToNat, and_assoc, sw0]
            refine OW.nil (hK _ ?_)
            clear hK K
            change PW _ _ _ _ _
            refine PW.cond rfl (fun h16 => ?_) (fun h16 => ?_)
            · replace hrun := br_t h16 hrun
              refine PW.regionK fun K hK => ?_
              refine OW.run [2, 3, 11, 12, 13] ?_
              simp (config := { maxSteps := 2000000 }) only [go_sem, ↓reduceIte, Nat.reduceEqDiff, Nat.reduceLT, Nat.reduceLeDiff, Nat.reduceAdd, Nat.reduceMul, Nat.reduceSub, Nat.reduceBEq, Int.reduceToNat, and_assoc, sw0]
              refine OW.nil (hK _ ?_)
              clear hK K
              refine hN15 [] (10 : Int) _ hrun (by exact trivial) ?_
              (simp only [Env.frzL, Env.frz, frzOb, V.frz, V.frz.frzs, asD, map_asD, sw1, go_sem, ↓reduceIte, Nat.reduceEqDiff, Nat.reduceLT, Nat.reduceLeDiff, Nat.reduceAdd, Nat.reduceMul, Nat.reduceSub, Nat.reduceBEq]; done)
            · replace hrun := br_f h16 hrun
              refine PW.skip ?_
              refine hN15 [] d3 _ hrun (by exact trivial) ?_
              (simp only [Env.frzL, Env.frz, frzOb, V.frz, V.frz.frzs, asD, map_asD, sw1, go_sem, ↓reduceIte, Nat.reduceEqDiff, Nat.reduceLT, Nat.reduceLeDiff, Nat.reduceAdd, Nat.reduceMul, Nat.reduceSub, Nat.reduceBEq]; done)
          · rintro d4 hrun
            try simp only [go_sem, ↓reduceIte, Nat.reduceEqDiff, Nat.reduceLT, Nat.reduceLeDiff, Nat.reduceAdd, Nat.reduceMul, Nat.reduceSub, Nat.reduceBEq]
            refine PW.seq ?_
            refine PW.regionK fun K hK => ?_
            refine OW.run [2, 3, 11, 12, 13, 14] ?_
            simp (config := { maxSteps := 2000000 }) only [go_sem, ↓reduceIte, Nat.reduceEqDiff, Nat.reduceLT, Nat.reduceLeDiff, Nat.reduceAdd, Nat.reduceMul, Nat.reduceSub, Nat.reduceBEq, Int.reduceToNat, and_assoc, sw0]
            refine OW.nil (hK _ ?_)
            clear hK K
            change PW _ _ _ _ _
            refine PW.seq ?_
            refine PW.seq ?_
            refine PW.regionK fun K hK => ?_
            refine OW.run [2, 3, 11, 12, 13, 14, 144] ?_
            simp (config := { maxSteps := 2000000 }) only [go_sem, ↓reduceIte, Nat.reduceEqDiff, Nat.reduceLT, Nat.reduceLeDiff, Nat.reduceAdd, Nat.reduceMul, Nat.reduceSub, Nat.reduceBEq, Int.reduceToNat, and_assoc, sw0]
            refine OW.nil (hK _ ?_)
            clear hK K
            change PW _ _ _ _ _
            refine PW.cond rfl (fun h17 => ?_) (fun h17 => ?_)
            · replace hrun := br_t h17 hrun
              obtain ⟨⟨x18, x181⟩, e18, hrun⟩ := bnd_some hrun
              refine PW.regionK fun K hK => ?_
              refine OW.run [11, 12, 13, 14] ?_
              simp (config := { maxSteps := 2000000 }) only [go_sem, ↓reduceIte, Nat.reduceEqDiff, Nat.reduceLT, Nat.reduceLeDiff, Nat.reduceAdd, Nat.reduceMul, Nat.reduceSub, Nat.reduceBEq, Int.reduceToNat, and_assoc, sw0]
              refine OW.call' 4 rfl rfl rfl (by ((simp only [go_sem, List.toList_toArray, ↓reduceIte, Nat.reduceEqDiff, Nat.reduceLT, Nat.reduceBEq]); exact rfl)) ?_ (ref02_Recovered_ok N _ _ _ _ _ _ _ e18) ?_ ?_ ?_ ?_
              · rfl
              · (refine okAll_intro ?_; (simp only [go_sem, sw2, List.length_set, List.length_replicate, and_true, true_and, Nat.le_refl, ↓reduceIte, Nat.reduceEqDiff, Nat.reduceLT, Nat.reduceLeDiff, Nat.reduceAdd, Nat.reduceMul, Nat.reduceSub, Nat.reduceBEq]; done))
              · exact .inl rfl
              · (simp only [go_sem, Nat.reduceLT])
              refine OW.run [11, 12, 13, 14] ?_
              simp (config := { maxSteps := 2000000 }) only [go_sem, ↓reduceIte, Nat.reduceEqDiff, Nat.reduceLT, Nat.reduceLeDiff, Nat.reduceAdd, Nat.reduceMul, Nat.reduceSub, Nat.reduceBEq, Int.reduceToNat, and_assoc, sw0]
              refine OW.nil (hK _ ?_)
              clear hK K
              change PW _ _ _ _ _
              refine PW.seq ?_
              obtain ⟨x19, e19, hrun⟩ := bnd_some hrun
              refine PW.regionK fun K hK => ?_
              refine OW.run [6] ?_
              simp (config := { maxSteps := 2000000 }) only [go_sem, ↓reduceIte, Nat.reduceEqDiff, Nat.reduceLT, Nat.reduceLeDiff, Nat.reduceAdd, Nat.reduceMul, Nat.reduceSub, Nat.reduceBEq, Int.reduceToNat, and_assoc, sw0]
              refine OW.callG' (g := (x141 == x181)) 4 rfl rfl ?_ (fun hg => rfl) (fun hg => by ((simp only [go_sem, List.toList_toArray, ↓reduceIte, Nat.reduceEqDiff, Nat.reduceLT, Nat.reduceBEq]); exact rfl)) (fun hg => ?_) (fun hg => (base_Ints_ok N _ _ _ (grd_t hg e19))) ?_ ?_ ?_ ?_
              · (simp only [go_sem, ↓reduceIte, Nat.reduceEqDiff, Nat.reduceLT, Nat.reduceLeDiff, Nat.reduceAdd, Nat.reduceMul, Nat.reduceSub, Nat.reduceBEq]; done)
              · rfl
              · exact okD_all rfl
              · exact .inl rfl
              · (simp only [go_sem, Nat.reduceLT])
              refine OW.run [6] ?_
              simp (config := { maxSteps := 2000000 }) only [go_sem, ↓reduceIte, Nat.reduceEqDiff, Nat.reduceLT, Nat.reduceLeDiff, Nat.reduceAdd, Nat.reduceMul, Nat.reduceSub, Nat.reduceBEq, Int.reduceToNat, and_assoc, sw0]
              refine OW.nil (hK _ ?_)
              clear hK K
              change PW _ _ _ _ _
              refine PW.ret ?_
              change PW.Ends _ _ _ _ _ _
              refine PW.Ends.intro (.inr rfl) ?_
              simp (config := { maxSteps := 2000000 }) only [go_sem, ↓reduceIte, Nat.reduceEqDiff, Nat.reduceLT, Nat.reduceLeDiff, Nat.reduceAdd, Nat.reduceMul, Nat.reduceSub, Nat.reduceBEq, Int.reduceToNat, and_assoc, sw0]
              obtain rfl := Option.some.inj hrun
              refine RetOK.data' 4 (by exact trivial) ?_
              rfl
            · replace hrun := br_f h17 hrun
              refine PW.skip ?_
              change PW _ _ _ _ _
              refine PW.seq ?_
              obtain ⟨x20, e20, hrun⟩ := bnd_some hrun
              refine PW.regionK fun K hK => ?_
              refine OW.run [6] ?_
              simp (config := { maxSteps := 2000000 }) only [go_sem, ↓reduceIte, Nat.reduceEqDiff, Nat.reduceLT, Nat.reduceLeDiff, Nat.reduceAdd, Nat.reduceMul, Nat.reduceSub, Nat.reduceBEq, Int.reduceToNat, and_assoc, sw0]
              refine OW.callG' (g := (x141 == d4)) 4 rfl rfl ?_ (fun hg => rfl) (fun hg => by ((simp only [go_sem, List.toList_toArray, ↓reduceIte, Nat.reduceEqDiff, Nat.reduceLT, Nat.reduceBEq]); exact rfl)) (fun hg => ?_) (fun hg => (base_Ints_ok N _ _ _ (grd_t hg e20))) ?_ ?_ ?_ ?_
              · (simp only [go_sem, ↓reduceIte, Nat.reduceEqDiff, Nat.reduceLT, Nat.reduceLeDiff, Nat.reduceAdd, Nat.reduceMul, Nat.reduceSub, Nat.reduceBEq]; done)
              · rfl
              · exact okD_all rfl
              · exact .inl rfl
              · (simp only [go_sem, Nat.reduceLT])
              refine OW.run [6] ?_
              simp (config := { maxSteps := 2000000 }) only [go_sem, ↓reduceIte, Nat.reduceEqDiff, Nat.reduceLT, Nat.reduceLeDiff, Nat.reduceAdd, Nat.reduceMul, Nat.reduceSub, Nat.reduceBEq, Int.reduceToNat, and_assoc, sw0]
              refine OW.nil (hK _ ?_)
              clear hK K
              change PW _ _ _ _ _
              refine PW.ret ?_
              change PW.Ends _ _ _ _ _ _
              refine PW.Ends.intro (.inr rfl) ?_
              simp (config := { maxSteps := 2000000 }) only [go_sem, ↓reduceIte, Nat.reduceEqDiff, Nat.reduceLT, Nat.reduceLeDiff, Nat.reduceAdd, Nat.reduceMul, Nat.reduceSub, Nat.reduceBEq, Int.reduceToNat, and_assoc, sw0]
              obtain rfl := Option.some.inj hrun
              refine RetOK.data' 4 (by exact trivial) ?_
              rfl

end Go.Proofs.Ytikelkndldaejaa
