import Derived.Test.YtikelkndldaejaaCsW2
set_option linter.all false
namespace Go.Proofs.Ytikelkndldaejaa
open Go.PW Go.Sh
set_option maxRecDepth 20000 in
set_option maxHeartbeats 8000000 in
theorem ref02_place_ok (N : Nat) (length : Int) (version : Int) (number : Int) (r : Int) (hrun : ref02_place N length version number = some r) : CallOK Try.prog 112 [(I length), (I version), (I number)] (.d (I r)) [] := by
  refine CallOK.of_PW Try.func112 rfl (by rw [Try.results112]) Try.ntmps112 Try.call112 ?_
  change PW _ _ _ _ _
  try simp only [go_sem, ↓reduceIte, Nat.reduceEqDiff, Nat.reduceLT, Nat.reduceLeDiff, Nat.reduceAdd, Nat.reduceMul, Nat.reduceSub, Nat.reduceBEq]
  unfold ref02_place at hrun
  refine PW.seq ?_
  refine PW.regionK fun K hK => ?_
  refine OW.run [0, 1, 2] ?_
  simp (config := { maxSteps := 2000000 }) only [go_sem, ↓reduceIte, Nat.reduceEqDiff, Nat.reduceLT, Nat.reduceLeDiff, Nat.reduceAdd, Nat.reduceMul, Nat.reduceSub, Nat.reduceBEq, Int.reduceToNat, and_assoc, wrap_w64, wrap_wu64, wrap_wu8, wrap_wu32, wrap_wi32, bits_i64, bits_u64, bit_and, bit_or, bit_xor, shr1, shl1, shr_w, shl_w, rep_I, rep_Bo, seg_mapV, allOne_mapI, ite_or_not, ite_and_not, take_mapF, drop_mapF, Nat.sub_zero, Option.map_some, Option.map_none]
  refine OW.nil (hK _ ?_)
  clear hK K
  change PW _ _ _ _ _
  refine PW.seq ?_
  obtain ⟨c1, hrun⟩ := chk_some hrun
  refine PW.regionK fun K hK => ?_
  refine OW.run [6] ?_
  simp (config := { maxSteps := 2000000 }) only [go_sem, ↓reduceIte, Nat.reduceEqDiff, Nat.reduceLT, Nat.reduceLeDiff, Nat.reduceAdd, Nat.reduceMul, Nat.reduceSub, Nat.reduceBEq, Int.reduceToNat, and_assoc, wrap_w64, wrap_wu64, wrap_wu8, wrap_wu32, wrap_wi32, bits_i64, bits_u64, bit_and, bit_or, bit_xor, shr1, shl1, shr_w, shl_w, rep_I, rep_Bo, seg_mapV, allOne_mapI, ite_or_not, ite_and_not, take_mapF, drop_mapF, Nat.sub_zero, Option.map_some, Option.map_none]
  refine And.intro (by omega) (And.intro (by omega) ?_)
  refine OW.nil (hK _ ?_)
  clear hK K
  change PW _ _ _ _ _
  refine PW.ret ?_
  change PW.Ends _ _ _ _ _ _
  refine PW.Ends.intro (.inr rfl) ?_
  simp (config := { maxSteps := 2000000 }) only [go_sem, ↓reduceIte, Nat.reduceEqDiff, Nat.reduceLT, Nat.reduceLeDiff, Nat.reduceAdd, Nat.reduceMul, Nat.reduceSub, Nat.reduceBEq, Int.reduceToNat, and_assoc, wrap_w64, wrap_wu64, wrap_wu8, wrap_wu32, wrap_wi32, bits_i64, bits_u64, bit_and, bit_or, bit_xor, shr1, shl1, shr_w, shl_w, rep_I, rep_Bo, seg_mapV, allOne_mapI, ite_or_not, ite_and_not, take_mapF, drop_mapF, Nat.sub_zero, Option.map_some, Option.map_none]
  obtain rfl := Option.some.inj hrun
  refine RetOK.data' 4 (by exact trivial) ?_
  rfl

set_option maxRecDepth 20000 in
set_option maxHeartbeats 8000000 in
theorem ref02_Match_ok (N : Nat) (word : List Int) (version : Int) (count : Int) (r : List Int) (hrun : ref02_Match N word version count = some r) : CallOK Try.prog 36 [(L word), (I version), (I count)] (.d (L r)) [] := by
  refine CallOK.of_PW Try.func36 rfl (by rw [Try.results36]) Try.ntmps36 Try.call36 ?_
  change PW _ _ _ _ _
  try simp only [go_sem, ↓reduceIte, Nat.reduceEqDiff, Nat.reduceLT, Nat.reduceLeDiff, Nat.reduceAdd, Nat.reduceMul, Nat.reduceSub, Nat.reduceBEq]
  unfold ref02_Match at hrun
  refine PW.seq ?_
  refine PW.regionK fun K hK => ?_
  refine OW.run [0, 1, 2] ?_
  simp (config := { maxSteps := 2000000 }) only [go_sem, ↓reduceIte, Nat.reduceEqDiff, Nat.reduceLT, Nat.reduceLeDiff, Nat.reduceAdd, Nat.reduceMul, Nat.reduceSub, Nat.reduceBEq, Int.reduceToNat, and_assoc, wrap_w64, wrap_wu64, wrap_wu8, wrap_wu32, wrap_wi32, bits_i64, bits_u64, bit_and, bit_or, bit_xor, shr1, shl1, shr_w, shl_w, rep_I, rep_Bo, seg_mapV, allOne_mapI, ite_or_not, ite_and_not, take_mapF, drop_mapF, Nat.sub_zero, Option.map_some, Option.map_none]
  refine OW.nil (hK _ ?_)
  clear hK K
  change PW _ _ _ _ _
  refine PW.seq ?_
  refine PW.regionK fun K hK => ?_
  refine OW.run [0, 1, 2, 7] ?_
  simp (config := { maxSteps := 2000000 }) only [go_sem, ↓reduceIte, Nat.reduceEqDiff, Nat.reduceLT, Nat.reduceLeDiff, Nat.reduceAdd, Nat.reduceMul, Nat.reduceSub, Nat.reduceBEq, Int.reduceToNat, and_assoc, wrap_w64, wrap_wu64, wrap_wu8, wrap_wu32, wrap_wi32, bits_i64, bits_u64, bit_and, bit_or, bit_xor, shr1, shl1, shr_w, shl_w, rep_I, rep_Bo, seg_mapV, allOne_mapI, ite_or_not, ite_and_not, take_mapF, drop_mapF, Nat.sub_zero, Option.map_some, Option.map_none]
  refine OW.nil (hK _ ?_)
  clear hK K
  change PW _ _ _ _ _
  refine PW.joinS (τ := List Int) [7] 1 (fun b0 => [(7, .own 0 0 b0.length 1)]) (fun b0 => [{ cells := (b0.map I).map .d, e := 3 }]) _ _ r (by exact Nat.zero_le _) hrun ?_ ?_
  · intro K_ hrun N1 hN1
    refine PW.seq ?_
    refine PW.regionK fun K hK => ?_
    refine OW.run [0, 1, 2, 7, 8] ?_
    simp (config := { maxSteps := 2000000 }) only [go_sem, ↓reduceIte, Nat.reduceEqDiff, Nat.reduceLT, Nat.reduceLeDiff, Nat.reduceAdd, Nat.reduceMul, Nat.reduceSub, Nat.reduceBEq, Int.reduceToNat, and_assoc, wrap_w64, wrap_wu64, wrap_wu8, wrap_wu32, wrap_wi32, bits_i64, bits_u64, bit_and, bit_or, bit_xor, shr1, shl1, shr_w, shl_w, rep_I, rep_Bo, seg_mapV, allOne_mapI, ite_or_not, ite_and_not, take_mapF, drop_mapF, Nat.sub_zero, Option.map_some, Option.map_none]
    refine OW.nil (hK _ ?_)
    clear hK K
    change PW _ _ _ _ _
    refine PW.block ?_
    refine PW.virt 7 3 1 rfl ?_
    try simp only [go_sem, ↓reduceIte, Nat.reduceEqDiff, Nat.reduceLT, Nat.reduceLeDiff, Nat.reduceAdd, Nat.reduceMul, Nat.reduceSub, Nat.reduceBEq]
    refine PW.loopS (σ := Int × List Int) [0, 1, 2, 7, 8] 1 (fun (i, b01) => [(7, .own 0 0 b01.length 1), (8, .d (I i))]) (fun (i, b01) => [{ cells := (b01.map I).map .d, e := 3 }]) (ref02_Match.b1 N word version count K_) r N ((0 : Int), ([] : List Int)) (by exact Nat.zero_le _) hrun (by (simp only [Env.frzL, Env.frz, frzOb, V.frz, V.frz.frzs, asD, map_asD, map_nz_I, map_nz_Bo, map_nz_Sx, map_nz_L, nz_int, nz_bool, nz_str, nz_list, nz_ref, nz_nil, map_toDs, toDs_nil, toDs_cons, toDs_append, toDs_mapD, toDs_seg, toDs_drop, toD_own, toD_ptr, toD_clo, toD_agg, toD_tup, map_nz_I, map_nz_Bo, map_nz_Sx, map_nz_L, seg_mapD, seg_flat, toD_d, nz_list, nz_int, nz_bool, nz_str, nz_agg, nz_tup, nz_clo, nz_ref, nz_nil, take_len, take_mapF, drop_mapF, List.length_set, List.length_replicate, List.drop_zero, go_sem, ↓reduceIte, Nat.reduceEqDiff, Nat.reduceLT, Nat.reduceLeDiff, Nat.reduceAdd, Nat.reduceMul, Nat.reduceSub, Nat.reduceBEq]; done)) ?_
    rintro n ⟨i, b01⟩ hrun N2 hN2
    unfold ref02_Match.b1 at hrun
    try simp only [go_sem, ↓reduceIte, Nat.reduceEqDiff, Nat.reduceLT, Nat.reduceLeDiff, Nat.reduceAdd, Nat.reduceMul, Nat.reduceSub, Nat.reduceBEq]
    refine PW.seq ?_
    refine PW.seq ?_
    refine PW.regionK fun K hK => ?_
    refine OW.run [0, 1, 2, 7, 8, 11] ?_
    simp (config := { maxSteps := 2000000 }) only [go_sem, ↓reduceIte, Nat.reduceEqDiff, Nat.reduceLT, Nat.reduceLeDiff, Nat.reduceAdd, Nat.reduceMul, Nat.reduceSub, Nat.reduceBEq, Int.reduceToNat, and_assoc, wrap_w64, wrap_wu64, wrap_wu8, wrap_wu32, wrap_wi32, bits_i64, bits_u64, bit_and, bit_or, bit_xor, shr1, shl1, shr_w, shl_w, rep_I, rep_Bo, seg_mapV, allOne_mapI, ite_or_not, ite_and_not, take_mapF, drop_mapF, Nat.sub_zero, Option.map_some, Option.map_none]
    refine OW.nil (hK _ ?_)
    clear hK K
    change PW _ _ _ _ _
    refine PW.cond rfl (fun h3 => ?_) (fun h3 => ?_)
    · replace hrun := br_t h3 hrun
      refine PW.skip ?_
      change PW _ _ _ _ _
      refine PW.seq ?_
      refine PW.block ?_
      obtain ⟨x1, e1, hrun⟩ := bnd_some hrun
      obtain ⟨c4, hrun⟩ := chk_some hrun
      obtain ⟨c5, hrun⟩ := chk_some hrun
      refine PW.regionK fun K hK => ?_
      refine OW.run [0, 1, 2, 7, 8] ?_
      simp (config := { maxSteps := 2000000 }) only [go_sem, ↓reduceIte, Nat.reduceEqDiff, Nat.reduceLT, Nat.reduceLeDiff, Nat.reduceAdd, Nat.reduceMul, Nat.reduceSub, Nat.reduceBEq, Int.reduceToNat, and_assoc, wrap_w64, wrap_wu64, wrap_wu8, wrap_wu32, wrap_wi32, bits_i64, bits_u64, bit_and, bit_or, bit_xor, shr1, shl1, shr_w, shl_w, rep_I, rep_Bo, seg_mapV, allOne_mapI, ite_or_not, ite_and_not, take_mapF, drop_mapF, Nat.sub_zero, Option.map_some, Option.map_none]
      refine OW.call' 4 rfl rfl rfl (by ((simp only [go_sem, List.toList_toArray, ↓reduceIte, Nat.reduceEqDiff, Nat.reduceLT, Nat.reduceBEq]); exact rfl)) ?_ (ref02_place_ok N _ _ _ _ e1) ?_ ?_ ?_ ?_
      · rfl
      · exact okD_all rfl
      · exact .inl rfl
      · (simp only [go_sem, Nat.reduceLT])
      refine OW.run [0, 1, 2, 7, 8] ?_
      simp (config := { maxSteps := 2000000 }) only [go_sem, ↓reduceIte, Nat.reduceEqDiff, Nat.reduceLT, Nat.reduceLeDiff, Nat.reduceAdd, Nat.reduceMul, Nat.reduceSub, Nat.reduceBEq, Int.reduceToNat, and_assoc, wrap_w64, wrap_wu64, wrap_wu8, wrap_wu32, wrap_wi32, bits_i64, bits_u64, bit_and, bit_or, bit_xor, shr1, shl1, shr_w, shl_w, rep_I, rep_Bo, seg_mapV, allOne_mapI, ite_or_not, ite_and_not, take_mapF, drop_mapF, Nat.sub_zero, Option.map_some, Option.map_none]
      refine And.intro (by omega) (And.intro (by omega) (And.intro (by omega) (And.intro (by omega) (And.intro (by omega) (And.intro (by omega) (And.intro (by omega) ?_))))))
      refine OW.nil (hK _ ?_)
      clear hK K
      change PW _ _ _ _ _
      refine PW.regionK fun K hK => ?_
      refine OW.run [0, 1, 2, 7, 8] ?_
      simp (config := { maxSteps := 2000000 }) only [go_sem, ↓reduceIte, Nat.reduceEqDiff, Nat.reduceLT, Nat.reduceLeDiff, Nat.reduceAdd, Nat.reduceMul, Nat.reduceSub, Nat.reduceBEq, Int.reduceToNat, and_assoc, wrap_w64, wrap_wu64, wrap_wu8, wrap_wu32, wrap_wi32, bits_i64, bits_u64, bit_and, bit_or, bit_xor, shr1, shl1, shr_w, shl_w, rep_I, rep_Bo, seg_mapV, allOne_mapI, ite_or_not, ite_and_not, take_mapF, drop_mapF, Nat.sub_zero, Option.map_some, Option.map_none]
      refine OW.nil (hK _ ?_)
      clear hK K
      refine hN2 [] (w64 (i + (1 : Int)), (b01 ++ ([(word.getD x1.toNat 0)] : List Int))) _ hrun (by exact trivial) ?_
      (simp only [Env.frzL, Env.frz, frzOb, V.frz, V.frz.frzs, asD, map_asD, map_nz_I, map_nz_Bo, map_nz_Sx, map_nz_L, nz_int, nz_bool, nz_str, nz_list, nz_ref, nz_nil, map_toDs, toDs_nil, toDs_cons, toDs_append, toDs_mapD, toDs_seg, toDs_drop, toD_own, toD_ptr, toD_clo, toD_agg, toD_tup, map_nz_I, map_nz_Bo, map_nz_Sx, map_nz_L, seg_mapD, seg_flat, toD_d, nz_list, nz_int, nz_bool, nz_str, nz_agg, nz_tup, nz_clo, nz_ref, nz_nil, take_len, take_mapF, drop_mapF, List.length_set, List.length_replicate, List.drop_zero, go_sem, ↓reduceIte, Nat.reduceEqDiff, Nat.reduceLT, Nat.reduceLeDiff, Nat.reduceAdd, Nat.reduceMul, Nat.reduceSub, Nat.reduceBEq]; done)
    · replace hrun := br_f h3 hrun
      refine PW.exit ?_
      refine hN1 [] b01 _ hrun (by exact trivial) ?_
      (simp only [Env.frzL, Env.frz, frzOb, V.frz, V.frz.frzs, asD, map_asD, map_nz_I, map_nz_Bo, map_nz_Sx, map_nz_L, nz_int, nz_bool, nz_str, nz_list, nz_ref, nz_nil, map_toDs, toDs_nil, toDs_cons, toDs_append, toDs_mapD, toDs_seg, toDs_drop, toD_own, toD_ptr, toD_clo, toD_agg, toD_tup, map_nz_I, map_nz_Bo, map_nz_Sx, map_nz_L, seg_mapD, seg_flat, toD_d, nz_list, nz_int, nz_bool, nz_str, nz_agg, nz_tup, nz_clo, nz_ref, nz_nil, take_len, take_mapF, drop_mapF, List.length_set, List.length_replicate, List.drop_zero, go_sem, ↓reduceIte, Nat.reduceEqDiff, Nat.reduceLT, Nat.reduceLeDiff, Nat.reduceAdd, Nat.reduceMul, Nat.reduceSub, Nat.reduceBEq]; done)
  · rintro b0 hrun
    try simp only [go_sem, ↓reduceIte, Nat.reduceEqDiff, Nat.reduceLT, Nat.reduceLeDiff, Nat.reduceAdd, Nat.reduceMul, Nat.reduceSub, Nat.reduceBEq]
    refine PW.seq ?_
    refine PW.regionK fun K hK => ?_
    refine OW.run [6] ?_
    simp (config := { maxSteps := 2000000 }) only [go_sem, ↓reduceIte, Nat.reduceEqDiff, Nat.reduceLT, Nat.reduceLeDiff, Nat.reduceAdd, Nat.reduceMul, Nat.reduceSub, Nat.reduceBEq, Int.reduceToNat, and_assoc, wrap_w64, wrap_wu64, wrap_wu8, wrap_wu32, wrap_wi32, bits_i64, bits_u64, bit_and, bit_or, bit_xor, shr1, shl1, shr_w, shl_w, rep_I, rep_Bo, seg_mapV, allOne_mapI, ite_or_not, ite_and_not, take_mapF, drop_mapF, Nat.sub_zero, Option.map_some, Option.map_none]
    refine OW.nil (hK _ ?_)
    clear hK K
    change PW _ _ _ _ _
    refine PW.ret ?_
    change PW.Ends _ _ _ _ _ _
    refine PW.Ends.intro (.inr rfl) ?_
    simp (config := { maxSteps := 2000000 }) only [go_sem, ↓reduceIte, Nat.reduceEqDiff, Nat.reduceLT, Nat.reduceLeDiff, Nat.reduceAdd, Nat.reduceMul, Nat.reduceSub, Nat.reduceBEq, Int.reduceToNat, and_assoc, wrap_w64, wrap_wu64, wrap_wu8, wrap_wu32, wrap_wi32, bits_i64, bits_u64, bit_and, bit_or, bit_xor, shr1, shl1, shr_w, shl_w, rep_I, rep_Bo, seg_mapV, allOne_mapI, ite_or_not, ite_and_not, take_mapF, drop_mapF, Nat.sub_zero, Option.map_some, Option.map_none]
    obtain rfl := Option.some.inj hrun
    refine RetOK.data' 4 (by (simp only [go_sem, okAll_nil, okAll_cons, okAll_append, okD_dd, okAll_mapD, okAll_segD, okAll_dropD, okD_own, okD_ptr, okD_clo, okD_agg, okD_tup, List.length_set, List.length_replicate, and_true, true_and, Nat.le_refl, ↓reduceIte, Nat.reduceEqDiff, Nat.reduceLT, Nat.reduceLeDiff, Nat.reduceAdd, Nat.reduceMul, Nat.reduceSub, Nat.reduceBEq]; done)) ?_
    (((simp only [go_sem, map_toDs, toDs_nil, toDs_cons, toDs_append, toDs_mapD, toDs_seg, toDs_drop, toD_own, toD_ptr, toD_clo, toD_agg, toD_tup, map_nz_I, map_nz_Bo, map_nz_Sx, map_nz_L, seg_mapD, seg_flat, toD_d, nz_list, nz_int, nz_bool, nz_str, nz_agg, nz_tup, nz_clo, nz_ref, nz_nil, take_len, take_mapF, drop_mapF, List.length_set, List.length_replicate, List.drop_zero, ↓reduceIte, Nat.reduceEqDiff, Nat.reduceLT, Nat.reduceLeDiff, Nat.reduceAdd, Nat.reduceMul, Nat.reduceSub, Nat.reduceBEq]; try simp only [seg, go_sem, ↓reduceIte, Nat.reduceEqDiff, Nat.reduceLT, Nat.reduceLeDiff, Nat.reduceAdd, Nat.reduceMul, Nat.reduceSub, Nat.reduceBEq])); done)

set_option maxRecDepth 20000 in
set_option maxHeartbeats 8000000 in
theorem ref02_sizedErr_ok (N : Nat) (l : List Int) (count : Int) (size : Int) (r : Int) (hrun : ref02_sizedErr N l count size = some r) : CallOK Try.prog 113 [(L l), (I count), (I size)] (.d (I r)) [] := by
  refine CallOK.of_PW Try.func113 rfl (by rw [Try.results113]) Try.ntmps113 Try.call113 ?_
  change PW _ _ _ _ _
  try simp only [go_sem, ↓reduceIte, Nat.reduceEqDiff, Nat.reduceLT, Nat.reduceLeDiff, Nat.reduceAdd, Nat.reduceMul, Nat.reduceSub, Nat.reduceBEq]
  unfold ref02_sizedErr at hrun
  refine PW.seq ?_
  refine PW.regionK fun K hK => ?_
  refine OW.run [0, 1, 2] ?_
  simp (config := { maxSteps := 2000000 }) only [go_sem, ↓reduceIte, Nat.reduceEqDiff, Nat.reduceLT, Nat.reduceLeDiff, Nat.reduceAdd, Nat.reduceMul, Nat.reduceSub, Nat.reduceBEq, Int.reduceToNat, and_assoc, wrap_w64, wrap_wu64, wrap_wu8, wrap_wu32, wrap_wi32, bits_i64, bits_u64, bit_and, bit_or, bit_xor, shr1, shl1, shr_w, shl_w, rep_I, rep_Bo, seg_mapV, allOne_mapI, ite_or_not, ite_and_not, take_mapF, drop_mapF, Nat.sub_zero, Option.map_some, Option.map_none]
  refine OW.nil (hK _ ?_)
  clear hK K
  change PW _ _ _ _ _
  refine PW.seq ?_
  refine PW.seq ?_
  refine PW.regionK fun K hK => ?_
  refine OW.run [0, 1, 2, 10] ?_
  simp (config := { maxSteps := 2000000 }) only [go_sem, ↓reduceIte, Nat.reduceEqDiff, Nat.reduceLT, Nat.reduceLeDiff, Nat.reduceAdd, Nat.reduceMul, Nat.reduceSub, Nat.reduceBEq, Int.reduceToNat, and_assoc, wrap_w64, wrap_wu64, wrap_wu8, wrap_wu32, wrap_wi32, bits_i64, bits_u64, bit_and, bit_or, bit_xor, shr1, shl1, shr_w, shl_w, rep_I, rep_Bo, seg_mapV, allOne_mapI, ite_or_not, ite_and_not, take_mapF, drop_mapF, Nat.sub_zero, Option.map_some, Option.map_none]
  refine OW.nil (hK _ ?_)
  clear hK K
  change PW _ _ _ _ _
  refine PW.cond rfl (fun h1 => ?_) (fun h1 => ?_)
  · replace hrun := br_t h1 hrun
    refine PW.seq ?_
    refine PW.regionK fun K hK => ?_
    refine OW.run [6] ?_
    simp (config := { maxSteps := 2000000 }) only [go_sem, ↓reduceIte, Nat.reduceEqDiff, Nat.reduceLT, Nat.reduceLeDiff, Nat.reduceAdd, Nat.reduceMul, Nat.reduceSub, Nat.reduceBEq, Int.reduceToNat, and_assoc, wrap_w64, wrap_wu64, wrap_wu8, wrap_wu32, wrap_wi32, bits_i64, bits_u64, bit_and, bit_or, bit_xor, shr1, shl1, shr_w, shl_w, rep_I, rep_Bo, seg_mapV, allOne_mapI, ite_or_not, ite_and_not, take_mapF, drop_mapF, Nat.sub_zero, Option.map_some, Option.map_none]
    refine OW.nil (hK _ ?_)
    clear hK K
    change PW _ _ _ _ _
    refine PW.ret ?_
    change PW.Ends _ _ _ _ _ _
    refine PW.Ends.intro (.inr rfl) ?_
    simp (config := { maxSteps := 2000000 }) only [go_sem, ↓reduceIte, Nat.reduceEqDiff, Nat.reduceLT, Nat.reduceLeDiff, Nat.reduceAdd, Nat.reduceMul, Nat.reduceSub, Nat.reduceBEq, Int.reduceToNat, and_assoc, wrap_w64, wrap_wu64, wrap_wu8, wrap_wu32, wrap_wi32, bits_i64, bits_u64, bit_and, bit_or, bit_xor, shr1, shl1, shr_w, shl_w, rep_I, rep_Bo, seg_mapV, allOne_mapI, ite_or_not, ite_and_not, take_mapF, drop_mapF, Nat.sub_zero, Option.map_some, Option.map_none]
    obtain rfl := Option.some.inj hrun
    refine RetOK.data' 4 (by exact trivial) ?_
    rfl
  · replace hrun := br_f h1 hrun
    refine PW.skip ?_
    change PW _ _ _ _ _
    refine PW.seq ?_
    refine PW.seq ?_
    refine PW.regionK fun K hK => ?_
    refine OW.run [0, 2, 14] ?_
    simp (config := { maxSteps := 2000000 }) only [go_sem, ↓reduceIte, Nat.reduceEqDiff, Nat.reduceLT, Nat.reduceLeDiff, Nat.reduceAdd, Nat.reduceMul, Nat.reduceSub, Nat.reduceBEq, Int.reduceToNat, and_assoc, wrap_w64, wrap_wu64, wrap_wu8, wrap_wu32, wrap_wi32, bits_i64, bits_u64, bit_and, bit_or, bit_xor, shr1, shl1, shr_w, shl_w, rep_I, rep_Bo, seg_mapV, allOne_mapI, ite_or_not, ite_and_not, take_mapF, drop_mapF, Nat.sub_zero, Option.map_some, Option.map_none]
    refine OW.nil (hK _ ?_)
    clear hK K
    change PW _ _ _ _ _
    refine PW.cond rfl (fun h2 => ?_) (fun h2 => ?_)
    · replace hrun := br_t h2 hrun
      refine PW.seq ?_
      refine PW.regionK fun K hK => ?_
      refine OW.run [6] ?_
      simp (config := { maxSteps := 2000000 }) only [go_sem, ↓reduceIte, Nat.reduceEqDiff, Nat.reduceLT, Nat.reduceLeDiff, Nat.reduceAdd, Nat.reduceMul, Nat.reduceSub, Nat.reduceBEq, Int.reduceToNat, and_assoc, wrap_w64, wrap_wu64, wrap_wu8, wrap_wu32, wrap_wi32, bits_i64, bits_u64, bit_and, bit_or, bit_xor, shr1, shl1, shr_w, shl_w, rep_I, rep_Bo, seg_mapV, allOne_mapI, ite_or_not, ite_and_not, take_mapF, drop_mapF, Nat.sub_zero, Option.map_some, Option.map_none]
      refine OW.nil (hK _ ?_)
      clear hK K
      change PW _ _ _ _ _
      refine PW.ret ?_
      change PW.Ends _ _ _ _ _ _
      refine PW.Ends.intro (.inr rfl) ?_
      simp (config := { maxSteps := 2000000 }) only [go_sem, ↓reduceIte, Nat.reduceEqDiff, Nat.reduceLT, Nat.reduceLeDiff, Nat.reduceAdd, Nat.reduceMul, Nat.reduceSub, Nat.reduceBEq, Int.reduceToNat, and_assoc, wrap_w64, wrap_wu64, wrap_wu8, wrap_wu32, wrap_wi32, bits_i64, bits_u64, bit_and, bit_or, bit_xor, shr1, shl1, shr_w, shl_w, rep_I, rep_Bo, seg_mapV, allOne_mapI, ite_or_not, ite_and_not, take_mapF, drop_mapF, Nat.sub_zero, Option.map_some, Option.map_none]
      obtain rfl := Option.some.inj hrun
      refine RetOK.data' 4 (by exact trivial) ?_
      rfl
    · replace hrun := br_f h2 hrun
      refine PW.skip ?_
      change PW _ _ _ _ _
      refine PW.joinS (τ := Unit) [] 0 (fun _ => []) (fun _ => []) _ _ r (by exact Nat.le_refl _) hrun ?_ ?_
      · intro K_ hrun N3 hN3
        refine PW.seq ?_
        refine PW.regionK fun K hK => ?_
        refine OW.run [0, 2, 7] ?_
        simp (config := { maxSteps := 2000000 }) only [go_sem, ↓reduceIte, Nat.reduceEqDiff, Nat.reduceLT, Nat.reduceLeDiff, Nat.reduceAdd, Nat.reduceMul, Nat.reduceSub, Nat.reduceBEq, Int.reduceToNat, and_assoc, wrap_w64, wrap_wu64, wrap_wu8, wrap_wu32, wrap_wi32, bits_i64, bits_u64, bit_and, bit_or, bit_xor, shr1, shl1, shr_w, shl_w, rep_I, rep_Bo, seg_mapV, allOne_mapI, ite_or_not, ite_and_not, take_mapF, drop_mapF, Nat.sub_zero, Option.map_some, Option.map_none]
        refine OW.nil (hK _ ?_)
        clear hK K
        change PW _ _ _ _ _
        refine PW.block ?_
        refine PW.loopS (σ := Int) [0, 2, 7] 0 (fun i => [(7, .d (I i))]) (fun i => []) (ref02_sizedErr.b1 N l size K_) r N (0 : Int) (by exact Nat.le_refl _) hrun (by (simp only [Env.frzL, Env.frz, frzOb, V.frz, V.frz.frzs, asD, map_asD, map_nz_I, map_nz_Bo, map_nz_Sx, map_nz_L, nz_int, nz_bool, nz_str, nz_list, nz_ref, nz_nil, map_toDs, toDs_nil, toDs_cons, toDs_append, toDs_mapD, toDs_seg, toDs_drop, toD_own, toD_ptr, toD_clo, toD_agg, toD_tup, map_nz_I, map_nz_Bo, map_nz_Sx, map_nz_L, seg_mapD, seg_flat, toD_d, nz_list, nz_int, nz_bool, nz_str, nz_agg, nz_tup, nz_clo, nz_ref, nz_nil, take_len, take_mapF, drop_mapF, List.length_set, List.length_replicate, List.drop_zero, go_sem, ↓reduceIte, Nat.reduceEqDiff, Nat.reduceLT, Nat.reduceLeDiff, Nat.reduceAdd, Nat.reduceMul, Nat.reduceSub, Nat.reduceBEq]; done)) ?_
        rintro n i hrun N4 hN4
        unfold ref02_sizedErr.b1 at hrun
        try simp only [go_sem, ↓reduceIte, Nat.reduceEqDiff, Nat.reduceLT, Nat.reduceLeDiff, Nat.reduceAdd, Nat.reduceMul, Nat.reduceSub, Nat.reduceBEq]
        refine PW.seq ?_
        refine PW.seq ?_
        refine PW.regionK fun K hK => ?_
        refine OW.run [0, 2, 7, 18] ?_
        simp (config := { maxSteps := 2000000 }) only [go_sem, ↓reduceIte, Nat.reduceEqDiff, Nat.reduceLT, Nat.reduceLeDiff, Nat.reduceAdd, Nat.reduceMul, Nat.reduceSub, Nat.reduceBEq, Int.reduceToNat, and_assoc, wrap_w64, wrap_wu64, wrap_wu8, wrap_wu32, wrap_wi32, bits_i64, bits_u64, bit_and, bit_or, bit_xor, shr1, shl1, shr_w, shl_w, rep_I, rep_Bo, seg_mapV, allOne_mapI, ite_or_not, ite_and_not, take_mapF, drop_mapF, Nat.sub_zero, Option.map_some, Option.map_none]
        refine OW.nil (hK _ ?_)
        clear hK K
        change PW _ _ _ _ _
        refine PW.cond rfl (fun h5 => ?_) (fun h5 => ?_)
        · replace hrun := br_t h5 hrun
          refine PW.skip ?_
          change PW _ _ _ _ _
          refine PW.seq ?_
          refine PW.block ?_
          refine PW.seq ?_
          obtain ⟨c6, hrun⟩ := chk_some hrun
          obtain ⟨x1, e1, hrun⟩ := bnd_some hrun
          refine PW.regionK fun K hK => ?_
          refine OW.run [0, 2, 7, 29] ?_
          simp (config := { maxSteps := 2000000 }) only [go_sem, ↓reduceIte, Nat.reduceEqDiff, Nat.reduceLT, Nat.reduceLeDiff, Nat.reduceAdd, Nat.reduceMul, Nat.reduceSub, Nat.reduceBEq, Int.reduceToNat, and_assoc, wrap_w64, wrap_wu64, wrap_wu8, wrap_wu32, wrap_wi32, bits_i64, bits_u64, bit_and, bit_or, bit_xor, shr1, shl1, shr_w, shl_w, rep_I, rep_Bo, seg_mapV, allOne_mapI, ite_or_not, ite_and_not, take_mapF, drop_mapF, Nat.sub_zero, Option.map_some, Option.map_none]
          refine And.intro (by omega) (And.intro (by omega) (And.intro (by omega) (And.intro (by omega) ?_)))
          refine OW.call' 4 rfl rfl rfl (by ((simp only [go_sem, List.toList_toArray, ↓reduceIte, Nat.reduceEqDiff, Nat.reduceLT, Nat.reduceBEq]); exact rfl)) ?_ (base_Within_ok N _ _ _ _ e1) ?_ ?_ ?_ ?_
          · rfl
          · exact okD_all rfl
          · exact .inl rfl
          · (simp only [go_sem, Nat.reduceLT])
          refine OW.run [0, 2, 7, 29] ?_
          simp (config := { maxSteps := 2000000 }) only [go_sem, ↓reduceIte, Nat.reduceEqDiff, Nat.reduceLT, Nat.reduceLeDiff, Nat.reduceAdd, Nat.reduceMul, Nat.reduceSub, Nat.reduceBEq, Int.reduceToNat, and_assoc, wrap_w64, wrap_wu64, wrap_wu8, wrap_wu32, wrap_wi32, bits_i64, bits_u64, bit_and, bit_or, bit_xor, shr1, shl1, shr_w, shl_w, rep_I, rep_Bo, seg_mapV, allOne_mapI, ite_or_not, ite_and_not, take_mapF, drop_mapF, Nat.sub_zero, Option.map_some, Option.map_none]
          refine OW.nil (hK _ ?_)
          clear hK K
          change PW _ _ _ _ _
          refine PW.cond rfl (fun h7 => ?_) (fun h7 => ?_)
          · replace hrun := br_t h7 hrun
            refine PW.seq ?_
            refine PW.regionK fun K hK => ?_
            refine OW.run [6] ?_
            simp (config := { maxSteps := 2000000 }) only [go_sem, ↓reduceIte, Nat.reduceEqDiff, Nat.reduceLT, Nat.reduceLeDiff, Nat.reduceAdd, Nat.reduceMul, Nat.reduceSub, Nat.reduceBEq, Int.reduceToNat, and_assoc, wrap_w64, wrap_wu64, wrap_wu8, wrap_wu32, wrap_wi32, bits_i64, bits_u64, bit_and, bit_or, bit_xor, shr1, shl1, shr_w, shl_w, rep_I, rep_Bo, seg_mapV, allOne_mapI, ite_or_not, ite_and_not, take_mapF, drop_mapF, Nat.sub_zero, Option.map_some, Option.map_none]
            refine OW.nil (hK _ ?_)
            clear hK K
            change PW _ _ _ _ _
            refine PW.ret ?_
            change PW.Ends _ _ _ _ _ _
            refine PW.Ends.intro (.inr rfl) ?_
            simp (config := { maxSteps := 2000000 }) only [go_sem, ↓reduceIte, Nat.reduceEqDiff, Nat.reduceLT, Nat.reduceLeDiff, Nat.reduceAdd, Nat.reduceMul, Nat.reduceSub, Nat.reduceBEq, Int.reduceToNat, and_assoc, wrap_w64, wrap_wu64, wrap_wu8, wrap_wu32, wrap_wi32, bits_i64, bits_u64, bit_and, bit_or, bit_xor, shr1, shl1, shr_w, shl_w, rep_I, rep_Bo, seg_mapV, allOne_mapI, ite_or_not, ite_and_not, take_mapF, drop_mapF, Nat.sub_zero, Option.map_some, Option.map_none]
            obtain rfl := Option.some.inj hrun
            refine RetOK.data' 4 (by exact trivial) ?_
            rfl
          · replace hrun := br_f h7 hrun
            refine PW.skip ?_
            change PW _ _ _ _ _
            refine PW.regionK fun K hK => ?_
            refine OW.run [0, 2, 7] ?_
            simp (config := { maxSteps := 2000000 }) only [go_sem, ↓reduceIte, Nat.reduceEqDiff, Nat.reduceLT, Nat.reduceLeDiff, Nat.reduceAdd, Nat.reduceMul, Nat.reduceSub, Nat.reduceBEq, Int.reduceToNat, and_assoc, wrap_w64, wrap_wu64, wrap_wu8, wrap_wu32, wrap_wi32, bits_i64, bits_u64, bit_and, bit_or, bit_xor, shr1, shl1, shr_w, shl_w, rep_I, rep_Bo, seg_mapV, allOne_mapI, ite_or_not, ite_and_not, take_mapF, drop_mapF, Nat.sub_zero, Option.map_some, Option.map_none]
            refine OW.nil (hK _ ?_)
            clear hK K
            refine hN4 [] (w64 (i + (1 : Int))) _ hrun (by exact trivial) ?_
            (simp only [Env.frzL, Env.frz, frzOb, V.frz, V.frz.frzs, asD, map_asD, map_nz_I, map_nz_Bo, map_nz_Sx, map_nz_L, nz_int, nz_bool, nz_str, nz_list, nz_ref, nz_nil, map_toDs, toDs_nil, toDs_cons, toDs_append, toDs_mapD, toDs_seg, toDs_drop, toD_own, toD_ptr, toD_clo, toD_agg, toD_tup, map_nz_I, map_nz_Bo, map_nz_Sx, map_nz_L, seg_mapD, seg_flat, toD_d, nz_list, nz_int, nz_bool, nz_str, nz_agg, nz_tup, nz_clo, nz_ref, nz_nil, take_len, take_mapF, drop_mapF, List.length_set, List.length_replicate, List.drop_zero, go_sem, ↓reduceIte, Nat.reduceEqDiff, Nat.reduceLT, Nat.reduceLeDiff, Nat.reduceAdd, Nat.reduceMul, Nat.reduceSub, Nat.reduceBEq]; done)
        · replace hrun := br_f h5 hrun
          refine PW.exit ?_
          refine hN3 [] () _ hrun (by exact trivial) ?_
          (simp only [Env.frzL, Env.frz, frzOb, V.frz, V.frz.frzs, asD, map_asD, map_nz_I, map_nz_Bo, map_nz_Sx, map_nz_L, nz_int, nz_bool, nz_str, nz_list, nz_ref, nz_nil, map_toDs, toDs_nil, toDs_cons, toDs_append, toDs_mapD, toDs_seg, toDs_drop, toD_own, toD_ptr, toD_clo, toD_agg, toD_tup, map_nz_I, map_nz_Bo, map_nz_Sx, map_nz_L, seg_mapD, seg_flat, toD_d, nz_list, nz_int, nz_bool, nz_str, nz_agg, nz_tup, nz_clo, nz_ref, nz_nil, take_len, take_mapF, drop_mapF, List.length_set, List.length_replicate, List.drop_zero, go_sem, ↓reduceIte, Nat.reduceEqDiff, Nat.reduceLT, Nat.reduceLeDiff, Nat.reduceAdd, Nat.reduceMul, Nat.reduceSub, Nat.reduceBEq]; done)
      · rintro _ hrun
        try simp only [go_sem, ↓reduceIte, Nat.reduceEqDiff, Nat.reduceLT, Nat.reduceLeDiff, Nat.reduceAdd, Nat.reduceMul, Nat.reduceSub, Nat.reduceBEq]
        refine PW.seq ?_
        refine PW.regionK fun K hK => ?_
        refine OW.run [6] ?_
        simp (config := { maxSteps := 2000000 }) only [go_sem, ↓reduceIte, Nat.reduceEqDiff, Nat.reduceLT, Nat.reduceLeDiff, Nat.reduceAdd, Nat.reduceMul, Nat.reduceSub, Nat.reduceBEq, Int.reduceToNat, and_assoc, wrap_w64, wrap_wu64, wrap_wu8, wrap_wu32, wrap_wi32, bits_i64, bits_u64, bit_and, bit_or, bit_xor, shr1, shl1, shr_w, shl_w, rep_I, rep_Bo, seg_mapV, allOne_mapI, ite_or_not, ite_and_not, take_mapF, drop_mapF, Nat.sub_zero, Option.map_some, Option.map_none]
        refine OW.nil (hK _ ?_)
        clear hK K
        change PW _ _ _ _ _
        refine PW.ret ?_
        change PW.Ends _ _ _ _ _ _
        refine PW.Ends.intro (.inr rfl) ?_
        simp (config := { maxSteps := 2000000 }) only [go_sem, ↓reduceIte, Nat.reduceEqDiff, Nat.reduceLT, Nat.reduceLeDiff, Nat.reduceAdd, Nat.reduceMul, Nat.reduceSub, Nat.reduceBEq, Int.reduceToNat, and_assoc, wrap_w64, wrap_wu64, wrap_wu8, wrap_wu32, wrap_wi32, bits_i64, bits_u64, bit_and, bit_or, bit_xor, shr1, shl1, shr_w, shl_w, rep_I, rep_Bo, seg_mapV, allOne_mapI, ite_or_not, ite_and_not, take_mapF, drop_mapF, Nat.sub_zero, Option.map_some, Option.map_none]
        obtain rfl := Option.some.inj hrun
        refine RetOK.data' 4 (by exact trivial) ?_
        rfl

set_option maxRecDepth 20000 in
set_option maxHeartbeats 8000000 in
theorem ref02_SoftErr_ok (N : Nat) (l : List Int) (r : Int) (hrun : ref02_SoftErr N l = some r) : CallOK Try.prog 37 [(L l)] (.d (I r)) [] := by
  refine CallOK.of_PW Try.func37 rfl (by rw [Try.results37]) Try.ntmps37 Try.call37 ?_
  change PW _ _ _ _ _
  try simp only [go_sem, ↓reduceIte, Nat.reduceEqDiff, Nat.reduceLT, Nat.reduceLeDiff, Nat.reduceAdd, Nat.reduceMul, Nat.reduceSub, Nat.reduceBEq]
  unfold ref02_SoftErr at hrun
  refine PW.seq ?_
  refine PW.regionK fun K hK => ?_
  refine OW.run [0] ?_
  simp (config := { maxSteps := 2000000 }) only [go_sem, ↓reduceIte, Nat.reduceEqDiff, Nat.reduceLT, Nat.reduceLeDiff, Nat.reduceAdd, Nat.reduceMul, Nat.reduceSub, Nat.reduceBEq, Int.reduceToNat, and_assoc, wrap_w64, wrap_wu64, wrap_wu8, wrap_wu32, wrap_wi32, bits_i64, bits_u64, bit_and, bit_or, bit_xor, shr1, shl1, shr_w, shl_w, rep_I, rep_Bo, seg_mapV, allOne_mapI, ite_or_not, ite_and_not, take_mapF, drop_mapF, Nat.sub_zero, Option.map_some, Option.map_none]
  refine OW.nil (hK _ ?_)
  clear hK K
  change PW _ _ _ _ _
  refine PW.seq ?_
  obtain ⟨x1, e1, hrun⟩ := bnd_some hrun
  refine PW.regionK fun K hK => ?_
  refine OW.run [2] ?_
  simp (config := { maxSteps := 2000000 }) only [go_sem, ↓reduceIte, Nat.reduceEqDiff, Nat.reduceLT, Nat.reduceLeDiff, Nat.reduceAdd, Nat.reduceMul, Nat.reduceSub, Nat.reduceBEq, Int.reduceToNat, and_assoc, wrap_w64, wrap_wu64, wrap_wu8, wrap_wu32, wrap_wi32, bits_i64, bits_u64, bit_and, bit_or, bit_xor, shr1, shl1, shr_w, shl_w, rep_I, rep_Bo, seg_mapV, allOne_mapI, ite_or_not, ite_and_not, take_mapF, drop_mapF, Nat.sub_zero, Option.map_some, Option.map_none]
  refine OW.call' 4 rfl rfl rfl (by ((simp only [go_sem, List.toList_toArray, ↓reduceIte, Nat.reduceEqDiff, Nat.reduceLT, Nat.reduceBEq]); exact rfl)) ?_ (ref02_sizedErr_ok N _ _ _ _ e1) ?_ ?_ ?_ ?_
  · rfl
  · exact okD_all rfl
  · exact .inl rfl
  · (simp only [go_sem, Nat.reduceLT])
  refine OW.run [2] ?_
  simp (config := { maxSteps := 2000000 }) only [go_sem, ↓reduceIte, Nat.reduceEqDiff, Nat.reduceLT, Nat.reduceLeDiff, Nat.reduceAdd, Nat.reduceMul, Nat.reduceSub, Nat.reduceBEq, Int.reduceToNat, and_assoc, wrap_w64, wrap_wu64, wrap_wu8, wrap_wu32, wrap_wi32, bits_i64, bits_u64, bit_and, bit_or, bit_xor, shr1, shl1, shr_w, shl_w, rep_I, rep_Bo, seg_mapV, allOne_mapI, ite_or_not, ite_and_not, take_mapF, drop_mapF, Nat.sub_zero, Option.map_some, Option.map_none]
  refine OW.nil (hK _ ?_)
  clear hK K
  change PW _ _ _ _ _
  refine PW.ret ?_
  change PW.Ends _ _ _ _ _ _
  refine PW.Ends.intro (.inr rfl) ?_
  simp (config := { maxSteps := 2000000 }) only [go_sem, ↓reduceIte, Nat.reduceEqDiff, Nat.reduceLT, Nat.reduceLeDiff, Nat.reduceAdd, Nat.reduceMul, Nat.reduceSub, Nat.reduceBEq, Int.reduceToNat, and_assoc, wrap_w64, wrap_wu64, wrap_wu8, wrap_wu32, wrap_wi32, bits_i64, bits_u64, bit_and, bit_or, bit_xor, shr1, shl1, shr_w, shl_w, rep_I, rep_Bo, seg_mapV, allOne_mapI, ite_or_not, ite_and_not, take_mapF, drop_mapF, Nat.sub_zero, Option.map_some, Option.map_none]
  obtain rfl := Option.some.inj hrun
  refine RetOK.data' 4 (by exact trivial) ?_
  rfl

set_option maxRecDepth 20000 in
set_option maxHeartbeats 8000000 in
theorem ref02_LengthErr_ok (N : Nat) (n : Int) (r : Int) (hrun : ref02_LengthErr N n = some r) : CallOK Try.prog 38 [(I n)] (.d (I r)) [] := by
  refine CallOK.of_PW Try.func38 rfl (by rw [Try.results38]) Try.ntmps38 Try.call38 ?_
  change PW _ _ _ _ _
  try simp only [go_sem, ↓reduceIte, Nat.reduceEqDiff, Nat.reduceLT, Nat.reduceLeDiff, Nat.reduceAdd, Nat.reduceMul, Nat.reduceSub, Nat.reduceBEq]
  unfold ref02_LengthErr at hrun
  refine PW.seq ?_
  refine PW.regionK fun K hK => ?_
  refine OW.run [0] ?_
  simp (config := { maxSteps := 2000000 }) only [go_sem, ↓reduceIte, Nat.reduceEqDiff, Nat.reduceLT, Nat.reduceLeDiff, Nat.reduceAdd, Nat.reduceMul, Nat.reduceSub, Nat.reduceBEq, Int.reduceToNat, and_assoc, wrap_w64, wrap_wu64, wrap_wu8, wrap_wu32, wrap_wi32, bits_i64, bits_u64, bit_and, bit_or, bit_xor, shr1, shl1, shr_w, shl_w, rep_I, rep_Bo, seg_mapV, allOne_mapI, ite_or_not, ite_and_not, take_mapF, drop_mapF, Nat.sub_zero, Option.map_some, Option.map_none]
  refine OW.nil (hK _ ?_)
  clear hK K
  change PW _ _ _ _ _
  refine PW.seq ?_
  refine PW.seq ?_
  obtain ⟨x1, e1, hrun⟩ := bnd_some hrun
  refine PW.regionK fun K hK => ?_
  refine OW.run [5] ?_
  simp (config := { maxSteps := 2000000 }) only [go_sem, ↓reduceIte, Nat.reduceEqDiff, Nat.reduceLT, Nat.reduceLeDiff, Nat.reduceAdd, Nat.reduceMul, Nat.reduceSub, Nat.reduceBEq, Int.reduceToNat, and_assoc, wrap_w64, wrap_wu64, wrap_wu8, wrap_wu32, wrap_wi32, bits_i64, bits_u64, bit_and, bit_or, bit_xor, shr1, shl1, shr_w, shl_w, rep_I, rep_Bo, seg_mapV, allOne_mapI, ite_or_not, ite_and_not, take_mapF, drop_mapF, Nat.sub_zero, Option.map_some, Option.map_none]
  refine OW.call' 4 rfl rfl rfl (by ((simp only [go_sem, List.toList_toArray, ↓reduceIte, Nat.reduceEqDiff, Nat.reduceLT, Nat.reduceBEq]); exact rfl)) ?_ (base_Within_ok N _ _ _ _ e1) ?_ ?_ ?_ ?_
  · rfl
  · exact okD_all rfl
  · exact .inl rfl
  · (simp only [go_sem, Nat.reduceLT])
  refine OW.run [5] ?_
  simp (config := { maxSteps := 2000000 }) only [go_sem, ↓reduceIte, Nat.reduceEqDiff, Nat.reduceLT, Nat.reduceLeDiff, Nat.reduceAdd, Nat.reduceMul, Nat.reduceSub, Nat.reduceBEq, Int.reduceToNat, and_assoc, wrap_w64, wrap_wu64, wrap_wu8, wrap_wu32, wrap_wi32, bits_i64, bits_u64, bit_and, bit_or, bit_xor, shr1, shl1, shr_w, shl_w, rep_I, rep_Bo, seg_mapV, allOne_mapI, ite_or_not, ite_and_not, take_mapF, drop_mapF, Nat.sub_zero, Option.map_some, Option.map_none]
  refine OW.nil (hK _ ?_)
  clear hK K
  change PW _ _ _ _ _
  refine PW.cond rfl (fun h1 => ?_) (fun h1 => ?_)
  · replace hrun := br_t h1 hrun
    refine PW.seq ?_
    refine PW.regionK fun K hK => ?_
    refine OW.run [2] ?_
    simp (config := { maxSteps := 2000000 }) only [go_sem, ↓reduceIte, Nat.reduceEqDiff, Nat.reduceLT, Nat.reduceLeDiff, Nat.reduceAdd, Nat.reduceMul, Nat.reduceSub, Nat.reduceBEq, Int.reduceToNat, and_assoc, wrap_w64, wrap_wu64, wrap_wu8, wrap_wu32, wrap_wi32, bits_i64, bits_u64, bit_and, bit_or, bit_xor, shr1, shl1, shr_w, shl_w, rep_I, rep_Bo, seg_mapV, allOne_mapI, ite_or_not, ite_and_not, take_mapF, drop_mapF, Nat.sub_zero, Option.map_some, Option.map_none]
    refine OW.nil (hK _ ?_)
    clear hK K
    change PW _ _ _ _ _
    refine PW.ret ?_
    change PW.Ends _ _ _ _ _ _
    refine PW.Ends.intro (.inr rfl) ?_
    simp (config := { maxSteps := 2000000 }) only [go_sem, ↓reduceIte, Nat.reduceEqDiff, Nat.reduceLT, Nat.reduceLeDiff, Nat.reduceAdd, Nat.reduceMul, Nat.reduceSub, Nat.reduceBEq, Int.reduceToNat, and_assoc, wrap_w64, wrap_wu64, wrap_wu8, wrap_wu32, wrap_wi32, bits_i64, bits_u64, bit_and, bit_or, bit_xor, shr1, shl1, shr_w, shl_w, rep_I, rep_Bo, seg_mapV, allOne_mapI, ite_or_not, ite_and_not, take_mapF, drop_mapF, Nat.sub_zero, Option.map_some, Option.map_none]
    obtain rfl := Option.some.inj hrun
    refine RetOK.data' 4 (by exact trivial) ?_
    rfl
  · replace hrun := br_f h1 hrun
    refine PW.skip ?_
    change PW _ _ _ _ _
    refine PW.seq ?_
    refine PW.regionK fun K hK => ?_
    refine OW.run [2] ?_
    simp (config := { maxSteps := 2000000 }) only [go_sem, ↓reduceIte, Nat.reduceEqDiff, Nat.reduceLT, Nat.reduceLeDiff, Nat.reduceAdd, Nat.reduceMul, Nat.reduceSub, Nat.reduceBEq, Int.reduceToNat, and_assoc, wrap_w64, wrap_wu64, wrap_wu8, wrap_wu32, wrap_wi32, bits_i64, bits_u64, bit_and, bit_or, bit_xor, shr1, shl1, shr_w, shl_w, rep_I, rep_Bo, seg_mapV, allOne_mapI, ite_or_not, ite_and_not, take_mapF, drop_mapF, Nat.sub_zero, Option.map_some, Option.map_none]
    refine OW.nil (hK _ ?_)
    clear hK K
    change PW _ _ _ _ _
    refine PW.ret ?_
    change PW.Ends _ _ _ _ _ _
    refine PW.Ends.intro (.inr rfl) ?_
    simp (config := { maxSteps := 2000000 }) only [go_sem, ↓reduceIte, Nat.reduceEqDiff, Nat.reduceLT, Nat.reduceLeDiff, Nat.reduceAdd, Nat.reduceMul, Nat.reduceSub, Nat.reduceBEq, Int.reduceToNat, and_assoc, wrap_w64, wrap_wu64, wrap_wu8, wrap_wu32, wrap_wi32, bits_i64, bits_u64, bit_and, bit_or, bit_xor, shr1, shl1, shr_w, shl_w, rep_I, rep_Bo, seg_mapV, allOne_mapI, ite_or_not, ite_and_not, take_mapF, drop_mapF, Nat.sub_zero, Option.map_some, Option.map_none]
    obtain rfl := Option.some.inj hrun
    refine RetOK.data' 4 (by exact trivial) ?_
    rfl

set_option maxRecDepth 20000 in
set_option maxHeartbeats 8000000 in
theorem ref02_Gathered_ok (N : Nat) (soft : List Int) (version : Int) (length : Int) (r : List Int) (hrun : ref02_Gathered N soft version length = some r) : CallOK Try.prog 39 [(L soft), (I version), (I length)] (.d (L r)) [] := by
  refine CallOK.of_PW Try.func39 rfl (by rw [Try.results39]) Try.ntmps39 Try.call39 ?_
  change PW _ _ _ _ _
  try simp only [go_sem, ↓reduceIte, Nat.reduceEqDiff, Nat.reduceLT, Nat.reduceLeDiff, Nat.reduceAdd, Nat.reduceMul, Nat.reduceSub, Nat.reduceBEq]
  unfold ref02_Gathered at hrun
  refine PW.seq ?_
  refine PW.regionK fun K hK => ?_
  refine OW.run [0, 1, 2] ?_
  simp (config := { maxSteps := 2000000 }) only [go_sem, ↓reduceIte, Nat.reduceEqDiff, Nat.reduceLT, Nat.reduceLeDiff, Nat.reduceAdd, Nat.reduceMul, Nat.reduceSub, Nat.reduceBEq, Int.reduceToNat, and_assoc, wrap_w64, wrap_wu64, wrap_wu8, wrap_wu32, wrap_wi32, bits_i64, bits_u64, bit_and, bit_or, bit_xor, shr1, shl1, shr_w, shl_w, rep_I, rep_Bo, seg_mapV, allOne_mapI, ite_or_not, ite_and_not, take_mapF, drop_mapF, Nat.sub_zero, Option.map_some, Option.map_none]
  refine OW.nil (hK _ ?_)
  clear hK K
  change PW _ _ _ _ _
  refine PW.seq ?_
  obtain ⟨c1, hrun⟩ := chk_some hrun
  refine PW.regionK fun K hK => ?_
  refine OW.run [0, 1, 2, 7] ?_
  simp (config := { maxSteps := 2000000 }) only [go_sem, ↓reduceIte, Nat.reduceEqDiff, Nat.reduceLT, Nat.reduceLeDiff, Nat.reduceAdd, Nat.reduceMul, Nat.reduceSub, Nat.reduceBEq, Int.reduceToNat, and_assoc, wrap_w64, wrap_wu64, wrap_wu8, wrap_wu32, wrap_wi32, bits_i64, bits_u64, bit_and, bit_or, bit_xor, shr1, shl1, shr_w, shl_w, rep_I, rep_Bo, seg_mapV, allOne_mapI, ite_or_not, ite_and_not, take_mapF, drop_mapF, Nat.sub_zero, Option.map_some, Option.map_none]
  refine And.intro (by omega) (And.intro (by omega) (And.intro (by omega) (And.intro (by omega) ?_)))
  refine OW.nil (hK _ ?_)
  clear hK K
  change PW _ _ _ _ _
  refine PW.joinS (τ := List Int) [7] 1 (fun b0 => [(7, .own 0 0 b0.length 1)]) (fun b0 => [{ cells := (b0.map I).map .d, e := 3 }]) _ _ r (by exact Nat.zero_le _) hrun ?_ ?_
  · intro K_ hrun N2 hN2
    refine PW.seq ?_
    refine PW.regionK fun K hK => ?_
    refine OW.run [0, 1, 2, 7, 8] ?_
    simp (config := { maxSteps := 2000000 }) only [go_sem, ↓reduceIte, Nat.reduceEqDiff, Nat.reduceLT, Nat.reduceLeDiff, Nat.reduceAdd, Nat.reduceMul, Nat.reduceSub, Nat.reduceBEq, Int.reduceToNat, and_assoc, wrap_w64, wrap_wu64, wrap_wu8, wrap_wu32, wrap_wi32, bits_i64, bits_u64, bit_and, bit_or, bit_xor, shr1, shl1, shr_w, shl_w, rep_I, rep_Bo, seg_mapV, allOne_mapI, ite_or_not, ite_and_not, take_mapF, drop_mapF, Nat.sub_zero, Option.map_some, Option.map_none]
    refine OW.nil (hK _ ?_)
    clear hK K
    change PW _ _ _ _ _
    refine PW.block ?_
    refine PW.loopS (σ := Int × List Int) [0, 1, 2, 7, 8] 1 (fun (i, b01) => [(7, .own 0 0 b01.length 1), (8, .d (I i))]) (fun (i, b01) => [{ cells := (b01.map I).map .d, e := 3 }]) (ref02_Gathered.b1 N soft version length K_) r N ((0 : Int), (List.replicate length.toNat (0 : Int))) (by exact Nat.zero_le _) hrun (by (simp only [Env.frzL, Env.frz, frzOb, V.frz, V.frz.frzs, asD, map_asD, map_nz_I, map_nz_Bo, map_nz_Sx, map_nz_L, nz_int, nz_bool, nz_str, nz_list, nz_ref, nz_nil, map_toDs, toDs_nil, toDs_cons, toDs_append, toDs_mapD, toDs_seg, toDs_drop, toD_own, toD_ptr, toD_clo, toD_agg, toD_tup, map_nz_I, map_nz_Bo, map_nz_Sx, map_nz_L, seg_mapD, seg_flat, toD_d, nz_list, nz_int, nz_bool, nz_str, nz_agg, nz_tup, nz_clo, nz_ref, nz_nil, take_len, take_mapF, drop_mapF, List.length_set, List.length_replicate, List.drop_zero, go_sem, ↓reduceIte, Nat.reduceEqDiff, Nat.reduceLT, Nat.reduceLeDiff, Nat.reduceAdd, Nat.reduceMul, Nat.reduceSub, Nat.reduceBEq]; done)) ?_
    rintro n ⟨i, b01⟩ hrun N3 hN3
    unfold ref02_Gathered.b1 at hrun
    try simp only [go_sem, ↓reduceIte, Nat.reduceEqDiff, Nat.reduceLT, Nat.reduceLeDiff, Nat.reduceAdd, Nat.reduceMul, Nat.reduceSub, Nat.reduceBEq]
    refine PW.seq ?_
    refine PW.seq ?_
    refine PW.regionK fun K hK => ?_
    refine OW.run [0, 1, 2, 7, 8, 15] ?_
    simp (config := { maxSteps := 2000000 }) only [go_sem, ↓reduceIte, Nat.reduceEqDiff, Nat.reduceLT, Nat.reduceLeDiff, Nat.reduceAdd, Nat.reduceMul, Nat.reduceSub, Nat.reduceBEq, Int.reduceToNat, and_assoc, wrap_w64, wrap_wu64, wrap_wu8, wrap_wu32, wrap_wi32, bits_i64, bits_u64, bit_and, bit_or, bit_xor, shr1, shl1, shr_w, shl_w, rep_I, rep_Bo, seg_mapV, allOne_mapI, ite_or_not, ite_and_not, take_mapF, drop_mapF, Nat.sub_zero, Option.map_some, Option.map_none]
    refine OW.nil (hK _ ?_)
    clear hK K
    change PW _ _ _ _ _
    refine PW.cond rfl (fun h4 => ?_) (fun h4 => ?_)
    · replace hrun := br_t h4 hrun
      refine PW.skip ?_
      change PW _ _ _ _ _
      refine PW.seq ?_
      refine PW.block ?_
      refine PW.seq ?_
      obtain ⟨x1, e1, hrun⟩ := bnd_some hrun
      refine PW.regionK fun K hK => ?_
      refine OW.run [0, 1, 2, 7, 8, 9] ?_
      simp (config := { maxSteps := 2000000 }) only [go_sem, ↓reduceIte, Nat.reduceEqDiff, Nat.reduceLT, Nat.reduceLeDiff, Nat.reduceAdd, Nat.reduceMul, Nat.reduceSub, Nat.reduceBEq, Int.reduceToNat, and_assoc, wrap_w64, wrap_wu64, wrap_wu8, wrap_wu32, wrap_wi32, bits_i64, bits_u64, bit_and, bit_or, bit_xor, shr1, shl1, shr_w, shl_w, rep_I, rep_Bo, seg_mapV, allOne_mapI, ite_or_not, ite_and_not, take_mapF, drop_mapF, Nat.sub_zero, Option.map_some, Option.map_none]
      refine OW.call' 4 rfl rfl rfl (by ((simp only [go_sem, List.toList_toArray, ↓reduceIte, Nat.reduceEqDiff, Nat.reduceLT, Nat.reduceBEq]); exact rfl)) ?_ (ref02_place_ok N _ _ _ _ e1) ?_ ?_ ?_ ?_
      · rfl
      · exact okD_all rfl
      · exact .inl rfl
      · (simp only [go_sem, Nat.reduceLT])
      refine OW.run [0, 1, 2, 7, 8, 9] ?_
      simp (config := { maxSteps := 2000000 }) only [go_sem, ↓reduceIte, Nat.reduceEqDiff, Nat.reduceLT, Nat.reduceLeDiff, Nat.reduceAdd, Nat.reduceMul, Nat.reduceSub, Nat.reduceBEq, Int.reduceToNat, and_assoc, wrap_w64, wrap_wu64, wrap_wu8, wrap_wu32, wrap_wi32, bits_i64, bits_u64, bit_and, bit_or, bit_xor, shr1, shl1, shr_w, shl_w, rep_I, rep_Bo, seg_mapV, allOne_mapI, ite_or_not, ite_and_not, take_mapF, drop_mapF, Nat.sub_zero, Option.map_some, Option.map_none]
      refine OW.nil (hK _ ?_)
      clear hK K
      change PW _ _ _ _ _
      obtain ⟨c5, hrun⟩ := chk_some hrun
      obtain ⟨c6, hrun⟩ := chk_some hrun
      obtain ⟨c7, hrun⟩ := chk_some hrun
      refine PW.drawK 11 mixed (by kernel_rfl) fun K hK => ?_
      change FW _ _ _ _ _
      refine FW.run ?_
      simp (config := { maxSteps := 2000000 }) only [go_sem, ↓reduceIte, Nat.reduceEqDiff, Nat.reduceLT, Nat.reduceLeDiff, Nat.reduceAdd, Nat.reduceMul, Nat.reduceSub, Nat.reduceBEq, Int.reduceToNat, and_assoc, wrap_w64, wrap_wu64, wrap_wu8, wrap_wu32, wrap_wi32, bits_i64, bits_u64, bit_and, bit_or, bit_xor, shr1, shl1, shr_w, shl_w, rep_I, rep_Bo, seg_mapV, allOne_mapI, ite_or_not, ite_and_not, take_mapF, drop_mapF, Nat.sub_zero, Option.map_some, Option.map_none]
      refine And.intro (by omega) (And.intro (by omega) (And.intro (by omega) (And.intro (by omega) (And.intro (by omega) (And.intro (by omega) (And.intro (by omega) ?_))))))
      refine FW.nil ?_
      change OW _ _ _ _ _ _
      refine OW.run [0, 1, 2, 7, 8] ?_
      simp (config := { maxSteps := 2000000 }) only [go_sem, ↓reduceIte, Nat.reduceEqDiff, Nat.reduceLT, Nat.reduceLeDiff, Nat.reduceAdd, Nat.reduceMul, Nat.reduceSub, Nat.reduceBEq, Int.reduceToNat, and_assoc, wrap_w64, wrap_wu64, wrap_wu8, wrap_wu32, wrap_wi32, bits_i64, bits_u64, bit_and, bit_or, bit_xor, shr1, shl1, shr_w, shl_w, rep_I, rep_Bo, seg_mapV, allOne_mapI, ite_or_not, ite_and_not, take_mapF, drop_mapF, Nat.sub_zero, Option.map_some, Option.map_none]
      refine And.intro (by omega) (And.intro (by omega) (And.intro (by omega) ?_))
      refine OW.nil (hK _ ?_)
      clear hK K
      change PW _ _ _ _ _
      refine PW.regionK fun K hK => ?_
      refine OW.run [0, 1, 2, 7, 8] ?_
      simp (config := { maxSteps := 2000000 }) only [go_sem, ↓reduceIte, Nat.reduceEqDiff, Nat.reduceLT, Nat.reduceLeDiff, Nat.reduceAdd, Nat.reduceMul, Nat.reduceSub, Nat.reduceBEq, Int.reduceToNat, and_assoc, wrap_w64, wrap_wu64, wrap_wu8, wrap_wu32, wrap_wi32, bits_i64, bits_u64, bit_and, bit_or, bit_xor, shr1, shl1, shr_w, shl_w, rep_I, rep_Bo, seg_mapV, allOne_mapI, ite_or_not, ite_and_not, take_mapF, drop_mapF, Nat.sub_zero, Option.map_some, Option.map_none]
      refine OW.nil (hK _ ?_)
      clear hK K
      refine hN3 [] (w64 (i + (1 : Int)), (b01.set x1.toNat (w64 ((b01.getD x1.toNat 0) + (soft.getD i.toNat 0))))) _ hrun (by exact trivial) ?_
      (simp only [Env.frzL, Env.frz, frzOb, V.frz, V.frz.frzs, asD, map_asD, map_nz_I, map_nz_Bo, map_nz_Sx, map_nz_L, nz_int, nz_bool, nz_str, nz_list, nz_ref, nz_nil, map_toDs, toDs_nil, toDs_cons, toDs_append, toDs_mapD, toDs_seg, toDs_drop, toD_own, toD_ptr, toD_clo, toD_agg, toD_tup, map_nz_I, map_nz_Bo, map_nz_Sx, map_nz_L, seg_mapD, seg_flat, toD_d, nz_list, nz_int, nz_bool, nz_str, nz_agg, nz_tup, nz_clo, nz_ref, nz_nil, take_len, take_mapF, drop_mapF, List.length_set, List.length_replicate, List.drop_zero, go_sem, ↓reduceIte, Nat.reduceEqDiff, Nat.reduceLT, Nat.reduceLeDiff, Nat.reduceAdd, Nat.reduceMul, Nat.reduceSub, Nat.reduceBEq]; done)
    · replace hrun := br_f h4 hrun
      refine PW.exit ?_
      refine hN2 [] b01 _ hrun (by exact trivial) ?_
      (simp only [Env.frzL, Env.frz, frzOb, V.frz, V.frz.frzs, asD, map_asD, map_nz_I, map_nz_Bo, map_nz_Sx, map_nz_L, nz_int, nz_bool, nz_str, nz_list, nz_ref, nz_nil, map_toDs, toDs_nil, toDs_cons, toDs_append, toDs_mapD, toDs_seg, toDs_drop, toD_own, toD_ptr, toD_clo, toD_agg, toD_tup, map_nz_I, map_nz_Bo, map_nz_Sx, map_nz_L, seg_mapD, seg_flat, toD_d, nz_list, nz_int, nz_bool, nz_str, nz_agg, nz_tup, nz_clo, nz_ref, nz_nil, take_len, take_mapF, drop_mapF, List.length_set, List.length_replicate, List.drop_zero, go_sem, ↓reduceIte, Nat.reduceEqDiff, Nat.reduceLT, Nat.reduceLeDiff, Nat.reduceAdd, Nat.reduceMul, Nat.reduceSub, Nat.reduceBEq]; done)
  · rintro b0 hrun
    try simp only [go_sem, ↓reduceIte, Nat.reduceEqDiff, Nat.reduceLT, Nat.reduceLeDiff, Nat.reduceAdd, Nat.reduceMul, Nat.reduceSub, Nat.reduceBEq]
    refine PW.seq ?_
    refine PW.regionK fun K hK => ?_
    refine OW.run [6] ?_
    simp (config := { maxSteps := 2000000 }) only [go_sem, ↓reduceIte, Nat.reduceEqDiff, Nat.reduceLT, Nat.reduceLeDiff, Nat.reduceAdd, Nat.reduceMul, Nat.reduceSub, Nat.reduceBEq, Int.reduceToNat, and_assoc, wrap_w64, wrap_wu64, wrap_wu8, wrap_wu32, wrap_wi32, bits_i64, bits_u64, bit_and, bit_or, bit_xor, shr1, shl1, shr_w, shl_w, rep_I, rep_Bo, seg_mapV, allOne_mapI, ite_or_not, ite_and_not, take_mapF, drop_mapF, Nat.sub_zero, Option.map_some, Option.map_none]
    refine OW.nil (hK _ ?_)
    clear hK K
    change PW _ _ _ _ _
    refine PW.ret ?_
    change PW.Ends _ _ _ _ _ _
    refine PW.Ends.intro (.inr rfl) ?_
    simp (config := { maxSteps := 2000000 }) only [go_sem, ↓reduceIte, Nat.reduceEqDiff, Nat.reduceLT, Nat.reduceLeDiff, Nat.reduceAdd, Nat.reduceMul, Nat.reduceSub, Nat.reduceBEq, Int.reduceToNat, and_assoc, wrap_w64, wrap_wu64, wrap_wu8, wrap_wu32, wrap_wi32, bits_i64, bits_u64, bit_and, bit_or, bit_xor, shr1, shl1, shr_w, shl_w, rep_I, rep_Bo, seg_mapV, allOne_mapI, ite_or_not, ite_and_not, take_mapF, drop_mapF, Nat.sub_zero, Option.map_some, Option.map_none]
    obtain rfl := Option.some.inj hrun
    refine RetOK.data' 4 (by (simp only [go_sem, okAll_nil, okAll_cons, okAll_append, okD_dd, okAll_mapD, okAll_segD, okAll_dropD, okD_own, okD_ptr, okD_clo, okD_agg, okD_tup, List.length_set, List.length_replicate, and_true, true_and, Nat.le_refl, ↓reduceIte, Nat.reduceEqDiff, Nat.reduceLT, Nat.reduceLeDiff, Nat.reduceAdd, Nat.reduceMul, Nat.reduceSub, Nat.reduceBEq]; done)) ?_
    (((simp only [go_sem, map_toDs, toDs_nil, toDs_cons, toDs_append, toDs_mapD, toDs_seg, toDs_drop, toD_own, toD_ptr, toD_clo, toD_agg, toD_tup, map_nz_I, map_nz_Bo, map_nz_Sx, map_nz_L, seg_mapD, seg_flat, toD_d, nz_list, nz_int, nz_bool, nz_str, nz_agg, nz_tup, nz_clo, nz_ref, nz_nil, take_len, take_mapF, drop_mapF, List.length_set, List.length_replicate, List.drop_zero, ↓reduceIte, Nat.reduceEqDiff, Nat.reduceLT, Nat.reduceLeDiff, Nat.reduceAdd, Nat.reduceMul, Nat.reduceSub, Nat.reduceBEq]; try simp only [seg, go_sem, ↓reduceIte, Nat.reduceEqDiff, Nat.reduceLT, Nat.reduceLeDiff, Nat.reduceAdd, Nat.reduceMul, Nat.reduceSub, Nat.reduceBEq])); done)

set_option maxRecDepth 20000 in
set_option maxHeartbeats 8000000 in
theorem ref02_SumsErr_ok (N : Nat) (l : List Int) (r : Int) (hrun : ref02_SumsErr N l = some r) : CallOK Try.prog 40 [(L l)] (.d (I r)) [] := by
  refine CallOK.of_PW Try.func40 rfl (by rw [Try.results40]) Try.ntmps40 Try.call40 ?_
  change PW _ _ _ _ _
  try simp only [go_sem, ↓reduceIte, Nat.reduceEqDiff, Nat.reduceLT, Nat.reduceLeDiff, Nat.reduceAdd, Nat.reduceMul, Nat.reduceSub, Nat.reduceBEq]
  unfold ref02_SumsErr at hrun
  refine PW.seq ?_
  refine PW.regionK fun K hK => ?_
  refine OW.run [0] ?_
  simp (config := { maxSteps := 2000000 }) only [go_sem, ↓reduceIte, Nat.reduceEqDiff, Nat.reduceLT, Nat.reduceLeDiff, Nat.reduceAdd, Nat.reduceMul, Nat.reduceSub, Nat.reduceBEq, Int.reduceToNat, and_assoc, wrap_w64, wrap_wu64, wrap_wu8, wrap_wu32, wrap_wi32, bits_i64, bits_u64, bit_and, bit_or, bit_xor, shr1, shl1, shr_w, shl_w, rep_I, rep_Bo, seg_mapV, allOne_mapI, ite_or_not, ite_and_not, take_mapF, drop_mapF, Nat.sub_zero, Option.map_some, Option.map_none]
  refine OW.nil (hK _ ?_)
  clear hK K
  change PW _ _ _ _ _
  refine PW.seq ?_
  obtain ⟨x1, e1, hrun⟩ := bnd_some hrun
  refine PW.regionK fun K hK => ?_
  refine OW.run [2] ?_
  simp (config := { maxSteps := 2000000 }) only [go_sem, ↓reduceIte, Nat.reduceEqDiff, Nat.reduceLT, Nat.reduceLeDiff, Nat.reduceAdd, Nat.reduceMul, Nat.reduceSub, Nat.reduceBEq, Int.reduceToNat, and_assoc, wrap_w64, wrap_wu64, wrap_wu8, wrap_wu32, wrap_wi32, bits_i64, bits_u64, bit_and, bit_or, bit_xor, shr1, shl1, shr_w, shl_w, rep_I, rep_Bo, seg_mapV, allOne_mapI, ite_or_not, ite_and_not, take_mapF, drop_mapF, Nat.sub_zero, Option.map_some, Option.map_none]
  refine OW.call' 4 rfl rfl rfl (by ((simp only [go_sem, List.toList_toArray, ↓reduceIte, Nat.reduceEqDiff, Nat.reduceLT, Nat.reduceBEq]); exact rfl)) ?_ (ref02_sizedErr_ok N _ _ _ _ e1) ?_ ?_ ?_ ?_
  · rfl
  · exact okD_all rfl
  · exact .inl rfl
  · (simp only [go_sem, Nat.reduceLT])
  refine OW.run [2] ?_
  simp (config := { maxSteps := 2000000 }) only [go_sem, ↓reduceIte, Nat.reduceEqDiff, Nat.reduceLT, Nat.reduceLeDiff, Nat.reduceAdd, Nat.reduceMul, Nat.reduceSub, Nat.reduceBEq, Int.reduceToNat, and_assoc, wrap_w64, wrap_wu64, wrap_wu8, wrap_wu32, wrap_wi32, bits_i64, bits_u64, bit_and, bit_or, bit_xor, shr1, shl1, shr_w, shl_w, rep_I, rep_Bo, seg_mapV, allOne_mapI, ite_or_not, ite_and_not, take_mapF, drop_mapF, Nat.sub_zero, Option.map_some, Option.map_none]
  refine OW.nil (hK _ ?_)
  clear hK K
  change PW _ _ _ _ _
  refine PW.ret ?_
  change PW.Ends _ _ _ _ _ _
  refine PW.Ends.intro (.inr rfl) ?_
  simp (config := { maxSteps := 2000000 }) only [go_sem, ↓reduceIte, Nat.reduceEqDiff, Nat.reduceLT, Nat.reduceLeDiff, Nat.reduceAdd, Nat.reduceMul, Nat.reduceSub, Nat.reduceBEq, Int.reduceToNat, and_assoc, wrap_w64, wrap_wu64, wrap_wu8, wrap_wu32, wrap_wi32, bits_i64, bits_u64, bit_and, bit_or, bit_xor, shr1, shl1, shr_w, shl_w, rep_I, rep_Bo, seg_mapV, allOne_mapI, ite_or_not, ite_and_not, take_mapF, drop_mapF, Nat.sub_zero, Option.map_some, Option.map_none]
  obtain rfl := Option.some.inj hrun
  refine RetOK.data' 4 (by exact trivial) ?_
  rfl

set_option maxRecDepth 20000 in
set_option maxHeartbeats 8000000 in
theorem ref02_Combined_ok (N : Nat) (a : List Int) (b : List Int) (r : List Int × Int) (hrun : ref02_Combined N a b = some r) : CallOK Try.prog 41 [(L a), (L b)] (.d (.tup [(L r.1), (I r.2)])) [] := by
  refine CallOK.of_PW Try.func41 rfl (by rw [Try.results41]) Try.ntmps41 Try.call41 ?_
  change PW _ _ _ _ _
  try simp only [go_sem, ↓reduceIte, Nat.reduceEqDiff, Nat.reduceLT, Nat.reduceLeDiff, Nat.reduceAdd, Nat.reduceMul, Nat.reduceSub, Nat.reduceBEq]
  unfold ref02_Combined at hrun
  refine PW.seq ?_
  refine PW.regionK fun K hK => ?_
  refine OW.run [0, 1] ?_
  simp (config := { maxSteps := 2000000 }) only [go_sem, ↓reduceIte, Nat.reduceEqDiff, Nat.reduceLT, Nat.reduceLeDiff, Nat.reduceAdd, Nat.reduceMul, Nat.reduceSub, Nat.reduceBEq, Int.reduceToNat, and_assoc, wrap_w64, wrap_wu64, wrap_wu8, wrap_wu32, wrap_wi32, bits_i64, bits_u64, bit_and, bit_or, bit_xor, shr1, shl1, shr_w, shl_w, rep_I, rep_Bo, seg_mapV, allOne_mapI, ite_or_not, ite_and_not, take_mapF, drop_mapF, Nat.sub_zero, Option.map_some, Option.map_none]
  refine OW.nil (hK _ ?_)
  clear hK K
  change PW _ _ _ _ _
  refine PW.seq ?_
  refine PW.seq ?_
  refine PW.regionK fun K hK => ?_
  refine OW.run [0, 1, 12] ?_
  simp (config := { maxSteps := 2000000 }) only [go_sem, ↓reduceIte, Nat.reduceEqDiff, Nat.reduceLT, Nat.reduceLeDiff, Nat.reduceAdd, Nat.reduceMul, Nat.reduceSub, Nat.reduceBEq, Int.reduceToNat, and_assoc, wrap_w64, wrap_wu64, wrap_wu8, wrap_wu32, wrap_wi32, bits_i64, bits_u64, bit_and, bit_or, bit_xor, shr1, shl1, shr_w, shl_w, rep_I, rep_Bo, seg_mapV, allOne_mapI, ite_or_not, ite_and_not, take_mapF, drop_mapF, Nat.sub_zero, Option.map_some, Option.map_none]
  refine OW.nil (hK _ ?_)
  clear hK K
  change PW _ _ _ _ _
  refine PW.cond rfl (fun h1 => ?_) (fun h1 => ?_)
  · replace hrun := br_t h1 hrun
    refine PW.seq ?_
    refine PW.regionK fun K hK => ?_
    refine OW.run [4, 5] ?_
    simp (config := { maxSteps := 2000000 }) only [go_sem, ↓reduceIte, Nat.reduceEqDiff, Nat.reduceLT, Nat.reduceLeDiff, Nat.reduceAdd, Nat.reduceMul, Nat.reduceSub, Nat.reduceBEq, Int.reduceToNat, and_assoc, wrap_w64, wrap_wu64, wrap_wu8, wrap_wu32, wrap_wi32, bits_i64, bits_u64, bit_and, bit_or, bit_xor, shr1, shl1, shr_w, shl_w, rep_I, rep_Bo, seg_mapV, allOne_mapI, ite_or_not, ite_and_not, take_mapF, drop_mapF, Nat.sub_zero, Option.map_some, Option.map_none]
    refine OW.nil (hK _ ?_)
    clear hK K
    change PW _ _ _ _ _
    refine PW.ret ?_
    change PW.Ends _ _ _ _ _ _
    refine PW.Ends.intro (.inr rfl) ?_
    simp (config := { maxSteps := 2000000 }) only [go_sem, ↓reduceIte, Nat.reduceEqDiff, Nat.reduceLT, Nat.reduceLeDiff, Nat.reduceAdd, Nat.reduceMul, Nat.reduceSub, Nat.reduceBEq, Int.reduceToNat, and_assoc, wrap_w64, wrap_wu64, wrap_wu8, wrap_wu32, wrap_wi32, bits_i64, bits_u64, bit_and, bit_or, bit_xor, shr1, shl1, shr_w, shl_w, rep_I, rep_Bo, seg_mapV, allOne_mapI, ite_or_not, ite_and_not, take_mapF, drop_mapF, Nat.sub_zero, Option.map_some, Option.map_none]
    obtain rfl := Option.some.inj hrun
    refine RetOK.data' 4 (by exact okD_all rfl) ?_
    rfl
  · replace hrun := br_f h1 hrun
    refine PW.skip ?_
    change PW _ _ _ _ _
    refine PW.seq ?_
    refine PW.regionK fun K hK => ?_
    refine OW.run [0, 1, 6] ?_
    simp (config := { maxSteps := 2000000 }) only [go_sem, ↓reduceIte, Nat.reduceEqDiff, Nat.reduceLT, Nat.reduceLeDiff, Nat.reduceAdd, Nat.reduceMul, Nat.reduceSub, Nat.reduceBEq, Int.reduceToNat, and_assoc, wrap_w64, wrap_wu64, wrap_wu8, wrap_wu32, wrap_wi32, bits_i64, bits_u64, bit_and, bit_or, bit_xor, shr1, shl1, shr_w, shl_w, rep_I, rep_Bo, seg_mapV, allOne_mapI, ite_or_not, ite_and_not, take_mapF, drop_mapF, Nat.sub_zero, Option.map_some, Option.map_none]
    refine OW.nil (hK _ ?_)
    clear hK K
    change PW _ _ _ _ _
    refine PW.joinS (τ := List Int) [6] 1 (fun b0 => [(6, .own 0 0 b0.length 1)]) (fun b0 => [{ cells := (b0.map I).map .d, e := 3 }]) _ _ r (by exact Nat.zero_le _) hrun ?_ ?_
    · intro K_ hrun N2 hN2
      refine PW.seq ?_
      refine PW.regionK fun K hK => ?_
      refine OW.run [0, 1, 6, 7] ?_
      simp (config := { maxSteps := 2000000 }) only [go_sem, ↓reduceIte, Nat.reduceEqDiff, Nat.reduceLT, Nat.reduceLeDiff, Nat.reduceAdd, Nat.reduceMul, Nat.reduceSub, Nat.reduceBEq, Int.reduceToNat, and_assoc, wrap_w64, wrap_wu64, wrap_wu8, wrap_wu32, wrap_wi32, bits_i64, bits_u64, bit_and, bit_or, bit_xor, shr1, shl1, shr_w, shl_w, rep_I, rep_Bo, seg_mapV, allOne_mapI, ite_or_not, ite_and_not, take_mapF, drop_mapF, Nat.sub_zero, Option.map_some, Option.map_none]
      refine OW.nil (hK _ ?_)
      clear hK K
      change PW _ _ _ _ _
      refine PW.block ?_
      refine PW.virt 6 3 1 rfl ?_
      try simp only [go_sem, ↓reduceIte, Nat.reduceEqDiff, Nat.reduceLT, Nat.reduceLeDiff, Nat.reduceAdd, Nat.reduceMul, Nat.reduceSub, Nat.reduceBEq]
      refine PW.loopS (σ := Int × List Int) [0, 1, 6, 7] 1 (fun (i, b01) => [(6, .own 0 0 b01.length 1), (7, .d (I i))]) (fun (i, b01) => [{ cells := (b01.map I).map .d, e := 3 }]) (ref02_Combined.b1 N a b K_) r N ((0 : Int), ([] : List Int)) (by exact Nat.zero_le _) hrun (by (simp only [Env.frzL, Env.frz, frzOb, V.frz, V.frz.frzs, asD, map_asD, map_nz_I, map_nz_Bo, map_nz_Sx, map_nz_L, nz_int, nz_bool, nz_str, nz_list, nz_ref, nz_nil, map_toDs, toDs_nil, toDs_cons, toDs_append, toDs_mapD, toDs_seg, toDs_drop, toD_own, toD_ptr, toD_clo, toD_agg, toD_tup, map_nz_I, map_nz_Bo, map_nz_Sx, map_nz_L, seg_mapD, seg_flat, toD_d, nz_list, nz_int, nz_bool, nz_str, nz_agg, nz_tup, nz_clo, nz_ref, nz_nil, take_len, take_mapF, drop_mapF, List.length_set, List.length_replicate, List.drop_zero, go_sem, ↓reduceIte, Nat.reduceEqDiff, Nat.reduceLT, Nat.reduceLeDiff, Nat.reduceAdd, Nat.reduceMul, Nat.reduceSub, Nat.reduceBEq]; done)) ?_
      rintro n ⟨i, b01⟩ hrun N3 hN3
      unfold ref02_Combined.b1 at hrun
      try simp only [go_sem, ↓reduceIte, Nat.reduceEqDiff, Nat.reduceLT, Nat.reduceLeDiff, Nat.reduceAdd, Nat.reduceMul, Nat.reduceSub, Nat.reduceBEq]
      refine PW.seq ?_
      refine PW.seq ?_
      refine PW.regionK fun K hK => ?_
      refine OW.run [0, 1, 6, 7, 16] ?_
      simp (config := { maxSteps := 2000000 }) only [go_sem, ↓reduceIte, Nat.reduceEqDiff, Nat.reduceLT, Nat.reduceLeDiff, Nat.reduceAdd, Nat.reduceMul, Nat.reduceSub, Nat.reduceBEq, Int.reduceToNat, and_assoc, wrap_w64, wrap_wu64, wrap_wu8, wrap_wu32, wrap_wi32, bits_i64, bits_u64, bit_and, bit_or, bit_xor, shr1, shl1, shr_w, shl_w, rep_I, rep_Bo, seg_mapV, allOne_mapI, ite_or_not, ite_and_not, take_mapF, drop_mapF, Nat.sub_zero, Option.map_some, Option.map_none]
      refine OW.nil (hK _ ?_)
      clear hK K
      change PW _ _ _ _ _
      refine PW.cond rfl (fun h4 => ?_) (fun h4 => ?_)
      · replace hrun := br_t h4 hrun
        refine PW.skip ?_
        change PW _ _ _ _ _
        refine PW.seq ?_
        refine PW.block ?_
        obtain ⟨c5, hrun⟩ := chk_some hrun
        obtain ⟨c6, hrun⟩ := chk_some hrun
        obtain ⟨c7, hrun⟩ := chk_some hrun
        refine PW.drawK 11 mixed (by kernel_rfl) fun K hK => ?_
        change FW _ _ _ _ _
        refine FW.run ?_
        simp (config := { maxSteps := 2000000 }) only [go_sem, ↓reduceIte, Nat.reduceEqDiff, Nat.reduceLT, Nat.reduceLeDiff, Nat.reduceAdd, Nat.reduceMul, Nat.reduceSub, Nat.reduceBEq, Int.reduceToNat, and_assoc, wrap_w64, wrap_wu64, wrap_wu8, wrap_wu32, wrap_wi32, bits_i64, bits_u64, bit_and, bit_or, bit_xor, shr1, shl1, shr_w, shl_w, rep_I, rep_Bo, seg_mapV, allOne_mapI, ite_or_not, ite_and_not, take_mapF, drop_mapF, Nat.sub_zero, Option.map_some, Option.map_none]
        refine And.intro (by omega) (And.intro (by omega) (And.intro (by omega) (And.intro (by omega) (And.intro (by omega) (And.intro (by omega) (And.intro (by omega) (And.intro (by omega) ?_)))))))
        refine FW.nil ?_
        change OW _ _ _ _ _ _
        refine OW.run [0, 1, 6, 7] ?_
        simp (config := { maxSteps := 2000000 }) only [go_sem, ↓reduceIte, Nat.reduceEqDiff, Nat.reduceLT, Nat.reduceLeDiff, Nat.reduceAdd, Nat.reduceMul, Nat.reduceSub, Nat.reduceBEq, Int.reduceToNat, and_assoc, wrap_w64, wrap_wu64, wrap_wu8, wrap_wu32, wrap_wi32, bits_i64, bits_u64, bit_and, bit_or, bit_xor, shr1, shl1, shr_w, shl_w, rep_I, rep_Bo, seg_mapV, allOne_mapI, ite_or_not, ite_and_not, take_mapF, drop_mapF, Nat.sub_zero, Option.map_some, Option.map_none]
        refine And.intro (by omega) (And.intro (by omega) (And.intro (by omega) ?_))
        refine OW.nil (hK _ ?_)
        clear hK K
        change PW _ _ _ _ _
        refine PW.regionK fun K hK => ?_
        refine OW.run [0, 1, 6, 7] ?_
        simp (config := { maxSteps := 2000000 }) only [go_sem, ↓reduceIte, Nat.reduceEqDiff, Nat.reduceLT, Nat.reduceLeDiff, Nat.reduceAdd, Nat.reduceMul, Nat.reduceSub, Nat.reduceBEq, Int.reduceToNat, and_assoc, wrap_w64, wrap_wu64, wrap_wu8, wrap_wu32, wrap_wi32, bits_i64, bits_u64, bit_and, bit_or, bit_xor, shr1, shl1, shr_w, shl_w, rep_I, rep_Bo, seg_mapV, allOne_mapI, ite_or_not, ite_and_not, take_mapF, drop_mapF, Nat.sub_zero, Option.map_some, Option.map_none]
        refine OW.nil (hK _ ?_)
        clear hK K
        refine hN3 [] (w64 (i + (1 : Int)), (b01 ++ ([w64 ((a.getD i.toNat 0) + (b.getD i.toNat 0))] : List Int))) _ hrun (by exact trivial) ?_
        (simp only [Env.frzL, Env.frz, frzOb, V.frz, V.frz.frzs, asD, map_asD, map_nz_I, map_nz_Bo, map_nz_Sx, map_nz_L, nz_int, nz_bool, nz_str, nz_list, nz_ref, nz_nil, map_toDs, toDs_nil, toDs_cons, toDs_append, toDs_mapD, toDs_seg, toDs_drop, toD_own, toD_ptr, toD_clo, toD_agg, toD_tup, map_nz_I, map_nz_Bo, map_nz_Sx, map_nz_L, seg_mapD, seg_flat, toD_d, nz_list, nz_int, nz_bool, nz_str, nz_agg, nz_tup, nz_clo, nz_ref, nz_nil, take_len, take_mapF, drop_mapF, List.length_set, List.length_replicate, List.drop_zero, go_sem, ↓reduceIte, Nat.reduceEqDiff, Nat.reduceLT, Nat.reduceLeDiff, Nat.reduceAdd, Nat.reduceMul, Nat.reduceSub, Nat.reduceBEq]; done)
      · replace hrun := br_f h4 hrun
        refine PW.exit ?_
        refine hN2 [] b01 _ hrun (by exact trivial) ?_
        (simp only [Env.frzL, Env.frz, frzOb, V.frz, V.frz.frzs, asD, map_asD, map_nz_I, map_nz_Bo, map_nz_Sx, map_nz_L, nz_int, nz_bool, nz_str, nz_list, nz_ref, nz_nil, map_toDs, toDs_nil, toDs_cons, toDs_append, toDs_mapD, toDs_seg, toDs_drop, toD_own, toD_ptr, toD_clo, toD_agg, toD_tup, map_nz_I, map_nz_Bo, map_nz_Sx, map_nz_L, seg_mapD, seg_flat, toD_d, nz_list, nz_int, nz_bool, nz_str, nz_agg, nz_tup, nz_clo, nz_ref, nz_nil, take_len, take_mapF, drop_mapF, List.length_set, List.length_replicate, List.drop_zero, go_sem, ↓reduceIte, Nat.reduceEqDiff, Nat.reduceLT, Nat.reduceLeDiff, Nat.reduceAdd, Nat.reduceMul, Nat.reduceSub, Nat.reduceBEq]; done)
    · rintro b0 hrun
      try simp only [go_sem, ↓reduceIte, Nat.reduceEqDiff, Nat.reduceLT, Nat.reduceLeDiff, Nat.reduceAdd, Nat.reduceMul, Nat.reduceSub, Nat.reduceBEq]
      refine PW.seq ?_
      refine PW.seq ?_
      obtain ⟨x1, e1, hrun⟩ := bnd_some hrun
      refine PW.regionK fun K hK => ?_
      refine OW.run [6, 33] ?_
      simp (config := { maxSteps := 2000000 }) only [go_sem, ↓reduceIte, Nat.reduceEqDiff, Nat.reduceLT, Nat.reduceLeDiff, Nat.reduceAdd, Nat.reduceMul, Nat.reduceSub, Nat.reduceBEq, Int.reduceToNat, and_assoc, wrap_w64, wrap_wu64, wrap_wu8, wrap_wu32, wrap_wi32, bits_i64, bits_u64, bit_and, bit_or, bit_xor, shr1, shl1, shr_w, shl_w, rep_I, rep_Bo, seg_mapV, allOne_mapI, ite_or_not, ite_and_not, take_mapF, drop_mapF, Nat.sub_zero, Option.map_some, Option.map_none]
      refine OW.call' 4 rfl rfl rfl (by ((simp only [go_sem, List.toList_toArray, ↓reduceIte, Nat.reduceEqDiff, Nat.reduceLT, Nat.reduceBEq]); exact rfl)) ?_ (ref02_SumsErr_ok N _ _ e1) ?_ ?_ ?_ ?_
      · (((simp only [go_sem, map_toDs, toDs_nil, toDs_cons, toDs_append, toDs_mapD, toDs_seg, toDs_drop, toD_own, toD_ptr, toD_clo, toD_agg, toD_tup, map_nz_I, map_nz_Bo, map_nz_Sx, map_nz_L, seg_mapD, seg_flat, toD_d, nz_list, nz_int, nz_bool, nz_str, nz_agg, nz_tup, nz_clo, nz_ref, nz_nil, take_len, take_mapF, drop_mapF, List.length_set, List.length_replicate, List.drop_zero, ↓reduceIte, Nat.reduceEqDiff, Nat.reduceLT, Nat.reduceLeDiff, Nat.reduceAdd, Nat.reduceMul, Nat.reduceSub, Nat.reduceBEq]; try simp only [seg, go_sem, ↓reduceIte, Nat.reduceEqDiff, Nat.reduceLT, Nat.reduceLeDiff, Nat.reduceAdd, Nat.reduceMul, Nat.reduceSub, Nat.reduceBEq])); done)
      · (refine okAll_intro ?_; (simp only [go_sem, okAll_nil, okAll_cons, okAll_append, okD_dd, okAll_mapD, okAll_segD, okAll_dropD, okD_own, okD_ptr, okD_clo, okD_agg, okD_tup, List.length_set, List.length_replicate, and_true, true_and, Nat.le_refl, ↓reduceIte, Nat.reduceEqDiff, Nat.reduceLT, Nat.reduceLeDiff, Nat.reduceAdd, Nat.reduceMul, Nat.reduceSub, Nat.reduceBEq]; done))
      · exact .inr ⟨rfl, rfl⟩
      · (simp only [go_sem, Nat.reduceLT])
      refine OW.run [6, 33] ?_
      simp (config := { maxSteps := 2000000 }) only [go_sem, ↓reduceIte, Nat.reduceEqDiff, Nat.reduceLT, Nat.reduceLeDiff, Nat.reduceAdd, Nat.reduceMul, Nat.reduceSub, Nat.reduceBEq, Int.reduceToNat, and_assoc, wrap_w64, wrap_wu64, wrap_wu8, wrap_wu32, wrap_wi32, bits_i64, bits_u64, bit_and, bit_or, bit_xor, shr1, shl1, shr_w, shl_w, rep_I, rep_Bo, seg_mapV, allOne_mapI, ite_or_not, ite_and_not, take_mapF, drop_mapF, Nat.sub_zero, Option.map_some, Option.map_none]
      refine OW.nil (hK _ ?_)
      clear hK K
      change PW _ _ _ _ _
      refine PW.cond rfl (fun h8 => ?_) (fun h8 => ?_)
      · replace hrun := br_t h8 hrun
        refine PW.seq ?_
        refine PW.regionK fun K hK => ?_
        refine OW.run [4, 5] ?_
        simp (config := { maxSteps := 2000000 }) only [go_sem, ↓reduceIte, Nat.reduceEqDiff, Nat.reduceLT, Nat.reduceLeDiff, Nat.reduceAdd, Nat.reduceMul, Nat.reduceSub, Nat.reduceBEq, Int.reduceToNat, and_assoc, wrap_w64, wrap_wu64, wrap_wu8, wrap_wu32, wrap_wi32, bits_i64, bits_u64, bit_and, bit_or, bit_xor, shr1, shl1, shr_w, shl_w, rep_I, rep_Bo, seg_mapV, allOne_mapI, ite_or_not, ite_and_not, take_mapF, drop_mapF, Nat.sub_zero, Option.map_some, Option.map_none]
        refine OW.nil (hK _ ?_)
        clear hK K
        change PW _ _ _ _ _
        refine PW.ret ?_
        change PW.Ends _ _ _ _ _ _
        refine PW.Ends.intro (.inr rfl) ?_
        simp (config := { maxSteps := 2000000 }) only [go_sem, ↓reduceIte, Nat.reduceEqDiff, Nat.reduceLT, Nat.reduceLeDiff, Nat.reduceAdd, Nat.reduceMul, Nat.reduceSub, Nat.reduceBEq, Int.reduceToNat, and_assoc, wrap_w64, wrap_wu64, wrap_wu8, wrap_wu32, wrap_wi32, bits_i64, bits_u64, bit_and, bit_or, bit_xor, shr1, shl1, shr_w, shl_w, rep_I, rep_Bo, seg_mapV, allOne_mapI, ite_or_not, ite_and_not, take_mapF, drop_mapF, Nat.sub_zero, Option.map_some, Option.map_none]
        obtain rfl := Option.some.inj hrun
        refine RetOK.data' 4 (by exact okD_all rfl) ?_
        rfl
      · replace hrun := br_f h8 hrun
        refine PW.skip ?_
        change PW _ _ _ _ _
        refine PW.seq ?_
        refine PW.regionK fun K hK => ?_
        refine OW.run [4, 5] ?_
        simp (config := { maxSteps := 2000000 }) only [go_sem, ↓reduceIte, Nat.reduceEqDiff, Nat.reduceLT, Nat.reduceLeDiff, Nat.reduceAdd, Nat.reduceMul, Nat.reduceSub, Nat.reduceBEq, Int.reduceToNat, and_assoc, wrap_w64, wrap_wu64, wrap_wu8, wrap_wu32, wrap_wi32, bits_i64, bits_u64, bit_and, bit_or, bit_xor, shr1, shl1, shr_w, shl_w, rep_I, rep_Bo, seg_mapV, allOne_mapI, ite_or_not, ite_and_not, take_mapF, drop_mapF, Nat.sub_zero, Option.map_some, Option.map_none]
        refine OW.nil (hK _ ?_)
        clear hK K
        change PW _ _ _ _ _
        refine PW.ret ?_
        change PW.Ends _ _ _ _ _ _
        refine PW.Ends.intro (.inr rfl) ?_
        simp (config := { maxSteps := 2000000 }) only [go_sem, ↓reduceIte, Nat.reduceEqDiff, Nat.reduceLT, Nat.reduceLeDiff, Nat.reduceAdd, Nat.reduceMul, Nat.reduceSub, Nat.reduceBEq, Int.reduceToNat, and_assoc, wrap_w64, wrap_wu64, wrap_wu8, wrap_wu32, wrap_wi32, bits_i64, bits_u64, bit_and, bit_or, bit_xor, shr1, shl1, shr_w, shl_w, rep_I, rep_Bo, seg_mapV, allOne_mapI, ite_or_not, ite_and_not, take_mapF, drop_mapF, Nat.sub_zero, Option.map_some, Option.map_none]
        obtain rfl := Option.some.inj hrun
        refine RetOK.data' 4 (by (refine okAll_intro ?_; (simp only [go_sem, okAll_nil, okAll_cons, okAll_append, okD_dd, okAll_mapD, okAll_segD, okAll_dropD, okD_own, okD_ptr, okD_clo, okD_agg, okD_tup, List.length_set, List.length_replicate, and_true, true_and, Nat.le_refl, ↓reduceIte, Nat.reduceEqDiff, Nat.reduceLT, Nat.reduceLeDiff, Nat.reduceAdd, Nat.reduceMul, Nat.reduceSub, Nat.reduceBEq]; done))) ?_
        (((simp only [go_sem, map_toDs, toDs_nil, toDs_cons, toDs_append, toDs_mapD, toDs_seg, toDs_drop, toD_own, toD_ptr, toD_clo, toD_agg, toD_tup, map_nz_I, map_nz_Bo, map_nz_Sx, map_nz_L, seg_mapD, seg_flat, toD_d, nz_list, nz_int, nz_bool, nz_str, nz_agg, nz_tup, nz_clo, nz_ref, nz_nil, take_len, take_mapF, drop_mapF, List.length_set, List.length_replicate, List.drop_zero, ↓reduceIte, Nat.reduceEqDiff, Nat.reduceLT, Nat.reduceLeDiff, Nat.reduceAdd, Nat.reduceMul, Nat.reduceSub, Nat.reduceBEq]; try simp only [seg, go_sem, ↓reduceIte, Nat.reduceEqDiff, Nat.reduceLT, Nat.reduceLeDiff, Nat.reduceAdd, Nat.reduceMul, Nat.reduceSub, Nat.reduceBEq])); done)

set_option maxRecDepth 20000 in
set_option maxHeartbeats 8000000 in
theorem law02_CodeVersions_ok (N : Nat) (l : List Int) (soft : List Int) (x_Version : Int) (x_Count : Int) (x_Length : Int) (r : Bool) (hrun : law02_CodeVersions N l soft x_Version x_Count x_Length = some r) : CallOK Try.prog 4 [(L l), (L soft), (.agg [(I x_Version), (I x_Count), (I x_Length)])] (.d (Bo r)) [] := by
  refine CallOK.of_PW Try.func4 rfl (by rw [Try.results4]) Try.ntmps4 Try.call4 ?_
  change PW _ _ _ _ _
  try simp only [go_sem, ↓reduceIte, Nat.reduceEqDiff, Nat.reduceLT, Nat.reduceLeDiff, Nat.reduceAdd, Nat.reduceMul, Nat.reduceSub, Nat.reduceBEq]
  unfold law02_CodeVersions at hrun
  refine PW.seq ?_
  refine PW.regionK fun K hK => ?_
  refine OW.run [0, 1, 5] ?_
  simp (config := { maxSteps := 2000000 }) only [go_sem, ↓reduceIte, Nat.reduceEqDiff, Nat.reduceLT, Nat.reduceLeDiff, Nat.reduceAdd, Nat.reduceMul, Nat.reduceSub, Nat.reduceBEq, Int.reduceToNat, and_assoc, wrap_w64, wrap_wu64, wrap_wu8, wrap_wu32, wrap_wi32, bits_i64, bits_u64, bit_and, bit_or, bit_xor, shr1, shl1, shr_w, shl_w, rep_I, rep_Bo, seg_mapV, allOne_mapI, ite_or_not, ite_and_not, take_mapF, drop_mapF, Nat.sub_zero, Option.map_some, Option.map_none]
  refine OW.nil (hK _ ?_)
  clear hK K
  change PW _ _ _ _ _
  refine PW.seq ?_
  refine PW.seq ?_
  obtain ⟨x1, e1, hrun⟩ := bnd_some hrun
  refine PW.regionK fun K hK => ?_
  refine OW.run [0, 1, 5, 16] ?_
  simp (config := { maxSteps := 2000000 }) only [go_sem, ↓reduceIte, Nat.reduceEqDiff, Nat.reduceLT, Nat.reduceLeDiff, Nat.reduceAdd, Nat.reduceMul, Nat.reduceSub, Nat.reduceBEq, Int.reduceToNat, and_assoc, wrap_w64, wrap_wu64, wrap_wu8, wrap_wu32, wrap_wi32, bits_i64, bits_u64, bit_and, bit_or, bit_xor, shr1, shl1, shr_w, shl_w, rep_I, rep_Bo, seg_mapV, allOne_mapI, ite_or_not, ite_and_not, take_mapF, drop_mapF, Nat.sub_zero, Option.map_some, Option.map_none]
  refine OW.call' 4 rfl rfl rfl (by ((simp only [go_sem, List.toList_toArray, ↓reduceIte, Nat.reduceEqDiff, Nat.reduceLT, Nat.reduceBEq]); exact rfl)) ?_ (law02_awake_ok N  _ e1) ?_ ?_ ?_ ?_
  · rfl
  · exact okD_all rfl
  · exact .inl rfl
  · (simp only [go_sem, Nat.reduceLT])
  refine OW.run [0, 1, 5, 16] ?_
  simp (config := { maxSteps := 2000000 }) only [go_sem, ↓reduceIte, Nat.reduceEqDiff, Nat.reduceLT, Nat.reduceLeDiff, Nat.reduceAdd, Nat.reduceMul, Nat.reduceSub, Nat.reduceBEq, Int.reduceToNat, and_assoc, wrap_w64, wrap_wu64, wrap_wu8, wrap_wu32, wrap_wi32, bits_i64, bits_u64, bit_and, bit_or, bit_xor, shr1, shl1, shr_w, shl_w, rep_I, rep_Bo, seg_mapV, allOne_mapI, ite_or_not, ite_and_not, take_mapF, drop_mapF, Nat.sub_zero, Option.map_some, Option.map_none]
  refine OW.nil (hK _ ?_)
  clear hK K
  change PW _ _ _ _ _
  refine PW.cond rfl (fun h1 => ?_) (fun h1 => ?_)
  · replace hrun := br_t h1 hrun
    refine PW.seq ?_
    refine PW.regionK fun K hK => ?_
    refine OW.run [6] ?_
    simp (config := { maxSteps := 2000000 }) only [go_sem, ↓reduceIte, Nat.reduceEqDiff, Nat.reduceLT, Nat.reduceLeDiff, Nat.reduceAdd, Nat.reduceMul, Nat.reduceSub, Nat.reduceBEq, Int.reduceToNat, and_assoc, wrap_w64, wrap_wu64, wrap_wu8, wrap_wu32, wrap_wi32, bits_i64, bits_u64, bit_and, bit_or, bit_xor, shr1, shl1, shr_w, shl_w, rep_I, rep_Bo, seg_mapV, allOne_mapI, ite_or_not, ite_and_not, take_mapF, drop_mapF, Nat.sub_zero, Option.map_some, Option.map_none]
    refine OW.nil (hK _ ?_)
    clear hK K
    change PW _ _ _ _ _
    refine PW.ret ?_
    change PW.Ends _ _ _ _ _ _
    refine PW.Ends.intro (.inr rfl) ?_
    simp (config := { maxSteps := 2000000 }) only [go_sem, ↓reduceIte, Nat.reduceEqDiff, Nat.reduceLT, Nat.reduceLeDiff, Nat.reduceAdd, Nat.reduceMul, Nat.reduceSub, Nat.reduceBEq, Int.reduceToNat, and_assoc, wrap_w64, wrap_wu64, wrap_wu8, wrap_wu32, wrap_wi32, bits_i64, bits_u64, bit_and, bit_or, bit_xor, shr1, shl1, shr_w, shl_w, rep_I, rep_Bo, seg_mapV, allOne_mapI, ite_or_not, ite_and_not, take_mapF, drop_mapF, Nat.sub_zero, Option.map_some, Option.map_none]
    obtain rfl := Option.some.inj hrun
    refine RetOK.data' 4 (by exact trivial) ?_
    rfl
  · replace hrun := br_f h1 hrun
    refine PW.skip ?_
    change PW _ _ _ _ _
    refine PW.seq ?_
    refine PW.seq ?_
    obtain ⟨x2, e2, hrun⟩ := bnd_some hrun
    obtain ⟨x3, e3, hrun⟩ := bnd_some hrun
    obtain ⟨x4, e4, hrun⟩ := bnd_some hrun
    obtain ⟨x5, e5, hrun⟩ := bnd_some hrun
    refine PW.regionK fun K hK => ?_
    refine OW.run [0, 1, 5, 34] ?_
    simp (config := { maxSteps := 2000000 }) only [go_sem, ↓reduceIte, Nat.reduceEqDiff, Nat.reduceLT, Nat.reduceLeDiff, Nat.reduceAdd, Nat.reduceMul, Nat.reduceSub, Nat.reduceBEq, Int.reduceToNat, and_assoc, wrap_w64, wrap_wu64, wrap_wu8, wrap_wu32, wrap_wi32, bits_i64, bits_u64, bit_and, bit_or, bit_xor, shr1, shl1, shr_w, shl_w, rep_I, rep_Bo, seg_mapV, allOne_mapI, ite_or_not, ite_and_not, take_mapF, drop_mapF, Nat.sub_zero, Option.map_some, Option.map_none]
    refine OW.call' 4 rfl rfl rfl (by ((simp only [go_sem, List.toList_toArray, ↓reduceIte, Nat.reduceEqDiff, Nat.reduceLT, Nat.reduceBEq]); exact rfl)) ?_ (law02_few_ok N _ _ _ e2) ?_ ?_ ?_ ?_
    · rfl
    · exact okD_all rfl
    · exact .inl rfl
    · (simp only [go_sem, Nat.reduceLT])
    refine OW.run [0, 1, 5, 34] ?_
    simp (config := { maxSteps := 2000000 }) only [go_sem, ↓reduceIte, Nat.reduceEqDiff, Nat.reduceLT, Nat.reduceLeDiff, Nat.reduceAdd, Nat.reduceMul, Nat.reduceSub, Nat.reduceBEq, Int.reduceToNat, and_assoc, wrap_w64, wrap_wu64, wrap_wu8, wrap_wu32, wrap_wi32, bits_i64, bits_u64, bit_and, bit_or, bit_xor, shr1, shl1, shr_w, shl_w, rep_I, rep_Bo, seg_mapV, allOne_mapI, ite_or_not, ite_and_not, take_mapF, drop_mapF, Nat.sub_zero, Option.map_some, Option.map_none]
    refine OW.callG' (g := (!(!x2))) 4 rfl rfl ?_ (fun hg => rfl) (fun hg => by ((simp only [go_sem, List.toList_toArray, ↓reduceIte, Nat.reduceEqDiff, Nat.reduceLT, Nat.reduceBEq]); exact rfl)) (fun hg => ?_) (fun hg => (law02_few_ok N _ _ _ (grd_t hg e3))) ?_ ?_ ?_ ?_
    · (simp only [go_sem, ↓reduceIte, Nat.reduceEqDiff, Nat.reduceLT, Nat.reduceLeDiff, Nat.reduceAdd, Nat.reduceMul, Nat.reduceSub, Nat.reduceBEq]; done)
    · rfl
    · exact okD_all rfl
    · exact .inl rfl
    · (simp only [go_sem, Nat.reduceLT])
    refine OW.run [0, 1, 5, 34] ?_
    simp (config := { maxSteps := 2000000 }) only [go_sem, ↓reduceIte, Nat.reduceEqDiff, Nat.reduceLT, Nat.reduceLeDiff, Nat.reduceAdd, Nat.reduceMul, Nat.reduceSub, Nat.reduceBEq, Int.reduceToNat, and_assoc, wrap_w64, wrap_wu64, wrap_wu8, wrap_wu32, wrap_wi32, bits_i64, bits_u64, bit_and, bit_or, bit_xor, shr1, shl1, shr_w, shl_w, rep_I, rep_Bo, seg_mapV, allOne_mapI, ite_or_not, ite_and_not, take_mapF, drop_mapF, Nat.sub_zero, Option.map_some, Option.map_none]
    refine And.intro (by omega) ?_
    refine OW.callG' (g := (!((!x2) || (!x3)))) 4 rfl rfl ?_ (fun hg => rfl) (fun hg => by ((simp only [go_sem, List.toList_toArray, ↓reduceIte, Nat.reduceEqDiff, Nat.reduceLT, Nat.reduceBEq]); exact rfl)) (fun hg => ?_) (fun hg => (base_Within_ok N _ _ _ _ (grd_t hg e4))) ?_ ?_ ?_ ?_
    · (simp only [go_sem, ↓reduceIte, Nat.reduceEqDiff, Nat.reduceLT, Nat.reduceLeDiff, Nat.reduceAdd, Nat.reduceMul, Nat.reduceSub, Nat.reduceBEq]; done)
    · rfl
    · exact okD_all rfl
    · exact .inl rfl
    · (simp only [go_sem, Nat.reduceLT])
    refine OW.run [0, 1, 5, 34] ?_
    simp (config := { maxSteps := 2000000 }) only [go_sem, ↓reduceIte, Nat.reduceEqDiff, Nat.reduceLT, Nat.reduceLeDiff, Nat.reduceAdd, Nat.reduceMul, Nat.reduceSub, Nat.reduceBEq, Int.reduceToNat, and_assoc, wrap_w64, wrap_wu64, wrap_wu8, wrap_wu32, wrap_wi32, bits_i64, bits_u64, bit_and, bit_or, bit_xor, shr1, shl1, shr_w, shl_w, rep_I, rep_Bo, seg_mapV, allOne_mapI, ite_or_not, ite_and_not, take_mapF, drop_mapF, Nat.sub_zero, Option.map_some, Option.map_none]
    refine And.intro (by omega) ?_
    refine OW.callG' (g := (!(((!x2) || (!x3)) || x4))) 4 rfl rfl ?_ (fun hg => rfl) (fun hg => by ((simp only [go_sem, List.toList_toArray, ↓reduceIte, Nat.reduceEqDiff, Nat.reduceLT, Nat.reduceBEq]); exact rfl)) (fun hg => ?_) (fun hg => (base_Within_ok N _ _ _ _ (grd_t hg e5))) ?_ ?_ ?_ ?_
    · (simp only [go_sem, ↓reduceIte, Nat.reduceEqDiff, Nat.reduceLT, Nat.reduceLeDiff, Nat.reduceAdd, Nat.reduceMul, Nat.reduceSub, Nat.reduceBEq]; done)
    · rfl
    · exact okD_all rfl
    · exact .inl rfl
    · (simp only [go_sem, Nat.reduceLT])
    refine OW.run [0, 1, 5, 34] ?_
    simp (config := { maxSteps := 2000000 }) only [go_sem, ↓reduceIte, Nat.reduceEqDiff, Nat.reduceLT, Nat.reduceLeDiff, Nat.reduceAdd, Nat.reduceMul, Nat.reduceSub, Nat.reduceBEq, Int.reduceToNat, and_assoc, wrap_w64, wrap_wu64, wrap_wu8, wrap_wu32, wrap_wi32, bits_i64, bits_u64, bit_and, bit_or, bit_xor, shr1, shl1, shr_w, shl_w, rep_I, rep_Bo, seg_mapV, allOne_mapI, ite_or_not, ite_and_not, take_mapF, drop_mapF, Nat.sub_zero, Option.map_some, Option.map_none]
    refine OW.nil (hK _ ?_)
    clear hK K
    change PW _ _ _ _ _
    refine PW.cond rfl (fun h2 => ?_) (fun h2 => ?_)
    · replace hrun := br_t h2 hrun
      refine PW.seq ?_
      refine PW.regionK fun K hK => ?_
      refine OW.run [6] ?_
      simp (config := { maxSteps := 2000000 }) only [go_sem, ↓reduceIte, Nat.reduceEqDiff, Nat.reduceLT, Nat.reduceLeDiff, Nat.reduceAdd, Nat.reduceMul, Nat.reduceSub, Nat.reduceBEq, Int.reduceToNat, and_assoc, wrap_w64, wrap_wu64, wrap_wu8, wrap_wu32, wrap_wi32, bits_i64, bits_u64, bit_and, bit_or, bit_xor, shr1, shl1, shr_w, shl_w, rep_I, rep_Bo, seg_mapV, allOne_mapI, ite_or_not, ite_and_not, take_mapF, drop_mapF, Nat.sub_zero, Option.map_some, Option.map_none]
      refine OW.nil (hK _ ?_)
      clear hK K
      change PW _ _ _ _ _
      refine PW.ret ?_
      change PW.Ends _ _ _ _ _ _
      refine PW.Ends.intro (.inr rfl) ?_
      simp (config := { maxSteps := 2000000 }) only [go_sem, ↓reduceIte, Nat.reduceEqDiff, Nat.reduceLT, Nat.reduceLeDiff, Nat.reduceAdd, Nat.reduceMul, Nat.reduceSub, Nat.reduceBEq, Int.reduceToNat, and_assoc, wrap_w64, wrap_wu64, wrap_wu8, wrap_wu32, wrap_wi32, bits_i64, bits_u64, bit_and, bit_or, bit_xor, shr1, shl1, shr_w, shl_w, rep_I, rep_Bo, seg_mapV, allOne_mapI, ite_or_not, ite_and_not, take_mapF, drop_mapF, Nat.sub_zero, Option.map_some, Option.map_none]
      obtain rfl := Option.some.inj hrun
      refine RetOK.data' 4 (by exact trivial) ?_
      rfl
    · replace hrun := br_f h2 hrun
      refine PW.skip ?_
      change PW _ _ _ _ _
      refine PW.seq ?_
      obtain ⟨x6, e6, hrun⟩ := bnd_some hrun
      obtain ⟨⟨x7, x71⟩, e7, hrun⟩ := bnd_some hrun
      refine PW.drawK 11 mixed (by kernel_rfl) fun K hK => ?_
      change FW _ _ _ _ _
      refine FW.run ?_
      simp (config := { maxSteps := 2000000 }) only [go_sem, ↓reduceIte, Nat.reduceEqDiff, Nat.reduceLT, Nat.reduceLeDiff, Nat.reduceAdd, Nat.reduceMul, Nat.reduceSub, Nat.reduceBEq, Int.reduceToNat, and_assoc, wrap_w64, wrap_wu64, wrap_wu8, wrap_wu32, wrap_wi32, bits_i64, bits_u64, bit_and, bit_or, bit_xor, shr1, shl1, shr_w, shl_w, rep_I, rep_Bo, seg_mapV, allOne_mapI, ite_or_not, ite_and_not, take_mapF, drop_mapF, Nat.sub_zero, Option.map_some, Option.map_none]
      refine FW.call' 4 rfl rfl rfl (by ((simp only [go_sem, List.toList_toArray, ↓reduceIte, Nat.reduceEqDiff, Nat.reduceLT, Nat.reduceBEq]); exact rfl)) ?_ (base_CopyInts_ok N _ _ e6) ?_ ?_ ?_ ?_
      · rfl
      · exact okD_all rfl
      · exact .inl rfl
      · (simp only [go_sem, Nat.reduceLT])
      refine FW.run ?_
      simp (config := { maxSteps := 2000000 }) only [go_sem, ↓reduceIte, Nat.reduceEqDiff, Nat.reduceLT, Nat.reduceLeDiff, Nat.reduceAdd, Nat.reduceMul, Nat.reduceSub, Nat.reduceBEq, Int.reduceToNat, and_assoc, wrap_w64, wrap_wu64, wrap_wu8, wrap_wu32, wrap_wi32, bits_i64, bits_u64, bit_and, bit_or, bit_xor, shr1, shl1, shr_w, shl_w, rep_I, rep_Bo, seg_mapV, allOne_mapI, ite_or_not, ite_and_not, take_mapF, drop_mapF, Nat.sub_zero, Option.map_some, Option.map_none]
      refine And.intro (by omega) (And.intro (by omega) ?_)
      refine FW.call' 4 rfl rfl rfl (by ((simp only [go_sem, List.toList_toArray, ↓reduceIte, Nat.reduceEqDiff, Nat.reduceLT, Nat.reduceBEq]); exact rfl)) ?_ (code_Match_ok N _ _ _ _ e7) ?_ ?_ ?_ ?_
      · rfl
      · exact okD_all rfl
      · exact .inl rfl
      · (simp only [go_sem, Nat.reduceLT])
      refine FW.run ?_
      simp (config := { maxSteps := 2000000 }) only [go_sem, ↓reduceIte, Nat.reduceEqDiff, Nat.reduceLT, Nat.reduceLeDiff, Nat.reduceAdd, Nat.reduceMul, Nat.reduceSub, Nat.reduceBEq, Int.reduceToNat, and_assoc, wrap_w64, wrap_wu64, wrap_wu8, wrap_wu32, wrap_wi32, bits_i64, bits_u64, bit_and, bit_or, bit_xor, shr1, shl1, shr_w, shl_w, rep_I, rep_Bo, seg_mapV, allOne_mapI, ite_or_not, ite_and_not, take_mapF, drop_mapF, Nat.sub_zero, Option.map_some, Option.map_none]
      refine FW.nil ?_
      change OW _ _ _ _ _ _
      refine OW.run [0, 1, 5, 7, 8] ?_
      simp (config := { maxSteps := 2000000 }) only [go_sem, ↓reduceIte, Nat.reduceEqDiff, Nat.reduceLT, Nat.reduceLeDiff, Nat.reduceAdd, Nat.reduceMul, Nat.reduceSub, Nat.reduceBEq, Int.reduceToNat, and_assoc, wrap_w64, wrap_wu64, wrap_wu8, wrap_wu32, wrap_wi32, bits_i64, bits_u64, bit_and, bit_or, bit_xor, shr1, shl1, shr_w, shl_w, rep_I, rep_Bo, seg_mapV, allOne_mapI, ite_or_not, ite_and_not, take_mapF, drop_mapF, Nat.sub_zero, Option.map_some, Option.map_none]
      refine OW.nil (hK _ ?_)
      clear hK K
      change PW _ _ _ _ _
      refine PW.seq ?_
      obtain ⟨x8, e8, hrun⟩ := bnd_some hrun
      obtain ⟨⟨x9, x91⟩, e9, hrun⟩ := bnd_some hrun
      refine PW.drawK 11 mixed (by kernel_rfl) fun K hK => ?_
      change FW _ _ _ _ _
      refine FW.run ?_
      simp (config := { maxSteps := 2000000 }) only [go_sem, ↓reduceIte, Nat.reduceEqDiff, Nat.reduceLT, Nat.reduceLeDiff, Nat.reduceAdd, Nat.reduceMul, Nat.reduceSub, Nat.reduceBEq, Int.reduceToNat, and_assoc, wrap_w64, wrap_wu64, wrap_wu8, wrap_wu32, wrap_wi32, bits_i64, bits_u64, bit_and, bit_or, bit_xor, shr1, shl1, shr_w, shl_w, rep_I, rep_Bo, seg_mapV, allOne_mapI, ite_or_not, ite_and_not, take_mapF, drop_mapF, Nat.sub_zero, Option.map_some, Option.map_none]
      refine FW.call' 4 rfl rfl rfl (by ((simp only [go_sem, List.toList_toArray, ↓reduceIte, Nat.reduceEqDiff, Nat.reduceLT, Nat.reduceBEq]); exact rfl)) ?_ (base_CopyInts_ok N _ _ e8) ?_ ?_ ?_ ?_
      · rfl
      · exact okD_all rfl
      · exact .inl rfl
      · (simp only [go_sem, Nat.reduceLT])
      refine FW.run ?_
      simp (config := { maxSteps := 2000000 }) only [go_sem, ↓reduceIte, Nat.reduceEqDiff, Nat.reduceLT, Nat.reduceLeDiff, Nat.reduceAdd, Nat.reduceMul, Nat.reduceSub, Nat.reduceBEq, Int.reduceToNat, and_assoc, wrap_w64, wrap_wu64, wrap_wu8, wrap_wu32, wrap_wi32, bits_i64, bits_u64, bit_and, bit_or, bit_xor, shr1, shl1, shr_w, shl_w, rep_I, rep_Bo, seg_mapV, allOne_mapI, ite_or_not, ite_and_not, take_mapF, drop_mapF, Nat.sub_zero, Option.map_some, Option.map_none]
      refine And.intro (by omega) (And.intro (by omega) ?_)
      refine FW.call' 4 rfl rfl rfl (by ((simp only [go_sem, List.toList_toArray, ↓reduceIte, Nat.reduceEqDiff, Nat.reduceLT, Nat.reduceBEq]); exact rfl)) ?_ (code_Gathered_ok N _ _ _ _ e9) ?_ ?_ ?_ ?_
      · rfl
      · exact okD_all rfl
      · exact .inl rfl
      · (simp only [go_sem, Nat.reduceLT])
      refine FW.run ?_
      simp (config := { maxSteps := 2000000 }) only [go_sem, ↓reduceIte, Nat.reduceEqDiff, Nat.reduceLT, Nat.reduceLeDiff, Nat.reduceAdd, Nat.reduceMul, Nat.reduceSub, Nat.reduceBEq, Int.reduceToNat, and_assoc, wrap_w64, wrap_wu64, wrap_wu8, wrap_wu32, wrap_wi32, bits_i64, bits_u64, bit_and, bit_or, bit_xor, shr1, shl1, shr_w, shl_w, rep_I, rep_Bo, seg_mapV, allOne_mapI, ite_or_not, ite_and_not, take_mapF, drop_mapF, Nat.sub_zero, Option.map_some, Option.map_none]
      refine FW.nil ?_
      change OW _ _ _ _ _ _
      refine OW.run [0, 1, 5, 7, 8, 9, 10] ?_
      simp (config := { maxSteps := 2000000 }) only [go_sem, ↓reduceIte, Nat.reduceEqDiff, Nat.reduceLT, Nat.reduceLeDiff, Nat.reduceAdd, Nat.reduceMul, Nat.reduceSub, Nat.reduceBEq, Int.reduceToNat, and_assoc, wrap_w64, wrap_wu64, wrap_wu8, wrap_wu32, wrap_wi32, bits_i64, bits_u64, bit_and, bit_or, bit_xor, shr1, shl1, shr_w, shl_w, rep_I, rep_Bo, seg_mapV, allOne_mapI, ite_or_not, ite_and_not, take_mapF, drop_mapF, Nat.sub_zero, Option.map_some, Option.map_none]
      refine OW.nil (hK _ ?_)
      clear hK K
      change PW _ _ _ _ _
      refine PW.seq ?_
      obtain ⟨x10, e10, hrun⟩ := bnd_some hrun
      obtain ⟨x11, e11, hrun⟩ := bnd_some hrun
      obtain ⟨⟨x12, x121⟩, e12, hrun⟩ := bnd_some hrun
      refine PW.regionK fun K hK => ?_
      refine OW.run [0, 1, 5, 7, 8, 9, 10, 11, 12] ?_
      simp (config := { maxSteps := 2000000 }) only [go_sem, ↓reduceIte, Nat.reduceEqDiff, Nat.reduceLT, Nat.reduceLeDiff, Nat.reduceAdd, Nat.reduceMul, Nat.reduceSub, Nat.reduceBEq, Int.reduceToNat, and_assoc, wrap_w64, wrap_wu64, wrap_wu8, wrap_wu32, wrap_wi32, bits_i64, bits_u64, bit_and, bit_or, bit_xor, shr1, shl1, shr_w, shl_w, rep_I, rep_Bo, seg_mapV, allOne_mapI, ite_or_not, ite_and_not, take_mapF, drop_mapF, Nat.sub_zero, Option.map_some, Option.map_none]
      refine OW.call' 4 rfl rfl rfl (by ((simp only [go_sem, List.toList_toArray, ↓reduceIte, Nat.reduceEqDiff, Nat.reduceLT, Nat.reduceBEq]); exact rfl)) ?_ (base_CopyInts_ok N _ _ e10) ?_ ?_ ?_ ?_
      · rfl
      · exact okD_all rfl
      · exact .inl rfl
      · (simp only [go_sem, Nat.reduceLT])
      refine OW.run [0, 1, 5, 7, 8, 9, 10, 11, 12] ?_
      simp (config := { maxSteps := 2000000 }) only [go_sem, ↓reduceIte, Nat.reduceEqDiff, Nat.reduceLT, Nat.reduceLeDiff, Nat.reduceAdd, Nat.reduceMul, Nat.reduceSub, Nat.reduceBEq, Int.reduceToNat, and_assoc, wrap_w64, wrap_wu64, wrap_wu8, wrap_wu32, wrap_wi32, bits_i64, bits_u64, bit_and, bit_or, bit_xor, shr1, shl1, shr_w, shl_w, rep_I, rep_Bo, seg_mapV, allOne_mapI, ite_or_not, ite_and_not, take_mapF, drop_mapF, Nat.sub_zero, Option.map_some, Option.map_none]
      refine OW.call' 4 rfl rfl rfl (by ((simp only [go_sem, List.toList_toArray, ↓reduceIte, Nat.reduceEqDiff, Nat.reduceLT, Nat.reduceBEq]); exact rfl)) ?_ (base_CopyInts_ok N _ _ e11) ?_ ?_ ?_ ?_
      · rfl
      · exact okD_all rfl
      · exact .inl rfl
      · (simp only [go_sem, Nat.reduceLT])
      refine OW.run [0, 1, 5, 7, 8, 9, 10, 11, 12] ?_
      simp (config := { maxSteps := 2000000 }) only [go_sem, ↓reduceIte, Nat.reduceEqDiff, Nat.reduceLT, Nat.reduceLeDiff, Nat.reduceAdd, Nat.reduceMul, Nat.reduceSub, Nat.reduceBEq, Int.reduceToNat, and_assoc, wrap_w64, wrap_wu64, wrap_wu8, wrap_wu32, wrap_wi32, bits_i64, bits_u64, bit_and, bit_or, bit_xor, shr1, shl1, shr_w, shl_w, rep_I, rep_Bo, seg_mapV, allOne_mapI, ite_or_not, ite_and_not, take_mapF, drop_mapF, Nat.sub_zero, Option.map_some, Option.map_none]
      refine OW.call' 4 rfl rfl rfl (by ((simp only [go_sem, List.toList_toArray, ↓reduceIte, Nat.reduceEqDiff, Nat.reduceLT, Nat.reduceBEq]); exact rfl)) ?_ (code_Combined_ok N _ _ _ e12) ?_ ?_ ?_ ?_
      · rfl
      · exact okD_all rfl
      · exact .inl rfl
      · (simp only [go_sem, Nat.reduceLT])
      refine OW.run [0, 1, 5, 7, 8, 9, 10, 11, 12] ?_
      simp (config := { maxSteps := 2000000 }) only [go_sem, ↓reduceIte, Nat.reduceEqDiff, Nat.reduceLT, Nat.reduceLeDiff, Nat.reduceAdd, Nat.reduceMul, Nat.reduceSub, Nat.reduceBEq, Int.reduceToNat, and_assoc, wrap_w64, wrap_wu64, wrap_wu8, wrap_wu32, wrap_wi32, bits_i64, bits_u64, bit_and, bit_or, bit_xor, shr1, shl1, shr_w, shl_w, rep_I, rep_Bo, seg_mapV, allOne_mapI, ite_or_not, ite_and_not, take_mapF, drop_mapF, Nat.sub_zero, Option.map_some, Option.map_none]
      refine OW.nil (hK _ ?_)
      clear hK K
      change PW _ _ _ _ _
      refine PW.seq ?_
      obtain ⟨x13, e13, hrun⟩ := bnd_some hrun
      refine PW.regionK fun K hK => ?_
      refine OW.run [0, 1, 5, 7, 8, 9, 10, 11, 12, 13] ?_
      simp (config := { maxSteps := 2000000 }) only [go_sem, ↓reduceIte, Nat.reduceEqDiff, Nat.reduceLT, Nat.reduceLeDiff, Nat.reduceAdd, Nat.reduceMul, Nat.reduceSub, Nat.reduceBEq, Int.reduceToNat, and_assoc, wrap_w64, wrap_wu64, wrap_wu8, wrap_wu32, wrap_wi32, bits_i64, bits_u64, bit_and, bit_or, bit_xor, shr1, shl1, shr_w, shl_w, rep_I, rep_Bo, seg_mapV, allOne_mapI, ite_or_not, ite_and_not, take_mapF, drop_mapF, Nat.sub_zero, Option.map_some, Option.map_none]
      refine OW.call' 4 rfl rfl rfl (by ((simp only [go_sem, List.toList_toArray, ↓reduceIte, Nat.reduceEqDiff, Nat.reduceLT, Nat.reduceBEq]); exact rfl)) ?_ (ref02_BitsErr_ok N _ _ e13) ?_ ?_ ?_ ?_
      · rfl
      · exact okD_all rfl
      · exact .inl rfl
      · (simp only [go_sem, Nat.reduceLT])
      refine OW.run [0, 1, 5, 7, 8, 9, 10, 11, 12, 13] ?_
      simp (config := { maxSteps := 2000000 }) only [go_sem, ↓reduceIte, Nat.reduceEqDiff, Nat.reduceLT, Nat.reduceLeDiff, Nat.reduceAdd, Nat.reduceMul, Nat.reduceSub, Nat.reduceBEq, Int.reduceToNat, and_assoc, wrap_w64, wrap_wu64, wrap_wu8, wrap_wu32, wrap_wi32, bits_i64, bits_u64, bit_and, bit_or, bit_xor, shr1, shl1, shr_w, shl_w, rep_I, rep_Bo, seg_mapV, allOne_mapI, ite_or_not, ite_and_not, take_mapF, drop_mapF, Nat.sub_zero, Option.map_some, Option.map_none]
      refine OW.nil (hK _ ?_)
      clear hK K
      change PW _ _ _ _ _
      refine PW.joinS (τ := Int) [0, 1, 5, 7, 8, 9, 10, 11, 12, 13] 1 (fun d => [(13, .d (I d))]) (fun d => [{ cells := [.d (I x_Version), .d (I x_Count), .d (I x_Length)], e := 39 }]) _ _ r (by exact Nat.zero_le _) hrun ?_ ?_
      · intro K_ hrun N3 hN3
        refine PW.seq ?_
        refine PW.regionK fun K hK => ?_
        refine OW.run [0, 1, 5, 7, 8, 9, 10, 11, 12, 13, 66] ?_
        simp (config := { maxSteps := 2000000 }) only [go_sem, ↓reduceIte, Nat.reduceEqDiff, Nat.reduceLT, Nat.reduceLeDiff, Nat.reduceAdd, Nat.reduceMul, Nat.reduceSub, Nat.reduceBEq, Int.reduceToNat, and_assoc, wrap_w64, wrap_wu64, wrap_wu8, wrap_wu32, wrap_wi32, bits_i64, bits_u64, bit_and, bit_or, bit_xor, shr1, shl1, shr_w, shl_w, rep_I, rep_Bo, seg_mapV, allOne_mapI, ite_or_not, ite_and_not, take_mapF, drop_mapF, Nat.sub_zero, Option.map_some, Option.map_none]
        refine OW.nil (hK _ ?_)
        clear hK K
        change PW _ _ _ _ _
        refine PW.cond rfl (fun h4 => ?_) (fun h4 => ?_)
        · replace hrun := br_t h4 hrun
          obtain ⟨x14, e14, hrun⟩ := bnd_some hrun
          refine PW.regionK fun K hK => ?_
          refine OW.run [0, 1, 5, 7, 8, 9, 10, 11, 12, 13] ?_
          simp (config := { maxSteps := 2000000 }) only [go_sem, ↓reduceIte, Nat.reduceEqDiff, Nat.reduceLT, Nat.reduceLeDiff, Nat.reduceAdd, Nat.reduceMul, Nat.reduceSub, Nat.reduceBEq, Int.reduceToNat, and_assoc, wrap_w64, wrap_wu64, wrap_wu8, wrap_wu32, wrap_wi32, bits_i64, bits_u64, bit_and, bit_or, bit_xor, shr1, shl1, shr_w, shl_w, rep_I, rep_Bo, seg_mapV, allOne_mapI, ite_or_not, ite_and_not, take_mapF, drop_mapF, Nat.sub_zero, Option.map_some, Option.map_none]
          refine And.intro (by omega) ?_
          refine OW.call' 4 rfl rfl rfl (by ((simp only [go_sem, List.toList_toArray, ↓reduceIte, Nat.reduceEqDiff, Nat.reduceLT, Nat.reduceBEq]); exact rfl)) ?_ (ref02_VersionErr_ok N _ _ e14) ?_ ?_ ?_ ?_
          · rfl
          · exact okD_all rfl
          · exact .inl rfl
          · (simp only [go_sem, Nat.reduceLT])
          refine OW.run [0, 1, 5, 7, 8, 9, 10, 11, 12, 13] ?_
          simp (config := { maxSteps := 2000000 }) only [go_sem, ↓reduceIte, Nat.reduceEqDiff, Nat.reduceLT, Nat.reduceLeDiff, Nat.reduceAdd, Nat.reduceMul, Nat.reduceSub, Nat.reduceBEq, Int.reduceToNat, and_assoc, wrap_w64, wrap_wu64, wrap_wu8, wrap_wu32, wrap_wi32, bits_i64, bits_u64, bit_and, bit_or, bit_xor, shr1, shl1, shr_w, shl_w, rep_I, rep_Bo, seg_mapV, allOne_mapI, ite_or_not, ite_and_not, take_mapF, drop_mapF, Nat.sub_zero, Option.map_some, Option.map_none]
          refine OW.nil (hK _ ?_)
          clear hK K
          refine hN3 [] x14 _ hrun (by exact trivial) ?_
          (simp only [Env.frzL, Env.frz, frzOb, V.frz, V.frz.frzs, asD, map_asD, map_nz_I, map_nz_Bo, map_nz_Sx, map_nz_L, nz_int, nz_bool, nz_str, nz_list, nz_ref, nz_nil, map_toDs, toDs_nil, toDs_cons, toDs_append, toDs_mapD, toDs_seg, toDs_drop, toD_own, toD_ptr, toD_clo, toD_agg, toD_tup, map_nz_I, map_nz_Bo, map_nz_Sx, map_nz_L, seg_mapD, seg_flat, toD_d, nz_list, nz_int, nz_bool, nz_str, nz_agg, nz_tup, nz_clo, nz_ref, nz_nil, take_len, take_mapF, drop_mapF, List.length_set, List.length_replicate, List.drop_zero, go_sem, ↓reduceIte, Nat.reduceEqDiff, Nat.reduceLT, Nat.reduceLeDiff, Nat.reduceAdd, Nat.reduceMul, Nat.reduceSub, Nat.reduceBEq]; done)
        · replace hrun := br_f h4 hrun
          refine PW.skip ?_
          refine hN3 [] x13 _ hrun (by exact trivial) ?_
          (simp only [Env.frzL, Env.frz, frzOb, V.frz, V.frz.frzs, asD, map_asD, map_nz_I, map_nz_Bo, map_nz_Sx, map_nz_L, nz_int, nz_bool, nz_str, nz_list, nz_ref, nz_nil, map_toDs, toDs_nil, toDs_cons, toDs_append, toDs_mapD, toDs_seg, toDs_drop, toD_own, toD_ptr, toD_clo, toD_agg, toD_tup, map_nz_I, map_nz_Bo, map_nz_Sx, map_nz_L, seg_mapD, seg_flat, toD_d, nz_list, nz_int, nz_bool, nz_str, nz_agg, nz_tup, nz_clo, nz_ref, nz_nil, take_len, take_mapF, drop_mapF, List.length_set, List.length_replicate, List.drop_zero, go_sem, ↓reduceIte, Nat.reduceEqDiff, Nat.reduceLT, Nat.reduceLeDiff, Nat.reduceAdd, Nat.reduceMul, Nat.reduceSub, Nat.reduceBEq]; done)
      · rintro d hrun
        try simp only [go_sem, ↓reduceIte, Nat.reduceEqDiff, Nat.reduceLT, Nat.reduceLeDiff, Nat.reduceAdd, Nat.reduceMul, Nat.reduceSub, Nat.reduceBEq]
        refine PW.joinS (τ := Int) [0, 1, 5, 7, 8, 9, 10, 11, 12, 13] 1 (fun d1 => [(13, .d (I d1))]) (fun d1 => [{ cells := [.d (I x_Version), .d (I x_Count), .d (I x_Length)], e := 39 }]) _ _ r (by exact Nat.zero_le _) hrun ?_ ?_
        · intro K_1 hrun N5 hN5
          refine PW.seq ?_
          refine PW.regionK fun K hK => ?_
          refine OW.run [0, 1, 5, 7, 8, 9, 10, 11, 12, 13, 71] ?_
          simp (config := { maxSteps := 2000000 }) only [go_sem, ↓reduceIte, Nat.reduceEqDiff, Nat.reduceLT, Nat.reduceLeDiff, Nat.reduceAdd, Nat.reduceMul, Nat.reduceSub, Nat.reduceBEq, Int.reduceToNat, and_assoc, wrap_w64, wrap_wu64, wrap_wu8, wrap_wu32, wrap_wi32, bits_i64, bits_u64, bit_and, bit_or, bit_xor, shr1, shl1, shr_w, shl_w, rep_I, rep_Bo, seg_mapV, allOne_mapI, ite_or_not, ite_and_not, take_mapF, drop_mapF, Nat.sub_zero, Option.map_some, Option.map_none]
          refine OW.nil (hK _ ?_)
          clear hK K
          change PW _ _ _ _ _
          refine PW.cond rfl (fun h6 => ?_) (fun h6 => ?_)
          · replace hrun := br_t h6 hrun
            obtain ⟨x15, e15, hrun⟩ := bnd_some hrun
            refine PW.regionK fun K hK => ?_
            refine OW.run [0, 1, 5, 7, 8, 9, 10, 11, 12, 13] ?_
            simp (config := { maxSteps := 2000000 }) only [go_sem, ↓reduceIte, Nat.reduceEqDiff, Nat.reduceLT, Nat.reduceLeDiff, Nat.reduceAdd, Nat.reduceMul, Nat.reduceSub, Nat.reduceBEq, Int.reduceToNat, and_assoc, wrap_w64, wrap_wu64, wrap_wu8, wrap_wu32, wrap_wi32, bits_i64, bits_u64, bit_and, bit_or, bit_xor, shr1, shl1, shr_w, shl_w, rep_I, rep_Bo, seg_mapV, allOne_mapI, ite_or_not, ite_and_not, take_mapF, drop_mapF, Nat.sub_zero, Option.map_some, Option.map_none]
            refine And.intro (by omega) ?_
            refine OW.call' 4 rfl rfl rfl (by ((simp only [go_sem, List.toList_toArray, ↓reduceIte, Nat.reduceEqDiff, Nat.reduceLT, Nat.reduceBEq]); exact rfl)) ?_ (ref02_CountErr_ok N _ _ e15) ?_ ?_ ?_ ?_
            · rfl
            · exact okD_all rfl
            · exact .inl rfl
            · (simp only [go_sem, Nat.reduceLT])
            refine OW.run [0, 1, 5, 7, 8, 9, 10, 11, 12, 13] ?_
            simp (config := { maxSteps := 2000000 }) only [go_sem, ↓reduceIte, Nat.reduceEqDiff, Nat.reduceLT, Nat.reduceLeDiff, Nat.reduceAdd, Nat.reduceMul, Nat.reduceSub, Nat.reduceBEq, Int.reduceToNat, and_assoc, wrap_w64, wrap_wu64, wrap_wu8, wrap_wu32, wrap_wi32, bits_i64, bits_u64, bit_and, bit_or, bit_xor, shr1, shl1, shr_w, shl_w, rep_I, rep_Bo, seg_mapV, allOne_mapI, ite_or_not, ite_and_not, take_mapF, drop_mapF, Nat.sub_zero, Option.map_some, Option.map_none]
            refine OW.nil (hK _ ?_)
            clear hK K
            refine hN5 [] x15 _ hrun (by exact trivial) ?_
            (simp only [Env.frzL, Env.frz, frzOb, V.frz, V.frz.frzs, asD, map_asD, map_nz_I, map_nz_Bo, map_nz_Sx, map_nz_L, nz_int, nz_bool, nz_str, nz_list, nz_ref, nz_nil, map_toDs, toDs_nil, toDs_cons, toDs_append, toDs_mapD, toDs_seg, toDs_drop, toD_own, toD_ptr, toD_clo, toD_agg, toD_tup, map_nz_I, map_nz_Bo, map_nz_Sx, map_nz_L, seg_mapD, seg_flat, toD_d, nz_list, nz_int, nz_bool, nz_str, nz_agg, nz_tup, nz_clo, nz_ref, nz_nil, take_len, take_mapF, drop_mapF, List.length_set, List.length_replicate, List.drop_zero, go_sem, ↓reduceIte, Nat.reduceEqDiff, Nat.reduceLT, Nat.reduceLeDiff, Nat.reduceAdd, Nat.reduceMul, Nat.reduceSub, Nat.reduceBEq]; done)
          · replace hrun := br_f h6 hrun
            refine PW.skip ?_
            refine hN5 [] d _ hrun (by exact trivial) ?_
            (simp only [Env.frzL, Env.frz, frzOb, V.frz, V.frz.frzs, asD, map_asD, map_nz_I, map_nz_Bo, map_nz_Sx, map_nz_L, nz_int, nz_bool, nz_str, nz_list, nz_ref, nz_nil, map_toDs, toDs_nil, toDs_cons, toDs_append, toDs_mapD, toDs_seg, toDs_drop, toD_own, toD_ptr, toD_clo, toD_agg, toD_tup, map_nz_I, map_nz_Bo, map_nz_Sx, map_nz_L, seg_mapD, seg_flat, toD_d, nz_list, nz_int, nz_bool, nz_str, nz_agg, nz_tup, nz_clo, nz_ref, nz_nil, take_len, take_mapF, drop_mapF, List.length_set, List.length_replicate, List.drop_zero, go_sem, ↓reduceIte, Nat.reduceEqDiff, Nat.reduceLT, Nat.reduceLeDiff, Nat.reduceAdd, Nat.reduceMul, Nat.reduceSub, Nat.reduceBEq]; done)
        · rintro d1 hrun
          try simp only [go_sem, ↓reduceIte, Nat.reduceEqDiff, Nat.reduceLT, Nat.reduceLeDiff, Nat.reduceAdd, Nat.reduceMul, Nat.reduceSub, Nat.reduceBEq]
          refine PW.seq ?_
          refine PW.seq ?_
          obtain ⟨x16, e16, hrun⟩ := bnd_some hrun
          obtain ⟨x17, e17, hrun⟩ := bnd_some hrun
          refine PW.regionK fun K hK => ?_
          refine OW.toS [(0, .d (L l)), (1, .d (L soft)), (5, .ptr 0 0), (9, .d (L x9)), (10, .d (I x91)), (11, .d (L x12)), (12, .d (I x121)), (101, .d (Bo (((x71 != d1) || ((d1 != (0 : Int)) && (decide ((x7.length : Int) > (0 : Int))))) || ((d1 == (0 : Int)) && (!x17)))))] [{ cells := [.d (I x_Version), .d (I x_Count), .d (I x_Length)], e := 39 }] ?_ (hK _ ?_)
          · intro K hKE
            rcases Bool.eq_false_or_eq_true ((x71 != d1)) with ha0 | ha0 <;> rcases Bool.eq_false_or_eq_true ((d1 != (0 : Int))) with ha1 | ha1 <;> rcases Bool.eq_false_or_eq_true ((decide ((x7.length : Int) > (0 : Int)))) with ha2 | ha2 <;> rcases Bool.eq_false_or_eq_true ((d1 == (0 : Int))) with ha3 | ha3
            all_goals
              refine OW.run [0, 1, 5, 9, 10, 11, 12, 101] ?_
              (simp (config := { maxSteps := 2000000 }) only [go_sem, ↓reduceIte, Nat.reduceEqDiff, Nat.reduceLT, Nat.reduceLeDiff, Nat.reduceAdd, Nat.reduceMul, Nat.reduceSub, Nat.reduceBEq, Int.reduceToNat, and_assoc, wrap_w64, wrap_wu64, wrap_wu8, wrap_wu32, wrap_wi32, bits_i64, bits_u64, bit_and, bit_or, bit_xor, shr1, shl1, shr_w, shl_w, rep_I, rep_Bo, seg_mapV, allOne_mapI, ite_or_not, ite_and_not, take_mapF, drop_mapF, Nat.sub_zero, Option.map_some, Option.map_none, ha0, ha1, ha2, ha3])
              (repeat (refine And.intro (by (first | omega | assumption | rfl | decide | (simp only [List.length_map, List.length_replicate, List.length_append, List.length_take, List.length_drop, List.length_set, List.length_cons, List.length_nil, Int.toNat_natCast] at *; omega) | trivial)) ?_))
              refine OW.callG' (g := ((!((x71 != d1) || ((d1 != (0 : Int)) && (decide ((x7.length : Int) > (0 : Int)))))) && (d1 == (0 : Int)))) 4 rfl rfl ?_ (fun hg => rfl) (fun hg => by (first | ((simp only [go_sem, List.toList_toArray, ↓reduceIte, Nat.reduceEqDiff, Nat.reduceLT, Nat.reduceBEq, ha0, ha1, ha2, ha3]); exact rfl) | exact rfl)) (fun hg => ?_) (fun hg => (ref02_Match_ok N _ _ _ _ (grd_t hg e16))) ?_ ?_ ?_ ?_
              · (first | rfl | (simp only [go_sem, ↓reduceIte, Nat.reduceEqDiff, Nat.reduceLT, Nat.reduceLeDiff, Nat.reduceAdd, Nat.reduceMul, Nat.reduceSub, Nat.reduceBEq, ha0, ha1, ha2, ha3]; done) | (simp only [go_sem, ↓reduceIte, Nat.reduceEqDiff, Nat.reduceLT, Nat.reduceLeDiff, Nat.reduceAdd, Nat.reduceMul, Nat.reduceSub, Nat.reduceBEq, ha0, ha1, ha2, ha3]; rfl))
              · rfl
              · exact okD_all rfl
              · exact .inl rfl
              · ((simp only [go_sem, Nat.reduceLT]))
              refine OW.run [0, 1, 5, 9, 10, 11, 12, 101] ?_
              (simp (config := { maxSteps := 2000000 }) only [go_sem, ↓reduceIte, Nat.reduceEqDiff, Nat.reduceLT, Nat.reduceLeDiff, Nat.reduceAdd, Nat.reduceMul, Nat.reduceSub, Nat.reduceBEq, Int.reduceToNat, and_assoc, wrap_w64, wrap_wu64, wrap_wu8, wrap_wu32, wrap_wi32, bits_i64, bits_u64, bit_and, bit_or, bit_xor, shr1, shl1, shr_w, shl_w, rep_I, rep_Bo, seg_mapV, allOne_mapI, ite_or_not, ite_and_not, take_mapF, drop_mapF, Nat.sub_zero, Option.map_some, Option.map_none, ha0, ha1, ha2, ha3])
              (repeat (refine And.intro (by (first | omega | assumption | rfl | decide | (simp only [List.length_map, List.length_replicate, List.length_append, List.length_take, List.length_drop, List.length_set, List.length_cons, List.length_nil, Int.toNat_natCast] at *; omega) | trivial)) ?_))
              refine OW.callG' (g := ((!((x71 != d1) || ((d1 != (0 : Int)) && (decide ((x7.length : Int) > (0 : Int)))))) && (d1 == (0 : Int)))) 4 rfl rfl ?_ (fun hg => rfl) (fun hg => by (first | ((simp only [go_sem, List.toList_toArray, ↓reduceIte, Nat.reduceEqDiff, Nat.reduceLT, Nat.reduceBEq, ha0, ha1, ha2, ha3]); exact rfl) | exact rfl)) (fun hg => ?_) (fun hg => (base_Ints_ok N _ _ _ (grd_t hg e17))) ?_ ?_ ?_ ?_
              · (first | rfl | (simp only [go_sem, ↓reduceIte, Nat.reduceEqDiff, Nat.reduceLT, Nat.reduceLeDiff, Nat.reduceAdd, Nat.reduceMul, Nat.reduceSub, Nat.reduceBEq, ha0, ha1, ha2, ha3]; done) | (simp only [go_sem, ↓reduceIte, Nat.reduceEqDiff, Nat.reduceLT, Nat.reduceLeDiff, Nat.reduceAdd, Nat.reduceMul, Nat.reduceSub, Nat.reduceBEq, ha0, ha1, ha2, ha3]; rfl))
              · rfl
              · exact okD_all rfl
              · exact .inl rfl
              · ((simp only [go_sem, Nat.reduceLT]))
              refine OW.run [0, 1, 5, 9, 10, 11, 12, 101] ?_
              (simp (config := { maxSteps := 2000000 }) only [go_sem, ↓reduceIte, Nat.reduceEqDiff, Nat.reduceLT, Nat.reduceLeDiff, Nat.reduceAdd, Nat.reduceMul, Nat.reduceSub, Nat.reduceBEq, Int.reduceToNat, and_assoc, wrap_w64, wrap_wu64, wrap_wu8, wrap_wu32, wrap_wi32, bits_i64, bits_u64, bit_and, bit_or, bit_xor, shr1, shl1, shr_w, shl_w, rep_I, rep_Bo, seg_mapV, allOne_mapI, ite_or_not, ite_and_not, take_mapF, drop_mapF, Nat.sub_zero, Option.map_some, Option.map_none, ha0, ha1, ha2, ha3])
              (repeat (refine And.intro (by (first | omega | assumption | rfl | decide | (simp only [List.length_map, List.length_replicate, List.length_append, List.length_take, List.length_drop, List.length_set, List.length_cons, List.length_nil, Int.toNat_natCast] at *; omega) | trivial)) ?_))
              refine OW.nil ((congrArg K ?_).mpr hKE)
              (first | rfl | (simp only [go_sem, ↓reduceIte, Nat.reduceEqDiff, Nat.reduceLT, Nat.reduceLeDiff, Nat.reduceAdd, Nat.reduceMul, Nat.reduceSub, Nat.reduceBEq, ha0, ha1, ha2, ha3]; done) | (simp only [go_sem, ↓reduceIte, Nat.reduceEqDiff, Nat.reduceLT, Nat.reduceLeDiff, Nat.reduceAdd, Nat.reduceMul, Nat.reduceSub, Nat.reduceBEq, ha0, ha1, ha2, ha3]; rfl))
          clear hK K
          change PW _ _ _ _ _
          refine PW.cond rfl (fun h7 => ?_) (fun h7 => ?_)
          · replace hrun := br_t h7 hrun
            refine PW.seq ?_
            refine PW.regionK fun K hK => ?_
            refine OW.run [6] ?_
            simp (config := { maxSteps := 2000000 }) only [go_sem, ↓reduceIte, Nat.reduceEqDiff, Nat.reduceLT, Nat.reduceLeDiff, Nat.reduceAdd, Nat.reduceMul, Nat.reduceSub, Nat.reduceBEq, Int.reduceToNat, and_assoc, wrap_w64, wrap_wu64, wrap_wu8, wrap_wu32, wrap_wi32, bits_i64, bits_u64, bit_and, bit_or, bit_xor, shr1, shl1, shr_w, shl_w, rep_I, rep_Bo, seg_mapV, allOne_mapI, ite_or_not, ite_and_not, take_mapF, drop_mapF, Nat.sub_zero, Option.map_some, Option.map_none]
            refine OW.nil (hK _ ?_)
            clear hK K
            change PW _ _ _ _ _
            refine PW.ret ?_
            change PW.Ends _ _ _ _ _ _
            refine PW.Ends.intro (.inr rfl) ?_
            simp (config := { maxSteps := 2000000 }) only [go_sem, ↓reduceIte, Nat.reduceEqDiff, Nat.reduceLT, Nat.reduceLeDiff, Nat.reduceAdd, Nat.reduceMul, Nat.reduceSub, Nat.reduceBEq, Int.reduceToNat, and_assoc, wrap_w64, wrap_wu64, wrap_wu8, wrap_wu32, wrap_wi32, bits_i64, bits_u64, bit_and, bit_or, bit_xor, shr1, shl1, shr_w, shl_w, rep_I, rep_Bo, seg_mapV, allOne_mapI, ite_or_not, ite_and_not, take_mapF, drop_mapF, Nat.sub_zero, Option.map_some, Option.map_none]
            obtain rfl := Option.some.inj hrun
            refine RetOK.data' 4 (by exact trivial) ?_
            rfl
          · replace hrun := br_f h7 hrun
            refine PW.skip ?_
            change PW _ _ _ _ _
            refine PW.seq ?_
            obtain ⟨x18, e18, hrun⟩ := bnd_some hrun
            refine PW.regionK fun K hK => ?_
            refine OW.run [0, 1, 5, 9, 10, 11, 12, 13] ?_
            simp (config := { maxSteps := 2000000 }) only [go_sem, ↓reduceIte, Nat.reduceEqDiff, Nat.reduceLT, Nat.reduceLeDiff, Nat.reduceAdd, Nat.reduceMul, Nat.reduceSub, Nat.reduceBEq, Int.reduceToNat, and_assoc, wrap_w64, wrap_wu64, wrap_wu8, wrap_wu32, wrap_wi32, bits_i64, bits_u64, bit_and, bit_or, bit_xor, shr1, shl1, shr_w, shl_w, rep_I, rep_Bo, seg_mapV, allOne_mapI, ite_or_not, ite_and_not, take_mapF, drop_mapF, Nat.sub_zero, Option.map_some, Option.map_none]
            refine OW.call' 4 rfl rfl rfl (by ((simp only [go_sem, List.toList_toArray, ↓reduceIte, Nat.reduceEqDiff, Nat.reduceLT, Nat.reduceBEq]); exact rfl)) ?_ (ref02_SoftErr_ok N _ _ e18) ?_ ?_ ?_ ?_
            · rfl
            · exact okD_all rfl
            · exact .inl rfl
            · (simp only [go_sem, Nat.reduceLT])
            refine OW.run [0, 1, 5, 9, 10, 11, 12, 13] ?_
            simp (config := { maxSteps := 2000000 }) only [go_sem, ↓reduceIte, Nat.reduceEqDiff, Nat.reduceLT, Nat.reduceLeDiff, Nat.reduceAdd, Nat.reduceMul, Nat.reduceSub, Nat.reduceBEq, Int.reduceToNat, and_assoc, wrap_w64, wrap_wu64, wrap_wu8, wrap_wu32, wrap_wi32, bits_i64, bits_u64, bit_and, bit_or, bit_xor, shr1, shl1, shr_w, shl_w, rep_I, rep_Bo, seg_mapV, allOne_mapI, ite_or_not, ite_and_not, take_mapF, drop_mapF, Nat.sub_zero, Option.map_some, Option.map_none]
            refine OW.nil (hK _ ?_)
            clear hK K
            change PW _ _ _ _ _
            refine PW.joinS (τ := Int) [0, 1, 5, 9, 10, 11, 12, 13] 1 (fun d2 => [(13, .d (I d2))]) (fun d2 => [{ cells := [.d (I x_Version), .d (I x_Count), .d (I x_Length)], e := 39 }]) _ _ r (by exact Nat.zero_le _) hrun ?_ ?_
            · intro K_2 hrun N8 hN8
              refine PW.seq ?_
              refine PW.regionK fun K hK => ?_
              refine OW.run [0, 1, 5, 9, 10, 11, 12, 13, 105] ?_
              simp (config := { maxSteps := 2000000 }) only [go_sem, ↓reduceIte, Nat.reduceEqDiff, Nat.reduceLT, Nat.reduceLeDiff, Nat.reduceAdd, Nat.reduceMul, Nat.reduceSub, Nat.reduceBEq, Int.reduceToNat, and_assoc, wrap_w64, wrap_wu64, wrap_wu8, wrap_wu32, wrap_wi32, bits_i64, bits_u64, bit_and, bit_or, bit_xor, shr1, shl1, shr_w, shl_w, rep_I, rep_Bo, seg_mapV, allOne_mapI, ite_or_not, ite_and_not, take_mapF, drop_mapF, Nat.sub_zero, Option.map_some, Option.map_none]
              refine OW.nil (hK _ ?_)
              clear hK K
              change PW _ _ _ _ _
              refine PW.cond rfl (fun h9 => ?_) (fun h9 => ?_)
              · replace hrun := br_t h9 hrun
                obtain ⟨x19, e19, hrun⟩ := bnd_some hrun
                refine PW.regionK fun K hK => ?_
                refine OW.run [0, 1, 5, 9, 10, 11, 12, 13] ?_
                simp (config := { maxSteps := 2000000 }) only [go_sem, ↓reduceIte, Nat.reduceEqDiff, Nat.reduceLT, Nat.reduceLeDiff, Nat.reduceAdd, Nat.reduceMul, Nat.reduceSub, Nat.reduceBEq, Int.reduceToNat, and_assoc, wrap_w64, wrap_wu64, wrap_wu8, wrap_wu32, wrap_wi32, bits_i64, bits_u64, bit_and, bit_or, bit_xor, shr1, shl1, shr_w, shl_w, rep_I, rep_Bo, seg_mapV, allOne_mapI, ite_or_not, ite_and_not, take_mapF, drop_mapF, Nat.sub_zero, Option.map_some, Option.map_none]
                refine And.intro (by omega) ?_
                refine OW.call' 4 rfl rfl rfl (by ((simp only [go_sem, List.toList_toArray, ↓reduceIte, Nat.reduceEqDiff, Nat.reduceLT, Nat.reduceBEq]); exact rfl)) ?_ (ref02_VersionErr_ok N _ _ e19) ?_ ?_ ?_ ?_
                · rfl
                · exact okD_all rfl
                · exact .inl rfl
                · (simp only [go_sem, Nat.reduceLT])
                refine OW.run [0, 1, 5, 9, 10, 11, 12, 13] ?_
                simp (config := { maxSteps := 2000000 }) only [go_sem, ↓reduceIte, Nat.reduceEqDiff, Nat.reduceLT, Nat.reduceLeDiff, Nat.reduceAdd, Nat.reduceMul, Nat.reduceSub, Nat.reduceBEq, Int.reduceToNat, and_assoc, wrap_w64, wrap_wu64, wrap_wu8, wrap_wu32, wrap_wi32, bits_i64, bits_u64, bit_and, bit_or, bit_xor, shr1, shl1, shr_w, shl_w, rep_I, rep_Bo, seg_mapV, allOne_mapI, ite_or_not, ite_and_not, take_mapF, drop_mapF, Nat.sub_zero, Option.map_some, Option.map_none]
                refine OW.nil (hK _ ?_)
                clear hK K
                refine hN8 [] x19 _ hrun (by exact trivial) ?_
                (simp only [Env.frzL, Env.frz, frzOb, V.frz, V.frz.frzs, asD, map_asD, map_nz_I, map_nz_Bo, map_nz_Sx, map_nz_L, nz_int, nz_bool, nz_str, nz_list, nz_ref, nz_nil, map_toDs, toDs_nil, toDs_cons, toDs_append, toDs_mapD, toDs_seg, toDs_drop, toD_own, toD_ptr, toD_clo, toD_agg, toD_tup, map_nz_I, map_nz_Bo, map_nz_Sx, map_nz_L, seg_mapD, seg_flat, toD_d, nz_list, nz_int, nz_bool, nz_str, nz_agg, nz_tup, nz_clo, nz_ref, nz_nil, take_len, take_mapF, drop_mapF, List.length_set, List.length_replicate, List.drop_zero, go_sem, ↓reduceIte, Nat.reduceEqDiff, Nat.reduceLT, Nat.reduceLeDiff, Nat.reduceAdd, Nat.reduceMul, Nat.reduceSub, Nat.reduceBEq]; done)
              · replace hrun := br_f h9 hrun
                refine PW.skip ?_
                refine hN8 [] x18 _ hrun (by exact trivial) ?_
                (simp only [Env.frzL, Env.frz, frzOb, V.frz, V.frz.frzs, asD, map_asD, map_nz_I, map_nz_Bo, map_nz_Sx, map_nz_L, nz_int, nz_bool, nz_str, nz_list, nz_ref, nz_nil, map_toDs, toDs_nil, toDs_cons, toDs_append, toDs_mapD, toDs_seg, toDs_drop, toD_own, toD_ptr, toD_clo, toD_agg, toD_tup, map_nz_I, map_nz_Bo, map_nz_Sx, map_nz_L, seg_mapD, seg_flat, toD_d, nz_list, nz_int, nz_bool, nz_str, nz_agg, nz_tup, nz_clo, nz_ref, nz_nil, take_len, take_mapF, drop_mapF, List.length_set, List.length_replicate, List.drop_zero, go_sem, ↓reduceIte, Nat.reduceEqDiff, Nat.reduceLT, Nat.reduceLeDiff, Nat.reduceAdd, Nat.reduceMul, Nat.reduceSub, Nat.reduceBEq]; done)
            · rintro d2 hrun
              try simp only [go_sem, ↓reduceIte, Nat.reduceEqDiff, Nat.reduceLT, Nat.reduceLeDiff, Nat.reduceAdd, Nat.reduceMul, Nat.reduceSub, Nat.reduceBEq]
              refine PW.joinS (τ := Int) [0, 1, 5, 9, 10, 11, 12, 13] 1 (fun d3 => [(13, .d (I d3))]) (fun d3 => [{ cells := [.d (I x_Version), .d (I x_Count), .d (I x_Length)], e := 39 }]) _ _ r (by exact Nat.zero_le _) hrun ?_ ?_
              · intro K_3 hrun N10 hN10
                refine PW.seq ?_
                refine PW.regionK fun K hK => ?_
                refine OW.run [0, 1, 5, 9, 10, 11, 12, 13, 110] ?_
                simp (config := { maxSteps := 2000000 }) only [go_sem, ↓reduceIte, Nat.reduceEqDiff, Nat.reduceLT, Nat.reduceLeDiff, Nat.reduceAdd, Nat.reduceMul, Nat.reduceSub, Nat.reduceBEq, Int.reduceToNat, and_assoc, wrap_w64, wrap_wu64, wrap_wu8, wrap_wu32, wrap_wi32, bits_i64, bits_u64, bit_and, bit_or, bit_xor, shr1, shl1, shr_w, shl_w, rep_I, rep_Bo, seg_mapV, allOne_mapI, ite_or_not, ite_and_not, take_mapF, drop_mapF, Nat.sub_zero, Option.map_some, Option.map_none]
                refine OW.nil (hK _ ?_)
                clear hK K
                change PW _ _ _ _ _
                refine PW.cond rfl (fun h11 => ?_) (fun h11 => ?_)
                · replace hrun := br_t h11 hrun
                  obtain ⟨x20, e20, hrun⟩ := bnd_some hrun
                  refine PW.regionK fun K hK => ?_
                  refine OW.run [0, 1, 5, 9, 10, 11, 12, 13] ?_
                  simp (config := { maxSteps := 2000000 }) only [go_sem, ↓reduceIte, Nat.reduceEqDiff, Nat.reduceLT, Nat.reduceLeDiff, Nat.reduceAdd, Nat.reduceMul, Nat.reduceSub, Nat.reduceBEq, Int.reduceToNat, and_assoc, wrap_w64, wrap_wu64, wrap_wu8, wrap_wu32, wrap_wi32, bits_i64, bits_u64, bit_and, bit_or, bit_xor, shr1, shl1, shr_w, shl_w, rep_I, rep_Bo, seg_mapV, allOne_mapI, ite_or_not, ite_and_not, take_mapF, drop_mapF, Nat.sub_zero, Option.map_some, Option.map_none]
                  refine And.intro (by omega) ?_
                  refine OW.call' 4 rfl rfl rfl (by ((simp only [go_sem, List.toList_toArray, ↓reduceIte, Nat.reduceEqDiff, Nat.reduceLT, Nat.reduceBEq]); exact rfl)) ?_ (ref02_LengthErr_ok N _ _ e20) ?_ ?_ ?_ ?_
                  · rfl
                  · exact okD_all rfl
                  · exact .inl rfl
                  · (simp only [go_sem, Nat.reduceLT])
                  refine OW.run [0, 1, 5, 9, 10, 11, 12, 13] ?_
                  simp (config := { maxSteps := 2000000 }) only [go_sem, ↓reduceIte, Nat.reduceEqDiff, Nat.reduceLT, Nat.reduceLeDiff, Nat.reduceAdd, Nat.reduceMul, Nat.reduceSub, Nat.reduceBEq, Int.reduceToNat, and_assoc, wrap_w64, wrap_wu64, wrap_wu8, wrap_wu32, wrap_wi32, bits_i64, bits_u64, bit_and, bit_or, bit_xor, shr1, shl1, shr_w, shl_w, rep_I, rep_Bo, seg_mapV, allOne_mapI, ite_or_not, ite_and_not, take_mapF, drop_mapF, Nat.sub_zero, Option.map_some, Option.map_none]
                  refine OW.nil (hK _ ?_)
                  clear hK K
                  refine hN10 [] x20 _ hrun (by exact trivial) ?_
                  (simp only [Env.frzL, Env.frz, frzOb, V.frz, V.frz.frzs, asD, map_asD, map_nz_I, map_nz_Bo, map_nz_Sx, map_nz_L, nz_int, nz_bool, nz_str, nz_list, nz_ref, nz_nil, map_toDs, toDs_nil, toDs_cons, toDs_append, toDs_mapD, toDs_seg, toDs_drop, toD_own, toD_ptr, toD_clo, toD_agg, toD_tup, map_nz_I, map_nz_Bo, map_nz_Sx, map_nz_L, seg_mapD, seg_flat, toD_d, nz_list, nz_int, nz_bool, nz_str, nz_agg, nz_tup, nz_clo, nz_ref, nz_nil, take_len, take_mapF, drop_mapF, List.length_set, List.length_replicate, List.drop_zero, go_sem, ↓reduceIte, Nat.reduceEqDiff, Nat.reduceLT, Nat.reduceLeDiff, Nat.reduceAdd, Nat.reduceMul, Nat.reduceSub, Nat.reduceBEq]; done)
                · replace hrun := br_f h11 hrun
                  refine PW.skip ?_
                  refine hN10 [] d2 _ hrun (by exact trivial) ?_
                  (simp only [Env.frzL, Env.frz, frzOb, V.frz, V.frz.frzs, asD, map_asD, map_nz_I, map_nz_Bo, map_nz_Sx, map_nz_L, nz_int, nz_bool, nz_str, nz_list, nz_ref, nz_nil, map_toDs, toDs_nil, toDs_cons, toDs_append, toDs_mapD, toDs_seg, toDs_drop, toD_own, toD_ptr, toD_clo, toD_agg, toD_tup, map_nz_I, map_nz_Bo, map_nz_Sx, map_nz_L, seg_mapD, seg_flat, toD_d, nz_list, nz_int, nz_bool, nz_str, nz_agg, nz_tup, nz_clo, nz_ref, nz_nil, take_len, take_mapF, drop_mapF, List.length_set, List.length_replicate, List.drop_zero, go_sem, ↓reduceIte, Nat.reduceEqDiff, Nat.reduceLT, Nat.reduceLeDiff, Nat.reduceAdd, Nat.reduceMul, Nat.reduceSub, Nat.reduceBEq]; done)
              · rintro d3 hrun
                try simp only [go_sem, ↓reduceIte, Nat.reduceEqDiff, Nat.reduceLT, Nat.reduceLeDiff, Nat.reduceAdd, Nat.reduceMul, Nat.reduceSub, Nat.reduceBEq]
                refine PW.seq ?_
                refine PW.seq ?_
                obtain ⟨x21, e21, hrun⟩ := bnd_some hrun
                obtain ⟨x22, e22, hrun⟩ := bnd_some hrun
                refine PW.regionK fun K hK => ?_
                refine OW.toS [(0, .d (L l)), (1, .d (L soft)), (11, .d (L x12)), (12, .d (I x121)), (140, .d (Bo (((x91 != d3) || ((d3 != (0 : Int)) && (decide ((x9.length : Int) > (0 : Int))))) || ((d3 == (0 : Int)) && (!x22)))))] [{ cells := [.d (I x_Version), .d (I x_Count), .d (I x_Length)], e := 39 }] ?_ (hK _ ?_)
                · intro K hKE
                  rcases Bool.eq_false_or_eq_true ((x91 != d3)) with ha0 | ha0 <;> rcases Bool.eq_false_or_eq_true ((d3 != (0 : Int))) with ha1 | ha1 <;> rcases Bool.eq_false_or_eq_true ((decide ((x9.length : Int) > (0 : Int)))) with ha2 | ha2 <;> rcases Bool.eq_false_or_eq_true ((d3 == (0 : Int))) with ha3 | ha3
                  all_goals
                    refine OW.run [0, 1, 11, 12, 140] ?_
                    (simp (config := { maxSteps := 2000000 }) only [go_sem, ↓reduceIte, Nat.reduceEqDiff, Nat.reduceLT, Nat.reduceLeDiff, Nat.reduceAdd, Nat.reduceMul, Nat.reduceSub, Nat.reduceBEq, Int.reduceToNat, and_assoc, wrap_w64, wrap_wu64, wrap_wu8, wrap_wu32, wrap_wi32, bits_i64, bits_u64, bit_and, bit_or, bit_xor, shr1, shl1, shr_w, shl_w, rep_I, rep_Bo, seg_mapV, allOne_mapI, ite_or_not, ite_and_not, take_mapF, drop_mapF, Nat.sub_zero, Option.map_some, Option.map_none, ha0, ha1, ha2, ha3])
                    (repeat (refine And.intro (by (first | omega | assumption | rfl | decide | (simp only [List.length_map, List.length_replicate, List.length_append, List.length_take, List.length_drop, List.length_set, List.length_cons, List.length_nil, Int.toNat_natCast] at *; omega) | trivial)) ?_))
                    refine OW.callG' (g := ((!((x91 != d3) || ((d3 != (0 : Int)) && (decide ((x9.length : Int) > (0 : Int)))))) && (d3 == (0 : Int)))) 4 rfl rfl ?_ (fun hg => rfl) (fun hg => by (first | ((simp only [go_sem, List.toList_toArray, ↓reduceIte, Nat.reduceEqDiff, Nat.reduceLT, Nat.reduceBEq, ha0, ha1, ha2, ha3]); exact rfl) | exact rfl)) (fun hg => ?_) (fun hg => (ref02_Gathered_ok N _ _ _ _ (grd_t hg e21))) ?_ ?_ ?_ ?_
                    · (first | rfl | (simp only [go_sem, ↓reduceIte, Nat.reduceEqDiff, Nat.reduceLT, Nat.reduceLeDiff, Nat.reduceAdd, Nat.reduceMul, Nat.reduceSub, Nat.reduceBEq, ha0, ha1, ha2, ha3]; done) | (simp only [go_sem, ↓reduceIte, Nat.reduceEqDiff, Nat.reduceLT, Nat.reduceLeDiff, Nat.reduceAdd, Nat.reduceMul, Nat.reduceSub, Nat.reduceBEq, ha0, ha1, ha2, ha3]; rfl))
                    · rfl
                    · exact okD_all rfl
                    · exact .inl rfl
                    · ((simp only [go_sem, Nat.reduceLT]))
                    refine OW.run [0, 1, 11, 12, 140] ?_
                    (simp (config := { maxSteps := 2000000 }) only [go_sem, ↓reduceIte, Nat.reduceEqDiff, Nat.reduceLT, Nat.reduceLeDiff, Nat.reduceAdd, Nat.reduceMul, Nat.reduceSub, Nat.reduceBEq, Int.reduceToNat, and_assoc, wrap_w64, wrap_wu64, wrap_wu8, wrap_wu32, wrap_wi32, bits_i64, bits_u64, bit_and, bit_or, bit_xor, shr1, shl1, shr_w, shl_w, rep_I, rep_Bo, seg_mapV, allOne_mapI, ite_or_not, ite_and_not, take_mapF, drop_mapF, Nat.sub_zero, Option.map_some, Option.map_none, ha0, ha1, ha2, ha3])
                    (repeat (refine And.intro (by (first | omega | assumption | rfl | decide | (simp only [List.length_map, List.length_replicate, List.length_append, List.length_take, List.length_drop, List.length_set, List.length_cons, List.length_nil, Int.toNat_natCast] at *; omega) | trivial)) ?_))
                    refine OW.callG' (g := ((!((x91 != d3) || ((d3 != (0 : Int)) && (decide ((x9.length : Int) > (0 : Int)))))) && (d3 == (0 : Int)))) 4 rfl rfl ?_ (fun hg => rfl) (fun hg => by (first | ((simp only [go_sem, List.toList_toArray, ↓reduceIte, Nat.reduceEqDiff, Nat.reduceLT, Nat.reduceBEq, ha0, ha1, ha2, ha3]); exact rfl) | exact rfl)) (fun hg => ?_) (fun hg => (base_Ints_ok N _ _ _ (grd_t hg e22))) ?_ ?_ ?_ ?_
                    · (first | rfl | (simp only [go_sem, ↓reduceIte, Nat.reduceEqDiff, Nat.reduceLT, Nat.reduceLeDiff, Nat.reduceAdd, Nat.reduceMul, Nat.reduceSub, Nat.reduceBEq, ha0, ha1, ha2, ha3]; done) | (simp only [go_sem, ↓reduceIte, Nat.reduceEqDiff, Nat.reduceLT, Nat.reduceLeDiff, Nat.reduceAdd, Nat.reduceMul, Nat.reduceSub, Nat.reduceBEq, ha0, ha1, ha2, ha3]; rfl))
                    · rfl
                    · exact okD_all rfl
                    · exact .inl rfl
                    · ((simp only [go_sem, Nat.reduceLT]))
                    refine OW.run [0, 1, 11, 12, 140] ?_
                    (simp (config := { maxSteps := 2000000 }) only [go_sem, ↓reduceIte, Nat.reduceEqDiff, Nat.reduceLT, Nat.reduceLeDiff, Nat.reduceAdd, Nat.reduceMul, Nat.reduceSub, Nat.reduceBEq, Int.reduceToNat, and_assoc, wrap_w64, wrap_wu64, wrap_wu8, wrap_wu32, wrap_wi32, bits_i64, bits_u64, bit_and, bit_or, bit_xor, shr1, shl1, shr_w, shl_w, rep_I, rep_Bo, seg_mapV, allOne_mapI, ite_or_not, ite_and_not, take_mapF, drop_mapF, Nat.sub_zero, Option.map_some, Option.map_none, ha0, ha1, ha2, ha3])
                    (repeat (refine And.intro (by (first | omega | assumption | rfl | decide | (simp only [List.length_map, List.length_replicate, List.length_append, List.length_take, List.length_drop, List.length_set, List.length_cons, List.length_nil, Int.toNat_natCast] at *; omega) | trivial)) ?_))
                    refine OW.nil ((congrArg K ?_).mpr hKE)
                    (first | rfl | (simp only [go_sem, ↓reduceIte, Nat.reduceEqDiff, Nat.reduceLT, Nat.reduceLeDiff, Nat.reduceAdd, Nat.reduceMul, Nat.reduceSub, Nat.reduceBEq, ha0, ha1, ha2, ha3]; done) | (simp only [go_sem, ↓reduceIte, Nat.reduceEqDiff, Nat.reduceLT, Nat.reduceLeDiff, Nat.reduceAdd, Nat.reduceMul, Nat.reduceSub, Nat.reduceBEq, ha0, ha1, ha2, ha3]; rfl))
                clear hK K
                change PW _ _ _ _ _
                refine PW.cond rfl (fun h12 => ?_) (fun h12 => ?_)
                · replace hrun := br_t h12 hrun
                  refine PW.seq ?_
                  refine PW.regionK fun K hK => ?_
                  refine OW.run [6] ?_
                  simp (config := { maxSteps := 2000000 }) only [go_sem, ↓reduceIte, Nat.reduceEqDiff, Nat.reduceLT, Nat.reduceLeDiff, Nat.reduceAdd, Nat.reduceMul, Nat.reduceSub, Nat.reduceBEq, Int.reduceToNat, and_assoc, wrap_w64, wrap_wu64, wrap_wu8, wrap_wu32, wrap_wi32, bits_i64, bits_u64, bit_and, bit_or, bit_xor, shr1, shl1, shr_w, shl_w, rep_I, rep_Bo, seg_mapV, allOne_mapI, ite_or_not, ite_and_not, take_mapF, drop_mapF, Nat.sub_zero, Option.map_some, Option.map_none]
                  refine OW.nil (hK _ ?_)
                  clear hK K
                  change PW _ _ _ _ _
                  refine PW.ret ?_
                  change PW.Ends _ _ _ _ _ _
                  refine PW.Ends.intro (.inr rfl) ?_
                  simp (config := { maxSteps := 2000000 }) only [go_sem, ↓reduceIte, Nat.reduceEqDiff, Nat.reduceLT, Nat.reduceLeDiff, Nat.reduceAdd, Nat.reduceMul, Nat.reduceSub, Nat.reduceBEq, Int.reduceToNat, and_assoc, wrap_w64, wrap_wu64, wrap_wu8, wrap_wu32, wrap_wi32, bits_i64, bits_u64, bit_and, bit_or, bit_xor, shr1, shl1, shr_w, shl_w, rep_I, rep_Bo, seg_mapV, allOne_mapI, ite_or_not, ite_and_not, take_mapF, drop_mapF, Nat.sub_zero, Option.map_some, Option.map_none]
                  obtain rfl := Option.some.inj hrun
                  refine RetOK.data' 4 (by exact trivial) ?_
                  rfl
                · replace hrun := br_f h12 hrun
                  refine PW.skip ?_
                  change PW _ _ _ _ _
                  refine PW.seq ?_
                  obtain ⟨x23, e23, hrun⟩ := bnd_some hrun
                  refine PW.regionK fun K hK => ?_
                  refine OW.run [0, 1, 11, 12, 13] ?_
                  simp (config := { maxSteps := 2000000 }) only [go_sem, ↓reduceIte, Nat.reduceEqDiff, Nat.reduceLT, Nat.reduceLeDiff, Nat.reduceAdd, Nat.reduceMul, Nat.reduceSub, Nat.reduceBEq, Int.reduceToNat, and_assoc, wrap_w64, wrap_wu64, wrap_wu8, wrap_wu32, wrap_wi32, bits_i64, bits_u64, bit_and, bit_or, bit_xor, shr1, shl1, shr_w, shl_w, rep_I, rep_Bo, seg_mapV, allOne_mapI, ite_or_not, ite_and_not, take_mapF, drop_mapF, Nat.sub_zero, Option.map_some, Option.map_none]
                  refine OW.call' 4 rfl rfl rfl (by ((simp only [go_sem, List.toList_toArray, ↓reduceIte, Nat.reduceEqDiff, Nat.reduceLT, Nat.reduceBEq]); exact rfl)) ?_ (ref02_SumsErr_ok N _ _ e23) ?_ ?_ ?_ ?_
                  · rfl
                  · exact okD_all rfl
                  · exact .inl rfl
                  · (simp only [go_sem, Nat.reduceLT])
                  refine OW.run [0, 1, 11, 12, 13] ?_
                  simp (config := { maxSteps := 2000000 }) only [go_sem, ↓reduceIte, Nat.reduceEqDiff, Nat.reduceLT, Nat.reduceLeDiff, Nat.reduceAdd, Nat.reduceMul, Nat.reduceSub, Nat.reduceBEq, Int.reduceToNat, and_assoc, wrap_w64, wrap_wu64, wrap_wu8, wrap_wu32, wrap_wi32, bits_i64, bits_u64, bit_and, bit_or, bit_xor, shr1, shl1, shr_w, shl_w, rep_I, rep_Bo, seg_mapV, allOne_mapI, ite_or_not, ite_and_not, take_mapF, drop_mapF, Nat.sub_zero, Option.map_some, Option.map_none]
                  refine OW.nil (hK _ ?_)
                  clear hK K
                  change PW _ _ _ _ _
                  refine PW.joinS (τ := Int) [0, 1, 11, 12, 13] 0 (fun d4 => [(13, .d (I d4))]) (fun d4 => []) _ _ r (by exact Nat.le_refl _) hrun ?_ ?_
                  · intro K_4 hrun N13 hN13
                    refine PW.seq ?_
                    refine PW.regionK fun K hK => ?_
                    refine OW.run [0, 1, 11, 12, 13, 144] ?_
                    simp (config := { maxSteps := 2000000 }) only [go_sem, ↓reduceIte, Nat.reduceEqDiff, Nat.reduceLT, Nat.reduceLeDiff, Nat.reduceAdd, Nat.reduceMul, Nat.reduceSub, Nat.reduceBEq, Int.reduceToNat, and_assoc, wrap_w64, wrap_wu64, wrap_wu8, wrap_wu32, wrap_wi32, bits_i64, bits_u64, bit_and, bit_or, bit_xor, shr1, shl1, shr_w, shl_w, rep_I, rep_Bo, seg_mapV, allOne_mapI, ite_or_not, ite_and_not, take_mapF, drop_mapF, Nat.sub_zero, Option.map_some, Option.map_none]
                    refine OW.nil (hK _ ?_)
                    clear hK K
                    change PW _ _ _ _ _
                    refine PW.cond rfl (fun h14 => ?_) (fun h14 => ?_)
                    · replace hrun := br_t h14 hrun
                      obtain ⟨x24, e24, hrun⟩ := bnd_some hrun
                      refine PW.regionK fun K hK => ?_
                      refine OW.run [0, 1, 11, 12, 13] ?_
                      simp (config := { maxSteps := 2000000 }) only [go_sem, ↓reduceIte, Nat.reduceEqDiff, Nat.reduceLT, Nat.reduceLeDiff, Nat.reduceAdd, Nat.reduceMul, Nat.reduceSub, Nat.reduceBEq, Int.reduceToNat, and_assoc, wrap_w64, wrap_wu64, wrap_wu8, wrap_wu32, wrap_wi32, bits_i64, bits_u64, bit_and, bit_or, bit_xor, shr1, shl1, shr_w, shl_w, rep_I, rep_Bo, seg_mapV, allOne_mapI, ite_or_not, ite_and_not, take_mapF, drop_mapF, Nat.sub_zero, Option.map_some, Option.map_none]
                      refine OW.call' 4 rfl rfl rfl (by ((simp only [go_sem, List.toList_toArray, ↓reduceIte, Nat.reduceEqDiff, Nat.reduceLT, Nat.reduceBEq]); exact rfl)) ?_ (ref02_SumsErr_ok N _ _ e24) ?_ ?_ ?_ ?_
                      · rfl
                      · exact okD_all rfl
                      · exact .inl rfl
                      · (simp only [go_sem, Nat.reduceLT])
                      refine OW.run [0, 1, 11, 12, 13] ?_
                      simp (config := { maxSteps := 2000000 }) only [go_sem, ↓reduceIte, Nat.reduceEqDiff, Nat.reduceLT, Nat.reduceLeDiff, Nat.reduceAdd, Nat.reduceMul, Nat.reduceSub, Nat.reduceBEq, Int.reduceToNat, and_assoc, wrap_w64, wrap_wu64, wrap_wu8, wrap_wu32, wrap_wi32, bits_i64, bits_u64, bit_and, bit_or, bit_xor, shr1, shl1, shr_w, shl_w, rep_I, rep_Bo, seg_mapV, allOne_mapI, ite_or_not, ite_and_not, take_mapF, drop_mapF, Nat.sub_zero, Option.map_some, Option.map_none]
                      refine OW.nil (hK _ ?_)
                      clear hK K
                      refine hN13 [] x24 _ hrun (by exact trivial) ?_
                      (simp only [Env.frzL, Env.frz, frzOb, V.frz, V.frz.frzs, asD, map_asD, map_nz_I, map_nz_Bo, map_nz_Sx, map_nz_L, nz_int, nz_bool, nz_str, nz_list, nz_ref, nz_nil, map_toDs, toDs_nil, toDs_cons, toDs_append, toDs_mapD, toDs_seg, toDs_drop, toD_own, toD_ptr, toD_clo, toD_agg, toD_tup, map_nz_I, map_nz_Bo, map_nz_Sx, map_nz_L, seg_mapD, seg_flat, toD_d, nz_list, nz_int, nz_bool, nz_str, nz_agg, nz_tup, nz_clo, nz_ref, nz_nil, take_len, take_mapF, drop_mapF, List.length_set, List.length_replicate, List.drop_zero, go_sem, ↓reduceIte, Nat.reduceEqDiff, Nat.reduceLT, Nat.reduceLeDiff, Nat.reduceAdd, Nat.reduceMul, Nat.reduceSub, Nat.reduceBEq]; done)
                    · replace hrun := br_f h14 hrun
                      refine PW.skip ?_
                      refine hN13 [] x23 _ hrun (by exact trivial) ?_
                      (simp only [Env.frzL, Env.frz, frzOb, V.frz, V.frz.frzs, asD, map_asD, map_nz_I, map_nz_Bo, map_nz_Sx, map_nz_L, nz_int, nz_bool, nz_str, nz_list, nz_ref, nz_nil, map_toDs, toDs_nil, toDs_cons, toDs_append, toDs_mapD, toDs_seg, toDs_drop, toD_own, toD_ptr, toD_clo, toD_agg, toD_tup, map_nz_I, map_nz_Bo, map_nz_Sx, map_nz_L, seg_mapD, seg_flat, toD_d, nz_list, nz_int, nz_bool, nz_str, nz_agg, nz_tup, nz_clo, nz_ref, nz_nil, take_len, take_mapF, drop_mapF, List.length_set, List.length_replicate, List.drop_zero, go_sem, ↓reduceIte, Nat.reduceEqDiff, Nat.reduceLT, Nat.reduceLeDiff, Nat.reduceAdd, Nat.reduceMul, Nat.reduceSub, Nat.reduceBEq]; done)
                  · rintro d4 hrun
                    try simp only [go_sem, ↓reduceIte, Nat.reduceEqDiff, Nat.reduceLT, Nat.reduceLeDiff, Nat.reduceAdd, Nat.reduceMul, Nat.reduceSub, Nat.reduceBEq]
                    refine PW.seq ?_
                    refine PW.regionK fun K hK => ?_
                    refine OW.run [0, 1, 11, 12, 13, 14] ?_
                    simp (config := { maxSteps := 2000000 }) only [go_sem, ↓reduceIte, Nat.reduceEqDiff, Nat.reduceLT, Nat.reduceLeDiff, Nat.reduceAdd, Nat.reduceMul, Nat.reduceSub, Nat.reduceBEq, Int.reduceToNat, and_assoc, wrap_w64, wrap_wu64, wrap_wu8, wrap_wu32, wrap_wi32, bits_i64, bits_u64, bit_and, bit_or, bit_xor, shr1, shl1, shr_w, shl_w, rep_I, rep_Bo, seg_mapV, allOne_mapI, ite_or_not, ite_and_not, take_mapF, drop_mapF, Nat.sub_zero, Option.map_some, Option.map_none]
                    refine OW.nil (hK _ ?_)
                    clear hK K
                    change PW _ _ _ _ _
                    refine PW.seq ?_
                    refine PW.seq ?_
                    refine PW.regionK fun K hK => ?_
                    refine OW.run [0, 1, 11, 12, 13, 14, 148] ?_
                    simp (config := { maxSteps := 2000000 }) only [go_sem, ↓reduceIte, Nat.reduceEqDiff, Nat.reduceLT, Nat.reduceLeDiff, Nat.reduceAdd, Nat.reduceMul, Nat.reduceSub, Nat.reduceBEq, Int.reduceToNat, and_assoc, wrap_w64, wrap_wu64, wrap_wu8, wrap_wu32, wrap_wi32, bits_i64, bits_u64, bit_and, bit_or, bit_xor, shr1, shl1, shr_w, shl_w, rep_I, rep_Bo, seg_mapV, allOne_mapI, ite_or_not, ite_and_not, take_mapF, drop_mapF, Nat.sub_zero, Option.map_some, Option.map_none]
                    refine OW.nil (hK _ ?_)
                    clear hK K
                    change PW _ _ _ _ _
                    refine PW.cond rfl (fun h15 => ?_) (fun h15 => ?_)
                    · replace hrun := br_t h15 hrun
                      obtain ⟨⟨x25, x251⟩, e25, hrun⟩ := bnd_some hrun
                      refine PW.regionK fun K hK => ?_
                      refine OW.run [11, 12, 13, 14] ?_
                      simp (config := { maxSteps := 2000000 }) only [go_sem, ↓reduceIte, Nat.reduceEqDiff, Nat.reduceLT, Nat.reduceLeDiff, Nat.reduceAdd, Nat.reduceMul, Nat.reduceSub, Nat.reduceBEq, Int.reduceToNat, and_assoc, wrap_w64, wrap_wu64, wrap_wu8, wrap_wu32, wrap_wi32, bits_i64, bits_u64, bit_and, bit_or, bit_xor, shr1, shl1, shr_w, shl_w, rep_I, rep_Bo, seg_mapV, allOne_mapI, ite_or_not, ite_and_not, take_mapF, drop_mapF, Nat.sub_zero, Option.map_some, Option.map_none]
                      refine OW.call' 4 rfl rfl rfl (by ((simp only [go_sem, List.toList_toArray, ↓reduceIte, Nat.reduceEqDiff, Nat.reduceLT, Nat.reduceBEq]); exact rfl)) ?_ (ref02_Combined_ok N _ _ _ e25) ?_ ?_ ?_ ?_
                      · rfl
                      · exact okD_all rfl
                      · exact .inl rfl
                      · (simp only [go_sem, Nat.reduceLT])
                      refine OW.run [11, 12, 13, 14] ?_
                      simp (config := { maxSteps := 2000000 }) only [go_sem, ↓reduceIte, Nat.reduceEqDiff, Nat.reduceLT, Nat.reduceLeDiff, Nat.reduceAdd, Nat.reduceMul, Nat.reduceSub, Nat.reduceBEq, Int.reduceToNat, and_assoc, wrap_w64, wrap_wu64, wrap_wu8, wrap_wu32, wrap_wi32, bits_i64, bits_u64, bit_and, bit_or, bit_xor, shr1, shl1, shr_w, shl_w, rep_I, rep_Bo, seg_mapV, allOne_mapI, ite_or_not, ite_and_not, take_mapF, drop_mapF, Nat.sub_zero, Option.map_some, Option.map_none]
                      refine OW.nil (hK _ ?_)
                      clear hK K
                      change PW _ _ _ _ _
                      refine PW.seq ?_
                      obtain ⟨x26, e26, hrun⟩ := bnd_some hrun
                      refine PW.regionK fun K hK => ?_
                      refine OW.run [6] ?_
                      simp (config := { maxSteps := 2000000 }) only [go_sem, ↓reduceIte, Nat.reduceEqDiff, Nat.reduceLT, Nat.reduceLeDiff, Nat.reduceAdd, Nat.reduceMul, Nat.reduceSub, Nat.reduceBEq, Int.reduceToNat, and_assoc, wrap_w64, wrap_wu64, wrap_wu8, wrap_wu32, wrap_wi32, bits_i64, bits_u64, bit_and, bit_or, bit_xor, shr1, shl1, shr_w, shl_w, rep_I, rep_Bo, seg_mapV, allOne_mapI, ite_or_not, ite_and_not, take_mapF, drop_mapF, Nat.sub_zero, Option.map_some, Option.map_none]
                      refine OW.callG' (g := (x121 == x251)) 4 rfl rfl ?_ (fun hg => rfl) (fun hg => by ((simp only [go_sem, List.toList_toArray, ↓reduceIte, Nat.reduceEqDiff, Nat.reduceLT, Nat.reduceBEq]); exact rfl)) (fun hg => ?_) (fun hg => (base_Ints_ok N _ _ _ (grd_t hg e26))) ?_ ?_ ?_ ?_
                      · (simp only [go_sem, ↓reduceIte, Nat.reduceEqDiff, Nat.reduceLT, Nat.reduceLeDiff, Nat.reduceAdd, Nat.reduceMul, Nat.reduceSub, Nat.reduceBEq]; done)
                      · rfl
                      · exact okD_all rfl
                      · exact .inl rfl
                      · (simp only [go_sem, Nat.reduceLT])
                      refine OW.run [6] ?_
                      simp (config := { maxSteps := 2000000 }) only [go_sem, ↓reduceIte, Nat.reduceEqDiff, Nat.reduceLT, Nat.reduceLeDiff, Nat.reduceAdd, Nat.reduceMul, Nat.reduceSub, Nat.reduceBEq, Int.reduceToNat, and_assoc, wrap_w64, wrap_wu64, wrap_wu8, wrap_wu32, wrap_wi32, bits_i64, bits_u64, bit_and, bit_or, bit_xor, shr1, shl1, shr_w, shl_w, rep_I, rep_Bo, seg_mapV, allOne_mapI, ite_or_not, ite_and_not, take_mapF, drop_mapF, Nat.sub_zero, Option.map_some, Option.map_none]
                      refine OW.nil (hK _ ?_)
                      clear hK K
                      change PW _ _ _ _ _
                      refine PW.ret ?_
                      change PW.Ends _ _ _ _ _ _
                      refine PW.Ends.intro (.inr rfl) ?_
                      simp (config := { maxSteps := 2000000 }) only [go_sem, ↓reduceIte, Nat.reduceEqDiff, Nat.reduceLT, Nat.reduceLeDiff, Nat.reduceAdd, Nat.reduceMul, Nat.reduceSub, Nat.reduceBEq, Int.reduceToNat, and_assoc, wrap_w64, wrap_wu64, wrap_wu8, wrap_wu32, wrap_wi32, bits_i64, bits_u64, bit_and, bit_or, bit_xor, shr1, shl1, shr_w, shl_w, rep_I, rep_Bo, seg_mapV, allOne_mapI, ite_or_not, ite_and_not, take_mapF, drop_mapF, Nat.sub_zero, Option.map_some, Option.map_none]
                      obtain rfl := Option.some.inj hrun
                      refine RetOK.data' 4 (by exact trivial) ?_
                      rfl
                    · replace hrun := br_f h15 hrun
                      refine PW.skip ?_
                      change PW _ _ _ _ _
                      refine PW.seq ?_
                      obtain ⟨x27, e27, hrun⟩ := bnd_some hrun
                      refine PW.regionK fun K hK => ?_
                      refine OW.run [6] ?_
                      simp (config := { maxSteps := 2000000 }) only [go_sem, ↓reduceIte, Nat.reduceEqDiff, Nat.reduceLT, Nat.reduceLeDiff, Nat.reduceAdd, Nat.reduceMul, Nat.reduceSub, Nat.reduceBEq, Int.reduceToNat, and_assoc, wrap_w64, wrap_wu64, wrap_wu8, wrap_wu32, wrap_wi32, bits_i64, bits_u64, bit_and, bit_or, bit_xor, shr1, shl1, shr_w, shl_w, rep_I, rep_Bo, seg_mapV, allOne_mapI, ite_or_not, ite_and_not, take_mapF, drop_mapF, Nat.sub_zero, Option.map_some, Option.map_none]
                      refine OW.callG' (g := (x121 == d4)) 4 rfl rfl ?_ (fun hg => rfl) (fun hg => by ((simp only [go_sem, List.toList_toArray, ↓reduceIte, Nat.reduceEqDiff, Nat.reduceLT, Nat.reduceBEq]); exact rfl)) (fun hg => ?_) (fun hg => (base_Ints_ok N _ _ _ (grd_t hg e27))) ?_ ?_ ?_ ?_
                      · (simp only [go_sem, ↓reduceIte, Nat.reduceEqDiff, Nat.reduceLT, Nat.reduceLeDiff, Nat.reduceAdd, Nat.reduceMul, Nat.reduceSub, Nat.reduceBEq]; done)
                      · rfl
                      · exact okD_all rfl
                      · exact .inl rfl
                      · (simp only [go_sem, Nat.reduceLT])
                      refine OW.run [6] ?_
                      simp (config := { maxSteps := 2000000 }) only [go_sem, ↓reduceIte, Nat.reduceEqDiff, Nat.reduceLT, Nat.reduceLeDiff, Nat.reduceAdd, Nat.reduceMul, Nat.reduceSub, Nat.reduceBEq, Int.reduceToNat, and_assoc, wrap_w64, wrap_wu64, wrap_wu8, wrap_wu32, wrap_wi32, bits_i64, bits_u64, bit_and, bit_or, bit_xor, shr1, shl1, shr_w, shl_w, rep_I, rep_Bo, seg_mapV, allOne_mapI, ite_or_not, ite_and_not, take_mapF, drop_mapF, Nat.sub_zero, Option.map_some, Option.map_none]
                      refine OW.nil (hK _ ?_)
                      clear hK K
                      change PW _ _ _ _ _
                      refine PW.ret ?_
                      change PW.Ends _ _ _ _ _ _
                      refine PW.Ends.intro (.inr rfl) ?_
                      simp (config := { maxSteps := 2000000 }) only [go_sem, ↓reduceIte, Nat.reduceEqDiff, Nat.reduceLT, Nat.reduceLeDiff, Nat.reduceAdd, Nat.reduceMul, Nat.reduceSub, Nat.reduceBEq, Int.reduceToNat, and_assoc, wrap_w64, wrap_wu64, wrap_wu8, wrap_wu32, wrap_wi32, bits_i64, bits_u64, bit_and, bit_or, bit_xor, shr1, shl1, shr_w, shl_w, rep_I, rep_Bo, seg_mapV, allOne_mapI, ite_or_not, ite_and_not, take_mapF, drop_mapF, Nat.sub_zero, Option.map_some, Option.map_none]
                      obtain rfl := Option.some.inj hrun
                      refine RetOK.data' 4 (by exact trivial) ?_
                      rfl

end Go.Proofs.Ytikelkndldaejaa
