import Derived.Test.YtikelkndldaejaaCsW2
set_option linter.all false
namespace Go.Proofs.Ytikelkndldaejaa
open Go.PW Go.Sh
set_option maxRecDepth 20000 in
set_option maxHeartbeats 8000000 in
theorem math_bits_OnesCount64_ok (N : Nat) (x : Int) (r : Int) (hrun : math_bits_OnesCount64 N x = some r) : CallOK Try.prog 170 [(.val (.int .u64 x))] (.d (I r)) [] := by
  refine CallOK.of_PW Try.func170 rfl (by rw [Try.results170]) Try.ntmps170 Try.call170 ?_
  change PW _ _ _ _ _
  try simp only [go_sem, ↓reduceIte, Nat.reduceEqDiff, Nat.reduceLT, Nat.reduceLeDiff, Nat.reduceAdd, Nat.reduceMul, Nat.reduceSub, Nat.reduceBEq]
  unfold math_bits_OnesCount64 at hrun
  refine PW.seq ?_
  refine PW.regionK fun K hK => ?_
  refine OW.run [0] ?_
  simp (config := { maxSteps := 2000000 }) only [go_sem, ↓reduceIte, Nat.reduceEqDiff, Nat.reduceLT, Nat.reduceLeDiff, Nat.reduceAdd, Nat.reduceMul, Nat.reduceSub, Nat.reduceBEq, Int.reduceToNat, and_assoc, wrap_w64, wrap_wu64, wrap_wu8, wrap_wu32, wrap_wi32, bits_i64, bits_u64, bit_and, bit_or, bit_xor, shr1, shl1, shr_w, shl_w, rep_I, rep_Bo, seg_mapV, allOne_mapI, ite_or_not, ite_and_not, take_mapF, drop_mapF, Nat.sub_zero, Option.map_some, Option.map_none]
  refine OW.nil (hK _ ?_)
  clear hK K
  change PW _ _ _ _ _
  refine PW.seq ?_
  refine PW.regionK fun K hK => ?_
  refine OW.run [0] ?_
  simp (config := { maxSteps := 2000000 }) only [go_sem, ↓reduceIte, Nat.reduceEqDiff, Nat.reduceLT, Nat.reduceLeDiff, Nat.reduceAdd, Nat.reduceMul, Nat.reduceSub, Nat.reduceBEq, Int.reduceToNat, and_assoc, wrap_w64, wrap_wu64, wrap_wu8, wrap_wu32, wrap_wi32, bits_i64, bits_u64, bit_and, bit_or, bit_xor, shr1, shl1, shr_w, shl_w, rep_I, rep_Bo, seg_mapV, allOne_mapI, ite_or_not, ite_and_not, take_mapF, drop_mapF, Nat.sub_zero, Option.map_some, Option.map_none]
  refine And.intro (by omega) ?_
  refine OW.nil (hK _ ?_)
  clear hK K
  change PW _ _ _ _ _
  refine PW.seq ?_
  refine PW.regionK fun K hK => ?_
  refine OW.run [0] ?_
  simp (config := { maxSteps := 2000000 }) only [go_sem, ↓reduceIte, Nat.reduceEqDiff, Nat.reduceLT, Nat.reduceLeDiff, Nat.reduceAdd, Nat.reduceMul, Nat.reduceSub, Nat.reduceBEq, Int.reduceToNat, and_assoc, wrap_w64, wrap_wu64, wrap_wu8, wrap_wu32, wrap_wi32, bits_i64, bits_u64, bit_and, bit_or, bit_xor, shr1, shl1, shr_w, shl_w, rep_I, rep_Bo, seg_mapV, allOne_mapI, ite_or_not, ite_and_not, take_mapF, drop_mapF, Nat.sub_zero, Option.map_some, Option.map_none]
  refine And.intro (by omega) ?_
  refine OW.nil (hK _ ?_)
  clear hK K
  change PW _ _ _ _ _
  refine PW.seq ?_
  refine PW.regionK fun K hK => ?_
  refine OW.run [0] ?_
  simp (config := { maxSteps := 2000000 }) only [go_sem, ↓reduceIte, Nat.reduceEqDiff, Nat.reduceLT, Nat.reduceLeDiff, Nat.reduceAdd, Nat.reduceMul, Nat.reduceSub, Nat.reduceBEq, Int.reduceToNat, and_assoc, wrap_w64, wrap_wu64, wrap_wu8, wrap_wu32, wrap_wi32, bits_i64, bits_u64, bit_and, bit_or, bit_xor, shr1, shl1, shr_w, shl_w, rep_I, rep_Bo, seg_mapV, allOne_mapI, ite_or_not, ite_and_not, take_mapF, drop_mapF, Nat.sub_zero, Option.map_some, Option.map_none]
  refine And.intro (by omega) ?_
  refine OW.nil (hK _ ?_)
  clear hK K
  change PW _ _ _ _ _
  refine PW.seq ?_
  refine PW.regionK fun K hK => ?_
  refine OW.run [0] ?_
  simp (config := { maxSteps := 2000000 }) only [go_sem, ↓reduceIte, Nat.reduceEqDiff, Nat.reduceLT, Nat.reduceLeDiff, Nat.reduceAdd, Nat.reduceMul, Nat.reduceSub, Nat.reduceBEq, Int.reduceToNat, and_assoc, wrap_w64, wrap_wu64, wrap_wu8, wrap_wu32, wrap_wi32, bits_i64, bits_u64, bit_and, bit_or, bit_xor, shr1, shl1, shr_w, shl_w, rep_I, rep_Bo, seg_mapV, allOne_mapI, ite_or_not, ite_and_not, take_mapF, drop_mapF, Nat.sub_zero, Option.map_some, Option.map_none]
  refine And.intro (by omega) ?_
  refine OW.nil (hK _ ?_)
  clear hK K
  change PW _ _ _ _ _
  refine PW.seq ?_
  refine PW.regionK fun K hK => ?_
  refine OW.run [0] ?_
  simp (config := { maxSteps := 2000000 }) only [go_sem, ↓reduceIte, Nat.reduceEqDiff, Nat.reduceLT, Nat.reduceLeDiff, Nat.reduceAdd, Nat.reduceMul, Nat.reduceSub, Nat.reduceBEq, Int.reduceToNat, and_assoc, wrap_w64, wrap_wu64, wrap_wu8, wrap_wu32, wrap_wi32, bits_i64, bits_u64, bit_and, bit_or, bit_xor, shr1, shl1, shr_w, shl_w, rep_I, rep_Bo, seg_mapV, allOne_mapI, ite_or_not, ite_and_not, take_mapF, drop_mapF, Nat.sub_zero, Option.map_some, Option.map_none]
  refine And.intro (by omega) ?_
  refine OW.nil (hK _ ?_)
  clear hK K
  change PW _ _ _ _ _
  refine PW.seq ?_
  refine PW.regionK fun K hK => ?_
  refine OW.run [0] ?_
  simp (config := { maxSteps := 2000000 }) only [go_sem, ↓reduceIte, Nat.reduceEqDiff, Nat.reduceLT, Nat.reduceLeDiff, Nat.reduceAdd, Nat.reduceMul, Nat.reduceSub, Nat.reduceBEq, Int.reduceToNat, and_assoc, wrap_w64, wrap_wu64, wrap_wu8, wrap_wu32, wrap_wi32, bits_i64, bits_u64, bit_and, bit_or, bit_xor, shr1, shl1, shr_w, shl_w, rep_I, rep_Bo, seg_mapV, allOne_mapI, ite_or_not, ite_and_not, take_mapF, drop_mapF, Nat.sub_zero, Option.map_some, Option.map_none]
  refine And.intro (by omega) ?_
  refine OW.nil (hK _ ?_)
  clear hK K
  change PW _ _ _ _ _
  refine PW.seq ?_
  refine PW.regionK fun K hK => ?_
  refine OW.run [2] ?_
  simp (config := { maxSteps := 2000000 }) only [go_sem, ↓reduceIte, Nat.reduceEqDiff, Nat.reduceLT, Nat.reduceLeDiff, Nat.reduceAdd, Nat.reduceMul, Nat.reduceSub, Nat.reduceBEq, Int.reduceToNat, and_assoc, wrap_w64, wrap_wu64, wrap_wu8, wrap_wu32, wrap_wi32, bits_i64, bits_u64, bit_and, bit_or, bit_xor, shr1, shl1, shr_w, shl_w, rep_I, rep_Bo, seg_mapV, allOne_mapI, ite_or_not, ite_and_not, take_mapF, drop_mapF, Nat.sub_zero, Option.map_some, Option.map_none]
  refine OW.nil (hK _ ?_)
  clear hK K
  change PW _ _ _ _ _
  refine PW.ret ?_
  change PW.Ends _ _ _ _ _ _
  refine PW.Ends.intro (.inr rfl) ?_
  simp (config := { maxSteps := 2000000 }) only [go_sem, ↓reduceIte, Nat.reduceEqDiff, Nat.reduceLT, Nat.reduceLeDiff, Nat.reduceAdd, Nat.reduceMul, Nat.reduceSub, Nat.reduceBEq, Int.reduceToNat, and_assoc, wrap_w64, wrap_wu64, wrap_wu8, wrap_wu32, wrap_wi32, bits_i64, bits_u64, bit_and, bit_or, bit_xor, shr1, shl1, shr_w, shl_w, rep_I, rep_Bo, seg_mapV, allOne_mapI, ite_or_not, ite_and_not, take_mapF, drop_mapF, Nat.sub_zero, Option.map_some, Option.map_none]
  obtain rfl := Option.some.inj hrun
  refine RetOK.data' 4 (by exact trivial) ?_
  rfl

set_option maxRecDepth 20000 in
set_option maxHeartbeats 8000000 in
theorem math_bits_OnesCount_ok (N : Nat) (x : Int) (r : Int) (hrun : math_bits_OnesCount N x = some r) : CallOK Try.prog 151 [(.val (.int .u64 x))] (.d (I r)) [] := by
  refine CallOK.of_PW Try.func151 rfl (by rw [Try.results151]) Try.ntmps151 Try.call151 ?_
  change PW _ _ _ _ _
  try simp only [go_sem, ↓reduceIte, Nat.reduceEqDiff, Nat.reduceLT, Nat.reduceLeDiff, Nat.reduceAdd, Nat.reduceMul, Nat.reduceSub, Nat.reduceBEq]
  unfold math_bits_OnesCount at hrun
  refine PW.seq ?_
  refine PW.regionK fun K hK => ?_
  refine OW.run [0] ?_
  simp (config := { maxSteps := 2000000 }) only [go_sem, ↓reduceIte, Nat.reduceEqDiff, Nat.reduceLT, Nat.reduceLeDiff, Nat.reduceAdd, Nat.reduceMul, Nat.reduceSub, Nat.reduceBEq, Int.reduceToNat, and_assoc, wrap_w64, wrap_wu64, wrap_wu8, wrap_wu32, wrap_wi32, bits_i64, bits_u64, bit_and, bit_or, bit_xor, shr1, shl1, shr_w, shl_w, rep_I, rep_Bo, seg_mapV, allOne_mapI, ite_or_not, ite_and_not, take_mapF, drop_mapF, Nat.sub_zero, Option.map_some, Option.map_none]
  refine OW.nil (hK _ ?_)
  clear hK K
  change PW _ _ _ _ _
  refine PW.seq ?_
  refine PW.cond rfl (fun h1 => ?_) (fun h1 => ?_)
  · replace hrun := br_t h1 hrun
    cases hrun
  · replace hrun := br_f h1 hrun
    refine PW.skip ?_
    change PW _ _ _ _ _
    refine PW.seq ?_
    obtain ⟨x1, e1, hrun⟩ := bnd_some hrun
    refine PW.regionK fun K hK => ?_
    refine OW.run [2] ?_
    simp (config := { maxSteps := 2000000 }) only [go_sem, ↓reduceIte, Nat.reduceEqDiff, Nat.reduceLT, Nat.reduceLeDiff, Nat.reduceAdd, Nat.reduceMul, Nat.reduceSub, Nat.reduceBEq, Int.reduceToNat, and_assoc, wrap_w64, wrap_wu64, wrap_wu8, wrap_wu32, wrap_wi32, bits_i64, bits_u64, bit_and, bit_or, bit_xor, shr1, shl1, shr_w, shl_w, rep_I, rep_Bo, seg_mapV, allOne_mapI, ite_or_not, ite_and_not, take_mapF, drop_mapF, Nat.sub_zero, Option.map_some, Option.map_none]
    refine OW.call' 4 rfl rfl rfl (by ((simp only [go_sem, List.toList_toArray, ↓reduceIte, Nat.reduceEqDiff, Nat.reduceLT, Nat.reduceBEq]); exact rfl)) ?_ (math_bits_OnesCount64_ok N _ _ e1) ?_ ?_ ?_ ?_
    · rfl
    · exact okD_all rfl
    · exact .inl rfl
    · (simp only [go_sem, Nat.reduceLT])
    refine OW.run [2] ?_
    simp (config := { maxSteps := 2000000 }) only [go_sem, ↓reduceIte, Nat.reduceEqDiff, Nat.reduceLT, Nat.reduceLeDiff, Nat.reduceAdd, Nat.reduceMul, Nat.reduceSub, Nat.reduceBEq, Int.reduceToNat, and_assoc, wrap_w64, wrap_wu64, wrap_wu8, wrap_wu32, wrap_wi32, bits_i64, bits_u64, bit_and, bit_or, bit_xor, shr1, shl1, shr_w, shl_w, rep_I, rep_Bo, seg_mapV, allOne_mapI, ite_or_not, ite_and_not, take_mapF, drop_mapF, Nat.sub_zero, Option.map_some, Option.map_none]
    refine OW.nil (hK _ ?_)
    clear hK K
    change PW _ _ _ _ _
    refine PW.ret ?_
    change PW.Ends _ _ _ _ _ _
    refine PW.Ends.intro (.inr rfl) ?_
    simp (config := { maxSteps := 2000000 }) only [go_sem, ↓reduceIte, Nat.reduceEqDiff, Nat.reduceLT, Nat.reduceLeDiff, Nat.reduceAdd, Nat.reduceMul, Nat.reduceSub, Nat.reduceBEq, Int.reduceToNat, and_assoc, wrap_w64, wrap_wu64, wrap_wu8, wrap_wu32, wrap_wi32, bits_i64, bits_u64, bit_and, bit_or, bit_xor, shr1, shl1, shr_w, shl_w, rep_I, rep_Bo, seg_mapV, allOne_mapI, ite_or_not, ite_and_not, take_mapF, drop_mapF, Nat.sub_zero, Option.map_some, Option.map_none]
    obtain rfl := Option.some.inj hrun
    refine RetOK.data' 4 (by exact trivial) ?_
    rfl

set_option maxRecDepth 20000 in
set_option maxHeartbeats 8000000 in
theorem code_ones_ok (N : Nat) (n : Int) (r : Int) (hrun : code_ones N n = some r) : CallOK Try.prog 116 [(I n)] (.d (I r)) [] := by
  refine CallOK.of_PW Try.func116 rfl (by rw [Try.results116]) Try.ntmps116 Try.call116 ?_
  change PW _ _ _ _ _
  try simp only [go_sem, ↓reduceIte, Nat.reduceEqDiff, Nat.reduceLT, Nat.reduceLeDiff, Nat.reduceAdd, Nat.reduceMul, Nat.reduceSub, Nat.reduceBEq]
  unfold code_ones at hrun
  refine PW.seq ?_
  refine PW.regionK fun K hK => ?_
  refine OW.run [0] ?_
  simp (config := { maxSteps := 2000000 }) only [go_sem, ↓reduceIte, Nat.reduceEqDiff, Nat.reduceLT, Nat.reduceLeDiff, Nat.reduceAdd, Nat.reduceMul, Nat.reduceSub, Nat.reduceBEq, Int.reduceToNat, and_assoc, wrap_w64, wrap_wu64, wrap_wu8, wrap_wu32, wrap_wi32, bits_i64, bits_u64, bit_and, bit_or, bit_xor, shr1, shl1, shr_w, shl_w, rep_I, rep_Bo, seg_mapV, allOne_mapI, ite_or_not, ite_and_not, take_mapF, drop_mapF, Nat.sub_zero, Option.map_some, Option.map_none]
  refine OW.nil (hK _ ?_)
  clear hK K
  change PW _ _ _ _ _
  refine PW.seq ?_
  obtain ⟨x1, e1, hrun⟩ := bnd_some hrun
  refine PW.regionK fun K hK => ?_
  refine OW.run [2] ?_
  simp (config := { maxSteps := 2000000 }) only [go_sem, ↓reduceIte, Nat.reduceEqDiff, Nat.reduceLT, Nat.reduceLeDiff, Nat.reduceAdd, Nat.reduceMul, Nat.reduceSub, Nat.reduceBEq, Int.reduceToNat, and_assoc, wrap_w64, wrap_wu64, wrap_wu8, wrap_wu32, wrap_wi32, bits_i64, bits_u64, bit_and, bit_or, bit_xor, shr1, shl1, shr_w, shl_w, rep_I, rep_Bo, seg_mapV, allOne_mapI, ite_or_not, ite_and_not, take_mapF, drop_mapF, Nat.sub_zero, Option.map_some, Option.map_none]
  refine OW.call' 4 rfl rfl rfl (by ((simp only [go_sem, List.toList_toArray, ↓reduceIte, Nat.reduceEqDiff, Nat.reduceLT, Nat.reduceBEq]); exact rfl)) ?_ (math_bits_OnesCount_ok N _ _ e1) ?_ ?_ ?_ ?_
  · rfl
  · exact okD_all rfl
  · exact .inl rfl
  · (simp only [go_sem, Nat.reduceLT])
  refine OW.run [2] ?_
  simp (config := { maxSteps := 2000000 }) only [go_sem, ↓reduceIte, Nat.reduceEqDiff, Nat.reduceLT, Nat.reduceLeDiff, Nat.reduceAdd, Nat.reduceMul, Nat.reduceSub, Nat.reduceBEq, Int.reduceToNat, and_assoc, wrap_w64, wrap_wu64, wrap_wu8, wrap_wu32, wrap_wi32, bits_i64, bits_u64, bit_and, bit_or, bit_xor, shr1, shl1, shr_w, shl_w, rep_I, rep_Bo, seg_mapV, allOne_mapI, ite_or_not, ite_and_not, take_mapF, drop_mapF, Nat.sub_zero, Option.map_some, Option.map_none]
  refine OW.nil (hK _ ?_)
  clear hK K
  change PW _ _ _ _ _
  refine PW.ret ?_
  change PW.Ends _ _ _ _ _ _
  refine PW.Ends.intro (.inr rfl) ?_
  simp (config := { maxSteps := 2000000 }) only [go_sem, ↓reduceIte, Nat.reduceEqDiff, Nat.reduceLT, Nat.reduceLeDiff, Nat.reduceAdd, Nat.reduceMul, Nat.reduceSub, Nat.reduceBEq, Int.reduceToNat, and_assoc, wrap_w64, wrap_wu64, wrap_wu8, wrap_wu32, wrap_wi32, bits_i64, bits_u64, bit_and, bit_or, bit_xor, shr1, shl1, shr_w, shl_w, rep_I, rep_Bo, seg_mapV, allOne_mapI, ite_or_not, ite_and_not, take_mapF, drop_mapF, Nat.sub_zero, Option.map_some, Option.map_none]
  obtain rfl := Option.some.inj hrun
  refine RetOK.data' 4 (by exact trivial) ?_
  rfl

set_option maxRecDepth 20000 in
set_option maxHeartbeats 8000000 in
theorem code_DistanceOf_ok (N : Nat) (c_Power : Int) (c_Info : List Int) (r : Int × List Int × Int) (hrun : code_DistanceOf N c_Power c_Info = some r) : CallOK Try.prog 46 [(.agg [(I c_Power), (L c_Info)])] (.d (.tup [(I r.1), (L r.2.1), (I r.2.2)])) [] := by
  refine CallOK.of_PW Try.func46 rfl (by rw [Try.results46]) Try.ntmps46 Try.call46 ?_
  change PW _ _ _ _ _
  try simp only [go_sem, ↓reduceIte, Nat.reduceEqDiff, Nat.reduceLT, Nat.reduceLeDiff, Nat.reduceAdd, Nat.reduceMul, Nat.reduceSub, Nat.reduceBEq]
  unfold code_DistanceOf at hrun
  refine PW.seq ?_
  refine PW.regionK fun K hK => ?_
  refine OW.run [1] ?_
  simp (config := { maxSteps := 2000000 }) only [go_sem, ↓reduceIte, Nat.reduceEqDiff, Nat.reduceLT, Nat.reduceLeDiff, Nat.reduceAdd, Nat.reduceMul, Nat.reduceSub, Nat.reduceBEq, Int.reduceToNat, and_assoc, wrap_w64, wrap_wu64, wrap_wu8, wrap_wu32, wrap_wi32, bits_i64, bits_u64, bit_and, bit_or, bit_xor, shr1, shl1, shr_w, shl_w, rep_I, rep_Bo, seg_mapV, allOne_mapI, ite_or_not, ite_and_not, take_mapF, drop_mapF, Nat.sub_zero, Option.map_some, Option.map_none]
  refine OW.nil (hK _ ?_)
  clear hK K
  change PW _ _ _ _ _
  refine PW.seq ?_
  refine PW.seq ?_
  obtain ⟨x1, e1, hrun⟩ := bnd_some hrun
  refine PW.regionK fun K hK => ?_
  refine OW.run [1, 5] ?_
  simp (config := { maxSteps := 2000000 }) only [go_sem, ↓reduceIte, Nat.reduceEqDiff, Nat.reduceLT, Nat.reduceLeDiff, Nat.reduceAdd, Nat.reduceMul, Nat.reduceSub, Nat.reduceBEq, Int.reduceToNat, and_assoc, wrap_w64, wrap_wu64, wrap_wu8, wrap_wu32, wrap_wi32, bits_i64, bits_u64, bit_and, bit_or, bit_xor, shr1, shl1, shr_w, shl_w, rep_I, rep_Bo, seg_mapV, allOne_mapI, ite_or_not, ite_and_not, take_mapF, drop_mapF, Nat.sub_zero, Option.map_some, Option.map_none]
  refine OW.call' 4 rfl rfl rfl (by ((simp only [go_sem, List.toList_toArray, ↓reduceIte, Nat.reduceEqDiff, Nat.reduceLT, Nat.reduceBEq]); exact rfl)) ?_ (code_CheckPolar_ok N _ _ _ e1) ?_ ?_ ?_ ?_
  · rfl
  · (refine okAll_intro ?_; (simp only [go_sem, okAll_nil, okAll_cons, okAll_append, okD_dd, okAll_mapD, okAll_segD, okAll_dropD, okD_own, okD_ptr, okD_clo, okD_agg, okD_tup, List.length_set, List.length_replicate, and_true, true_and, Nat.le_refl, ↓reduceIte, Nat.reduceEqDiff, Nat.reduceLT, Nat.reduceLeDiff, Nat.reduceAdd, Nat.reduceMul, Nat.reduceSub, Nat.reduceBEq]; done))
  · exact .inl rfl
  · (simp only [go_sem, Nat.reduceLT])
  refine OW.run [1, 5] ?_
  simp (config := { maxSteps := 2000000 }) only [go_sem, ↓reduceIte, Nat.reduceEqDiff, Nat.reduceLT, Nat.reduceLeDiff, Nat.reduceAdd, Nat.reduceMul, Nat.reduceSub, Nat.reduceBEq, Int.reduceToNat, and_assoc, wrap_w64, wrap_wu64, wrap_wu8, wrap_wu32, wrap_wi32, bits_i64, bits_u64, bit_and, bit_or, bit_xor, shr1, shl1, shr_w, shl_w, rep_I, rep_Bo, seg_mapV, allOne_mapI, ite_or_not, ite_and_not, take_mapF, drop_mapF, Nat.sub_zero, Option.map_some, Option.map_none]
  refine OW.nil (hK _ ?_)
  clear hK K
  change PW _ _ _ _ _
  refine PW.seq ?_
  refine PW.regionK fun K hK => ?_
  refine OW.run [1, 5, 13] ?_
  simp (config := { maxSteps := 2000000 }) only [go_sem, ↓reduceIte, Nat.reduceEqDiff, Nat.reduceLT, Nat.reduceLeDiff, Nat.reduceAdd, Nat.reduceMul, Nat.reduceSub, Nat.reduceBEq, Int.reduceToNat, and_assoc, wrap_w64, wrap_wu64, wrap_wu8, wrap_wu32, wrap_wi32, bits_i64, bits_u64, bit_and, bit_or, bit_xor, shr1, shl1, shr_w, shl_w, rep_I, rep_Bo, seg_mapV, allOne_mapI, ite_or_not, ite_and_not, take_mapF, drop_mapF, Nat.sub_zero, Option.map_some, Option.map_none]
  refine OW.nil (hK _ ?_)
  clear hK K
  change PW _ _ _ _ _
  refine PW.cond rfl (fun h1 => ?_) (fun h1 => ?_)
  · replace hrun := br_t h1 hrun
    refine PW.seq ?_
    refine PW.regionK fun K hK => ?_
    refine OW.run [2, 3, 4] ?_
    simp (config := { maxSteps := 2000000 }) only [go_sem, ↓reduceIte, Nat.reduceEqDiff, Nat.reduceLT, Nat.reduceLeDiff, Nat.reduceAdd, Nat.reduceMul, Nat.reduceSub, Nat.reduceBEq, Int.reduceToNat, and_assoc, wrap_w64, wrap_wu64, wrap_wu8, wrap_wu32, wrap_wi32, bits_i64, bits_u64, bit_and, bit_or, bit_xor, shr1, shl1, shr_w, shl_w, rep_I, rep_Bo, seg_mapV, allOne_mapI, ite_or_not, ite_and_not, take_mapF, drop_mapF, Nat.sub_zero, Option.map_some, Option.map_none]
    refine OW.nil (hK _ ?_)
    clear hK K
    change PW _ _ _ _ _
    refine PW.ret ?_
    change PW.Ends _ _ _ _ _ _
    refine PW.Ends.intro (.inr rfl) ?_
    simp (config := { maxSteps := 2000000 }) only [go_sem, ↓reduceIte, Nat.reduceEqDiff, Nat.reduceLT, Nat.reduceLeDiff, Nat.reduceAdd, Nat.reduceMul, Nat.reduceSub, Nat.reduceBEq, Int.reduceToNat, and_assoc, wrap_w64, wrap_wu64, wrap_wu8, wrap_wu32, wrap_wi32, bits_i64, bits_u64, bit_and, bit_or, bit_xor, shr1, shl1, shr_w, shl_w, rep_I, rep_Bo, seg_mapV, allOne_mapI, ite_or_not, ite_and_not, take_mapF, drop_mapF, Nat.sub_zero, Option.map_some, Option.map_none]
    obtain rfl := Option.some.inj hrun
    refine RetOK.data' 4 (by exact okD_all rfl) ?_
    rfl
  · replace hrun := br_f h1 hrun
    refine PW.skip ?_
    change PW _ _ _ _ _
    refine PW.seq ?_
    refine PW.regionK fun K hK => ?_
    refine OW.run [1, 6] ?_
    simp (config := { maxSteps := 2000000 }) only [go_sem, ↓reduceIte, Nat.reduceEqDiff, Nat.reduceLT, Nat.reduceLeDiff, Nat.reduceAdd, Nat.reduceMul, Nat.reduceSub, Nat.reduceBEq, Int.reduceToNat, and_assoc, wrap_w64, wrap_wu64, wrap_wu8, wrap_wu32, wrap_wi32, bits_i64, bits_u64, bit_and, bit_or, bit_xor, shr1, shl1, shr_w, shl_w, rep_I, rep_Bo, seg_mapV, allOne_mapI, ite_or_not, ite_and_not, take_mapF, drop_mapF, Nat.sub_zero, Option.map_some, Option.map_none]
    refine OW.nil (hK _ ?_)
    clear hK K
    change PW _ _ _ _ _
    refine PW.joinS (τ := Int) [1, 6] 1 (fun best => [(6, .d (I best))]) (fun best => [{ cells := [.d (I c_Power), .d (L c_Info)], e := 24 }]) _ _ r (by exact Nat.zero_le _) hrun ?_ ?_
    · intro K_ hrun N2 hN2
      refine PW.seq ?_
      refine PW.regionK fun K hK => ?_
      refine OW.run [1, 6, 16, 17, 18] ?_
      simp (config := { maxSteps := 2000000 }) only [go_sem, ↓reduceIte, Nat.reduceEqDiff, Nat.reduceLT, Nat.reduceLeDiff, Nat.reduceAdd, Nat.reduceMul, Nat.reduceSub, Nat.reduceBEq, Int.reduceToNat, and_assoc, wrap_w64, wrap_wu64, wrap_wu8, wrap_wu32, wrap_wi32, bits_i64, bits_u64, bit_and, bit_or, bit_xor, shr1, shl1, shr_w, shl_w, rep_I, rep_Bo, seg_mapV, allOne_mapI, ite_or_not, ite_and_not, take_mapF, drop_mapF, Nat.sub_zero, Option.map_some, Option.map_none]
      refine And.intro (by omega) ?_
      refine OW.nil (hK _ ?_)
      clear hK K
      change PW _ _ _ _ _
      refine PW.block ?_
      refine PW.loopS (σ := Int × Int) [1, 6, 16, 17, 18] 1 (fun (best1, t18) => [(6, .d (I best1)), (18, .d (I t18))]) (fun (best1, t18) => [{ cells := [.d (I c_Power), .d (L c_Info)], e := 24 }]) (code_DistanceOf.b1 N c_Info K_) r N ((0 : Int), (0 : Int)) (by exact Nat.zero_le _) hrun (by (simp only [Env.frzL, Env.frz, frzOb, V.frz, V.frz.frzs, asD, map_asD, map_nz_I, map_nz_Bo, map_nz_Sx, map_nz_L, nz_int, nz_bool, nz_str, nz_list, nz_ref, nz_nil, map_toDs, toDs_nil, toDs_cons, toDs_append, toDs_mapD, toDs_seg, toDs_drop, toD_own, toD_ptr, toD_clo, toD_agg, toD_tup, map_nz_I, map_nz_Bo, map_nz_Sx, map_nz_L, seg_mapD, seg_flat, toD_d, nz_list, nz_int, nz_bool, nz_str, nz_agg, nz_tup, nz_clo, nz_ref, nz_nil, take_len, take_mapF, drop_mapF, List.length_set, List.length_replicate, List.drop_zero, go_sem, ↓reduceIte, Nat.reduceEqDiff, Nat.reduceLT, Nat.reduceLeDiff, Nat.reduceAdd, Nat.reduceMul, Nat.reduceSub, Nat.reduceBEq]; done)) ?_
      rintro n ⟨best1, t18⟩ hrun N3 hN3
      unfold code_DistanceOf.b1 at hrun
      try simp only [go_sem, ↓reduceIte, Nat.reduceEqDiff, Nat.reduceLT, Nat.reduceLeDiff, Nat.reduceAdd, Nat.reduceMul, Nat.reduceSub, Nat.reduceBEq]
      refine PW.seq ?_
      refine PW.regionK fun K hK => ?_
      refine OW.run [1, 6, 16, 17, 18, 19] ?_
      simp (config := { maxSteps := 2000000 }) only [go_sem, ↓reduceIte, Nat.reduceEqDiff, Nat.reduceLT, Nat.reduceLeDiff, Nat.reduceAdd, Nat.reduceMul, Nat.reduceSub, Nat.reduceBEq, Int.reduceToNat, and_assoc, wrap_w64, wrap_wu64, wrap_wu8, wrap_wu32, wrap_wi32, bits_i64, bits_u64, bit_and, bit_or, bit_xor, shr1, shl1, shr_w, shl_w, rep_I, rep_Bo, seg_mapV, allOne_mapI, ite_or_not, ite_and_not, take_mapF, drop_mapF, Nat.sub_zero, Option.map_some, Option.map_none]
      refine OW.nil (hK _ ?_)
      clear hK K
      change PW _ _ _ _ _
      refine PW.seq ?_
      refine PW.cond rfl (fun h4 => ?_) (fun h4 => ?_)
      · replace hrun := br_t h4 hrun
        refine PW.skip ?_
        change PW _ _ _ _ _
        refine PW.seq ?_
        refine PW.block ?_
        refine PW.seq ?_
        obtain ⟨c5, hrun⟩ := chk_some hrun
        refine PW.regionK fun K hK => ?_
        refine OW.run [1, 6, 7, 8, 16, 17, 18] ?_
        simp (config := { maxSteps := 2000000 }) only [go_sem, ↓reduceIte, Nat.reduceEqDiff, Nat.reduceLT, Nat.reduceLeDiff, Nat.reduceAdd, Nat.reduceMul, Nat.reduceSub, Nat.reduceBEq, Int.reduceToNat, and_assoc, wrap_w64, wrap_wu64, wrap_wu8, wrap_wu32, wrap_wi32, bits_i64, bits_u64, bit_and, bit_or, bit_xor, shr1, shl1, shr_w, shl_w, rep_I, rep_Bo, seg_mapV, allOne_mapI, ite_or_not, ite_and_not, take_mapF, drop_mapF, Nat.sub_zero, Option.map_some, Option.map_none]
        refine And.intro (by omega) (And.intro (by omega) (And.intro (by omega) (And.intro (by omega) ?_)))
        refine OW.nil (hK _ ?_)
        clear hK K
        change PW _ _ _ _ _
        refine PW.seq ?_
        obtain ⟨x2, e2, hrun⟩ := bnd_some hrun
        obtain ⟨c6, hrun⟩ := chk_some hrun
        obtain ⟨x3, e3, hrun⟩ := bnd_some hrun
        refine PW.drawK 7 mixed (by kernel_rfl) fun K hK => ?_
        change FW _ _ _ _ _
        refine FW.run ?_
        simp (config := { maxSteps := 2000000 }) only [go_sem, ↓reduceIte, Nat.reduceEqDiff, Nat.reduceLT, Nat.reduceLeDiff, Nat.reduceAdd, Nat.reduceMul, Nat.reduceSub, Nat.reduceBEq, Int.reduceToNat, and_assoc, wrap_w64, wrap_wu64, wrap_wu8, wrap_wu32, wrap_wi32, bits_i64, bits_u64, bit_and, bit_or, bit_xor, shr1, shl1, shr_w, shl_w, rep_I, rep_Bo, seg_mapV, allOne_mapI, ite_or_not, ite_and_not, take_mapF, drop_mapF, Nat.sub_zero, Option.map_some, Option.map_none]
        refine FW.call' 4 rfl rfl rfl (by ((simp only [go_sem, List.toList_toArray, ↓reduceIte, Nat.reduceEqDiff, Nat.reduceLT, Nat.reduceBEq]); exact rfl)) ?_ (code_ones_ok N _ _ e2) ?_ ?_ ?_ ?_
        · rfl
        · exact okD_all rfl
        · exact .inl rfl
        · (simp only [go_sem, Nat.reduceLT])
        refine FW.run ?_
        simp (config := { maxSteps := 2000000 }) only [go_sem, ↓reduceIte, Nat.reduceEqDiff, Nat.reduceLT, Nat.reduceLeDiff, Nat.reduceAdd, Nat.reduceMul, Nat.reduceSub, Nat.reduceBEq, Int.reduceToNat, and_assoc, wrap_w64, wrap_wu64, wrap_wu8, wrap_wu32, wrap_wi32, bits_i64, bits_u64, bit_and, bit_or, bit_xor, shr1, shl1, shr_w, shl_w, rep_I, rep_Bo, seg_mapV, allOne_mapI, ite_or_not, ite_and_not, take_mapF, drop_mapF, Nat.sub_zero, Option.map_some, Option.map_none]
        refine And.intro (by omega) (And.intro (by omega) (And.intro (by omega) (And.intro (by omega) (And.intro (by omega) ?_))))
        refine FW.nil ?_
        change OW _ _ _ _ _ _
        refine OW.run [1, 6, 7, 16, 17, 18, 31] ?_
        simp (config := { maxSteps := 2000000 }) only [go_sem, ↓reduceIte, Nat.reduceEqDiff, Nat.reduceLT, Nat.reduceLeDiff, Nat.reduceAdd, Nat.reduceMul, Nat.reduceSub, Nat.reduceBEq, Int.reduceToNat, and_assoc, wrap_w64, wrap_wu64, wrap_wu8, wrap_wu32, wrap_wi32, bits_i64, bits_u64, bit_and, bit_or, bit_xor, shr1, shl1, shr_w, shl_w, rep_I, rep_Bo, seg_mapV, allOne_mapI, ite_or_not, ite_and_not, take_mapF, drop_mapF, Nat.sub_zero, Option.map_some, Option.map_none]
        refine OW.call' 4 rfl rfl rfl (by ((simp only [go_sem, List.toList_toArray, ↓reduceIte, Nat.reduceEqDiff, Nat.reduceLT, Nat.reduceBEq]); exact rfl)) ?_ (code_ones_ok N _ _ e3) ?_ ?_ ?_ ?_
        · rfl
        · exact okD_all rfl
        · exact .inl rfl
        · (simp only [go_sem, Nat.reduceLT])
        refine OW.run [1, 6, 7, 16, 17, 18, 31] ?_
        simp (config := { maxSteps := 2000000 }) only [go_sem, ↓reduceIte, Nat.reduceEqDiff, Nat.reduceLT, Nat.reduceLeDiff, Nat.reduceAdd, Nat.reduceMul, Nat.reduceSub, Nat.reduceBEq, Int.reduceToNat, and_assoc, wrap_w64, wrap_wu64, wrap_wu8, wrap_wu32, wrap_wi32, bits_i64, bits_u64, bit_and, bit_or, bit_xor, shr1, shl1, shr_w, shl_w, rep_I, rep_Bo, seg_mapV, allOne_mapI, ite_or_not, ite_and_not, take_mapF, drop_mapF, Nat.sub_zero, Option.map_some, Option.map_none]
        refine OW.nil (hK _ ?_)
        clear hK K
        change PW _ _ _ _ _
        refine PW.cond rfl (fun h7 => ?_) (fun h7 => ?_)
        · replace hrun := br_t h7 hrun
          refine PW.regionK fun K hK => ?_
          refine OW.run [1, 6, 16, 17, 18] ?_
          simp (config := { maxSteps := 2000000 }) only [go_sem, ↓reduceIte, Nat.reduceEqDiff, Nat.reduceLT, Nat.reduceLeDiff, Nat.reduceAdd, Nat.reduceMul, Nat.reduceSub, Nat.reduceBEq, Int.reduceToNat, and_assoc, wrap_w64, wrap_wu64, wrap_wu8, wrap_wu32, wrap_wi32, bits_i64, bits_u64, bit_and, bit_or, bit_xor, shr1, shl1, shr_w, shl_w, rep_I, rep_Bo, seg_mapV, allOne_mapI, ite_or_not, ite_and_not, take_mapF, drop_mapF, Nat.sub_zero, Option.map_some, Option.map_none]
          refine OW.nil (hK _ ?_)
          clear hK K
          change PW _ _ _ _ _
          refine PW.regionK fun K hK => ?_
          refine OW.run [1, 6, 16, 17, 18] ?_
          simp (config := { maxSteps := 2000000 }) only [go_sem, ↓reduceIte, Nat.reduceEqDiff, Nat.reduceLT, Nat.reduceLeDiff, Nat.reduceAdd, Nat.reduceMul, Nat.reduceSub, Nat.reduceBEq, Int.reduceToNat, and_assoc, wrap_w64, wrap_wu64, wrap_wu8, wrap_wu32, wrap_wi32, bits_i64, bits_u64, bit_and, bit_or, bit_xor, shr1, shl1, shr_w, shl_w, rep_I, rep_Bo, seg_mapV, allOne_mapI, ite_or_not, ite_and_not, take_mapF, drop_mapF, Nat.sub_zero, Option.map_some, Option.map_none]
          refine OW.nil (hK _ ?_)
          clear hK K
          refine hN3 [] (t18, w64 (t18 + (1 : Int))) _ hrun (by exact trivial) ?_
          (simp only [Env.frzL, Env.frz, frzOb, V.frz, V.frz.frzs, asD, map_asD, map_nz_I, map_nz_Bo, map_nz_Sx, map_nz_L, nz_int, nz_bool, nz_str, nz_list, nz_ref, nz_nil, map_toDs, toDs_nil, toDs_cons, toDs_append, toDs_mapD, toDs_seg, toDs_drop, toD_own, toD_ptr, toD_clo, toD_agg, toD_tup, map_nz_I, map_nz_Bo, map_nz_Sx, map_nz_L, seg_mapD, seg_flat, toD_d, nz_list, nz_int, nz_bool, nz_str, nz_agg, nz_tup, nz_clo, nz_ref, nz_nil, take_len, take_mapF, drop_mapF, List.length_set, List.length_replicate, List.drop_zero, go_sem, ↓reduceIte, Nat.reduceEqDiff, Nat.reduceLT, Nat.reduceLeDiff, Nat.reduceAdd, Nat.reduceMul, Nat.reduceSub, Nat.reduceBEq]; done)
        · replace hrun := br_f h7 hrun
          refine PW.skip ?_
          change PW _ _ _ _ _
          refine PW.regionK fun K hK => ?_
          refine OW.run [1, 6, 16, 17, 18] ?_
          simp (config := { maxSteps := 2000000 }) only [go_sem, ↓reduceIte, Nat.reduceEqDiff, Nat.reduceLT, Nat.reduceLeDiff, Nat.reduceAdd, Nat.reduceMul, Nat.reduceSub, Nat.reduceBEq, Int.reduceToNat, and_assoc, wrap_w64, wrap_wu64, wrap_wu8, wrap_wu32, wrap_wi32, bits_i64, bits_u64, bit_and, bit_or, bit_xor, shr1, shl1, shr_w, shl_w, rep_I, rep_Bo, seg_mapV, allOne_mapI, ite_or_not, ite_and_not, take_mapF, drop_mapF, Nat.sub_zero, Option.map_some, Option.map_none]
          refine OW.nil (hK _ ?_)
          clear hK K
          refine hN3 [] (best1, w64 (t18 + (1 : Int))) _ hrun (by exact trivial) ?_
          (simp only [Env.frzL, Env.frz, frzOb, V.frz, V.frz.frzs, asD, map_asD, map_nz_I, map_nz_Bo, map_nz_Sx, map_nz_L, nz_int, nz_bool, nz_str, nz_list, nz_ref, nz_nil, map_toDs, toDs_nil, toDs_cons, toDs_append, toDs_mapD, toDs_seg, toDs_drop, toD_own, toD_ptr, toD_clo, toD_agg, toD_tup, map_nz_I, map_nz_Bo, map_nz_Sx, map_nz_L, seg_mapD, seg_flat, toD_d, nz_list, nz_int, nz_bool, nz_str, nz_agg, nz_tup, nz_clo, nz_ref, nz_nil, take_len, take_mapF, drop_mapF, List.length_set, List.length_replicate, List.drop_zero, go_sem, ↓reduceIte, Nat.reduceEqDiff, Nat.reduceLT, Nat.reduceLeDiff, Nat.reduceAdd, Nat.reduceMul, Nat.reduceSub, Nat.reduceBEq]; done)
      · replace hrun := br_f h4 hrun
        refine PW.exit ?_
        refine hN2 [] best1 _ hrun (by exact trivial) ?_
        (simp only [Env.frzL, Env.frz, frzOb, V.frz, V.frz.frzs, asD, map_asD, map_nz_I, map_nz_Bo, map_nz_Sx, map_nz_L, nz_int, nz_bool, nz_str, nz_list, nz_ref, nz_nil, map_toDs, toDs_nil, toDs_cons, toDs_append, toDs_mapD, toDs_seg, toDs_drop, toD_own, toD_ptr, toD_clo, toD_agg, toD_tup, map_nz_I, map_nz_Bo, map_nz_Sx, map_nz_L, seg_mapD, seg_flat, toD_d, nz_list, nz_int, nz_bool, nz_str, nz_agg, nz_tup, nz_clo, nz_ref, nz_nil, take_len, take_mapF, drop_mapF, List.length_set, List.length_replicate, List.drop_zero, go_sem, ↓reduceIte, Nat.reduceEqDiff, Nat.reduceLT, Nat.reduceLeDiff, Nat.reduceAdd, Nat.reduceMul, Nat.reduceSub, Nat.reduceBEq]; done)
    · rintro best hrun
      try simp only [go_sem, ↓reduceIte, Nat.reduceEqDiff, Nat.reduceLT, Nat.reduceLeDiff, Nat.reduceAdd, Nat.reduceMul, Nat.reduceSub, Nat.reduceBEq]
      refine PW.seq ?_
      obtain ⟨c8, hrun⟩ := chk_some hrun
      refine PW.regionK fun K hK => ?_
      refine OW.run [1, 6, 9] ?_
      simp (config := { maxSteps := 2000000 }) only [go_sem, ↓reduceIte, Nat.reduceEqDiff, Nat.reduceLT, Nat.reduceLeDiff, Nat.reduceAdd, Nat.reduceMul, Nat.reduceSub, Nat.reduceBEq, Int.reduceToNat, and_assoc, wrap_w64, wrap_wu64, wrap_wu8, wrap_wu32, wrap_wi32, bits_i64, bits_u64, bit_and, bit_or, bit_xor, shr1, shl1, shr_w, shl_w, rep_I, rep_Bo, seg_mapV, allOne_mapI, ite_or_not, ite_and_not, take_mapF, drop_mapF, Nat.sub_zero, Option.map_some, Option.map_none]
      refine And.intro (by omega) (And.intro (by omega) (And.intro (by omega) (And.intro (by omega) ?_)))
      refine OW.nil (hK _ ?_)
      clear hK K
      change PW _ _ _ _ _
      refine PW.seq ?_
      obtain ⟨c9, hrun⟩ := chk_some hrun
      refine PW.regionK fun K hK => ?_
      refine OW.run [1, 6, 9] ?_
      simp (config := { maxSteps := 2000000 }) only [go_sem, ↓reduceIte, Nat.reduceEqDiff, Nat.reduceLT, Nat.reduceLeDiff, Nat.reduceAdd, Nat.reduceMul, Nat.reduceSub, Nat.reduceBEq, Int.reduceToNat, and_assoc, wrap_w64, wrap_wu64, wrap_wu8, wrap_wu32, wrap_wi32, bits_i64, bits_u64, bit_and, bit_or, bit_xor, shr1, shl1, shr_w, shl_w, rep_I, rep_Bo, seg_mapV, allOne_mapI, ite_or_not, ite_and_not, take_mapF, drop_mapF, Nat.sub_zero, Option.map_some, Option.map_none]
      refine And.intro (by omega) (And.intro (by (simp only [List.length_map, List.length_replicate, List.length_append, List.length_take, List.length_drop, List.length_set, List.length_cons, List.length_nil, Int.toNat_natCast] at *; omega)) (And.intro (by (simp only [List.length_map, List.length_replicate, List.length_append, List.length_take, List.length_drop, List.length_set, List.length_cons, List.length_nil, Int.toNat_natCast] at *; omega)) ?_))
      refine OW.nil (hK _ ?_)
      clear hK K
      change PW _ _ _ _ _
      refine PW.seq ?_
      obtain ⟨c10, hrun⟩ := chk_some hrun
      obtain ⟨x4, e4, hrun⟩ := bnd_some hrun
      obtain ⟨c11, hrun⟩ := chk_some hrun
      refine PW.regionK fun K hK => ?_
      refine OW.run [2, 3, 4] ?_
      simp (config := { maxSteps := 2000000 }) only [go_sem, ↓reduceIte, Nat.reduceEqDiff, Nat.reduceLT, Nat.reduceLeDiff, Nat.reduceAdd, Nat.reduceMul, Nat.reduceSub, Nat.reduceBEq, Int.reduceToNat, and_assoc, wrap_w64, wrap_wu64, wrap_wu8, wrap_wu32, wrap_wi32, bits_i64, bits_u64, bit_and, bit_or, bit_xor, shr1, shl1, shr_w, shl_w, rep_I, rep_Bo, seg_mapV, allOne_mapI, ite_or_not, ite_and_not, take_mapF, drop_mapF, Nat.sub_zero, Option.map_some, Option.map_none]
      refine And.intro (by omega) (And.intro (by omega) (And.intro (by omega) (And.intro (by omega) (And.intro (by omega) ?_))))
      refine OW.call' 4 rfl rfl rfl (by ((simp only [go_sem, List.toList_toArray, ↓reduceIte, Nat.reduceEqDiff, Nat.reduceLT, Nat.reduceBEq]); exact rfl)) ?_ (code_ones_ok N _ _ e4) ?_ ?_ ?_ ?_
      · rfl
      · exact okD_all rfl
      · exact .inl rfl
      · (simp only [go_sem, Nat.reduceLT])
      refine OW.run [2, 3, 4] ?_
      simp (config := { maxSteps := 2000000 }) only [go_sem, ↓reduceIte, Nat.reduceEqDiff, Nat.reduceLT, Nat.reduceLeDiff, Nat.reduceAdd, Nat.reduceMul, Nat.reduceSub, Nat.reduceBEq, Int.reduceToNat, and_assoc, wrap_w64, wrap_wu64, wrap_wu8, wrap_wu32, wrap_wi32, bits_i64, bits_u64, bit_and, bit_or, bit_xor, shr1, shl1, shr_w, shl_w, rep_I, rep_Bo, seg_mapV, allOne_mapI, ite_or_not, ite_and_not, take_mapF, drop_mapF, Nat.sub_zero, Option.map_some, Option.map_none]
      refine And.intro (by omega) ?_
      refine OW.nil (hK _ ?_)
      clear hK K
      change PW _ _ _ _ _
      refine PW.ret ?_
      change PW.Ends _ _ _ _ _ _
      refine PW.Ends.intro (.inr rfl) ?_
      simp (config := { maxSteps := 2000000 }) only [go_sem, ↓reduceIte, Nat.reduceEqDiff, Nat.reduceLT, Nat.reduceLeDiff, Nat.reduceAdd, Nat.reduceMul, Nat.reduceSub, Nat.reduceBEq, Int.reduceToNat, and_assoc, wrap_w64, wrap_wu64, wrap_wu8, wrap_wu32, wrap_wi32, bits_i64, bits_u64, bit_and, bit_or, bit_xor, shr1, shl1, shr_w, shl_w, rep_I, rep_Bo, seg_mapV, allOne_mapI, ite_or_not, ite_and_not, take_mapF, drop_mapF, Nat.sub_zero, Option.map_some, Option.map_none]
      obtain rfl := Option.some.inj hrun
      refine RetOK.data' 4 (by (refine okAll_intro ?_; (simp only [go_sem, okAll_nil, okAll_cons, okAll_append, okD_dd, okAll_mapD, okAll_segD, okAll_dropD, okD_own, okD_ptr, okD_clo, okD_agg, okD_tup, List.length_set, List.length_replicate, and_true, true_and, Nat.le_refl, ↓reduceIte, Nat.reduceEqDiff, Nat.reduceLT, Nat.reduceLeDiff, Nat.reduceAdd, Nat.reduceMul, Nat.reduceSub, Nat.reduceBEq]; done))) ?_
      (((simp only [go_sem, map_toDs, toDs_nil, toDs_cons, toDs_append, toDs_mapD, toDs_seg, toDs_drop, toD_own, toD_ptr, toD_clo, toD_agg, toD_tup, map_nz_I, map_nz_Bo, map_nz_Sx, map_nz_L, seg_mapD, seg_flat, toD_d, nz_list, nz_int, nz_bool, nz_str, nz_agg, nz_tup, nz_clo, nz_ref, nz_nil, take_len, take_mapF, drop_mapF, List.length_set, List.length_replicate, List.drop_zero, ↓reduceIte, Nat.reduceEqDiff, Nat.reduceLT, Nat.reduceLeDiff, Nat.reduceAdd, Nat.reduceMul, Nat.reduceSub, Nat.reduceBEq]; try simp only [seg, go_sem, ↓reduceIte, Nat.reduceEqDiff, Nat.reduceLT, Nat.reduceLeDiff, Nat.reduceAdd, Nat.reduceMul, Nat.reduceSub, Nat.reduceBEq])); (repeat' (first | rfl | (refine list_congr ?_; simp only [List.length_take, List.length_drop, List.length_set, List.length_replicate] <;> omega) | (refine congr (congrArg List.cons ?_) ?_) | (refine congrArg D.agg ?_) | (refine congrArg D.tup ?_) | (refine congrArg D.ref ?_) | (refine congrArg (D.list _) ?_) | (refine congrArg (D.clo _) ?_))))

set_option maxRecDepth 20000 in
set_option maxHeartbeats 8000000 in
theorem law02_ones_ok (N : Nat) (bits : List Int) (r : Int) (hrun : law02_ones N bits = some r) : CallOK Try.prog 47 [(L bits)] (.d (I r)) [] := by
  refine CallOK.of_PW Try.func47 rfl (by rw [Try.results47]) Try.ntmps47 Try.call47 ?_
  change PW _ _ _ _ _
  try simp only [go_sem, ↓reduceIte, Nat.reduceEqDiff, Nat.reduceLT, Nat.reduceLeDiff, Nat.reduceAdd, Nat.reduceMul, Nat.reduceSub, Nat.reduceBEq]
  unfold law02_ones at hrun
  refine PW.seq ?_
  refine PW.regionK fun K hK => ?_
  refine OW.run [0] ?_
  simp (config := { maxSteps := 2000000 }) only [go_sem, ↓reduceIte, Nat.reduceEqDiff, Nat.reduceLT, Nat.reduceLeDiff, Nat.reduceAdd, Nat.reduceMul, Nat.reduceSub, Nat.reduceBEq, Int.reduceToNat, and_assoc, wrap_w64, wrap_wu64, wrap_wu8, wrap_wu32, wrap_wi32, bits_i64, bits_u64, bit_and, bit_or, bit_xor, shr1, shl1, shr_w, shl_w, rep_I, rep_Bo, seg_mapV, allOne_mapI, ite_or_not, ite_and_not, take_mapF, drop_mapF, Nat.sub_zero, Option.map_some, Option.map_none]
  refine OW.nil (hK _ ?_)
  clear hK K
  change PW _ _ _ _ _
  refine PW.seq ?_
  refine PW.regionK fun K hK => ?_
  refine OW.run [0, 3] ?_
  simp (config := { maxSteps := 2000000 }) only [go_sem, ↓reduceIte, Nat.reduceEqDiff, Nat.reduceLT, Nat.reduceLeDiff, Nat.reduceAdd, Nat.reduceMul, Nat.reduceSub, Nat.reduceBEq, Int.reduceToNat, and_assoc, wrap_w64, wrap_wu64, wrap_wu8, wrap_wu32, wrap_wi32, bits_i64, bits_u64, bit_and, bit_or, bit_xor, shr1, shl1, shr_w, shl_w, rep_I, rep_Bo, seg_mapV, allOne_mapI, ite_or_not, ite_and_not, take_mapF, drop_mapF, Nat.sub_zero, Option.map_some, Option.map_none]
  refine OW.nil (hK _ ?_)
  clear hK K
  change PW _ _ _ _ _
  refine PW.joinS (τ := Int) [3] 0 (fun n => [(3, .d (I n))]) (fun n => []) _ _ r (by exact Nat.le_refl _) hrun ?_ ?_
  · intro K_ hrun N1 hN1
    refine PW.seq ?_
    refine PW.regionK fun K hK => ?_
    refine OW.run [0, 3, 4] ?_
    simp (config := { maxSteps := 2000000 }) only [go_sem, ↓reduceIte, Nat.reduceEqDiff, Nat.reduceLT, Nat.reduceLeDiff, Nat.reduceAdd, Nat.reduceMul, Nat.reduceSub, Nat.reduceBEq, Int.reduceToNat, and_assoc, wrap_w64, wrap_wu64, wrap_wu8, wrap_wu32, wrap_wi32, bits_i64, bits_u64, bit_and, bit_or, bit_xor, shr1, shl1, shr_w, shl_w, rep_I, rep_Bo, seg_mapV, allOne_mapI, ite_or_not, ite_and_not, take_mapF, drop_mapF, Nat.sub_zero, Option.map_some, Option.map_none]
    refine OW.nil (hK _ ?_)
    clear hK K
    change PW _ _ _ _ _
    refine PW.block ?_
    refine PW.loopS (σ := Int × Int) [0, 3, 4] 0 (fun (n1, i) => [(3, .d (I n1)), (4, .d (I i))]) (fun (n1, i) => []) (law02_ones.b1 N bits K_) r N ((0 : Int), (0 : Int)) (by exact Nat.le_refl _) hrun (by (simp only [Env.frzL, Env.frz, frzOb, V.frz, V.frz.frzs, asD, map_asD, map_nz_I, map_nz_Bo, map_nz_Sx, map_nz_L, nz_int, nz_bool, nz_str, nz_list, nz_ref, nz_nil, map_toDs, toDs_nil, toDs_cons, toDs_append, toDs_mapD, toDs_seg, toDs_drop, toD_own, toD_ptr, toD_clo, toD_agg, toD_tup, map_nz_I, map_nz_Bo, map_nz_Sx, map_nz_L, seg_mapD, seg_flat, toD_d, nz_list, nz_int, nz_bool, nz_str, nz_agg, nz_tup, nz_clo, nz_ref, nz_nil, take_len, take_mapF, drop_mapF, List.length_set, List.length_replicate, List.drop_zero, go_sem, ↓reduceIte, Nat.reduceEqDiff, Nat.reduceLT, Nat.reduceLeDiff, Nat.reduceAdd, Nat.reduceMul, Nat.reduceSub, Nat.reduceBEq]; done)) ?_
    rintro n ⟨n1, i⟩ hrun N2 hN2
    unfold law02_ones.b1 at hrun
    try simp only [go_sem, ↓reduceIte, Nat.reduceEqDiff, Nat.reduceLT, Nat.reduceLeDiff, Nat.reduceAdd, Nat.reduceMul, Nat.reduceSub, Nat.reduceBEq]
    refine PW.seq ?_
    refine PW.seq ?_
    refine PW.regionK fun K hK => ?_
    refine OW.run [0, 3, 4, 8] ?_
    simp (config := { maxSteps := 2000000 }) only [go_sem, ↓reduceIte, Nat.reduceEqDiff, Nat.reduceLT, Nat.reduceLeDiff, Nat.reduceAdd, Nat.reduceMul, Nat.reduceSub, Nat.reduceBEq, Int.reduceToNat, and_assoc, wrap_w64, wrap_wu64, wrap_wu8, wrap_wu32, wrap_wi32, bits_i64, bits_u64, bit_and, bit_or, bit_xor, shr1, shl1, shr_w, shl_w, rep_I, rep_Bo, seg_mapV, allOne_mapI, ite_or_not, ite_and_not, take_mapF, drop_mapF, Nat.sub_zero, Option.map_some, Option.map_none]
    refine OW.nil (hK _ ?_)
    clear hK K
    change PW _ _ _ _ _
    refine PW.cond rfl (fun h3 => ?_) (fun h3 => ?_)
    · replace hrun := br_t h3 hrun
      refine PW.skip ?_
      change PW _ _ _ _ _
      refine PW.seq ?_
      refine PW.block ?_
      obtain ⟨c4, hrun⟩ := chk_some hrun
      obtain ⟨x1, e1, hrun⟩ := bnd_some hrun
      refine PW.regionK fun K hK => ?_
      refine OW.run [0, 3, 4] ?_
      simp (config := { maxSteps := 2000000 }) only [go_sem, ↓reduceIte, Nat.reduceEqDiff, Nat.reduceLT, Nat.reduceLeDiff, Nat.reduceAdd, Nat.reduceMul, Nat.reduceSub, Nat.reduceBEq, Int.reduceToNat, and_assoc, wrap_w64, wrap_wu64, wrap_wu8, wrap_wu32, wrap_wi32, bits_i64, bits_u64, bit_and, bit_or, bit_xor, shr1, shl1, shr_w, shl_w, rep_I, rep_Bo, seg_mapV, allOne_mapI, ite_or_not, ite_and_not, take_mapF, drop_mapF, Nat.sub_zero, Option.map_some, Option.map_none]
      refine And.intro (by omega) (And.intro (by omega) (And.intro (by omega) (And.intro (by omega) ?_)))
      refine OW.call' 4 rfl rfl rfl (by ((simp only [go_sem, List.toList_toArray, ↓reduceIte, Nat.reduceEqDiff, Nat.reduceLT, Nat.reduceBEq]); exact rfl)) ?_ (base_Mod_ok N _ _ _ e1) ?_ ?_ ?_ ?_
      · rfl
      · exact okD_all rfl
      · exact .inl rfl
      · (simp only [go_sem, Nat.reduceLT])
      refine OW.run [0, 3, 4] ?_
      simp (config := { maxSteps := 2000000 }) only [go_sem, ↓reduceIte, Nat.reduceEqDiff, Nat.reduceLT, Nat.reduceLeDiff, Nat.reduceAdd, Nat.reduceMul, Nat.reduceSub, Nat.reduceBEq, Int.reduceToNat, and_assoc, wrap_w64, wrap_wu64, wrap_wu8, wrap_wu32, wrap_wi32, bits_i64, bits_u64, bit_and, bit_or, bit_xor, shr1, shl1, shr_w, shl_w, rep_I, rep_Bo, seg_mapV, allOne_mapI, ite_or_not, ite_and_not, take_mapF, drop_mapF, Nat.sub_zero, Option.map_some, Option.map_none]
      refine OW.nil (hK _ ?_)
      clear hK K
      change PW _ _ _ _ _
      refine PW.regionK fun K hK => ?_
      refine OW.run [0, 3, 4] ?_
      simp (config := { maxSteps := 2000000 }) only [go_sem, ↓reduceIte, Nat.reduceEqDiff, Nat.reduceLT, Nat.reduceLeDiff, Nat.reduceAdd, Nat.reduceMul, Nat.reduceSub, Nat.reduceBEq, Int.reduceToNat, and_assoc, wrap_w64, wrap_wu64, wrap_wu8, wrap_wu32, wrap_wi32, bits_i64, bits_u64, bit_and, bit_or, bit_xor, shr1, shl1, shr_w, shl_w, rep_I, rep_Bo, seg_mapV, allOne_mapI, ite_or_not, ite_and_not, take_mapF, drop_mapF, Nat.sub_zero, Option.map_some, Option.map_none]
      refine OW.nil (hK _ ?_)
      clear hK K
      refine hN2 [] (w64 (n1 + x1), w64 (i + (1 : Int))) _ hrun (by exact trivial) ?_
      (simp only [Env.frzL, Env.frz, frzOb, V.frz, V.frz.frzs, asD, map_asD, map_nz_I, map_nz_Bo, map_nz_Sx, map_nz_L, nz_int, nz_bool, nz_str, nz_list, nz_ref, nz_nil, map_toDs, toDs_nil, toDs_cons, toDs_append, toDs_mapD, toDs_seg, toDs_drop, toD_own, toD_ptr, toD_clo, toD_agg, toD_tup, map_nz_I, map_nz_Bo, map_nz_Sx, map_nz_L, seg_mapD, seg_flat, toD_d, nz_list, nz_int, nz_bool, nz_str, nz_agg, nz_tup, nz_clo, nz_ref, nz_nil, take_len, take_mapF, drop_mapF, List.length_set, List.length_replicate, List.drop_zero, go_sem, ↓reduceIte, Nat.reduceEqDiff, Nat.reduceLT, Nat.reduceLeDiff, Nat.reduceAdd, Nat.reduceMul, Nat.reduceSub, Nat.reduceBEq]; done)
    · replace hrun := br_f h3 hrun
      refine PW.exit ?_
      refine hN1 [] n1 _ hrun (by exact trivial) ?_
      (simp only [Env.frzL, Env.frz, frzOb, V.frz, V.frz.frzs, asD, map_asD, map_nz_I, map_nz_Bo, map_nz_Sx, map_nz_L, nz_int, nz_bool, nz_str, nz_list, nz_ref, nz_nil, map_toDs, toDs_nil, toDs_cons, toDs_append, toDs_mapD, toDs_seg, toDs_drop, toD_own, toD_ptr, toD_clo, toD_agg, toD_tup, map_nz_I, map_nz_Bo, map_nz_Sx, map_nz_L, seg_mapD, seg_flat, toD_d, nz_list, nz_int, nz_bool, nz_str, nz_agg, nz_tup, nz_clo, nz_ref, nz_nil, take_len, take_mapF, drop_mapF, List.length_set, List.length_replicate, List.drop_zero, go_sem, ↓reduceIte, Nat.reduceEqDiff, Nat.reduceLT, Nat.reduceLeDiff, Nat.reduceAdd, Nat.reduceMul, Nat.reduceSub, Nat.reduceBEq]; done)
  · rintro n hrun
    try simp only [go_sem, ↓reduceIte, Nat.reduceEqDiff, Nat.reduceLT, Nat.reduceLeDiff, Nat.reduceAdd, Nat.reduceMul, Nat.reduceSub, Nat.reduceBEq]
    refine PW.seq ?_
    refine PW.regionK fun K hK => ?_
    refine OW.run [2] ?_
    simp (config := { maxSteps := 2000000 }) only [go_sem, ↓reduceIte, Nat.reduceEqDiff, Nat.reduceLT, Nat.reduceLeDiff, Nat.reduceAdd, Nat.reduceMul, Nat.reduceSub, Nat.reduceBEq, Int.reduceToNat, and_assoc, wrap_w64, wrap_wu64, wrap_wu8, wrap_wu32, wrap_wi32, bits_i64, bits_u64, bit_and, bit_or, bit_xor, shr1, shl1, shr_w, shl_w, rep_I, rep_Bo, seg_mapV, allOne_mapI, ite_or_not, ite_and_not, take_mapF, drop_mapF, Nat.sub_zero, Option.map_some, Option.map_none]
    refine OW.nil (hK _ ?_)
    clear hK K
    change PW _ _ _ _ _
    refine PW.ret ?_
    change PW.Ends _ _ _ _ _ _
    refine PW.Ends.intro (.inr rfl) ?_
    simp (config := { maxSteps := 2000000 }) only [go_sem, ↓reduceIte, Nat.reduceEqDiff, Nat.reduceLT, Nat.reduceLeDiff, Nat.reduceAdd, Nat.reduceMul, Nat.reduceSub, Nat.reduceBEq, Int.reduceToNat, and_assoc, wrap_w64, wrap_wu64, wrap_wu8, wrap_wu32, wrap_wi32, bits_i64, bits_u64, bit_and, bit_or, bit_xor, shr1, shl1, shr_w, shl_w, rep_I, rep_Bo, seg_mapV, allOne_mapI, ite_or_not, ite_and_not, take_mapF, drop_mapF, Nat.sub_zero, Option.map_some, Option.map_none]
    obtain rfl := Option.some.inj hrun
    refine RetOK.data' 4 (by exact trivial) ?_
    rfl

set_option maxRecDepth 20000 in
set_option maxHeartbeats 8000000 in
theorem law02_CodeDistance_ok (N : Nat) (c_Power : Int) (c_Info : List Int) (a : List Int) (b : List Int) (r : Bool) (hrun : law02_CodeDistance N c_Power c_Info a b = some r) : CallOK Try.prog 6 [(.agg [(I c_Power), (L c_Info)]), (L a), (L b)] (.d (Bo r)) [] := by
  refine CallOK.of_PW Try.func6 rfl (by rw [Try.results6]) Try.ntmps6 Try.call6 ?_
  change PW _ _ _ _ _
  try simp only [go_sem, ↓reduceIte, Nat.reduceEqDiff, Nat.reduceLT, Nat.reduceLeDiff, Nat.reduceAdd, Nat.reduceMul, Nat.reduceSub, Nat.reduceBEq]
  unfold law02_CodeDistance at hrun
  refine PW.seq ?_
  refine PW.regionK fun K hK => ?_
  refine OW.run [1, 2, 3] ?_
  simp (config := { maxSteps := 2000000 }) only [go_sem, ↓reduceIte, Nat.reduceEqDiff, Nat.reduceLT, Nat.reduceLeDiff, Nat.reduceAdd, Nat.reduceMul, Nat.reduceSub, Nat.reduceBEq, Int.reduceToNat, and_assoc, wrap_w64, wrap_wu64, wrap_wu8, wrap_wu32, wrap_wi32, bits_i64, bits_u64, bit_and, bit_or, bit_xor, shr1, shl1, shr_w, shl_w, rep_I, rep_Bo, seg_mapV, allOne_mapI, ite_or_not, ite_and_not, take_mapF, drop_mapF, Nat.sub_zero, Option.map_some, Option.map_none]
  refine OW.nil (hK _ ?_)
  clear hK K
  change PW _ _ _ _ _
  refine PW.seq ?_
  refine PW.seq ?_
  obtain ⟨x1, e1, hrun⟩ := bnd_some hrun
  refine PW.regionK fun K hK => ?_
  refine OW.run [1, 2, 3, 24] ?_
  simp (config := { maxSteps := 2000000 }) only [go_sem, ↓reduceIte, Nat.reduceEqDiff, Nat.reduceLT, Nat.reduceLeDiff, Nat.reduceAdd, Nat.reduceMul, Nat.reduceSub, Nat.reduceBEq, Int.reduceToNat, and_assoc, wrap_w64, wrap_wu64, wrap_wu8, wrap_wu32, wrap_wi32, bits_i64, bits_u64, bit_and, bit_or, bit_xor, shr1, shl1, shr_w, shl_w, rep_I, rep_Bo, seg_mapV, allOne_mapI, ite_or_not, ite_and_not, take_mapF, drop_mapF, Nat.sub_zero, Option.map_some, Option.map_none]
  refine OW.call' 4 rfl rfl rfl (by ((simp only [go_sem, List.toList_toArray, ↓reduceIte, Nat.reduceEqDiff, Nat.reduceLT, Nat.reduceBEq]); exact rfl)) ?_ (law02_awake_ok N  _ e1) ?_ ?_ ?_ ?_
  · rfl
  · exact okD_all rfl
  · exact .inl rfl
  · (simp only [go_sem, Nat.reduceLT])
  refine OW.run [1, 2, 3, 24] ?_
  simp (config := { maxSteps := 2000000 }) only [go_sem, ↓reduceIte, Nat.reduceEqDiff, Nat.reduceLT, Nat.reduceLeDiff, Nat.reduceAdd, Nat.reduceMul, Nat.reduceSub, Nat.reduceBEq, Int.reduceToNat, and_assoc, wrap_w64, wrap_wu64, wrap_wu8, wrap_wu32, wrap_wi32, bits_i64, bits_u64, bit_and, bit_or, bit_xor, shr1, shl1, shr_w, shl_w, rep_I, rep_Bo, seg_mapV, allOne_mapI, ite_or_not, ite_and_not, take_mapF, drop_mapF, Nat.sub_zero, Option.map_some, Option.map_none]
  refine OW.nil (hK _ ?_)
  clear hK K
  change PW _ _ _ _ _
  refine PW.cond rfl (fun h1 => ?_) (fun h1 => ?_)
  · replace hrun := br_t h1 hrun
    refine PW.seq ?_
    refine PW.regionK fun K hK => ?_
    refine OW.run [6] ?_
    simp (config := { maxSteps := 2000000 }) only [go_sem, ↓reduceIte, Nat.reduceEqDiff, Nat.reduceLT, Nat.reduceLeDiff, Nat.reduceAdd, Nat.reduceMul, Nat.reduceSub, Nat.reduceBEq, Int.reduceToNat, and_assoc, wrap_w64, wrap_wu64, wrap_wu8, wrap_wu32, wrap_wi32, bits_i64, bits_u64, bit_and, bit_or, bit_xor, shr1, shl1, shr_w, shl_w, rep_I, rep_Bo, seg_mapV, allOne_mapI, ite_or_not, ite_and_not, take_mapF, drop_mapF, Nat.sub_zero, Option.map_some, Option.map_none]
    refine OW.nil (hK _ ?_)
    clear hK K
    change PW _ _ _ _ _
    refine PW.ret ?_
    change PW.Ends _ _ _ _ _ _
    refine PW.Ends.intro (.inr rfl) ?_
    simp (config := { maxSteps := 2000000 }) only [go_sem, ↓reduceIte, Nat.reduceEqDiff, Nat.reduceLT, Nat.reduceLeDiff, Nat.reduceAdd, Nat.reduceMul, Nat.reduceSub, Nat.reduceBEq, Int.reduceToNat, and_assoc, wrap_w64, wrap_wu64, wrap_wu8, wrap_wu32, wrap_wi32, bits_i64, bits_u64, bit_and, bit_or, bit_xor, shr1, shl1, shr_w, shl_w, rep_I, rep_Bo, seg_mapV, allOne_mapI, ite_or_not, ite_and_not, take_mapF, drop_mapF, Nat.sub_zero, Option.map_some, Option.map_none]
    obtain rfl := Option.some.inj hrun
    refine RetOK.data' 4 (by exact trivial) ?_
    rfl
  · replace hrun := br_f h1 hrun
    refine PW.skip ?_
    change PW _ _ _ _ _
    refine PW.seq ?_
    refine PW.seq ?_
    obtain ⟨x2, e2, hrun⟩ := bnd_some hrun
    obtain ⟨x3, e3, hrun⟩ := bnd_some hrun
    obtain ⟨x4, e4, hrun⟩ := bnd_some hrun
    obtain ⟨x5, e5, hrun⟩ := bnd_some hrun
    refine PW.regionK fun K hK => ?_
    refine OW.run [1, 2, 3, 57] ?_
    simp (config := { maxSteps := 2000000 }) only [go_sem, ↓reduceIte, Nat.reduceEqDiff, Nat.reduceLT, Nat.reduceLeDiff, Nat.reduceAdd, Nat.reduceMul, Nat.reduceSub, Nat.reduceBEq, Int.reduceToNat, and_assoc, wrap_w64, wrap_wu64, wrap_wu8, wrap_wu32, wrap_wi32, bits_i64, bits_u64, bit_and, bit_or, bit_xor, shr1, shl1, shr_w, shl_w, rep_I, rep_Bo, seg_mapV, allOne_mapI, ite_or_not, ite_and_not, take_mapF, drop_mapF, Nat.sub_zero, Option.map_some, Option.map_none]
    refine OW.call' 4 rfl rfl rfl (by ((simp only [go_sem, List.toList_toArray, ↓reduceIte, Nat.reduceEqDiff, Nat.reduceLT, Nat.reduceBEq]); exact rfl)) ?_ (law02_small_ok N _ _ _ e2) ?_ ?_ ?_ ?_
    · rfl
    · (refine okAll_intro ?_; (simp only [go_sem, okAll_nil, okAll_cons, okAll_append, okD_dd, okAll_mapD, okAll_segD, okAll_dropD, okD_own, okD_ptr, okD_clo, okD_agg, okD_tup, List.length_set, List.length_replicate, and_true, true_and, Nat.le_refl, ↓reduceIte, Nat.reduceEqDiff, Nat.reduceLT, Nat.reduceLeDiff, Nat.reduceAdd, Nat.reduceMul, Nat.reduceSub, Nat.reduceBEq]; done))
    · exact .inl rfl
    · (simp only [go_sem, Nat.reduceLT])
    refine OW.run [1, 2, 3, 57] ?_
    simp (config := { maxSteps := 2000000 }) only [go_sem, ↓reduceIte, Nat.reduceEqDiff, Nat.reduceLT, Nat.reduceLeDiff, Nat.reduceAdd, Nat.reduceMul, Nat.reduceSub, Nat.reduceBEq, Int.reduceToNat, and_assoc, wrap_w64, wrap_wu64, wrap_wu8, wrap_wu32, wrap_wi32, bits_i64, bits_u64, bit_and, bit_or, bit_xor, shr1, shl1, shr_w, shl_w, rep_I, rep_Bo, seg_mapV, allOne_mapI, ite_or_not, ite_and_not, take_mapF, drop_mapF, Nat.sub_zero, Option.map_some, Option.map_none]
    refine OW.callG' (g := (!(!x2))) 4 rfl rfl ?_ (fun hg => rfl) (fun hg => by ((simp only [go_sem, List.toList_toArray, ↓reduceIte, Nat.reduceEqDiff, Nat.reduceLT, Nat.reduceBEq]); exact rfl)) (fun hg => ?_) (fun hg => (ref02_CheckPolar_ok N _ _ _ (grd_t hg e3))) ?_ ?_ ?_ ?_
    · (simp only [go_sem, ↓reduceIte, Nat.reduceEqDiff, Nat.reduceLT, Nat.reduceLeDiff, Nat.reduceAdd, Nat.reduceMul, Nat.reduceSub, Nat.reduceBEq]; done)
    · rfl
    · (refine okAll_intro ?_; (simp only [go_sem, okAll_nil, okAll_cons, okAll_append, okD_dd, okAll_mapD, okAll_segD, okAll_dropD, okD_own, okD_ptr, okD_clo, okD_agg, okD_tup, List.length_set, List.length_replicate, and_true, true_and, Nat.le_refl, ↓reduceIte, Nat.reduceEqDiff, Nat.reduceLT, Nat.reduceLeDiff, Nat.reduceAdd, Nat.reduceMul, Nat.reduceSub, Nat.reduceBEq]; done))
    · exact .inl rfl
    · (simp only [go_sem, Nat.reduceLT])
    refine OW.run [1, 2, 3, 57] ?_
    simp (config := { maxSteps := 2000000 }) only [go_sem, ↓reduceIte, Nat.reduceEqDiff, Nat.reduceLT, Nat.reduceLeDiff, Nat.reduceAdd, Nat.reduceMul, Nat.reduceSub, Nat.reduceBEq, Int.reduceToNat, and_assoc, wrap_w64, wrap_wu64, wrap_wu8, wrap_wu32, wrap_wi32, bits_i64, bits_u64, bit_and, bit_or, bit_xor, shr1, shl1, shr_w, shl_w, rep_I, rep_Bo, seg_mapV, allOne_mapI, ite_or_not, ite_and_not, take_mapF, drop_mapF, Nat.sub_zero, Option.map_some, Option.map_none]
    refine And.intro (by omega) ?_
    refine OW.callG' (g := (!((((!x2) || (x3 != (0 : Int))) || ((a.length : Int) != (c_Info.length : Int))) || ((b.length : Int) != (a.length : Int))))) 4 rfl rfl ?_ (fun hg => rfl) (fun hg => by ((simp only [go_sem, List.toList_toArray, ↓reduceIte, Nat.reduceEqDiff, Nat.reduceLT, Nat.reduceBEq]); exact rfl)) (fun hg => ?_) (fun hg => (ref02_BitsErr_ok N _ _ (grd_t hg e4))) ?_ ?_ ?_ ?_
    · (simp only [go_sem, ↓reduceIte, Nat.reduceEqDiff, Nat.reduceLT, Nat.reduceLeDiff, Nat.reduceAdd, Nat.reduceMul, Nat.reduceSub, Nat.reduceBEq]; done)
    · rfl
    · exact okD_all rfl
    · exact .inl rfl
    · (simp only [go_sem, Nat.reduceLT])
    refine OW.run [1, 2, 3, 57] ?_
    simp (config := { maxSteps := 2000000 }) only [go_sem, ↓reduceIte, Nat.reduceEqDiff, Nat.reduceLT, Nat.reduceLeDiff, Nat.reduceAdd, Nat.reduceMul, Nat.reduceSub, Nat.reduceBEq, Int.reduceToNat, and_assoc, wrap_w64, wrap_wu64, wrap_wu8, wrap_wu32, wrap_wi32, bits_i64, bits_u64, bit_and, bit_or, bit_xor, shr1, shl1, shr_w, shl_w, rep_I, rep_Bo, seg_mapV, allOne_mapI, ite_or_not, ite_and_not, take_mapF, drop_mapF, Nat.sub_zero, Option.map_some, Option.map_none]
    refine OW.callG' (g := (!(((((!x2) || (x3 != (0 : Int))) || ((a.length : Int) != (c_Info.length : Int))) || ((b.length : Int) != (a.length : Int))) || (x4 != (0 : Int))))) 4 rfl rfl ?_ (fun hg => rfl) (fun hg => by ((simp only [go_sem, List.toList_toArray, ↓reduceIte, Nat.reduceEqDiff, Nat.reduceLT, Nat.reduceBEq]); exact rfl)) (fun hg => ?_) (fun hg => (ref02_BitsErr_ok N _ _ (grd_t hg e5))) ?_ ?_ ?_ ?_
    · (simp only [go_sem, ↓reduceIte, Nat.reduceEqDiff, Nat.reduceLT, Nat.reduceLeDiff, Nat.reduceAdd, Nat.reduceMul, Nat.reduceSub, Nat.reduceBEq]; done)
    · rfl
    · exact okD_all rfl
    · exact .inl rfl
    · (simp only [go_sem, Nat.reduceLT])
    refine OW.run [1, 2, 3, 57] ?_
    simp (config := { maxSteps := 2000000 }) only [go_sem, ↓reduceIte, Nat.reduceEqDiff, Nat.reduceLT, Nat.reduceLeDiff, Nat.reduceAdd, Nat.reduceMul, Nat.reduceSub, Nat.reduceBEq, Int.reduceToNat, and_assoc, wrap_w64, wrap_wu64, wrap_wu8, wrap_wu32, wrap_wi32, bits_i64, bits_u64, bit_and, bit_or, bit_xor, shr1, shl1, shr_w, shl_w, rep_I, rep_Bo, seg_mapV, allOne_mapI, ite_or_not, ite_and_not, take_mapF, drop_mapF, Nat.sub_zero, Option.map_some, Option.map_none]
    refine OW.nil (hK _ ?_)
    clear hK K
    change PW _ _ _ _ _
    refine PW.cond rfl (fun h2 => ?_) (fun h2 => ?_)
    · replace hrun := br_t h2 hrun
      refine PW.seq ?_
      refine PW.regionK fun K hK => ?_
      refine OW.run [6] ?_
      simp (config := { maxSteps := 2000000 }) only [go_sem, ↓reduceIte, Nat.reduceEqDiff, Nat.reduceLT, Nat.reduceLeDiff, Nat.reduceAdd, Nat.reduceMul, Nat.reduceSub, Nat.reduceBEq, Int.reduceToNat, and_assoc, wrap_w64, wrap_wu64, wrap_wu8, wrap_wu32, wrap_wi32, bits_i64, bits_u64, bit_and, bit_or, bit_xor, shr1, shl1, shr_w, shl_w, rep_I, rep_Bo, seg_mapV, allOne_mapI, ite_or_not, ite_and_not, take_mapF, drop_mapF, Nat.sub_zero, Option.map_some, Option.map_none]
      refine OW.nil (hK _ ?_)
      clear hK K
      change PW _ _ _ _ _
      refine PW.ret ?_
      change PW.Ends _ _ _ _ _ _
      refine PW.Ends.intro (.inr rfl) ?_
      simp (config := { maxSteps := 2000000 }) only [go_sem, ↓reduceIte, Nat.reduceEqDiff, Nat.reduceLT, Nat.reduceLeDiff, Nat.reduceAdd, Nat.reduceMul, Nat.reduceSub, Nat.reduceBEq, Int.reduceToNat, and_assoc, wrap_w64, wrap_wu64, wrap_wu8, wrap_wu32, wrap_wi32, bits_i64, bits_u64, bit_and, bit_or, bit_xor, shr1, shl1, shr_w, shl_w, rep_I, rep_Bo, seg_mapV, allOne_mapI, ite_or_not, ite_and_not, take_mapF, drop_mapF, Nat.sub_zero, Option.map_some, Option.map_none]
      obtain rfl := Option.some.inj hrun
      refine RetOK.data' 4 (by exact trivial) ?_
      rfl
    · replace hrun := br_f h2 hrun
      refine PW.skip ?_
      change PW _ _ _ _ _
      refine PW.seq ?_
      obtain ⟨⟨x6, x61⟩, e6, hrun⟩ := bnd_some hrun
      obtain ⟨⟨x7, x71, x72⟩, e7, hrun⟩ := bnd_some hrun
      refine PW.regionK fun K hK => ?_
      refine OW.run [1, 2, 3, 7, 8, 9] ?_
      simp (config := { maxSteps := 2000000 }) only [go_sem, ↓reduceIte, Nat.reduceEqDiff, Nat.reduceLT, Nat.reduceLeDiff, Nat.reduceAdd, Nat.reduceMul, Nat.reduceSub, Nat.reduceBEq, Int.reduceToNat, and_assoc, wrap_w64, wrap_wu64, wrap_wu8, wrap_wu32, wrap_wi32, bits_i64, bits_u64, bit_and, bit_or, bit_xor, shr1, shl1, shr_w, shl_w, rep_I, rep_Bo, seg_mapV, allOne_mapI, ite_or_not, ite_and_not, take_mapF, drop_mapF, Nat.sub_zero, Option.map_some, Option.map_none]
      refine OW.call' 4 rfl rfl rfl (by ((simp only [go_sem, List.toList_toArray, ↓reduceIte, Nat.reduceEqDiff, Nat.reduceLT, Nat.reduceBEq]); exact rfl)) ?_ (ref02_CopyPolar_ok N _ _ _ e6) ?_ ?_ ?_ ?_
      · rfl
      · (refine okAll_intro ?_; (simp only [go_sem, okAll_nil, okAll_cons, okAll_append, okD_dd, okAll_mapD, okAll_segD, okAll_dropD, okD_own, okD_ptr, okD_clo, okD_agg, okD_tup, List.length_set, List.length_replicate, and_true, true_and, Nat.le_refl, ↓reduceIte, Nat.reduceEqDiff, Nat.reduceLT, Nat.reduceLeDiff, Nat.reduceAdd, Nat.reduceMul, Nat.reduceSub, Nat.reduceBEq]; done))
      · exact .inl rfl
      · (simp only [go_sem, Nat.reduceLT])
      refine OW.run [1, 2, 3, 7, 8, 9] ?_
      simp (config := { maxSteps := 2000000 }) only [go_sem, ↓reduceIte, Nat.reduceEqDiff, Nat.reduceLT, Nat.reduceLeDiff, Nat.reduceAdd, Nat.reduceMul, Nat.reduceSub, Nat.reduceBEq, Int.reduceToNat, and_assoc, wrap_w64, wrap_wu64, wrap_wu8, wrap_wu32, wrap_wi32, bits_i64, bits_u64, bit_and, bit_or, bit_xor, shr1, shl1, shr_w, shl_w, rep_I, rep_Bo, seg_mapV, allOne_mapI, ite_or_not, ite_and_not, take_mapF, drop_mapF, Nat.sub_zero, Option.map_some, Option.map_none]
      refine OW.call' 4 rfl rfl rfl (by ((simp only [go_sem, List.toList_toArray, ↓reduceIte, Nat.reduceEqDiff, Nat.reduceLT, Nat.reduceBEq]); exact rfl)) ?_ (code_DistanceOf_ok N _ _ _ e7) ?_ ?_ ?_ ?_
      · rfl
      · exact okD_all rfl
      · exact .inl rfl
      · (simp only [go_sem, Nat.reduceLT])
      refine OW.run [1, 2, 3, 7, 8, 9] ?_
      simp (config := { maxSteps := 2000000 }) only [go_sem, ↓reduceIte, Nat.reduceEqDiff, Nat.reduceLT, Nat.reduceLeDiff, Nat.reduceAdd, Nat.reduceMul, Nat.reduceSub, Nat.reduceBEq, Int.reduceToNat, and_assoc, wrap_w64, wrap_wu64, wrap_wu8, wrap_wu32, wrap_wi32, bits_i64, bits_u64, bit_and, bit_or, bit_xor, shr1, shl1, shr_w, shl_w, rep_I, rep_Bo, seg_mapV, allOne_mapI, ite_or_not, ite_and_not, take_mapF, drop_mapF, Nat.sub_zero, Option.map_some, Option.map_none]
      refine OW.nil (hK _ ?_)
      clear hK K
      change PW _ _ _ _ _
      refine PW.seq ?_
      obtain ⟨⟨x8, x81⟩, e8, hrun⟩ := bnd_some hrun
      obtain ⟨x9, e9, hrun⟩ := bnd_some hrun
      obtain ⟨⟨x10, x101⟩, e10, hrun⟩ := bnd_some hrun
      refine PW.regionK fun K hK => ?_
      refine OW.run [1, 2, 3, 7, 8, 9, 10, 11] ?_
      simp (config := { maxSteps := 2000000 }) only [go_sem, ↓reduceIte, Nat.reduceEqDiff, Nat.reduceLT, Nat.reduceLeDiff, Nat.reduceAdd, Nat.reduceMul, Nat.reduceSub, Nat.reduceBEq, Int.reduceToNat, and_assoc, wrap_w64, wrap_wu64, wrap_wu8, wrap_wu32, wrap_wi32, bits_i64, bits_u64, bit_and, bit_or, bit_xor, shr1, shl1, shr_w, shl_w, rep_I, rep_Bo, seg_mapV, allOne_mapI, ite_or_not, ite_and_not, take_mapF, drop_mapF, Nat.sub_zero, Option.map_some, Option.map_none]
      refine OW.call' 4 rfl rfl rfl (by ((simp only [go_sem, List.toList_toArray, ↓reduceIte, Nat.reduceEqDiff, Nat.reduceLT, Nat.reduceBEq]); exact rfl)) ?_ (ref02_CopyPolar_ok N _ _ _ e8) ?_ ?_ ?_ ?_
      · rfl
      · (refine okAll_intro ?_; (simp only [go_sem, okAll_nil, okAll_cons, okAll_append, okD_dd, okAll_mapD, okAll_segD, okAll_dropD, okD_own, okD_ptr, okD_clo, okD_agg, okD_tup, List.length_set, List.length_replicate, and_true, true_and, Nat.le_refl, ↓reduceIte, Nat.reduceEqDiff, Nat.reduceLT, Nat.reduceLeDiff, Nat.reduceAdd, Nat.reduceMul, Nat.reduceSub, Nat.reduceBEq]; done))
      · exact .inl rfl
      · (simp only [go_sem, Nat.reduceLT])
      refine OW.run [1, 2, 3, 7, 8, 9, 10, 11] ?_
      simp (config := { maxSteps := 2000000 }) only [go_sem, ↓reduceIte, Nat.reduceEqDiff, Nat.reduceLT, Nat.reduceLeDiff, Nat.reduceAdd, Nat.reduceMul, Nat.reduceSub, Nat.reduceBEq, Int.reduceToNat, and_assoc, wrap_w64, wrap_wu64, wrap_wu8, wrap_wu32, wrap_wi32, bits_i64, bits_u64, bit_and, bit_or, bit_xor, shr1, shl1, shr_w, shl_w, rep_I, rep_Bo, seg_mapV, allOne_mapI, ite_or_not, ite_and_not, take_mapF, drop_mapF, Nat.sub_zero, Option.map_some, Option.map_none]
      refine OW.call' 4 rfl rfl rfl (by ((simp only [go_sem, List.toList_toArray, ↓reduceIte, Nat.reduceEqDiff, Nat.reduceLT, Nat.reduceBEq]); exact rfl)) ?_ (base_CopyInts_ok N _ _ e9) ?_ ?_ ?_ ?_
      · rfl
      · exact okD_all rfl
      · exact .inl rfl
      · (simp only [go_sem, Nat.reduceLT])
      refine OW.run [1, 2, 3, 7, 8, 9, 10, 11] ?_
      simp (config := { maxSteps := 2000000 }) only [go_sem, ↓reduceIte, Nat.reduceEqDiff, Nat.reduceLT, Nat.reduceLeDiff, Nat.reduceAdd, Nat.reduceMul, Nat.reduceSub, Nat.reduceBEq, Int.reduceToNat, and_assoc, wrap_w64, wrap_wu64, wrap_wu8, wrap_wu32, wrap_wi32, bits_i64, bits_u64, bit_and, bit_or, bit_xor, shr1, shl1, shr_w, shl_w, rep_I, rep_Bo, seg_mapV, allOne_mapI, ite_or_not, ite_and_not, take_mapF, drop_mapF, Nat.sub_zero, Option.map_some, Option.map_none]
      refine OW.call' 4 rfl rfl rfl (by ((simp only [go_sem, List.toList_toArray, ↓reduceIte, Nat.reduceEqDiff, Nat.reduceLT, Nat.reduceBEq]); exact rfl)) ?_ (code_Encode_ok N _ _ _ _ e10) ?_ ?_ ?_ ?_
      · rfl
      · exact okD_all rfl
      · exact .inl rfl
      · (simp only [go_sem, Nat.reduceLT])
      refine OW.run [1, 2, 3, 7, 8, 9, 10, 11] ?_
      simp (config := { maxSteps := 2000000 }) only [go_sem, ↓reduceIte, Nat.reduceEqDiff, Nat.reduceLT, Nat.reduceLeDiff, Nat.reduceAdd, Nat.reduceMul, Nat.reduceSub, Nat.reduceBEq, Int.reduceToNat, and_assoc, wrap_w64, wrap_wu64, wrap_wu8, wrap_wu32, wrap_wi32, bits_i64, bits_u64, bit_and, bit_or, bit_xor, shr1, shl1, shr_w, shl_w, rep_I, rep_Bo, seg_mapV, allOne_mapI, ite_or_not, ite_and_not, take_mapF, drop_mapF, Nat.sub_zero, Option.map_some, Option.map_none]
      refine OW.nil (hK _ ?_)
      clear hK K
      change PW _ _ _ _ _
      refine PW.seq ?_
      obtain ⟨⟨x11, x111⟩, e11, hrun⟩ := bnd_some hrun
      obtain ⟨x12, e12, hrun⟩ := bnd_some hrun
      obtain ⟨⟨x13, x131⟩, e13, hrun⟩ := bnd_some hrun
      refine PW.regionK fun K hK => ?_
      refine OW.run [1, 2, 3, 7, 8, 9, 10, 11, 12, 13] ?_
      simp (config := { maxSteps := 2000000 }) only [go_sem, ↓reduceIte, Nat.reduceEqDiff, Nat.reduceLT, Nat.reduceLeDiff, Nat.reduceAdd, Nat.reduceMul, Nat.reduceSub, Nat.reduceBEq, Int.reduceToNat, and_assoc, wrap_w64, wrap_wu64, wrap_wu8, wrap_wu32, wrap_wi32, bits_i64, bits_u64, bit_and, bit_or, bit_xor, shr1, shl1, shr_w, shl_w, rep_I, rep_Bo, seg_mapV, allOne_mapI, ite_or_not, ite_and_not, take_mapF, drop_mapF, Nat.sub_zero, Option.map_some, Option.map_none]
      refine OW.call' 4 rfl rfl rfl (by ((simp only [go_sem, List.toList_toArray, ↓reduceIte, Nat.reduceEqDiff, Nat.reduceLT, Nat.reduceBEq]); exact rfl)) ?_ (ref02_CopyPolar_ok N _ _ _ e11) ?_ ?_ ?_ ?_
      · rfl
      · (refine okAll_intro ?_; (simp only [go_sem, okAll_nil, okAll_cons, okAll_append, okD_dd, okAll_mapD, okAll_segD, okAll_dropD, okD_own, okD_ptr, okD_clo, okD_agg, okD_tup, List.length_set, List.length_replicate, and_true, true_and, Nat.le_refl, ↓reduceIte, Nat.reduceEqDiff, Nat.reduceLT, Nat.reduceLeDiff, Nat.reduceAdd, Nat.reduceMul, Nat.reduceSub, Nat.reduceBEq]; done))
      · exact .inl rfl
      · (simp only [go_sem, Nat.reduceLT])
      refine OW.run [1, 2, 3, 7, 8, 9, 10, 11, 12, 13] ?_
      simp (config := { maxSteps := 2000000 }) only [go_sem, ↓reduceIte, Nat.reduceEqDiff, Nat.reduceLT, Nat.reduceLeDiff, Nat.reduceAdd, Nat.reduceMul, Nat.reduceSub, Nat.reduceBEq, Int.reduceToNat, and_assoc, wrap_w64, wrap_wu64, wrap_wu8, wrap_wu32, wrap_wi32, bits_i64, bits_u64, bit_and, bit_or, bit_xor, shr1, shl1, shr_w, shl_w, rep_I, rep_Bo, seg_mapV, allOne_mapI, ite_or_not, ite_and_not, take_mapF, drop_mapF, Nat.sub_zero, Option.map_some, Option.map_none]
      refine OW.call' 4 rfl rfl rfl (by ((simp only [go_sem, List.toList_toArray, ↓reduceIte, Nat.reduceEqDiff, Nat.reduceLT, Nat.reduceBEq]); exact rfl)) ?_ (base_CopyInts_ok N _ _ e12) ?_ ?_ ?_ ?_
      · rfl
      · exact okD_all rfl
      · exact .inl rfl
      · (simp only [go_sem, Nat.reduceLT])
      refine OW.run [1, 2, 3, 7, 8, 9, 10, 11, 12, 13] ?_
      simp (config := { maxSteps := 2000000 }) only [go_sem, ↓reduceIte, Nat.reduceEqDiff, Nat.reduceLT, Nat.reduceLeDiff, Nat.reduceAdd, Nat.reduceMul, Nat.reduceSub, Nat.reduceBEq, Int.reduceToNat, and_assoc, wrap_w64, wrap_wu64, wrap_wu8, wrap_wu32, wrap_wi32, bits_i64, bits_u64, bit_and, bit_or, bit_xor, shr1, shl1, shr_w, shl_w, rep_I, rep_Bo, seg_mapV, allOne_mapI, ite_or_not, ite_and_not, take_mapF, drop_mapF, Nat.sub_zero, Option.map_some, Option.map_none]
      refine OW.call' 4 rfl rfl rfl (by ((simp only [go_sem, List.toList_toArray, ↓reduceIte, Nat.reduceEqDiff, Nat.reduceLT, Nat.reduceBEq]); exact rfl)) ?_ (code_Encode_ok N _ _ _ _ e13) ?_ ?_ ?_ ?_
      · rfl
      · exact okD_all rfl
      · exact .inl rfl
      · (simp only [go_sem, Nat.reduceLT])
      refine OW.run [1, 2, 3, 7, 8, 9, 10, 11, 12, 13] ?_
      simp (config := { maxSteps := 2000000 }) only [go_sem, ↓reduceIte, Nat.reduceEqDiff, Nat.reduceLT, Nat.reduceLeDiff, Nat.reduceAdd, Nat.reduceMul, Nat.reduceSub, Nat.reduceBEq, Int.reduceToNat, and_assoc, wrap_w64, wrap_wu64, wrap_wu8, wrap_wu32, wrap_wi32, bits_i64, bits_u64, bit_and, bit_or, bit_xor, shr1, shl1, shr_w, shl_w, rep_I, rep_Bo, seg_mapV, allOne_mapI, ite_or_not, ite_and_not, take_mapF, drop_mapF, Nat.sub_zero, Option.map_some, Option.map_none]
      refine OW.nil (hK _ ?_)
      clear hK K
      change PW _ _ _ _ _
      refine PW.seq ?_
      refine PW.seq ?_
      obtain ⟨x14, e14, hrun⟩ := bnd_some hrun
      obtain ⟨x15, e15, hrun⟩ := bnd_some hrun
      obtain ⟨x16, e16, hrun⟩ := bnd_some hrun
      obtain ⟨x17, e17, hrun⟩ := bnd_some hrun
      refine PW.regionK fun K hK => ?_
      refine OW.run [1, 2, 3, 7, 8, 10, 12, 126] ?_
      simp (config := { maxSteps := 2000000 }) only [go_sem, ↓reduceIte, Nat.reduceEqDiff, Nat.reduceLT, Nat.reduceLeDiff, Nat.reduceAdd, Nat.reduceMul, Nat.reduceSub, Nat.reduceBEq, Int.reduceToNat, and_assoc, wrap_w64, wrap_wu64, wrap_wu8, wrap_wu32, wrap_wi32, bits_i64, bits_u64, bit_and, bit_or, bit_xor, shr1, shl1, shr_w, shl_w, rep_I, rep_Bo, seg_mapV, allOne_mapI, ite_or_not, ite_and_not, take_mapF, drop_mapF, Nat.sub_zero, Option.map_some, Option.map_none]
      refine OW.callG' (g := (!(((x72 != (0 : Int)) || (x101 != (0 : Int))) || (x131 != (0 : Int))))) 4 rfl rfl ?_ (fun hg => rfl) (fun hg => by ((simp only [go_sem, List.toList_toArray, ↓reduceIte, Nat.reduceEqDiff, Nat.reduceLT, Nat.reduceBEq]); exact rfl)) (fun hg => ?_) (fun hg => (ref02_Length_ok N _ _ _ (grd_t hg e14))) ?_ ?_ ?_ ?_
      · (simp only [go_sem, ↓reduceIte, Nat.reduceEqDiff, Nat.reduceLT, Nat.reduceLeDiff, Nat.reduceAdd, Nat.reduceMul, Nat.reduceSub, Nat.reduceBEq]; done)
      · rfl
      · (refine okAll_intro ?_; (simp only [go_sem, okAll_nil, okAll_cons, okAll_append, okD_dd, okAll_mapD, okAll_segD, okAll_dropD, okD_own, okD_ptr, okD_clo, okD_agg, okD_tup, List.length_set, List.length_replicate, and_true, true_and, Nat.le_refl, ↓reduceIte, Nat.reduceEqDiff, Nat.reduceLT, Nat.reduceLeDiff, Nat.reduceAdd, Nat.reduceMul, Nat.reduceSub, Nat.reduceBEq]; done))
      · exact .inl rfl
      · (simp only [go_sem, Nat.reduceLT])
      refine OW.run [1, 2, 3, 7, 8, 10, 12, 126] ?_
      simp (config := { maxSteps := 2000000 }) only [go_sem, ↓reduceIte, Nat.reduceEqDiff, Nat.reduceLT, Nat.reduceLeDiff, Nat.reduceAdd, Nat.reduceMul, Nat.reduceSub, Nat.reduceBEq, Int.reduceToNat, and_assoc, wrap_w64, wrap_wu64, wrap_wu8, wrap_wu32, wrap_wi32, bits_i64, bits_u64, bit_and, bit_or, bit_xor, shr1, shl1, shr_w, shl_w, rep_I, rep_Bo, seg_mapV, allOne_mapI, ite_or_not, ite_and_not, take_mapF, drop_mapF, Nat.sub_zero, Option.map_some, Option.map_none]
      refine OW.callG' (g := (!(((((x72 != (0 : Int)) || (x101 != (0 : Int))) || (x131 != (0 : Int))) || ((x10.length : Int) != x14)) || ((x13.length : Int) != (x10.length : Int))))) 4 rfl rfl ?_ (fun hg => rfl) (fun hg => by ((simp only [go_sem, List.toList_toArray, ↓reduceIte, Nat.reduceEqDiff, Nat.reduceLT, Nat.reduceBEq]); exact rfl)) (fun hg => ?_) (fun hg => (base_AreBits_ok N _ _ (grd_t hg e15))) ?_ ?_ ?_ ?_
      · (simp only [go_sem, ↓reduceIte, Nat.reduceEqDiff, Nat.reduceLT, Nat.reduceLeDiff, Nat.reduceAdd, Nat.reduceMul, Nat.reduceSub, Nat.reduceBEq]; done)
      · rfl
      · exact okD_all rfl
      · exact .inl rfl
      · (simp only [go_sem, Nat.reduceLT])
      refine OW.run [1, 2, 3, 7, 8, 10, 12, 126] ?_
      simp (config := { maxSteps := 2000000 }) only [go_sem, ↓reduceIte, Nat.reduceEqDiff, Nat.reduceLT, Nat.reduceLeDiff, Nat.reduceAdd, Nat.reduceMul, Nat.reduceSub, Nat.reduceBEq, Int.reduceToNat, and_assoc, wrap_w64, wrap_wu64, wrap_wu8, wrap_wu32, wrap_wi32, bits_i64, bits_u64, bit_and, bit_or, bit_xor, shr1, shl1, shr_w, shl_w, rep_I, rep_Bo, seg_mapV, allOne_mapI, ite_or_not, ite_and_not, take_mapF, drop_mapF, Nat.sub_zero, Option.map_some, Option.map_none]
      refine OW.callG' (g := (!((((((x72 != (0 : Int)) || (x101 != (0 : Int))) || (x131 != (0 : Int))) || ((x10.length : Int) != x14)) || ((x13.length : Int) != (x10.length : Int))) || (!x15)))) 4 rfl rfl ?_ (fun hg => rfl) (fun hg => by ((simp only [go_sem, List.toList_toArray, ↓reduceIte, Nat.reduceEqDiff, Nat.reduceLT, Nat.reduceBEq]); exact rfl)) (fun hg => ?_) (fun hg => (base_AreBits_ok N _ _ (grd_t hg e16))) ?_ ?_ ?_ ?_
      · (simp only [go_sem, ↓reduceIte, Nat.reduceEqDiff, Nat.reduceLT, Nat.reduceLeDiff, Nat.reduceAdd, Nat.reduceMul, Nat.reduceSub, Nat.reduceBEq]; done)
      · rfl
      · exact okD_all rfl
      · exact .inl rfl
      · (simp only [go_sem, Nat.reduceLT])
      refine OW.run [1, 2, 3, 7, 8, 10, 12, 126] ?_
      simp (config := { maxSteps := 2000000 }) only [go_sem, ↓reduceIte, Nat.reduceEqDiff, Nat.reduceLT, Nat.reduceLeDiff, Nat.reduceAdd, Nat.reduceMul, Nat.reduceSub, Nat.reduceBEq, Int.reduceToNat, and_assoc, wrap_w64, wrap_wu64, wrap_wu8, wrap_wu32, wrap_wi32, bits_i64, bits_u64, bit_and, bit_or, bit_xor, shr1, shl1, shr_w, shl_w, rep_I, rep_Bo, seg_mapV, allOne_mapI, ite_or_not, ite_and_not, take_mapF, drop_mapF, Nat.sub_zero, Option.map_some, Option.map_none]
      refine OW.callG' (g := (!((((((((x72 != (0 : Int)) || (x101 != (0 : Int))) || (x131 != (0 : Int))) || ((x10.length : Int) != x14)) || ((x13.length : Int) != (x10.length : Int))) || (!x15)) || (!x16)) || ((x71.length : Int) != (a.length : Int))))) 4 rfl rfl ?_ (fun hg => rfl) (fun hg => by ((simp only [go_sem, List.toList_toArray, ↓reduceIte, Nat.reduceEqDiff, Nat.reduceLT, Nat.reduceBEq]); exact rfl)) (fun hg => ?_) (fun hg => (base_AreBits_ok N _ _ (grd_t hg e17))) ?_ ?_ ?_ ?_
      · (simp only [go_sem, ↓reduceIte, Nat.reduceEqDiff, Nat.reduceLT, Nat.reduceLeDiff, Nat.reduceAdd, Nat.reduceMul, Nat.reduceSub, Nat.reduceBEq]; done)
      · rfl
      · exact okD_all rfl
      · exact .inl rfl
      · (simp only [go_sem, Nat.reduceLT])
      refine OW.run [1, 2, 3, 7, 8, 10, 12, 126] ?_
      simp (config := { maxSteps := 2000000 }) only [go_sem, ↓reduceIte, Nat.reduceEqDiff, Nat.reduceLT, Nat.reduceLeDiff, Nat.reduceAdd, Nat.reduceMul, Nat.reduceSub, Nat.reduceBEq, Int.reduceToNat, and_assoc, wrap_w64, wrap_wu64, wrap_wu8, wrap_wu32, wrap_wi32, bits_i64, bits_u64, bit_and, bit_or, bit_xor, shr1, shl1, shr_w, shl_w, rep_I, rep_Bo, seg_mapV, allOne_mapI, ite_or_not, ite_and_not, take_mapF, drop_mapF, Nat.sub_zero, Option.map_some, Option.map_none]
      refine OW.nil (hK _ ?_)
      clear hK K
      change PW _ _ _ _ _
      refine PW.cond rfl (fun h3 => ?_) (fun h3 => ?_)
      · replace hrun := br_t h3 hrun
        refine PW.seq ?_
        refine PW.regionK fun K hK => ?_
        refine OW.run [6] ?_
        simp (config := { maxSteps := 2000000 }) only [go_sem, ↓reduceIte, Nat.reduceEqDiff, Nat.reduceLT, Nat.reduceLeDiff, Nat.reduceAdd, Nat.reduceMul, Nat.reduceSub, Nat.reduceBEq, Int.reduceToNat, and_assoc, wrap_w64, wrap_wu64, wrap_wu8, wrap_wu32, wrap_wi32, bits_i64, bits_u64, bit_and, bit_or, bit_xor, shr1, shl1, shr_w, shl_w, rep_I, rep_Bo, seg_mapV, allOne_mapI, ite_or_not, ite_and_not, take_mapF, drop_mapF, Nat.sub_zero, Option.map_some, Option.map_none]
        refine OW.nil (hK _ ?_)
        clear hK K
        change PW _ _ _ _ _
        refine PW.ret ?_
        change PW.Ends _ _ _ _ _ _
        refine PW.Ends.intro (.inr rfl) ?_
        simp (config := { maxSteps := 2000000 }) only [go_sem, ↓reduceIte, Nat.reduceEqDiff, Nat.reduceLT, Nat.reduceLeDiff, Nat.reduceAdd, Nat.reduceMul, Nat.reduceSub, Nat.reduceBEq, Int.reduceToNat, and_assoc, wrap_w64, wrap_wu64, wrap_wu8, wrap_wu32, wrap_wi32, bits_i64, bits_u64, bit_and, bit_or, bit_xor, shr1, shl1, shr_w, shl_w, rep_I, rep_Bo, seg_mapV, allOne_mapI, ite_or_not, ite_and_not, take_mapF, drop_mapF, Nat.sub_zero, Option.map_some, Option.map_none]
        obtain rfl := Option.some.inj hrun
        refine RetOK.data' 4 (by exact trivial) ?_
        rfl
      · replace hrun := br_f h3 hrun
        refine PW.skip ?_
        change PW _ _ _ _ _
        refine PW.seq ?_
        obtain ⟨⟨x18, x181⟩, e18, hrun⟩ := bnd_some hrun
        obtain ⟨x19, e19, hrun⟩ := bnd_some hrun
        obtain ⟨⟨x20, x201⟩, e20, hrun⟩ := bnd_some hrun
        refine PW.regionK fun K hK => ?_
        refine OW.run [1, 2, 3, 7, 10, 12, 14, 15] ?_
        simp (config := { maxSteps := 2000000 }) only [go_sem, ↓reduceIte, Nat.reduceEqDiff, Nat.reduceLT, Nat.reduceLeDiff, Nat.reduceAdd, Nat.reduceMul, Nat.reduceSub, Nat.reduceBEq, Int.reduceToNat, and_assoc, wrap_w64, wrap_wu64, wrap_wu8, wrap_wu32, wrap_wi32, bits_i64, bits_u64, bit_and, bit_or, bit_xor, shr1, shl1, shr_w, shl_w, rep_I, rep_Bo, seg_mapV, allOne_mapI, ite_or_not, ite_and_not, take_mapF, drop_mapF, Nat.sub_zero, Option.map_some, Option.map_none]
        refine OW.call' 4 rfl rfl rfl (by ((simp only [go_sem, List.toList_toArray, ↓reduceIte, Nat.reduceEqDiff, Nat.reduceLT, Nat.reduceBEq]); exact rfl)) ?_ (ref02_CopyPolar_ok N _ _ _ e18) ?_ ?_ ?_ ?_
        · rfl
        · (refine okAll_intro ?_; (simp only [go_sem, okAll_nil, okAll_cons, okAll_append, okD_dd, okAll_mapD, okAll_segD, okAll_dropD, okD_own, okD_ptr, okD_clo, okD_agg, okD_tup, List.length_set, List.length_replicate, and_true, true_and, Nat.le_refl, ↓reduceIte, Nat.reduceEqDiff, Nat.reduceLT, Nat.reduceLeDiff, Nat.reduceAdd, Nat.reduceMul, Nat.reduceSub, Nat.reduceBEq]; done))
        · exact .inl rfl
        · (simp only [go_sem, Nat.reduceLT])
        refine OW.run [1, 2, 3, 7, 10, 12, 14, 15] ?_
        simp (config := { maxSteps := 2000000 }) only [go_sem, ↓reduceIte, Nat.reduceEqDiff, Nat.reduceLT, Nat.reduceLeDiff, Nat.reduceAdd, Nat.reduceMul, Nat.reduceSub, Nat.reduceBEq, Int.reduceToNat, and_assoc, wrap_w64, wrap_wu64, wrap_wu8, wrap_wu32, wrap_wi32, bits_i64, bits_u64, bit_and, bit_or, bit_xor, shr1, shl1, shr_w, shl_w, rep_I, rep_Bo, seg_mapV, allOne_mapI, ite_or_not, ite_and_not, take_mapF, drop_mapF, Nat.sub_zero, Option.map_some, Option.map_none]
        refine OW.call' 4 rfl rfl rfl (by ((simp only [go_sem, List.toList_toArray, ↓reduceIte, Nat.reduceEqDiff, Nat.reduceLT, Nat.reduceBEq]); exact rfl)) ?_ (base_CopyInts_ok N _ _ e19) ?_ ?_ ?_ ?_
        · rfl
        · exact okD_all rfl
        · exact .inl rfl
        · (simp only [go_sem, Nat.reduceLT])
        refine OW.run [1, 2, 3, 7, 10, 12, 14, 15] ?_
        simp (config := { maxSteps := 2000000 }) only [go_sem, ↓reduceIte, Nat.reduceEqDiff, Nat.reduceLT, Nat.reduceLeDiff, Nat.reduceAdd, Nat.reduceMul, Nat.reduceSub, Nat.reduceBEq, Int.reduceToNat, and_assoc, wrap_w64, wrap_wu64, wrap_wu8, wrap_wu32, wrap_wi32, bits_i64, bits_u64, bit_and, bit_or, bit_xor, shr1, shl1, shr_w, shl_w, rep_I, rep_Bo, seg_mapV, allOne_mapI, ite_or_not, ite_and_not, take_mapF, drop_mapF, Nat.sub_zero, Option.map_some, Option.map_none]
        refine OW.call' 4 rfl rfl rfl (by ((simp only [go_sem, List.toList_toArray, ↓reduceIte, Nat.reduceEqDiff, Nat.reduceLT, Nat.reduceBEq]); exact rfl)) ?_ (code_Encode_ok N _ _ _ _ e20) ?_ ?_ ?_ ?_
        · rfl
        · exact okD_all rfl
        · exact .inl rfl
        · (simp only [go_sem, Nat.reduceLT])
        refine OW.run [1, 2, 3, 7, 10, 12, 14, 15] ?_
        simp (config := { maxSteps := 2000000 }) only [go_sem, ↓reduceIte, Nat.reduceEqDiff, Nat.reduceLT, Nat.reduceLeDiff, Nat.reduceAdd, Nat.reduceMul, Nat.reduceSub, Nat.reduceBEq, Int.reduceToNat, and_assoc, wrap_w64, wrap_wu64, wrap_wu8, wrap_wu32, wrap_wi32, bits_i64, bits_u64, bit_and, bit_or, bit_xor, shr1, shl1, shr_w, shl_w, rep_I, rep_Bo, seg_mapV, allOne_mapI, ite_or_not, ite_and_not, take_mapF, drop_mapF, Nat.sub_zero, Option.map_some, Option.map_none]
        refine OW.nil (hK _ ?_)
        clear hK K
        change PW _ _ _ _ _
        refine PW.seq ?_
        refine PW.seq ?_
        obtain ⟨x21, e21, hrun⟩ := bnd_some hrun
        refine PW.regionK fun K hK => ?_
        refine OW.run [1, 2, 3, 7, 10, 12, 146] ?_
        simp (config := { maxSteps := 2000000 }) only [go_sem, ↓reduceIte, Nat.reduceEqDiff, Nat.reduceLT, Nat.reduceLeDiff, Nat.reduceAdd, Nat.reduceMul, Nat.reduceSub, Nat.reduceBEq, Int.reduceToNat, and_assoc, wrap_w64, wrap_wu64, wrap_wu8, wrap_wu32, wrap_wi32, bits_i64, bits_u64, bit_and, bit_or, bit_xor, shr1, shl1, shr_w, shl_w, rep_I, rep_Bo, seg_mapV, allOne_mapI, ite_or_not, ite_and_not, take_mapF, drop_mapF, Nat.sub_zero, Option.map_some, Option.map_none]
        refine OW.callG' (g := (!(x201 != (0 : Int)))) 4 rfl rfl ?_ (fun hg => rfl) (fun hg => by ((simp only [go_sem, List.toList_toArray, ↓reduceIte, Nat.reduceEqDiff, Nat.reduceLT, Nat.reduceBEq]); exact rfl)) (fun hg => ?_) (fun hg => (law02_ones_ok N _ _ (grd_t hg e21))) ?_ ?_ ?_ ?_
        · (simp only [go_sem, ↓reduceIte, Nat.reduceEqDiff, Nat.reduceLT, Nat.reduceLeDiff, Nat.reduceAdd, Nat.reduceMul, Nat.reduceSub, Nat.reduceBEq]; done)
        · rfl
        · exact okD_all rfl
        · exact .inl rfl
        · (simp only [go_sem, Nat.reduceLT])
        refine OW.run [1, 2, 3, 7, 10, 12, 146] ?_
        simp (config := { maxSteps := 2000000 }) only [go_sem, ↓reduceIte, Nat.reduceEqDiff, Nat.reduceLT, Nat.reduceLeDiff, Nat.reduceAdd, Nat.reduceMul, Nat.reduceSub, Nat.reduceBEq, Int.reduceToNat, and_assoc, wrap_w64, wrap_wu64, wrap_wu8, wrap_wu32, wrap_wi32, bits_i64, bits_u64, bit_and, bit_or, bit_xor, shr1, shl1, shr_w, shl_w, rep_I, rep_Bo, seg_mapV, allOne_mapI, ite_or_not, ite_and_not, take_mapF, drop_mapF, Nat.sub_zero, Option.map_some, Option.map_none]
        refine OW.nil (hK _ ?_)
        clear hK K
        change PW _ _ _ _ _
        refine PW.cond rfl (fun h4 => ?_) (fun h4 => ?_)
        · replace hrun := br_t h4 hrun
          refine PW.seq ?_
          refine PW.regionK fun K hK => ?_
          refine OW.run [6] ?_
          simp (config := { maxSteps := 2000000 }) only [go_sem, ↓reduceIte, Nat.reduceEqDiff, Nat.reduceLT, Nat.reduceLeDiff, Nat.reduceAdd, Nat.reduceMul, Nat.reduceSub, Nat.reduceBEq, Int.reduceToNat, and_assoc, wrap_w64, wrap_wu64, wrap_wu8, wrap_wu32, wrap_wi32, bits_i64, bits_u64, bit_and, bit_or, bit_xor, shr1, shl1, shr_w, shl_w, rep_I, rep_Bo, seg_mapV, allOne_mapI, ite_or_not, ite_and_not, take_mapF, drop_mapF, Nat.sub_zero, Option.map_some, Option.map_none]
          refine OW.nil (hK _ ?_)
          clear hK K
          change PW _ _ _ _ _
          refine PW.ret ?_
          change PW.Ends _ _ _ _ _ _
          refine PW.Ends.intro (.inr rfl) ?_
          simp (config := { maxSteps := 2000000 }) only [go_sem, ↓reduceIte, Nat.reduceEqDiff, Nat.reduceLT, Nat.reduceLeDiff, Nat.reduceAdd, Nat.reduceMul, Nat.reduceSub, Nat.reduceBEq, Int.reduceToNat, and_assoc, wrap_w64, wrap_wu64, wrap_wu8, wrap_wu32, wrap_wi32, bits_i64, bits_u64, bit_and, bit_or, bit_xor, shr1, shl1, shr_w, shl_w, rep_I, rep_Bo, seg_mapV, allOne_mapI, ite_or_not, ite_and_not, take_mapF, drop_mapF, Nat.sub_zero, Option.map_some, Option.map_none]
          obtain rfl := Option.some.inj hrun
          refine RetOK.data' 4 (by exact trivial) ?_
          rfl
        · replace hrun := br_f h4 hrun
          refine PW.skip ?_
          change PW _ _ _ _ _
          refine PW.seq ?_
          refine PW.regionK fun K hK => ?_
          refine OW.run [1, 2, 3, 7, 10, 12, 16] ?_
          simp (config := { maxSteps := 2000000 }) only [go_sem, ↓reduceIte, Nat.reduceEqDiff, Nat.reduceLT, Nat.reduceLeDiff, Nat.reduceAdd, Nat.reduceMul, Nat.reduceSub, Nat.reduceBEq, Int.reduceToNat, and_assoc, wrap_w64, wrap_wu64, wrap_wu8, wrap_wu32, wrap_wi32, bits_i64, bits_u64, bit_and, bit_or, bit_xor, shr1, shl1, shr_w, shl_w, rep_I, rep_Bo, seg_mapV, allOne_mapI, ite_or_not, ite_and_not, take_mapF, drop_mapF, Nat.sub_zero, Option.map_some, Option.map_none]
          refine OW.nil (hK _ ?_)
          clear hK K
          change PW _ _ _ _ _
          refine PW.seq ?_
          refine PW.regionK fun K hK => ?_
          refine OW.run [1, 2, 3, 7, 10, 12, 16, 17, 18] ?_
          simp (config := { maxSteps := 2000000 }) only [go_sem, ↓reduceIte, Nat.reduceEqDiff, Nat.reduceLT, Nat.reduceLeDiff, Nat.reduceAdd, Nat.reduceMul, Nat.reduceSub, Nat.reduceBEq, Int.reduceToNat, and_assoc, wrap_w64, wrap_wu64, wrap_wu8, wrap_wu32, wrap_wi32, bits_i64, bits_u64, bit_and, bit_or, bit_xor, shr1, shl1, shr_w, shl_w, rep_I, rep_Bo, seg_mapV, allOne_mapI, ite_or_not, ite_and_not, take_mapF, drop_mapF, Nat.sub_zero, Option.map_some, Option.map_none]
          refine OW.nil (hK _ ?_)
          clear hK K
          change PW _ _ _ _ _
          refine PW.joinS (τ := Int × List Int) [1, 2, 3, 7, 16, 17, 18] 2 (fun (differ, b1) => [(16, .d (I differ)), (17, .own 1 0 b1.length 1)]) (fun (differ, b1) => [{ cells := [.d (I c_Power), .d (L c_Info)], e := 24 }, { cells := (b1.map I).map .d, e := 3 }]) _ _ r (by exact Nat.zero_le _) hrun ?_ ?_
          · intro K_ hrun N5 hN5
            refine PW.seq ?_
            refine PW.regionK fun K hK => ?_
            refine OW.run [1, 2, 3, 7, 10, 12, 16, 17, 18, 19] ?_
            simp (config := { maxSteps := 2000000 }) only [go_sem, ↓reduceIte, Nat.reduceEqDiff, Nat.reduceLT, Nat.reduceLeDiff, Nat.reduceAdd, Nat.reduceMul, Nat.reduceSub, Nat.reduceBEq, Int.reduceToNat, and_assoc, wrap_w64, wrap_wu64, wrap_wu8, wrap_wu32, wrap_wi32, bits_i64, bits_u64, bit_and, bit_or, bit_xor, shr1, shl1, shr_w, shl_w, rep_I, rep_Bo, seg_mapV, allOne_mapI, ite_or_not, ite_and_not, take_mapF, drop_mapF, Nat.sub_zero, Option.map_some, Option.map_none]
            refine OW.nil (hK _ ?_)
            clear hK K
            change PW _ _ _ _ _
            refine PW.block ?_
            refine PW.virt 17 3 1 rfl ?_
            try simp only [go_sem, ↓reduceIte, Nat.reduceEqDiff, Nat.reduceLT, Nat.reduceLeDiff, Nat.reduceAdd, Nat.reduceMul, Nat.reduceSub, Nat.reduceBEq]
            refine PW.loopS (σ := Int × Int × List Int) [1, 2, 3, 7, 10, 12, 16, 17, 18, 19] 2 (fun (differ1, i, b11) => [(16, .d (I differ1)), (17, .own 1 0 b11.length 1), (19, .d (I i))]) (fun (differ1, i, b11) => [{ cells := [.d (I c_Power), .d (L c_Info)], e := 24 }, { cells := (b11.map I).map .d, e := 3 }]) (law02_CodeDistance.b1 N x10 x13 K_) r N ((0 : Int), (0 : Int), ([] : List Int)) (by exact Nat.zero_le _) hrun (by (simp only [Env.frzL, Env.frz, frzOb, V.frz, V.frz.frzs, asD, map_asD, map_nz_I, map_nz_Bo, map_nz_Sx, map_nz_L, nz_int, nz_bool, nz_str, nz_list, nz_ref, nz_nil, map_toDs, toDs_nil, toDs_cons, toDs_append, toDs_mapD, toDs_seg, toDs_drop, toD_own, toD_ptr, toD_clo, toD_agg, toD_tup, map_nz_I, map_nz_Bo, map_nz_Sx, map_nz_L, seg_mapD, seg_flat, toD_d, nz_list, nz_int, nz_bool, nz_str, nz_agg, nz_tup, nz_clo, nz_ref, nz_nil, take_len, take_mapF, drop_mapF, List.length_set, List.length_replicate, List.drop_zero, go_sem, ↓reduceIte, Nat.reduceEqDiff, Nat.reduceLT, Nat.reduceLeDiff, Nat.reduceAdd, Nat.reduceMul, Nat.reduceSub, Nat.reduceBEq]; done)) ?_
            rintro n ⟨differ1, i, b11⟩ hrun N6 hN6
            unfold law02_CodeDistance.b1 at hrun
            try simp only [go_sem, ↓reduceIte, Nat.reduceEqDiff, Nat.reduceLT, Nat.reduceLeDiff, Nat.reduceAdd, Nat.reduceMul, Nat.reduceSub, Nat.reduceBEq]
            refine PW.seq ?_
            refine PW.seq ?_
            refine PW.regionK fun K hK => ?_
            refine OW.run [1, 2, 3, 7, 10, 12, 16, 17, 18, 19, 150] ?_
            simp (config := { maxSteps := 2000000 }) only [go_sem, ↓reduceIte, Nat.reduceEqDiff, Nat.reduceLT, Nat.reduceLeDiff, Nat.reduceAdd, Nat.reduceMul, Nat.reduceSub, Nat.reduceBEq, Int.reduceToNat, and_assoc, wrap_w64, wrap_wu64, wrap_wu8, wrap_wu32, wrap_wi32, bits_i64, bits_u64, bit_and, bit_or, bit_xor, shr1, shl1, shr_w, shl_w, rep_I, rep_Bo, seg_mapV, allOne_mapI, ite_or_not, ite_and_not, take_mapF, drop_mapF, Nat.sub_zero, Option.map_some, Option.map_none]
            refine OW.nil (hK _ ?_)
            clear hK K
            change PW _ _ _ _ _
            refine PW.cond rfl (fun h7 => ?_) (fun h7 => ?_)
            · replace hrun := br_t h7 hrun
              refine PW.skip ?_
              change PW _ _ _ _ _
              refine PW.seq ?_
              refine PW.block ?_
              refine PW.seq ?_
              obtain ⟨c8, hrun⟩ := chk_some hrun
              obtain ⟨c9, hrun⟩ := chk_some hrun
              obtain ⟨c10, hrun⟩ := chk_some hrun
              refine PW.drawK 12 mixed (by kernel_rfl) fun K hK => ?_
              change FW _ _ _ _ _
              refine FW.run ?_
              simp (config := { maxSteps := 2000000 }) only [go_sem, ↓reduceIte, Nat.reduceEqDiff, Nat.reduceLT, Nat.reduceLeDiff, Nat.reduceAdd, Nat.reduceMul, Nat.reduceSub, Nat.reduceBEq, Int.reduceToNat, and_assoc, wrap_w64, wrap_wu64, wrap_wu8, wrap_wu32, wrap_wi32, bits_i64, bits_u64, bit_and, bit_or, bit_xor, shr1, shl1, shr_w, shl_w, rep_I, rep_Bo, seg_mapV, allOne_mapI, ite_or_not, ite_and_not, take_mapF, drop_mapF, Nat.sub_zero, Option.map_some, Option.map_none]
              refine And.intro (by omega) (And.intro (by omega) (And.intro (by omega) (And.intro (by omega) (And.intro (by omega) (And.intro (by omega) (And.intro (by omega) (And.intro (by omega) (And.intro (by omega) ?_))))))))
              refine FW.nil ?_
              change OW _ _ _ _ _ _
              refine OW.run [1, 2, 3, 7, 10, 12, 16, 17, 18, 19] ?_
              simp (config := { maxSteps := 2000000 }) only [go_sem, ↓reduceIte, Nat.reduceEqDiff, Nat.reduceLT, Nat.reduceLeDiff, Nat.reduceAdd, Nat.reduceMul, Nat.reduceSub, Nat.reduceBEq, Int.reduceToNat, and_assoc, wrap_w64, wrap_wu64, wrap_wu8, wrap_wu32, wrap_wi32, bits_i64, bits_u64, bit_and, bit_or, bit_xor, shr1, shl1, shr_w, shl_w, rep_I, rep_Bo, seg_mapV, allOne_mapI, ite_or_not, ite_and_not, take_mapF, drop_mapF, Nat.sub_zero, Option.map_some, Option.map_none]
              refine And.intro (by omega) (And.intro (by omega) (And.intro (by omega) ?_))
              refine OW.nil (hK _ ?_)
              clear hK K
              change PW _ _ _ _ _
              obtain ⟨c11, hrun⟩ := chk_some hrun
              obtain ⟨c12, hrun⟩ := chk_some hrun
              refine PW.drawK 11 mixed (by kernel_rfl) fun K hK => ?_
              change FW _ _ _ _ _
              refine FW.run ?_
              simp (config := { maxSteps := 2000000 }) only [go_sem, ↓reduceIte, Nat.reduceEqDiff, Nat.reduceLT, Nat.reduceLeDiff, Nat.reduceAdd, Nat.reduceMul, Nat.reduceSub, Nat.reduceBEq, Int.reduceToNat, and_assoc, wrap_w64, wrap_wu64, wrap_wu8, wrap_wu32, wrap_wi32, bits_i64, bits_u64, bit_and, bit_or, bit_xor, shr1, shl1, shr_w, shl_w, rep_I, rep_Bo, seg_mapV, allOne_mapI, ite_or_not, ite_and_not, take_mapF, drop_mapF, Nat.sub_zero, Option.map_some, Option.map_none]
              refine And.intro (by omega) (And.intro (by omega) (And.intro (by omega) (And.intro (by omega) (And.intro (by omega) (And.intro (by omega) (And.intro (by omega) (And.intro (by omega) (And.intro (by omega) ?_))))))))
              refine FW.nil ?_
              change OW _ _ _ _ _ _
              refine OW.run [1, 2, 3, 7, 10, 12, 16, 17, 18, 19] ?_
              simp (config := { maxSteps := 2000000 }) only [go_sem, ↓reduceIte, Nat.reduceEqDiff, Nat.reduceLT, Nat.reduceLeDiff, Nat.reduceAdd, Nat.reduceMul, Nat.reduceSub, Nat.reduceBEq, Int.reduceToNat, and_assoc, wrap_w64, wrap_wu64, wrap_wu8, wrap_wu32, wrap_wi32, bits_i64, bits_u64, bit_and, bit_or, bit_xor, shr1, shl1, shr_w, shl_w, rep_I, rep_Bo, seg_mapV, allOne_mapI, ite_or_not, ite_and_not, take_mapF, drop_mapF, Nat.sub_zero, Option.map_some, Option.map_none]
              refine OW.nil (hK _ ?_)
              clear hK K
              change PW _ _ _ _ _
              refine PW.regionK fun K hK => ?_
              refine OW.run [1, 2, 3, 7, 10, 12, 16, 17, 18, 19] ?_
              simp (config := { maxSteps := 2000000 }) only [go_sem, ↓reduceIte, Nat.reduceEqDiff, Nat.reduceLT, Nat.reduceLeDiff, Nat.reduceAdd, Nat.reduceMul, Nat.reduceSub, Nat.reduceBEq, Int.reduceToNat, and_assoc, wrap_w64, wrap_wu64, wrap_wu8, wrap_wu32, wrap_wi32, bits_i64, bits_u64, bit_and, bit_or, bit_xor, shr1, shl1, shr_w, shl_w, rep_I, rep_Bo, seg_mapV, allOne_mapI, ite_or_not, ite_and_not, take_mapF, drop_mapF, Nat.sub_zero, Option.map_some, Option.map_none]
              refine OW.nil (hK _ ?_)
              clear hK K
              refine hN6 [] (w64 (differ1 + ((w64 ((x10.getD i.toNat 0) + (x13.getD i.toNat 0))).tmod (2 : Int))), w64 (i + (1 : Int)), (b11 ++ ([(w64 ((x10.getD i.toNat 0) + (x13.getD i.toNat 0))).tmod (2 : Int)] : List Int))) _ hrun (by exact trivial) ?_
              (simp only [Env.frzL, Env.frz, frzOb, V.frz, V.frz.frzs, asD, map_asD, map_nz_I, map_nz_Bo, map_nz_Sx, map_nz_L, nz_int, nz_bool, nz_str, nz_list, nz_ref, nz_nil, map_toDs, toDs_nil, toDs_cons, toDs_append, toDs_mapD, toDs_seg, toDs_drop, toD_own, toD_ptr, toD_clo, toD_agg, toD_tup, map_nz_I, map_nz_Bo, map_nz_Sx, map_nz_L, seg_mapD, seg_flat, toD_d, nz_list, nz_int, nz_bool, nz_str, nz_agg, nz_tup, nz_clo, nz_ref, nz_nil, take_len, take_mapF, drop_mapF, List.length_set, List.length_replicate, List.drop_zero, go_sem, ↓reduceIte, Nat.reduceEqDiff, Nat.reduceLT, Nat.reduceLeDiff, Nat.reduceAdd, Nat.reduceMul, Nat.reduceSub, Nat.reduceBEq]; done)
            · replace hrun := br_f h7 hrun
              refine PW.exit ?_
              refine hN5 [] (differ1, b11) _ hrun (by exact trivial) ?_
              (simp only [Env.frzL, Env.frz, frzOb, V.frz, V.frz.frzs, asD, map_asD, map_nz_I, map_nz_Bo, map_nz_Sx, map_nz_L, nz_int, nz_bool, nz_str, nz_list, nz_ref, nz_nil, map_toDs, toDs_nil, toDs_cons, toDs_append, toDs_mapD, toDs_seg, toDs_drop, toD_own, toD_ptr, toD_clo, toD_agg, toD_tup, map_nz_I, map_nz_Bo, map_nz_Sx, map_nz_L, seg_mapD, seg_flat, toD_d, nz_list, nz_int, nz_bool, nz_str, nz_agg, nz_tup, nz_clo, nz_ref, nz_nil, take_len, take_mapF, drop_mapF, List.length_set, List.length_replicate, List.drop_zero, go_sem, ↓reduceIte, Nat.reduceEqDiff, Nat.reduceLT, Nat.reduceLeDiff, Nat.reduceAdd, Nat.reduceMul, Nat.reduceSub, Nat.reduceBEq]; done)
          · rintro ⟨differ, b1⟩ hrun
            try simp only [go_sem, ↓reduceIte, Nat.reduceEqDiff, Nat.reduceLT, Nat.reduceLeDiff, Nat.reduceAdd, Nat.reduceMul, Nat.reduceSub, Nat.reduceBEq]
            refine PW.joinS (τ := List Int) [1, 2, 3, 7, 16, 17, 18] 3 (fun b2 => [(18, .own 2 0 b2.length 1)]) (fun b2 => [{ cells := [.d (I c_Power), .d (L c_Info)], e := 24 }, { cells := (b1.map I).map .d, e := 3 }, { cells := (b2.map I).map .d, e := 3 }]) _ _ r (by exact Nat.zero_le _) hrun ?_ ?_
            · intro K_1 hrun N13 hN13
              refine PW.seq ?_
              refine PW.regionK fun K hK => ?_
              refine OW.run [1, 2, 3, 7, 16, 17, 18, 20] ?_
              simp (config := { maxSteps := 2000000 }) only [go_sem, ↓reduceIte, Nat.reduceEqDiff, Nat.reduceLT, Nat.reduceLeDiff, Nat.reduceAdd, Nat.reduceMul, Nat.reduceSub, Nat.reduceBEq, Int.reduceToNat, and_assoc, wrap_w64, wrap_wu64, wrap_wu8, wrap_wu32, wrap_wi32, bits_i64, bits_u64, bit_and, bit_or, bit_xor, shr1, shl1, shr_w, shl_w, rep_I, rep_Bo, seg_mapV, allOne_mapI, ite_or_not, ite_and_not, take_mapF, drop_mapF, Nat.sub_zero, Option.map_some, Option.map_none]
              refine OW.nil (hK _ ?_)
              clear hK K
              change PW _ _ _ _ _
              refine PW.block ?_
              refine PW.virt 18 3 1 rfl ?_
              try simp only [go_sem, ↓reduceIte, Nat.reduceEqDiff, Nat.reduceLT, Nat.reduceLeDiff, Nat.reduceAdd, Nat.reduceMul, Nat.reduceSub, Nat.reduceBEq]
              refine PW.loopS (σ := Int × List Int) [1, 2, 3, 7, 16, 17, 18, 20] 3 (fun (i1, b21) => [(18, .own 2 0 b21.length 1), (20, .d (I i1))]) (fun (i1, b21) => [{ cells := [.d (I c_Power), .d (L c_Info)], e := 24 }, { cells := (b1.map I).map .d, e := 3 }, { cells := (b21.map I).map .d, e := 3 }]) (law02_CodeDistance.b2 N a b K_1) r N ((0 : Int), ([] : List Int)) (by exact Nat.zero_le _) hrun (by (simp only [Env.frzL, Env.frz, frzOb, V.frz, V.frz.frzs, asD, map_asD, map_nz_I, map_nz_Bo, map_nz_Sx, map_nz_L, nz_int, nz_bool, nz_str, nz_list, nz_ref, nz_nil, map_toDs, toDs_nil, toDs_cons, toDs_append, toDs_mapD, toDs_seg, toDs_drop, toD_own, toD_ptr, toD_clo, toD_agg, toD_tup, map_nz_I, map_nz_Bo, map_nz_Sx, map_nz_L, seg_mapD, seg_flat, toD_d, nz_list, nz_int, nz_bool, nz_str, nz_agg, nz_tup, nz_clo, nz_ref, nz_nil, take_len, take_mapF, drop_mapF, List.length_set, List.length_replicate, List.drop_zero, go_sem, ↓reduceIte, Nat.reduceEqDiff, Nat.reduceLT, Nat.reduceLeDiff, Nat.reduceAdd, Nat.reduceMul, Nat.reduceSub, Nat.reduceBEq]; done)) ?_
              rintro n ⟨i1, b21⟩ hrun N14 hN14
              unfold law02_CodeDistance.b2 at hrun
              try simp only [go_sem, ↓reduceIte, Nat.reduceEqDiff, Nat.reduceLT, Nat.reduceLeDiff, Nat.reduceAdd, Nat.reduceMul, Nat.reduceSub, Nat.reduceBEq]
              refine PW.seq ?_
              refine PW.seq ?_
              refine PW.regionK fun K hK => ?_
              refine OW.run [1, 2, 3, 7, 16, 17, 18, 20, 181] ?_
              simp (config := { maxSteps := 2000000 }) only [go_sem, ↓reduceIte, Nat.reduceEqDiff, Nat.reduceLT, Nat.reduceLeDiff, Nat.reduceAdd, Nat.reduceMul, Nat.reduceSub, Nat.reduceBEq, Int.reduceToNat, and_assoc, wrap_w64, wrap_wu64, wrap_wu8, wrap_wu32, wrap_wi32, bits_i64, bits_u64, bit_and, bit_or, bit_xor, shr1, shl1, shr_w, shl_w, rep_I, rep_Bo, seg_mapV, allOne_mapI, ite_or_not, ite_and_not, take_mapF, drop_mapF, Nat.sub_zero, Option.map_some, Option.map_none]
              refine OW.nil (hK _ ?_)
              clear hK K
              change PW _ _ _ _ _
              refine PW.cond rfl (fun h15 => ?_) (fun h15 => ?_)
              · replace hrun := br_t h15 hrun
                refine PW.skip ?_
                change PW _ _ _ _ _
                refine PW.seq ?_
                refine PW.block ?_
                obtain ⟨c16, hrun⟩ := chk_some hrun
                obtain ⟨c17, hrun⟩ := chk_some hrun
                obtain ⟨c18, hrun⟩ := chk_some hrun
                refine PW.drawK 12 mixed (by kernel_rfl) fun K hK => ?_
                change FW _ _ _ _ _
                refine FW.run ?_
                simp (config := { maxSteps := 2000000 }) only [go_sem, ↓reduceIte, Nat.reduceEqDiff, Nat.reduceLT, Nat.reduceLeDiff, Nat.reduceAdd, Nat.reduceMul, Nat.reduceSub, Nat.reduceBEq, Int.reduceToNat, and_assoc, wrap_w64, wrap_wu64, wrap_wu8, wrap_wu32, wrap_wi32, bits_i64, bits_u64, bit_and, bit_or, bit_xor, shr1, shl1, shr_w, shl_w, rep_I, rep_Bo, seg_mapV, allOne_mapI, ite_or_not, ite_and_not, take_mapF, drop_mapF, Nat.sub_zero, Option.map_some, Option.map_none]
                refine And.intro (by omega) (And.intro (by omega) (And.intro (by omega) (And.intro (by omega) (And.intro (by omega) (And.intro (by omega) (And.intro (by omega) (And.intro (by omega) (And.intro (by omega) ?_))))))))
                refine FW.nil ?_
                change OW _ _ _ _ _ _
                refine OW.run [1, 2, 3, 7, 16, 17, 18, 20] ?_
                simp (config := { maxSteps := 2000000 }) only [go_sem, ↓reduceIte, Nat.reduceEqDiff, Nat.reduceLT, Nat.reduceLeDiff, Nat.reduceAdd, Nat.reduceMul, Nat.reduceSub, Nat.reduceBEq, Int.reduceToNat, and_assoc, wrap_w64, wrap_wu64, wrap_wu8, wrap_wu32, wrap_wi32, bits_i64, bits_u64, bit_and, bit_or, bit_xor, shr1, shl1, shr_w, shl_w, rep_I, rep_Bo, seg_mapV, allOne_mapI, ite_or_not, ite_and_not, take_mapF, drop_mapF, Nat.sub_zero, Option.map_some, Option.map_none]
                refine And.intro (by omega) (And.intro (by omega) (And.intro (by omega) ?_))
                refine OW.nil (hK _ ?_)
                clear hK K
                change PW _ _ _ _ _
                refine PW.regionK fun K hK => ?_
                refine OW.run [1, 2, 3, 7, 16, 17, 18, 20] ?_
                simp (config := { maxSteps := 2000000 }) only [go_sem, ↓reduceIte, Nat.reduceEqDiff, Nat.reduceLT, Nat.reduceLeDiff, Nat.reduceAdd, Nat.reduceMul, Nat.reduceSub, Nat.reduceBEq, Int.reduceToNat, and_assoc, wrap_w64, wrap_wu64, wrap_wu8, wrap_wu32, wrap_wi32, bits_i64, bits_u64, bit_and, bit_or, bit_xor, shr1, shl1, shr_w, shl_w, rep_I, rep_Bo, seg_mapV, allOne_mapI, ite_or_not, ite_and_not, take_mapF, drop_mapF, Nat.sub_zero, Option.map_some, Option.map_none]
                refine OW.nil (hK _ ?_)
                clear hK K
                refine hN14 [] (w64 (i1 + (1 : Int)), (b21 ++ ([(w64 ((a.getD i1.toNat 0) + (b.getD i1.toNat 0))).tmod (2 : Int)] : List Int))) _ hrun (by exact trivial) ?_
                (simp only [Env.frzL, Env.frz, frzOb, V.frz, V.frz.frzs, asD, map_asD, map_nz_I, map_nz_Bo, map_nz_Sx, map_nz_L, nz_int, nz_bool, nz_str, nz_list, nz_ref, nz_nil, map_toDs, toDs_nil, toDs_cons, toDs_append, toDs_mapD, toDs_seg, toDs_drop, toD_own, toD_ptr, toD_clo, toD_agg, toD_tup, map_nz_I, map_nz_Bo, map_nz_Sx, map_nz_L, seg_mapD, seg_flat, toD_d, nz_list, nz_int, nz_bool, nz_str, nz_agg, nz_tup, nz_clo, nz_ref, nz_nil, take_len, take_mapF, drop_mapF, List.length_set, List.length_replicate, List.drop_zero, go_sem, ↓reduceIte, Nat.reduceEqDiff, Nat.reduceLT, Nat.reduceLeDiff, Nat.reduceAdd, Nat.reduceMul, Nat.reduceSub, Nat.reduceBEq]; done)
              · replace hrun := br_f h15 hrun
                refine PW.exit ?_
                refine hN13 [] b21 _ hrun (by exact trivial) ?_
                (simp only [Env.frzL, Env.frz, frzOb, V.frz, V.frz.frzs, asD, map_asD, map_nz_I, map_nz_Bo, map_nz_Sx, map_nz_L, nz_int, nz_bool, nz_str, nz_list, nz_ref, nz_nil, map_toDs, toDs_nil, toDs_cons, toDs_append, toDs_mapD, toDs_seg, toDs_drop, toD_own, toD_ptr, toD_clo, toD_agg, toD_tup, map_nz_I, map_nz_Bo, map_nz_Sx, map_nz_L, seg_mapD, seg_flat, toD_d, nz_list, nz_int, nz_bool, nz_str, nz_agg, nz_tup, nz_clo, nz_ref, nz_nil, take_len, take_mapF, drop_mapF, List.length_set, List.length_replicate, List.drop_zero, go_sem, ↓reduceIte, Nat.reduceEqDiff, Nat.reduceLT, Nat.reduceLeDiff, Nat.reduceAdd, Nat.reduceMul, Nat.reduceSub, Nat.reduceBEq]; done)
            · rintro b2 hrun
              try simp only [go_sem, ↓reduceIte, Nat.reduceEqDiff, Nat.reduceLT, Nat.reduceLeDiff, Nat.reduceAdd, Nat.reduceMul, Nat.reduceSub, Nat.reduceBEq]
              refine PW.seq ?_
              obtain ⟨⟨x22, x221⟩, e22, hrun⟩ := bnd_some hrun
              obtain ⟨⟨x23, x231⟩, e23, hrun⟩ := bnd_some hrun
              refine PW.regionK fun K hK => ?_
              refine OW.run [1, 2, 7, 16, 17, 21, 22] ?_
              simp (config := { maxSteps := 2000000 }) only [go_sem, ↓reduceIte, Nat.reduceEqDiff, Nat.reduceLT, Nat.reduceLeDiff, Nat.reduceAdd, Nat.reduceMul, Nat.reduceSub, Nat.reduceBEq, Int.reduceToNat, and_assoc, wrap_w64, wrap_wu64, wrap_wu8, wrap_wu32, wrap_wi32, bits_i64, bits_u64, bit_and, bit_or, bit_xor, shr1, shl1, shr_w, shl_w, rep_I, rep_Bo, seg_mapV, allOne_mapI, ite_or_not, ite_and_not, take_mapF, drop_mapF, Nat.sub_zero, Option.map_some, Option.map_none]
              refine OW.call' 4 rfl rfl rfl (by ((simp only [go_sem, List.toList_toArray, ↓reduceIte, Nat.reduceEqDiff, Nat.reduceLT, Nat.reduceBEq]); exact rfl)) ?_ (ref02_CopyPolar_ok N _ _ _ e22) ?_ ?_ ?_ ?_
              · rfl
              · (refine okAll_intro ?_; (simp only [go_sem, okAll_nil, okAll_cons, okAll_append, okD_dd, okAll_mapD, okAll_segD, okAll_dropD, okD_own, okD_ptr, okD_clo, okD_agg, okD_tup, List.length_set, List.length_replicate, and_true, true_and, Nat.le_refl, ↓reduceIte, Nat.reduceEqDiff, Nat.reduceLT, Nat.reduceLeDiff, Nat.reduceAdd, Nat.reduceMul, Nat.reduceSub, Nat.reduceBEq]; done))
              · exact .inl rfl
              · (simp only [go_sem, Nat.reduceLT])
              refine OW.run [1, 2, 7, 16, 17, 21, 22] ?_
              simp (config := { maxSteps := 2000000 }) only [go_sem, ↓reduceIte, Nat.reduceEqDiff, Nat.reduceLT, Nat.reduceLeDiff, Nat.reduceAdd, Nat.reduceMul, Nat.reduceSub, Nat.reduceBEq, Int.reduceToNat, and_assoc, wrap_w64, wrap_wu64, wrap_wu8, wrap_wu32, wrap_wi32, bits_i64, bits_u64, bit_and, bit_or, bit_xor, shr1, shl1, shr_w, shl_w, rep_I, rep_Bo, seg_mapV, allOne_mapI, ite_or_not, ite_and_not, take_mapF, drop_mapF, Nat.sub_zero, Option.map_some, Option.map_none]
              refine OW.frz 2 (by exact Nat.zero_le _) (by exact allD_mapV _) ?_
              simp only [Env.frzL, Env.frz, frzOb, V.frz, V.frz.frzs, asD, map_asD, map_nz_I, map_nz_Bo, map_nz_Sx, map_nz_L, nz_int, nz_bool, nz_str, nz_list, nz_ref, nz_nil, go_sem, ↓reduceIte, Nat.reduceEqDiff, Nat.reduceLT, Nat.reduceLeDiff, Nat.reduceAdd, Nat.reduceMul, Nat.reduceSub, Nat.reduceBEq]
              refine OW.call' 4 rfl rfl rfl (by ((simp only [go_sem, List.toList_toArray, ↓reduceIte, Nat.reduceEqDiff, Nat.reduceLT, Nat.reduceBEq]); exact rfl)) ?_ (code_Encode_ok N _ _ _ _ e23) ?_ ?_ ?_ ?_
              · (((simp only [go_sem, map_toDs, toDs_nil, toDs_cons, toDs_append, toDs_mapD, toDs_seg, toDs_drop, toD_own, toD_ptr, toD_clo, toD_agg, toD_tup, map_nz_I, map_nz_Bo, map_nz_Sx, map_nz_L, seg_mapD, seg_flat, toD_d, nz_list, nz_int, nz_bool, nz_str, nz_agg, nz_tup, nz_clo, nz_ref, nz_nil, take_len, take_mapF, drop_mapF, List.length_set, List.length_replicate, List.drop_zero, ↓reduceIte, Nat.reduceEqDiff, Nat.reduceLT, Nat.reduceLeDiff, Nat.reduceAdd, Nat.reduceMul, Nat.reduceSub, Nat.reduceBEq]; try simp only [seg, go_sem, ↓reduceIte, Nat.reduceEqDiff, Nat.reduceLT, Nat.reduceLeDiff, Nat.reduceAdd, Nat.reduceMul, Nat.reduceSub, Nat.reduceBEq])); done)
              · exact okD_all rfl
              · exact .inl rfl
              · (simp only [go_sem, Nat.reduceLT])
              refine OW.run [1, 2, 7, 16, 17, 21, 22] ?_
              simp (config := { maxSteps := 2000000 }) only [go_sem, ↓reduceIte, Nat.reduceEqDiff, Nat.reduceLT, Nat.reduceLeDiff, Nat.reduceAdd, Nat.reduceMul, Nat.reduceSub, Nat.reduceBEq, Int.reduceToNat, and_assoc, wrap_w64, wrap_wu64, wrap_wu8, wrap_wu32, wrap_wi32, bits_i64, bits_u64, bit_and, bit_or, bit_xor, shr1, shl1, shr_w, shl_w, rep_I, rep_Bo, seg_mapV, allOne_mapI, ite_or_not, ite_and_not, take_mapF, drop_mapF, Nat.sub_zero, Option.map_some, Option.map_none]
              refine OW.nil (hK _ ?_)
              clear hK K
              change PW _ _ _ _ _
              refine PW.seq ?_
              obtain ⟨x24, e24, hrun⟩ := bnd_some hrun
              obtain ⟨x25, e25, hrun⟩ := bnd_some hrun
              obtain ⟨x26, e26, hrun⟩ := bnd_some hrun
              refine PW.regionK fun K hK => ?_
              refine OW.toS [(6, .d (Bo (((x231 == (0 : Int)) && x24) && ((x25 && (differ == (0 : Int))) || ((!x26) && (decide (differ ≥ x7)))))))] [{ cells := [.d (I c_Power), .d (L c_Info)], e := 24 }, { cells := (b1.map I).map .d, e := 3 }, { cells := [], e := 3 }] ?_ (hK _ ?_)
              · intro K hKE
                rcases Bool.eq_false_or_eq_true ((x231 == (0 : Int))) with ha0 | ha0 <;> rcases Bool.eq_false_or_eq_true (x24) with ha1 | ha1 <;> rcases Bool.eq_false_or_eq_true (x25) with ha2 | ha2 <;> rcases Bool.eq_false_or_eq_true ((differ == (0 : Int))) with ha3 | ha3 <;> rcases Bool.eq_false_or_eq_true (x26) with ha4 | ha4
                all_goals
                  refine OW.run [6] ?_
                  (simp (config := { maxSteps := 2000000 }) only [go_sem, ↓reduceIte, Nat.reduceEqDiff, Nat.reduceLT, Nat.reduceLeDiff, Nat.reduceAdd, Nat.reduceMul, Nat.reduceSub, Nat.reduceBEq, Int.reduceToNat, and_assoc, wrap_w64, wrap_wu64, wrap_wu8, wrap_wu32, wrap_wi32, bits_i64, bits_u64, bit_and, bit_or, bit_xor, shr1, shl1, shr_w, shl_w, rep_I, rep_Bo, seg_mapV, allOne_mapI, ite_or_not, ite_and_not, take_mapF, drop_mapF, Nat.sub_zero, Option.map_some, Option.map_none, ha0, ha1, ha2, ha3, ha4])
                  (repeat (refine And.intro (by (first | omega | assumption | rfl | decide | (simp only [List.length_map, List.length_replicate, List.length_append, List.length_take, List.length_drop, List.length_set, List.length_cons, List.length_nil, Int.toNat_natCast] at *; omega) | trivial)) ?_))
                  refine OW.callG' (g := (x231 == (0 : Int))) 4 rfl rfl ?_ (fun hg => rfl) (fun hg => by (first | ((simp only [go_sem, List.toList_toArray, ↓reduceIte, Nat.reduceEqDiff, Nat.reduceLT, Nat.reduceBEq, ha0, ha1, ha2, ha3, ha4]); exact rfl) | exact rfl)) (fun hg => ?_) (fun hg => (base_Ints_ok N _ _ _ (grd_t hg e24))) ?_ ?_ ?_ ?_
                  · (first | rfl | (simp only [go_sem, ↓reduceIte, Nat.reduceEqDiff, Nat.reduceLT, Nat.reduceLeDiff, Nat.reduceAdd, Nat.reduceMul, Nat.reduceSub, Nat.reduceBEq, ha0, ha1, ha2, ha3, ha4]; done) | (simp only [go_sem, ↓reduceIte, Nat.reduceEqDiff, Nat.reduceLT, Nat.reduceLeDiff, Nat.reduceAdd, Nat.reduceMul, Nat.reduceSub, Nat.reduceBEq, ha0, ha1, ha2, ha3, ha4]; rfl))
                  · (((simp only [go_sem, map_toDs, toDs_nil, toDs_cons, toDs_append, toDs_mapD, toDs_seg, toDs_drop, toD_own, toD_ptr, toD_clo, toD_agg, toD_tup, map_nz_I, map_nz_Bo, map_nz_Sx, map_nz_L, seg_mapD, seg_flat, toD_d, nz_list, nz_int, nz_bool, nz_str, nz_agg, nz_tup, nz_clo, nz_ref, nz_nil, take_len, take_mapF, drop_mapF, List.length_set, List.length_replicate, List.drop_zero, ↓reduceIte, Nat.reduceEqDiff, Nat.reduceLT, Nat.reduceLeDiff, Nat.reduceAdd, Nat.reduceMul, Nat.reduceSub, Nat.reduceBEq]; try simp only [seg, go_sem, ↓reduceIte, Nat.reduceEqDiff, Nat.reduceLT, Nat.reduceLeDiff, Nat.reduceAdd, Nat.reduceMul, Nat.reduceSub, Nat.reduceBEq])); done)
                  · (first | exact trivial | exact okD_all rfl | (refine okAll_intro ?_; (first | (simp only [go_sem, okAll_nil, okAll_cons, okAll_append, okD_dd, okAll_mapD, okAll_segD, okAll_dropD, okD_own, okD_ptr, okD_clo, okD_agg, okD_tup, List.length_set, List.length_replicate, and_true, true_and, Nat.le_refl, ↓reduceIte, Nat.reduceEqDiff, Nat.reduceLT, Nat.reduceLeDiff, Nat.reduceAdd, Nat.reduceMul, Nat.reduceSub, Nat.reduceBEq]; done) | (simp only [go_sem, okAll_nil, okAll_cons, okAll_append, okD_dd, okAll_mapD, okAll_segD, okAll_dropD, okD_own, okD_ptr, okD_clo, okD_agg, okD_tup, List.length_set, List.length_replicate, and_true, true_and, Nat.le_refl, ↓reduceIte, Nat.reduceEqDiff, Nat.reduceLT, Nat.reduceLeDiff, Nat.reduceAdd, Nat.reduceMul, Nat.reduceSub, Nat.reduceBEq]; omega) | (simp only [go_sem, okAll_nil, okAll_cons, okAll_append, okD_dd, okAll_mapD, okAll_segD, okAll_dropD, okD_own, okD_ptr, okD_clo, okD_agg, okD_tup, List.length_set, List.length_replicate, and_true, true_and, Nat.le_refl, ↓reduceIte, Nat.reduceEqDiff, Nat.reduceLT, Nat.reduceLeDiff, Nat.reduceAdd, Nat.reduceMul, Nat.reduceSub, Nat.reduceBEq]; simp only [seg, go_sem, okAll_nil, okAll_cons, okAll_append, okD_dd, okAll_mapD, okAll_segD, okAll_dropD, okD_own, okD_ptr, okD_clo, okD_agg, okD_tup, List.length_set, List.length_replicate, and_true, true_and, Nat.le_refl, ↓reduceIte, Nat.reduceEqDiff, Nat.reduceLT, Nat.reduceLeDiff, Nat.reduceAdd, Nat.reduceMul, Nat.reduceSub, Nat.reduceBEq]; done) | (simp only [go_sem, okAll_nil, okAll_cons, okAll_append, okD_dd, okAll_mapD, okAll_segD, okAll_dropD, okD_own, okD_ptr, okD_clo, okD_agg, okD_tup, List.length_set, List.length_replicate, and_true, true_and, Nat.le_refl, ↓reduceIte, Nat.reduceEqDiff, Nat.reduceLT, Nat.reduceLeDiff, Nat.reduceAdd, Nat.reduceMul, Nat.reduceSub, Nat.reduceBEq]; simp only [seg, go_sem, okAll_nil, okAll_cons, okAll_append, okD_dd, okAll_mapD, okAll_segD, okAll_dropD, okD_own, okD_ptr, okD_clo, okD_agg, okD_tup, List.length_set, List.length_replicate, and_true, true_and, Nat.le_refl, ↓reduceIte, Nat.reduceEqDiff, Nat.reduceLT, Nat.reduceLeDiff, Nat.reduceAdd, Nat.reduceMul, Nat.reduceSub, Nat.reduceBEq]; omega) | (simp only [go_sem, okAll_nil, okAll_cons, okAll_append, okD_dd, okAll_mapD, okAll_segD, okAll_dropD, okD_own, okD_ptr, okD_clo, okD_agg, okD_tup, List.length_set, List.length_replicate, and_true, true_and, Nat.le_refl, ↓reduceIte, Nat.reduceEqDiff, Nat.reduceLT, Nat.reduceLeDiff, Nat.reduceAdd, Nat.reduceMul, Nat.reduceSub, Nat.reduceBEq, List.length_take, List.length_drop]; omega))) | (first | (simp only [go_sem, okAll_nil, okAll_cons, okAll_append, okD_dd, okAll_mapD, okAll_segD, okAll_dropD, okD_own, okD_ptr, okD_clo, okD_agg, okD_tup, List.length_set, List.length_replicate, and_true, true_and, Nat.le_refl, ↓reduceIte, Nat.reduceEqDiff, Nat.reduceLT, Nat.reduceLeDiff, Nat.reduceAdd, Nat.reduceMul, Nat.reduceSub, Nat.reduceBEq]; done) | (simp only [go_sem, okAll_nil, okAll_cons, okAll_append, okD_dd, okAll_mapD, okAll_segD, okAll_dropD, okD_own, okD_ptr, okD_clo, okD_agg, okD_tup, List.length_set, List.length_replicate, and_true, true_and, Nat.le_refl, ↓reduceIte, Nat.reduceEqDiff, Nat.reduceLT, Nat.reduceLeDiff, Nat.reduceAdd, Nat.reduceMul, Nat.reduceSub, Nat.reduceBEq]; omega) | (simp only [go_sem, okAll_nil, okAll_cons, okAll_append, okD_dd, okAll_mapD, okAll_segD, okAll_dropD, okD_own, okD_ptr, okD_clo, okD_agg, okD_tup, List.length_set, List.length_replicate, and_true, true_and, Nat.le_refl, ↓reduceIte, Nat.reduceEqDiff, Nat.reduceLT, Nat.reduceLeDiff, Nat.reduceAdd, Nat.reduceMul, Nat.reduceSub, Nat.reduceBEq]; simp only [seg, go_sem, okAll_nil, okAll_cons, okAll_append, okD_dd, okAll_mapD, okAll_segD, okAll_dropD, okD_own, okD_ptr, okD_clo, okD_agg, okD_tup, List.length_set, List.length_replicate, and_true, true_and, Nat.le_refl, ↓reduceIte, Nat.reduceEqDiff, Nat.reduceLT, Nat.reduceLeDiff, Nat.reduceAdd, Nat.reduceMul, Nat.reduceSub, Nat.reduceBEq]; done) | (simp only [go_sem, okAll_nil, okAll_cons, okAll_append, okD_dd, okAll_mapD, okAll_segD, okAll_dropD, okD_own, okD_ptr, okD_clo, okD_agg, okD_tup, List.length_set, List.length_replicate, and_true, true_and, Nat.le_refl, ↓reduceIte, Nat.reduceEqDiff, Nat.reduceLT, Nat.reduceLeDiff, Nat.reduceAdd, Nat.reduceMul, Nat.reduceSub, Nat.reduceBEq]; simp only [seg, go_sem, okAll_nil, okAll_cons, okAll_append, okD_dd, okAll_mapD, okAll_segD, okAll_dropD, okD_own, okD_ptr, okD_clo, okD_agg, okD_tup, List.length_set, List.length_replicate, and_true, true_and, Nat.le_refl, ↓reduceIte, Nat.reduceEqDiff, Nat.reduceLT, Nat.reduceLeDiff, Nat.reduceAdd, Nat.reduceMul, Nat.reduceSub, Nat.reduceBEq]; omega) | (simp only [go_sem, okAll_nil, okAll_cons, okAll_append, okD_dd, okAll_mapD, okAll_segD, okAll_dropD, okD_own, okD_ptr, okD_clo, okD_agg, okD_tup, List.length_set, List.length_replicate, and_true, true_and, Nat.le_refl, ↓reduceIte, Nat.reduceEqDiff, Nat.reduceLT, Nat.reduceLeDiff, Nat.reduceAdd, Nat.reduceMul, Nat.reduceSub, Nat.reduceBEq, List.length_take, List.length_drop]; omega)))
                  · exact .inr rfl
                  · ((simp only [go_sem, Nat.reduceLT]))
                  refine OW.run [6] ?_
                  (simp (config := { maxSteps := 2000000 }) only [go_sem, ↓reduceIte, Nat.reduceEqDiff, Nat.reduceLT, Nat.reduceLeDiff, Nat.reduceAdd, Nat.reduceMul, Nat.reduceSub, Nat.reduceBEq, Int.reduceToNat, and_assoc, wrap_w64, wrap_wu64, wrap_wu8, wrap_wu32, wrap_wi32, bits_i64, bits_u64, bit_and, bit_or, bit_xor, shr1, shl1, shr_w, shl_w, rep_I, rep_Bo, seg_mapV, allOne_mapI, ite_or_not, ite_and_not, take_mapF, drop_mapF, Nat.sub_zero, Option.map_some, Option.map_none, ha0, ha1, ha2, ha3, ha4])
                  (repeat (refine And.intro (by (first | omega | assumption | rfl | decide | (simp only [List.length_map, List.length_replicate, List.length_append, List.length_take, List.length_drop, List.length_set, List.length_cons, List.length_nil, Int.toNat_natCast] at *; omega) | trivial)) ?_))
                  refine OW.callG' (g := ((x231 == (0 : Int)) && x24)) 4 rfl rfl ?_ (fun hg => rfl) (fun hg => by (first | ((simp only [go_sem, List.toList_toArray, ↓reduceIte, Nat.reduceEqDiff, Nat.reduceLT, Nat.reduceBEq, ha0, ha1, ha2, ha3, ha4]); exact rfl) | exact rfl)) (fun hg => ?_) (fun hg => (base_Ints_ok N _ _ _ (grd_t hg e25))) ?_ ?_ ?_ ?_
                  · (first | rfl | (simp only [go_sem, ↓reduceIte, Nat.reduceEqDiff, Nat.reduceLT, Nat.reduceLeDiff, Nat.reduceAdd, Nat.reduceMul, Nat.reduceSub, Nat.reduceBEq, ha0, ha1, ha2, ha3, ha4]; done) | (simp only [go_sem, ↓reduceIte, Nat.reduceEqDiff, Nat.reduceLT, Nat.reduceLeDiff, Nat.reduceAdd, Nat.reduceMul, Nat.reduceSub, Nat.reduceBEq, ha0, ha1, ha2, ha3, ha4]; rfl))
                  · rfl
                  · exact okD_all rfl
                  · exact .inl rfl
                  · ((simp only [go_sem, Nat.reduceLT]))
                  refine OW.run [6] ?_
                  (simp (config := { maxSteps := 2000000 }) only [go_sem, ↓reduceIte, Nat.reduceEqDiff, Nat.reduceLT, Nat.reduceLeDiff, Nat.reduceAdd, Nat.reduceMul, Nat.reduceSub, Nat.reduceBEq, Int.reduceToNat, and_assoc, wrap_w64, wrap_wu64, wrap_wu8, wrap_wu32, wrap_wi32, bits_i64, bits_u64, bit_and, bit_or, bit_xor, shr1, shl1, shr_w, shl_w, rep_I, rep_Bo, seg_mapV, allOne_mapI, ite_or_not, ite_and_not, take_mapF, drop_mapF, Nat.sub_zero, Option.map_some, Option.map_none, ha0, ha1, ha2, ha3, ha4])
                  (repeat (refine And.intro (by (first | omega | assumption | rfl | decide | (simp only [List.length_map, List.length_replicate, List.length_append, List.length_take, List.length_drop, List.length_set, List.length_cons, List.length_nil, Int.toNat_natCast] at *; omega) | trivial)) ?_))
                  refine OW.callG' (g := (((x231 == (0 : Int)) && x24) && !(x25 && (differ == (0 : Int))))) 4 rfl rfl ?_ (fun hg => rfl) (fun hg => by (first | ((simp only [go_sem, List.toList_toArray, ↓reduceIte, Nat.reduceEqDiff, Nat.reduceLT, Nat.reduceBEq, ha0, ha1, ha2, ha3, ha4]); exact rfl) | exact rfl)) (fun hg => ?_) (fun hg => (base_Ints_ok N _ _ _ (grd_t hg e26))) ?_ ?_ ?_ ?_
                  · (first | rfl | (simp only [go_sem, ↓reduceIte, Nat.reduceEqDiff, Nat.reduceLT, Nat.reduceLeDiff, Nat.reduceAdd, Nat.reduceMul, Nat.reduceSub, Nat.reduceBEq, ha0, ha1, ha2, ha3, ha4]; done) | (simp only [go_sem, ↓reduceIte, Nat.reduceEqDiff, Nat.reduceLT, Nat.reduceLeDiff, Nat.reduceAdd, Nat.reduceMul, Nat.reduceSub, Nat.reduceBEq, ha0, ha1, ha2, ha3, ha4]; rfl))
                  · rfl
                  · exact okD_all rfl
                  · exact .inl rfl
                  · ((simp only [go_sem, Nat.reduceLT]))
                  refine OW.run [6] ?_
                  (simp (config := { maxSteps := 2000000 }) only [go_sem, ↓reduceIte, Nat.reduceEqDiff, Nat.reduceLT, Nat.reduceLeDiff, Nat.reduceAdd, Nat.reduceMul, Nat.reduceSub, Nat.reduceBEq, Int.reduceToNat, and_assoc, wrap_w64, wrap_wu64, wrap_wu8, wrap_wu32, wrap_wi32, bits_i64, bits_u64, bit_and, bit_or, bit_xor, shr1, shl1, shr_w, shl_w, rep_I, rep_Bo, seg_mapV, allOne_mapI, ite_or_not, ite_and_not, take_mapF, drop_mapF, Nat.sub_zero, Option.map_some, Option.map_none, ha0, ha1, ha2, ha3, ha4])
                  (repeat (refine And.intro (by (first | omega | assumption | rfl | decide | (simp only [List.length_map, List.length_replicate, List.length_append, List.length_take, List.length_drop, List.length_set, List.length_cons, List.length_nil, Int.toNat_natCast] at *; omega) | trivial)) ?_))
                  refine OW.nil ((congrArg K ?_).mpr hKE)
                  (first | rfl | (simp only [go_sem, ↓reduceIte, Nat.reduceEqDiff, Nat.reduceLT, Nat.reduceLeDiff, Nat.reduceAdd, Nat.reduceMul, Nat.reduceSub, Nat.reduceBEq, ha0, ha1, ha2, ha3, ha4]; done) | (simp only [go_sem, ↓reduceIte, Nat.reduceEqDiff, Nat.reduceLT, Nat.reduceLeDiff, Nat.reduceAdd, Nat.reduceMul, Nat.reduceSub, Nat.reduceBEq, ha0, ha1, ha2, ha3, ha4]; rfl))
              clear hK K
              change PW _ _ _ _ _
              refine PW.ret ?_
              change PW.Ends _ _ _ _ _ _
              refine PW.Ends.intro (.inr rfl) ?_
              simp (config := { maxSteps := 2000000 }) only [go_sem, ↓reduceIte, Nat.reduceEqDiff, Nat.reduceLT, Nat.reduceLeDiff, Nat.reduceAdd, Nat.reduceMul, Nat.reduceSub, Nat.reduceBEq, Int.reduceToNat, and_assoc, wrap_w64, wrap_wu64, wrap_wu8, wrap_wu32, wrap_wi32, bits_i64, bits_u64, bit_and, bit_or, bit_xor, shr1, shl1, shr_w, shl_w, rep_I, rep_Bo, seg_mapV, allOne_mapI, ite_or_not, ite_and_not, take_mapF, drop_mapF, Nat.sub_zero, Option.map_some, Option.map_none]
              obtain rfl := Option.some.inj hrun
              refine RetOK.data' 4 (by exact trivial) ?_
              rfl

end Go.Proofs.Ytikelkndldaejaa
