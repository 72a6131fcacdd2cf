import Derived.Test.YtikelkndldaejaaCsW5
set_option linter.all false
namespace Go.Proofs.Ytikelkndldaejaa
open Go.PW Go.Sh
set_option maxRecDepth 20000 in
set_option maxHeartbeats 8000000 in
theorem law02_CodeFlips_ok (N : Nat) (c_Info : Int) (c_Rows : List (List Int)) (bits : List Int) (word : List Int) (r : Bool) (hrun : law02_CodeFlips N c_Info c_Rows bits word = some r) : CallOK Try.prog 13 [(.agg [(I c_Info), (.list c_Rows.length (c_Rows.map L))]), (L bits), (L word)] (.d (Bo r)) [] := by
  refine CallOK.of_PW Try.func13 rfl (by rw [Try.results13]) Try.ntmps13 Try.call13 ?_
  change PW _ _ _ _ _
  try simp only [go_sem, ↓reduceIte, Nat.reduceEqDiff, Nat.reduceLT, Nat.reduceLeDiff, Nat.reduceAdd, Nat.reduceMul, Nat.reduceSub, Nat.reduceBEq]
  unfold law02_CodeFlips at hrun
  refine PW.seq ?_
  refine PW.regionK fun K hK => ?_
  refine OW.run [1, 2, 3] ?_
  simp (config := { maxSteps := 2000000 }) only [go_sem, ↓reduceIte, Nat.reduceEqDiff, Nat.reduceLT, Nat.reduceLeDiff, Nat.reduceAdd, Nat.reduceMul, Nat.reduceSub, Nat.reduceBEq, Int.reduceToNat, and_assoc, wrap_w64, wrap_wu64, wrap_wu8, wrap_wu32, wrap_wi32, bits_i64, bits_u64, bit_and, bit_or, bit_xor, shr1, shl1, shr_w, shl_w, rep_I, rep_Bo, seg_mapV, allOne_mapI, ite_or_not, ite_and_not, take_mapF, drop_mapF, Nat.sub_zero, Option.map_some, Option.map_none]
  refine OW.nil (hK _ ?_)
  clear hK K
  change PW _ _ _ _ _
  refine PW.seq ?_
  refine PW.seq ?_
  obtain ⟨x1, e1, hrun⟩ := bnd_some hrun
  refine PW.regionK fun K hK => ?_
  refine OW.run [1, 2, 3, 23] ?_
  simp (config := { maxSteps := 2000000 }) only [go_sem, ↓reduceIte, Nat.reduceEqDiff, Nat.reduceLT, Nat.reduceLeDiff, Nat.reduceAdd, Nat.reduceMul, Nat.reduceSub, Nat.reduceBEq, Int.reduceToNat, and_assoc, wrap_w64, wrap_wu64, wrap_wu8, wrap_wu32, wrap_wi32, bits_i64, bits_u64, bit_and, bit_or, bit_xor, shr1, shl1, shr_w, shl_w, rep_I, rep_Bo, seg_mapV, allOne_mapI, ite_or_not, ite_and_not, take_mapF, drop_mapF, Nat.sub_zero, Option.map_some, Option.map_none]
  refine OW.call' 4 rfl rfl rfl (by ((simp only [go_sem, List.toList_toArray, ↓reduceIte, Nat.reduceEqDiff, Nat.reduceLT, Nat.reduceBEq]); exact rfl)) ?_ (law02_awake_ok N  _ e1) ?_ ?_ ?_ ?_
  · rfl
  · exact okD_all rfl
  · exact .inl rfl
  · (simp only [go_sem, Nat.reduceLT])
  refine OW.run [1, 2, 3, 23] ?_
  simp (config := { maxSteps := 2000000 }) only [go_sem, ↓reduceIte, Nat.reduceEqDiff, Nat.reduceLT, Nat.reduceLeDiff, Nat.reduceAdd, Nat.reduceMul, Nat.reduceSub, Nat.reduceBEq, Int.reduceToNat, and_assoc, wrap_w64, wrap_wu64, wrap_wu8, wrap_wu32, wrap_wi32, bits_i64, bits_u64, bit_and, bit_or, bit_xor, shr1, shl1, shr_w, shl_w, rep_I, rep_Bo, seg_mapV, allOne_mapI, ite_or_not, ite_and_not, take_mapF, drop_mapF, Nat.sub_zero, Option.map_some, Option.map_none]
  refine OW.nil (hK _ ?_)
  clear hK K
  change PW _ _ _ _ _
  refine PW.cond rfl (fun h1 => ?_) (fun h1 => ?_)
  · replace hrun := br_t h1 hrun
    refine PW.seq ?_
    refine PW.regionK fun K hK => ?_
    refine OW.run [6] ?_
    simp (config := { maxSteps := 2000000 }) only [go_sem, ↓reduceIte, Nat.reduceEqDiff, Nat.reduceLT, Nat.reduceLeDiff, Nat.reduceAdd, Nat.reduceMul, Nat.reduceSub, Nat.reduceBEq, Int.reduceToNat, and_assoc, wrap_w64, wrap_wu64, wrap_wu8, wrap_wu32, wrap_wi32, bits_i64, bits_u64, bit_and, bit_or, bit_xor, shr1, shl1, shr_w, shl_w, rep_I, rep_Bo, seg_mapV, allOne_mapI, ite_or_not, ite_and_not, take_mapF, drop_mapF, Nat.sub_zero, Option.map_some, Option.map_none]
    refine OW.nil (hK _ ?_)
    clear hK K
    change PW _ _ _ _ _
    refine PW.ret ?_
    change PW.Ends _ _ _ _ _ _
    refine PW.Ends.intro (.inr rfl) ?_
    simp (config := { maxSteps := 2000000 }) only [go_sem, ↓reduceIte, Nat.reduceEqDiff, Nat.reduceLT, Nat.reduceLeDiff, Nat.reduceAdd, Nat.reduceMul, Nat.reduceSub, Nat.reduceBEq, Int.reduceToNat, and_assoc, wrap_w64, wrap_wu64, wrap_wu8, wrap_wu32, wrap_wi32, bits_i64, bits_u64, bit_and, bit_or, bit_xor, shr1, shl1, shr_w, shl_w, rep_I, rep_Bo, seg_mapV, allOne_mapI, ite_or_not, ite_and_not, take_mapF, drop_mapF, Nat.sub_zero, Option.map_some, Option.map_none]
    obtain rfl := Option.some.inj hrun
    refine RetOK.data' 4 (by exact trivial) ?_
    rfl
  · replace hrun := br_f h1 hrun
    refine PW.skip ?_
    change PW _ _ _ _ _
    refine PW.seq ?_
    refine PW.seq ?_
    obtain ⟨x2, e2, hrun⟩ := bnd_some hrun
    obtain ⟨x3, e3, hrun⟩ := bnd_some hrun
    obtain ⟨x4, e4, hrun⟩ := bnd_some hrun
    obtain ⟨x5, e5, hrun⟩ := bnd_some hrun
    refine PW.regionK fun K hK => ?_
    refine OW.run [1, 2, 3, 64] ?_
    simp (config := { maxSteps := 2000000 }) only [go_sem, ↓reduceIte, Nat.reduceEqDiff, Nat.reduceLT, Nat.reduceLeDiff, Nat.reduceAdd, Nat.reduceMul, Nat.reduceSub, Nat.reduceBEq, Int.reduceToNat, and_assoc, wrap_w64, wrap_wu64, wrap_wu8, wrap_wu32, wrap_wi32, bits_i64, bits_u64, bit_and, bit_or, bit_xor, shr1, shl1, shr_w, shl_w, rep_I, rep_Bo, seg_mapV, allOne_mapI, ite_or_not, ite_and_not, take_mapF, drop_mapF, Nat.sub_zero, Option.map_some, Option.map_none]
    refine OW.call' 4 rfl rfl rfl (by ((simp only [go_sem, List.toList_toArray, ↓reduceIte, Nat.reduceEqDiff, Nat.reduceLT, Nat.reduceBEq]); exact rfl)) ?_ (law02_Short_ok N _ _ _ e2) ?_ ?_ ?_ ?_
    · rfl
    · (refine okAll_intro ?_; (simp only [go_sem, okAll_nil, okAll_cons, okAll_append, okD_dd, okAll_mapD, okAll_segD, okAll_dropD, okD_own, okD_ptr, okD_clo, okD_agg, okD_tup, List.length_set, List.length_replicate, and_true, true_and, Nat.le_refl, ↓reduceIte, Nat.reduceEqDiff, Nat.reduceLT, Nat.reduceLeDiff, Nat.reduceAdd, Nat.reduceMul, Nat.reduceSub, Nat.reduceBEq]; done))
    · exact .inl rfl
    · (simp only [go_sem, Nat.reduceLT])
    refine OW.run [1, 2, 3, 64] ?_
    simp (config := { maxSteps := 2000000 }) only [go_sem, ↓reduceIte, Nat.reduceEqDiff, Nat.reduceLT, Nat.reduceLeDiff, Nat.reduceAdd, Nat.reduceMul, Nat.reduceSub, Nat.reduceBEq, Int.reduceToNat, and_assoc, wrap_w64, wrap_wu64, wrap_wu8, wrap_wu32, wrap_wi32, bits_i64, bits_u64, bit_and, bit_or, bit_xor, shr1, shl1, shr_w, shl_w, rep_I, rep_Bo, seg_mapV, allOne_mapI, ite_or_not, ite_and_not, take_mapF, drop_mapF, Nat.sub_zero, Option.map_some, Option.map_none]
    refine OW.callG' (g := (!(!x2))) 4 rfl rfl ?_ (fun hg => rfl) (fun hg => by ((simp only [go_sem, List.toList_toArray, ↓reduceIte, Nat.reduceEqDiff, Nat.reduceLT, Nat.reduceBEq]); exact rfl)) (fun hg => ?_) (fun hg => (ref02_ParityErr_ok N _ _ _ (grd_t hg e3))) ?_ ?_ ?_ ?_
    · (simp only [go_sem, ↓reduceIte, Nat.reduceEqDiff, Nat.reduceLT, Nat.reduceLeDiff, Nat.reduceAdd, Nat.reduceMul, Nat.reduceSub, Nat.reduceBEq]; done)
    · rfl
    · (refine okAll_intro ?_; (simp only [go_sem, okAll_nil, okAll_cons, okAll_append, okD_dd, okAll_mapD, okAll_segD, okAll_dropD, okD_own, okD_ptr, okD_clo, okD_agg, okD_tup, List.length_set, List.length_replicate, and_true, true_and, Nat.le_refl, ↓reduceIte, Nat.reduceEqDiff, Nat.reduceLT, Nat.reduceLeDiff, Nat.reduceAdd, Nat.reduceMul, Nat.reduceSub, Nat.reduceBEq]; done))
    · exact .inl rfl
    · (simp only [go_sem, Nat.reduceLT])
    refine OW.run [1, 2, 3, 64] ?_
    simp (config := { maxSteps := 2000000 }) only [go_sem, ↓reduceIte, Nat.reduceEqDiff, Nat.reduceLT, Nat.reduceLeDiff, Nat.reduceAdd, Nat.reduceMul, Nat.reduceSub, Nat.reduceBEq, Int.reduceToNat, and_assoc, wrap_w64, wrap_wu64, wrap_wu8, wrap_wu32, wrap_wi32, bits_i64, bits_u64, bit_and, bit_or, bit_xor, shr1, shl1, shr_w, shl_w, rep_I, rep_Bo, seg_mapV, allOne_mapI, ite_or_not, ite_and_not, take_mapF, drop_mapF, Nat.sub_zero, Option.map_some, Option.map_none]
    refine And.intro (by omega) ?_
    refine OW.callG' (g := (!(((!x2) || (x3 != (0 : Int))) || ((bits.length : Int) != c_Info)))) 4 rfl rfl ?_ (fun hg => rfl) (fun hg => by ((simp only [go_sem, List.toList_toArray, ↓reduceIte, Nat.reduceEqDiff, Nat.reduceLT, Nat.reduceBEq]); exact rfl)) (fun hg => ?_) (fun hg => (ref02_BitsErr_ok N _ _ (grd_t hg e4))) ?_ ?_ ?_ ?_
    · (simp only [go_sem, ↓reduceIte, Nat.reduceEqDiff, Nat.reduceLT, Nat.reduceLeDiff, Nat.reduceAdd, Nat.reduceMul, Nat.reduceSub, Nat.reduceBEq]; done)
    · rfl
    · exact okD_all rfl
    · exact .inl rfl
    · (simp only [go_sem, Nat.reduceLT])
    refine OW.run [1, 2, 3, 64] ?_
    simp (config := { maxSteps := 2000000 }) only [go_sem, ↓reduceIte, Nat.reduceEqDiff, Nat.reduceLT, Nat.reduceLeDiff, Nat.reduceAdd, Nat.reduceMul, Nat.reduceSub, Nat.reduceBEq, Int.reduceToNat, and_assoc, wrap_w64, wrap_wu64, wrap_wu8, wrap_wu32, wrap_wi32, bits_i64, bits_u64, bit_and, bit_or, bit_xor, shr1, shl1, shr_w, shl_w, rep_I, rep_Bo, seg_mapV, allOne_mapI, ite_or_not, ite_and_not, take_mapF, drop_mapF, Nat.sub_zero, Option.map_some, Option.map_none]
    refine And.intro (by omega) (And.intro (by omega) ?_)
    refine OW.callG' (g := (!((((((!x2) || (x3 != (0 : Int))) || ((bits.length : Int) != c_Info)) || (x4 != (0 : Int))) || ((word.length : Int) != w64 (c_Info + (c_Rows.length : Int)))) || (decide ((word.length : Int) > (50 : Int)))))) 4 rfl rfl ?_ (fun hg => rfl) (fun hg => by ((simp only [go_sem, List.toList_toArray, ↓reduceIte, Nat.reduceEqDiff, Nat.reduceLT, Nat.reduceBEq]); exact rfl)) (fun hg => ?_) (fun hg => (ref02_BitsErr_ok N _ _ (grd_t hg e5))) ?_ ?_ ?_ ?_
    · (simp only [go_sem, ↓reduceIte, Nat.reduceEqDiff, Nat.reduceLT, Nat.reduceLeDiff, Nat.reduceAdd, Nat.reduceMul, Nat.reduceSub, Nat.reduceBEq]; done)
    · rfl
    · exact okD_all rfl
    · exact .inl rfl
    · (simp only [go_sem, Nat.reduceLT])
    refine OW.run [1, 2, 3, 64] ?_
    simp (config := { maxSteps := 2000000 }) only [go_sem, ↓reduceIte, Nat.reduceEqDiff, Nat.reduceLT, Nat.reduceLeDiff, Nat.reduceAdd, Nat.reduceMul, Nat.reduceSub, Nat.reduceBEq, Int.reduceToNat, and_assoc, wrap_w64, wrap_wu64, wrap_wu8, wrap_wu32, wrap_wi32, bits_i64, bits_u64, bit_and, bit_or, bit_xor, shr1, shl1, shr_w, shl_w, rep_I, rep_Bo, seg_mapV, allOne_mapI, ite_or_not, ite_and_not, take_mapF, drop_mapF, Nat.sub_zero, Option.map_some, Option.map_none]
    refine OW.nil (hK _ ?_)
    clear hK K
    change PW _ _ _ _ _
    refine PW.cond rfl (fun h2 => ?_) (fun h2 => ?_)
    · replace hrun := br_t h2 hrun
      refine PW.seq ?_
      refine PW.regionK fun K hK => ?_
      refine OW.run [6] ?_
      simp (config := { maxSteps := 2000000 }) only [go_sem, ↓reduceIte, Nat.reduceEqDiff, Nat.reduceLT, Nat.reduceLeDiff, Nat.reduceAdd, Nat.reduceMul, Nat.reduceSub, Nat.reduceBEq, Int.reduceToNat, and_assoc, wrap_w64, wrap_wu64, wrap_wu8, wrap_wu32, wrap_wi32, bits_i64, bits_u64, bit_and, bit_or, bit_xor, shr1, shl1, shr_w, shl_w, rep_I, rep_Bo, seg_mapV, allOne_mapI, ite_or_not, ite_and_not, take_mapF, drop_mapF, Nat.sub_zero, Option.map_some, Option.map_none]
      refine OW.nil (hK _ ?_)
      clear hK K
      change PW _ _ _ _ _
      refine PW.ret ?_
      change PW.Ends _ _ _ _ _ _
      refine PW.Ends.intro (.inr rfl) ?_
      simp (config := { maxSteps := 2000000 }) only [go_sem, ↓reduceIte, Nat.reduceEqDiff, Nat.reduceLT, Nat.reduceLeDiff, Nat.reduceAdd, Nat.reduceMul, Nat.reduceSub, Nat.reduceBEq, Int.reduceToNat, and_assoc, wrap_w64, wrap_wu64, wrap_wu8, wrap_wu32, wrap_wi32, bits_i64, bits_u64, bit_and, bit_or, bit_xor, shr1, shl1, shr_w, shl_w, rep_I, rep_Bo, seg_mapV, allOne_mapI, ite_or_not, ite_and_not, take_mapF, drop_mapF, Nat.sub_zero, Option.map_some, Option.map_none]
      obtain rfl := Option.some.inj hrun
      refine RetOK.data' 4 (by exact trivial) ?_
      rfl
    · replace hrun := br_f h2 hrun
      refine PW.skip ?_
      change PW _ _ _ _ _
      refine PW.seq ?_
      obtain ⟨⟨x6, x61⟩, e6, hrun⟩ := bnd_some hrun
      obtain ⟨x7, e7, hrun⟩ := bnd_some hrun
      obtain ⟨⟨x8, x81⟩, e8, hrun⟩ := bnd_some hrun
      refine PW.regionK fun K hK => ?_
      refine OW.run [1, 2, 3, 7, 8] ?_
      simp (config := { maxSteps := 2000000 }) only [go_sem, ↓reduceIte, Nat.reduceEqDiff, Nat.reduceLT, Nat.reduceLeDiff, Nat.reduceAdd, Nat.reduceMul, Nat.reduceSub, Nat.reduceBEq, Int.reduceToNat, and_assoc, wrap_w64, wrap_wu64, wrap_wu8, wrap_wu32, wrap_wi32, bits_i64, bits_u64, bit_and, bit_or, bit_xor, shr1, shl1, shr_w, shl_w, rep_I, rep_Bo, seg_mapV, allOne_mapI, ite_or_not, ite_and_not, take_mapF, drop_mapF, Nat.sub_zero, Option.map_some, Option.map_none]
      refine OW.call' 4 rfl rfl rfl (by ((simp only [go_sem, List.toList_toArray, ↓reduceIte, Nat.reduceEqDiff, Nat.reduceLT, Nat.reduceBEq]); exact rfl)) ?_ (ref02_CopyParity_ok N _ _ _ e6) ?_ ?_ ?_ ?_
      · rfl
      · (refine okAll_intro ?_; (simp only [go_sem, okAll_nil, okAll_cons, okAll_append, okD_dd, okAll_mapD, okAll_segD, okAll_dropD, okD_own, okD_ptr, okD_clo, okD_agg, okD_tup, List.length_set, List.length_replicate, and_true, true_and, Nat.le_refl, ↓reduceIte, Nat.reduceEqDiff, Nat.reduceLT, Nat.reduceLeDiff, Nat.reduceAdd, Nat.reduceMul, Nat.reduceSub, Nat.reduceBEq]; done))
      · exact .inl rfl
      · (simp only [go_sem, Nat.reduceLT])
      refine OW.run [1, 2, 3, 7, 8] ?_
      simp (config := { maxSteps := 2000000 }) only [go_sem, ↓reduceIte, Nat.reduceEqDiff, Nat.reduceLT, Nat.reduceLeDiff, Nat.reduceAdd, Nat.reduceMul, Nat.reduceSub, Nat.reduceBEq, Int.reduceToNat, and_assoc, wrap_w64, wrap_wu64, wrap_wu8, wrap_wu32, wrap_wi32, bits_i64, bits_u64, bit_and, bit_or, bit_xor, shr1, shl1, shr_w, shl_w, rep_I, rep_Bo, seg_mapV, allOne_mapI, ite_or_not, ite_and_not, take_mapF, drop_mapF, Nat.sub_zero, Option.map_some, Option.map_none]
      refine OW.call' 4 rfl rfl rfl (by ((simp only [go_sem, List.toList_toArray, ↓reduceIte, Nat.reduceEqDiff, Nat.reduceLT, Nat.reduceBEq]); exact rfl)) ?_ (base_CopyInts_ok N _ _ e7) ?_ ?_ ?_ ?_
      · rfl
      · exact okD_all rfl
      · exact .inl rfl
      · (simp only [go_sem, Nat.reduceLT])
      refine OW.run [1, 2, 3, 7, 8] ?_
      simp (config := { maxSteps := 2000000 }) only [go_sem, ↓reduceIte, Nat.reduceEqDiff, Nat.reduceLT, Nat.reduceLeDiff, Nat.reduceAdd, Nat.reduceMul, Nat.reduceSub, Nat.reduceBEq, Int.reduceToNat, and_assoc, wrap_w64, wrap_wu64, wrap_wu8, wrap_wu32, wrap_wi32, bits_i64, bits_u64, bit_and, bit_or, bit_xor, shr1, shl1, shr_w, shl_w, rep_I, rep_Bo, seg_mapV, allOne_mapI, ite_or_not, ite_and_not, take_mapF, drop_mapF, Nat.sub_zero, Option.map_some, Option.map_none]
      refine OW.frz 1 (by exact Nat.zero_le _) (by exact allD_mapV _) ?_
      simp only [Env.frzL, Env.frz, frzOb, V.frz, V.frz.frzs, asD, map_asD, map_nz_I, map_nz_Bo, map_nz_Sx, map_nz_L, nz_int, nz_bool, nz_str, nz_list, nz_ref, nz_nil, go_sem, ↓reduceIte, Nat.reduceEqDiff, Nat.reduceLT, Nat.reduceLeDiff, Nat.reduceAdd, Nat.reduceMul, Nat.reduceSub, Nat.reduceBEq]
      refine OW.call' 4 rfl rfl rfl (by ((simp only [go_sem, List.toList_toArray, ↓reduceIte, Nat.reduceEqDiff, Nat.reduceLT, Nat.reduceBEq]); exact rfl)) ?_ (code_EncodeParity_ok N _ _ _ _ e8) ?_ ?_ ?_ ?_
      · (((simp only [go_sem, map_toDs, toDs_nil, toDs_cons, toDs_append, toDs_mapD, toDs_seg, toDs_drop, toD_own, toD_ptr, toD_clo, toD_agg, toD_tup, map_nz_I, map_nz_Bo, map_nz_Sx, map_nz_L, seg_mapD, seg_flat, toD_d, nz_list, nz_int, nz_bool, nz_str, nz_agg, nz_tup, nz_clo, nz_ref, nz_nil, take_len, take_mapF, drop_mapF, List.length_set, List.length_replicate, List.drop_zero, ↓reduceIte, Nat.reduceEqDiff, Nat.reduceLT, Nat.reduceLeDiff, Nat.reduceAdd, Nat.reduceMul, Nat.reduceSub, Nat.reduceBEq]; try simp only [seg, go_sem, ↓reduceIte, Nat.reduceEqDiff, Nat.reduceLT, Nat.reduceLeDiff, Nat.reduceAdd, Nat.reduceMul, Nat.reduceSub, Nat.reduceBEq])); done)
      · exact okD_all rfl
      · exact .inl rfl
      · (simp only [go_sem, Nat.reduceLT])
      refine OW.run [1, 2, 3, 7, 8] ?_
      simp (config := { maxSteps := 2000000 }) only [go_sem, ↓reduceIte, Nat.reduceEqDiff, Nat.reduceLT, Nat.reduceLeDiff, Nat.reduceAdd, Nat.reduceMul, Nat.reduceSub, Nat.reduceBEq, Int.reduceToNat, and_assoc, wrap_w64, wrap_wu64, wrap_wu8, wrap_wu32, wrap_wi32, bits_i64, bits_u64, bit_and, bit_or, bit_xor, shr1, shl1, shr_w, shl_w, rep_I, rep_Bo, seg_mapV, allOne_mapI, ite_or_not, ite_and_not, take_mapF, drop_mapF, Nat.sub_zero, Option.map_some, Option.map_none]
      refine OW.nil (hK _ ?_)
      clear hK K
      change PW _ _ _ _ _
      refine PW.seq ?_
      refine PW.seq ?_
      obtain ⟨c3, hrun⟩ := chk_some hrun
      obtain ⟨x9, e9, hrun⟩ := bnd_some hrun
      refine PW.regionK fun K hK => ?_
      refine OW.toS [(2, .d (L word)), (3, .ptr 0 0), (7, .d (L x8)), (90, .d (Bo (((x81 != (0 : Int)) || ((x8.length : Int) != (word.length : Int))) || (!x9))))] [{ cells := [.d (I c_Info), .d (.list c_Rows.length (c_Rows.map L))], e := 98 }, { cells := [], e := 3 }] ?_ (hK _ ?_)
      · intro K hKE
        rcases Bool.eq_false_or_eq_true ((x81 != (0 : Int))) with ha0 | ha0 <;> rcases Bool.eq_false_or_eq_true (((x8.length : Int) != (word.length : Int))) with ha1 | ha1
        all_goals
          try simp only [ha0, ha1, Bool.and_true, Bool.true_and, Bool.and_false, Bool.false_and, Bool.or_true, Bool.true_or, Bool.or_false, Bool.false_or, Bool.not_true, Bool.not_false, Bool.false_eq_true, true_implies, false_implies, forall_const] at c3
          refine OW.run [2, 3, 7, 90] ?_
          first | (simp (config := { maxSteps := 2000000 }) only [go_sem, ↓reduceIte, Nat.reduceEqDiff, Nat.reduceLT, Nat.reduceLeDiff, Nat.reduceAdd, Nat.reduceMul, Nat.reduceSub, Nat.reduceBEq, Int.reduceToNat, and_assoc, wrap_w64, wrap_wu64, wrap_wu8, wrap_wu32, wrap_wi32, bits_i64, bits_u64, bit_and, bit_or, bit_xor, shr1, shl1, shr_w, shl_w, rep_I, rep_Bo, seg_mapV, allOne_mapI, ite_or_not, ite_and_not, take_mapF, drop_mapF, Nat.sub_zero, Option.map_some, Option.map_none, slice_len I (x8.take ((bits.length : Int).toNat)) ((bits.length : Int).toNat) (by simp only [List.length_take, List.length_drop]; omega), ha0, ha1]) | (simp (config := { maxSteps := 2000000 }) only [go_sem, ↓reduceIte, Nat.reduceEqDiff, Nat.reduceLT, Nat.reduceLeDiff, Nat.reduceAdd, Nat.reduceMul, Nat.reduceSub, Nat.reduceBEq, Int.reduceToNat, and_assoc, wrap_w64, wrap_wu64, wrap_wu8, wrap_wu32, wrap_wi32, bits_i64, bits_u64, bit_and, bit_or, bit_xor, shr1, shl1, shr_w, shl_w, rep_I, rep_Bo, seg_mapV, allOne_mapI, ite_or_not, ite_and_not, take_mapF, drop_mapF, Nat.sub_zero, Option.map_some, Option.map_none, ha0, ha1])
          repeat (refine And.intro (by first | omega | (intro hg; have hq := c3 hg; first | omega | exact hq | (simp only [List.length_map]; omega)) | (first | omega | assumption | rfl | decide | (simp only [List.length_map, List.length_replicate, List.length_append, List.length_take, List.length_drop, List.length_set, List.length_cons, List.length_nil, Nat.zero_add, Int.toNat_natCast] at *; omega) | trivial)) ?_)
          refine OW.callG' (g := (!((x81 != (0 : Int)) || ((x8.length : Int) != (word.length : Int))))) 4 rfl rfl ?_ (fun hg => rfl) (fun hg => by (first | ((simp only [go_sem, List.toList_toArray, ↓reduceIte, Nat.reduceEqDiff, Nat.reduceLT, Nat.reduceBEq, ha0, ha1]); exact rfl) | exact rfl)) (fun hg => ?_) (fun hg => (base_Ints_ok N _ _ _ (grd_t hg e9))) ?_ ?_ ?_ ?_
          · (first | rfl | (simp only [go_sem, ↓reduceIte, Nat.reduceEqDiff, Nat.reduceLT, Nat.reduceLeDiff, Nat.reduceAdd, Nat.reduceMul, Nat.reduceSub, Nat.reduceBEq, ha0, ha1]; done) | (simp only [go_sem, ↓reduceIte, Nat.reduceEqDiff, Nat.reduceLT, Nat.reduceLeDiff, Nat.reduceAdd, Nat.reduceMul, Nat.reduceSub, Nat.reduceBEq, ha0, ha1]; rfl))
          · first | ((((simp only [go_sem, map_toDs, toDs_nil, toDs_cons, toDs_append, toDs_mapD, toDs_seg, toDs_drop, toD_own, toD_ptr, toD_clo, toD_agg, toD_tup, map_nz_I, map_nz_Bo, map_nz_Sx, map_nz_L, seg_mapD, seg_flat, toD_d, nz_list, nz_int, nz_bool, nz_str, nz_agg, nz_tup, nz_clo, nz_ref, nz_nil, take_len, take_mapF, drop_mapF, List.length_set, List.length_replicate, List.drop_zero, ↓reduceIte, Nat.reduceEqDiff, Nat.reduceLT, Nat.reduceLeDiff, Nat.reduceAdd, Nat.reduceMul, Nat.reduceSub, Nat.reduceBEq]; try simp only [seg, go_sem, ↓reduceIte, Nat.reduceEqDiff, Nat.reduceLT, Nat.reduceLeDiff, Nat.reduceAdd, Nat.reduceMul, Nat.reduceSub, Nat.reduceBEq])); (repeat' (first | rfl | (refine list_congr ?_; simp only [List.length_take, List.length_drop, List.length_set, List.length_replicate] <;> omega) | (refine congr (congrArg List.cons ?_) ?_) | (refine congrArg D.agg ?_) | (refine congrArg D.tup ?_) | (refine congrArg D.ref ?_) | (refine congrArg (D.list _) ?_) | (refine congrArg (D.clo _) ?_)))); done) | (exfalso; simp only [ha0, ha1, Bool.and_true, Bool.true_and, Bool.and_false, Bool.false_and, Bool.or_true, Bool.true_or, Bool.or_false, Bool.false_or, Bool.not_true, Bool.not_false, Bool.false_eq_true] at hg)
          · exact okD_all rfl
          · exact .inl rfl
          · ((simp only [go_sem, Nat.reduceLT]))
          refine OW.run [2, 3, 7, 90] ?_
          first | (simp (config := { maxSteps := 2000000 }) only [go_sem, ↓reduceIte, Nat.reduceEqDiff, Nat.reduceLT, Nat.reduceLeDiff, Nat.reduceAdd, Nat.reduceMul, Nat.reduceSub, Nat.reduceBEq, Int.reduceToNat, and_assoc, wrap_w64, wrap_wu64, wrap_wu8, wrap_wu32, wrap_wi32, bits_i64, bits_u64, bit_and, bit_or, bit_xor, shr1, shl1, shr_w, shl_w, rep_I, rep_Bo, seg_mapV, allOne_mapI, ite_or_not, ite_and_not, take_mapF, drop_mapF, Nat.sub_zero, Option.map_some, Option.map_none, slice_len I (x8.take ((bits.length : Int).toNat)) ((bits.length : Int).toNat) (by simp only [List.length_take, List.length_drop]; omega), ha0, ha1]) | (simp (config := { maxSteps := 2000000 }) only [go_sem, ↓reduceIte, Nat.reduceEqDiff, Nat.reduceLT, Nat.reduceLeDiff, Nat.reduceAdd, Nat.reduceMul, Nat.reduceSub, Nat.reduceBEq, Int.reduceToNat, and_assoc, wrap_w64, wrap_wu64, wrap_wu8, wrap_wu32, wrap_wi32, bits_i64, bits_u64, bit_and, bit_or, bit_xor, shr1, shl1, shr_w, shl_w, rep_I, rep_Bo, seg_mapV, allOne_mapI, ite_or_not, ite_and_not, take_mapF, drop_mapF, Nat.sub_zero, Option.map_some, Option.map_none, ha0, ha1])
          repeat (refine And.intro (by first | omega | (intro hg; have hq := c3 hg; first | omega | exact hq | (simp only [List.length_map]; omega)) | (first | omega | assumption | rfl | decide | (simp only [List.length_map, List.length_replicate, List.length_append, List.length_take, List.length_drop, List.length_set, List.length_cons, List.length_nil, Nat.zero_add, Int.toNat_natCast] at *; omega) | trivial)) ?_)
          refine OW.nil ((congrArg K ?_).mpr hKE)
          (first | rfl | (simp only [go_sem, ↓reduceIte, Nat.reduceEqDiff, Nat.reduceLT, Nat.reduceLeDiff, Nat.reduceAdd, Nat.reduceMul, Nat.reduceSub, Nat.reduceBEq, ha0, ha1]; done) | (simp only [go_sem, ↓reduceIte, Nat.reduceEqDiff, Nat.reduceLT, Nat.reduceLeDiff, Nat.reduceAdd, Nat.reduceMul, Nat.reduceSub, Nat.reduceBEq, ha0, ha1]; rfl))
      clear hK K
      change PW _ _ _ _ _
      refine PW.cond rfl (fun h4 => ?_) (fun h4 => ?_)
      · replace hrun := br_t h4 hrun
        refine PW.seq ?_
        refine PW.regionK fun K hK => ?_
        refine OW.run [6] ?_
        simp (config := { maxSteps := 2000000 }) only [go_sem, ↓reduceIte, Nat.reduceEqDiff, Nat.reduceLT, Nat.reduceLeDiff, Nat.reduceAdd, Nat.reduceMul, Nat.reduceSub, Nat.reduceBEq, Int.reduceToNat, and_assoc, wrap_w64, wrap_wu64, wrap_wu8, wrap_wu32, wrap_wi32, bits_i64, bits_u64, bit_and, bit_or, bit_xor, shr1, shl1, shr_w, shl_w, rep_I, rep_Bo, seg_mapV, allOne_mapI, ite_or_not, ite_and_not, take_mapF, drop_mapF, Nat.sub_zero, Option.map_some, Option.map_none]
        refine OW.nil (hK _ ?_)
        clear hK K
        change PW _ _ _ _ _
        refine PW.ret ?_
        change PW.Ends _ _ _ _ _ _
        refine PW.Ends.intro (.inr rfl) ?_
        simp (config := { maxSteps := 2000000 }) only [go_sem, ↓reduceIte, Nat.reduceEqDiff, Nat.reduceLT, Nat.reduceLeDiff, Nat.reduceAdd, Nat.reduceMul, Nat.reduceSub, Nat.reduceBEq, Int.reduceToNat, and_assoc, wrap_w64, wrap_wu64, wrap_wu8, wrap_wu32, wrap_wi32, bits_i64, bits_u64, bit_and, bit_or, bit_xor, shr1, shl1, shr_w, shl_w, rep_I, rep_Bo, seg_mapV, allOne_mapI, ite_or_not, ite_and_not, take_mapF, drop_mapF, Nat.sub_zero, Option.map_some, Option.map_none]
        obtain rfl := Option.some.inj hrun
        refine RetOK.data' 4 (by exact trivial) ?_
        rfl
      · replace hrun := br_f h4 hrun
        refine PW.skip ?_
        change PW _ _ _ _ _
        refine PW.seq ?_
        obtain ⟨⟨x10, x101⟩, e10, hrun⟩ := bnd_some hrun
        obtain ⟨⟨x11, x111⟩, e11, hrun⟩ := bnd_some hrun
        refine PW.regionK fun K hK => ?_
        refine OW.run [2, 3, 9, 10] ?_
        simp (config := { maxSteps := 2000000 }) only [go_sem, ↓reduceIte, Nat.reduceEqDiff, Nat.reduceLT, Nat.reduceLeDiff, Nat.reduceAdd, Nat.reduceMul, Nat.reduceSub, Nat.reduceBEq, Int.reduceToNat, and_assoc, wrap_w64, wrap_wu64, wrap_wu8, wrap_wu32, wrap_wi32, bits_i64, bits_u64, bit_and, bit_or, bit_xor, shr1, shl1, shr_w, shl_w, rep_I, rep_Bo, seg_mapV, allOne_mapI, ite_or_not, ite_and_not, take_mapF, drop_mapF, Nat.sub_zero, Option.map_some, Option.map_none]
        refine OW.call' 4 rfl rfl rfl (by ((simp only [go_sem, List.toList_toArray, ↓reduceIte, Nat.reduceEqDiff, Nat.reduceLT, Nat.reduceBEq]); exact rfl)) ?_ (ref02_CopyParity_ok N _ _ _ e10) ?_ ?_ ?_ ?_
        · rfl
        · (refine okAll_intro ?_; (simp only [go_sem, okAll_nil, okAll_cons, okAll_append, okD_dd, okAll_mapD, okAll_segD, okAll_dropD, okD_own, okD_ptr, okD_clo, okD_agg, okD_tup, List.length_set, List.length_replicate, and_true, true_and, Nat.le_refl, ↓reduceIte, Nat.reduceEqDiff, Nat.reduceLT, Nat.reduceLeDiff, Nat.reduceAdd, Nat.reduceMul, Nat.reduceSub, Nat.reduceBEq]; done))
        · exact .inl rfl
        · (simp only [go_sem, Nat.reduceLT])
        refine OW.run [2, 3, 9, 10] ?_
        simp (config := { maxSteps := 2000000 }) only [go_sem, ↓reduceIte, Nat.reduceEqDiff, Nat.reduceLT, Nat.reduceLeDiff, Nat.reduceAdd, Nat.reduceMul, Nat.reduceSub, Nat.reduceBEq, Int.reduceToNat, and_assoc, wrap_w64, wrap_wu64, wrap_wu8, wrap_wu32, wrap_wi32, bits_i64, bits_u64, bit_and, bit_or, bit_xor, shr1, shl1, shr_w, shl_w, rep_I, rep_Bo, seg_mapV, allOne_mapI, ite_or_not, ite_and_not, take_mapF, drop_mapF, Nat.sub_zero, Option.map_some, Option.map_none]
        refine OW.call' 4 rfl rfl rfl (by ((simp only [go_sem, List.toList_toArray, ↓reduceIte, Nat.reduceEqDiff, Nat.reduceLT, Nat.reduceBEq]); exact rfl)) ?_ (code_Failed_ok N _ _ _ _ e11) ?_ ?_ ?_ ?_
        · rfl
        · exact okD_all rfl
        · exact .inl rfl
        · (simp only [go_sem, Nat.reduceLT])
        refine OW.run [2, 3, 9, 10] ?_
        simp (config := { maxSteps := 2000000 }) only [go_sem, ↓reduceIte, Nat.reduceEqDiff, Nat.reduceLT, Nat.reduceLeDiff, Nat.reduceAdd, Nat.reduceMul, Nat.reduceSub, Nat.reduceBEq, Int.reduceToNat, and_assoc, wrap_w64, wrap_wu64, wrap_wu8, wrap_wu32, wrap_wi32, bits_i64, bits_u64, bit_and, bit_or, bit_xor, shr1, shl1, shr_w, shl_w, rep_I, rep_Bo, seg_mapV, allOne_mapI, ite_or_not, ite_and_not, take_mapF, drop_mapF, Nat.sub_zero, Option.map_some, Option.map_none]
        refine OW.nil (hK _ ?_)
        clear hK K
        change PW _ _ _ _ _
        refine PW.seq ?_
        obtain ⟨⟨x12, x121⟩, e12, hrun⟩ := bnd_some hrun
        obtain ⟨x13, e13, hrun⟩ := bnd_some hrun
        obtain ⟨⟨x14, x141⟩, e14, hrun⟩ := bnd_some hrun
        refine PW.regionK fun K hK => ?_
        refine OW.run [2, 3, 9, 10, 11, 12] ?_
        simp (config := { maxSteps := 2000000 }) only [go_sem, ↓reduceIte, Nat.reduceEqDiff, Nat.reduceLT, Nat.reduceLeDiff, Nat.reduceAdd, Nat.reduceMul, Nat.reduceSub, Nat.reduceBEq, Int.reduceToNat, and_assoc, wrap_w64, wrap_wu64, wrap_wu8, wrap_wu32, wrap_wi32, bits_i64, bits_u64, bit_and, bit_or, bit_xor, shr1, shl1, shr_w, shl_w, rep_I, rep_Bo, seg_mapV, allOne_mapI, ite_or_not, ite_and_not, take_mapF, drop_mapF, Nat.sub_zero, Option.map_some, Option.map_none]
        refine OW.call' 4 rfl rfl rfl (by ((simp only [go_sem, List.toList_toArray, ↓reduceIte, Nat.reduceEqDiff, Nat.reduceLT, Nat.reduceBEq]); exact rfl)) ?_ (ref02_CopyParity_ok N _ _ _ e12) ?_ ?_ ?_ ?_
        · rfl
        · (refine okAll_intro ?_; (simp only [go_sem, okAll_nil, okAll_cons, okAll_append, okD_dd, okAll_mapD, okAll_segD, okAll_dropD, okD_own, okD_ptr, okD_clo, okD_agg, okD_tup, List.length_set, List.length_replicate, and_true, true_and, Nat.le_refl, ↓reduceIte, Nat.reduceEqDiff, Nat.reduceLT, Nat.reduceLeDiff, Nat.reduceAdd, Nat.reduceMul, Nat.reduceSub, Nat.reduceBEq]; done))
        · exact .inl rfl
        · (simp only [go_sem, Nat.reduceLT])
        refine OW.run [2, 3, 9, 10, 11, 12] ?_
        simp (config := { maxSteps := 2000000 }) only [go_sem, ↓reduceIte, Nat.reduceEqDiff, Nat.reduceLT, Nat.reduceLeDiff, Nat.reduceAdd, Nat.reduceMul, Nat.reduceSub, Nat.reduceBEq, Int.reduceToNat, and_assoc, wrap_w64, wrap_wu64, wrap_wu8, wrap_wu32, wrap_wi32, bits_i64, bits_u64, bit_and, bit_or, bit_xor, shr1, shl1, shr_w, shl_w, rep_I, rep_Bo, seg_mapV, allOne_mapI, ite_or_not, ite_and_not, take_mapF, drop_mapF, Nat.sub_zero, Option.map_some, Option.map_none]
        refine OW.call' 4 rfl rfl rfl (by ((simp only [go_sem, List.toList_toArray, ↓reduceIte, Nat.reduceEqDiff, Nat.reduceLT, Nat.reduceBEq]); exact rfl)) ?_ (base_CopyInts_ok N _ _ e13) ?_ ?_ ?_ ?_
        · rfl
        · exact okD_all rfl
        · exact .inl rfl
        · (simp only [go_sem, Nat.reduceLT])
        refine OW.run [2, 3, 9, 10, 11, 12] ?_
        simp (config := { maxSteps := 2000000 }) only [go_sem, ↓reduceIte, Nat.reduceEqDiff, Nat.reduceLT, Nat.reduceLeDiff, Nat.reduceAdd, Nat.reduceMul, Nat.reduceSub, Nat.reduceBEq, Int.reduceToNat, and_assoc, wrap_w64, wrap_wu64, wrap_wu8, wrap_wu32, wrap_wi32, bits_i64, bits_u64, bit_and, bit_or, bit_xor, shr1, shl1, shr_w, shl_w, rep_I, rep_Bo, seg_mapV, allOne_mapI, ite_or_not, ite_and_not, take_mapF, drop_mapF, Nat.sub_zero, Option.map_some, Option.map_none]
        refine OW.frz 2 (by exact Nat.zero_le _) (by exact allD_mapV _) ?_
        simp only [Env.frzL, Env.frz, frzOb, V.frz, V.frz.frzs, asD, map_asD, map_nz_I, map_nz_Bo, map_nz_Sx, map_nz_L, nz_int, nz_bool, nz_str, nz_list, nz_ref, nz_nil, go_sem, ↓reduceIte, Nat.reduceEqDiff, Nat.reduceLT, Nat.reduceLeDiff, Nat.reduceAdd, Nat.reduceMul, Nat.reduceSub, Nat.reduceBEq]
        refine OW.call' 4 rfl rfl rfl (by ((simp only [go_sem, List.toList_toArray, ↓reduceIte, Nat.reduceEqDiff, Nat.reduceLT, Nat.reduceBEq]); exact rfl)) ?_ (code_Failed_ok N _ _ _ _ e14) ?_ ?_ ?_ ?_
        · (((simp only [go_sem, map_toDs, toDs_nil, toDs_cons, toDs_append, toDs_mapD, toDs_seg, toDs_drop, toD_own, toD_ptr, toD_clo, toD_agg, toD_tup, map_nz_I, map_nz_Bo, map_nz_Sx, map_nz_L, seg_mapD, seg_flat, toD_d, nz_list, nz_int, nz_bool, nz_str, nz_agg, nz_tup, nz_clo, nz_ref, nz_nil, take_len, take_mapF, drop_mapF, List.length_set, List.length_replicate, List.drop_zero, ↓reduceIte, Nat.reduceEqDiff, Nat.reduceLT, Nat.reduceLeDiff, Nat.reduceAdd, Nat.reduceMul, Nat.reduceSub, Nat.reduceBEq]; try simp only [seg, go_sem, ↓reduceIte, Nat.reduceEqDiff, Nat.reduceLT, Nat.reduceLeDiff, Nat.reduceAdd, Nat.reduceMul, Nat.reduceSub, Nat.reduceBEq])); done)
        · exact okD_all rfl
        · exact .inl rfl
        · (simp only [go_sem, Nat.reduceLT])
        refine OW.run [2, 3, 9, 10, 11, 12] ?_
        simp (config := { maxSteps := 2000000 }) only [go_sem, ↓reduceIte, Nat.reduceEqDiff, Nat.reduceLT, Nat.reduceLeDiff, Nat.reduceAdd, Nat.reduceMul, Nat.reduceSub, Nat.reduceBEq, Int.reduceToNat, and_assoc, wrap_w64, wrap_wu64, wrap_wu8, wrap_wu32, wrap_wi32, bits_i64, bits_u64, bit_and, bit_or, bit_xor, shr1, shl1, shr_w, shl_w, rep_I, rep_Bo, seg_mapV, allOne_mapI, ite_or_not, ite_and_not, take_mapF, drop_mapF, Nat.sub_zero, Option.map_some, Option.map_none]
        refine OW.nil (hK _ ?_)
        clear hK K
        change PW _ _ _ _ _
        refine PW.seq ?_
        obtain ⟨⟨x15, x151⟩, e15, hrun⟩ := bnd_some hrun
        obtain ⟨x16, e16, hrun⟩ := bnd_some hrun
        obtain ⟨⟨x17, x171, x172⟩, e17, hrun⟩ := bnd_some hrun
        refine PW.regionK fun K hK => ?_
        refine OW.run [2, 3, 9, 10, 11, 12, 13, 14, 15] ?_
        simp (config := { maxSteps := 2000000 }) only [go_sem, ↓reduceIte, Nat.reduceEqDiff, Nat.reduceLT, Nat.reduceLeDiff, Nat.reduceAdd, Nat.reduceMul, Nat.reduceSub, Nat.reduceBEq, Int.reduceToNat, and_assoc, wrap_w64, wrap_wu64, wrap_wu8, wrap_wu32, wrap_wi32, bits_i64, bits_u64, bit_and, bit_or, bit_xor, shr1, shl1, shr_w, shl_w, rep_I, rep_Bo, seg_mapV, allOne_mapI, ite_or_not, ite_and_not, take_mapF, drop_mapF, Nat.sub_zero, Option.map_some, Option.map_none]
        refine OW.call' 4 rfl rfl rfl (by ((simp only [go_sem, List.toList_toArray, ↓reduceIte, Nat.reduceEqDiff, Nat.reduceLT, Nat.reduceBEq]); exact rfl)) ?_ (ref02_CopyParity_ok N _ _ _ e15) ?_ ?_ ?_ ?_
        · rfl
        · (refine okAll_intro ?_; (simp only [go_sem, okAll_nil, okAll_cons, okAll_append, okD_dd, okAll_mapD, okAll_segD, okAll_dropD, okD_own, okD_ptr, okD_clo, okD_agg, okD_tup, List.length_set, List.length_replicate, and_true, true_and, Nat.le_refl, ↓reduceIte, Nat.reduceEqDiff, Nat.reduceLT, Nat.reduceLeDiff, Nat.reduceAdd, Nat.reduceMul, Nat.reduceSub, Nat.reduceBEq]; done))
        · exact .inl rfl
        · (simp only [go_sem, Nat.reduceLT])
        refine OW.run [2, 3, 9, 10, 11, 12, 13, 14, 15] ?_
        simp (config := { maxSteps := 2000000 }) only [go_sem, ↓reduceIte, Nat.reduceEqDiff, Nat.reduceLT, Nat.reduceLeDiff, Nat.reduceAdd, Nat.reduceMul, Nat.reduceSub, Nat.reduceBEq, Int.reduceToNat, and_assoc, wrap_w64, wrap_wu64, wrap_wu8, wrap_wu32, wrap_wi32, bits_i64, bits_u64, bit_and, bit_or, bit_xor, shr1, shl1, shr_w, shl_w, rep_I, rep_Bo, seg_mapV, allOne_mapI, ite_or_not, ite_and_not, take_mapF, drop_mapF, Nat.sub_zero, Option.map_some, Option.map_none]
        refine OW.call' 4 rfl rfl rfl (by ((simp only [go_sem, List.toList_toArray, ↓reduceIte, Nat.reduceEqDiff, Nat.reduceLT, Nat.reduceBEq]); exact rfl)) ?_ (base_CopyInts_ok N _ _ e16) ?_ ?_ ?_ ?_
        · rfl
        · exact okD_all rfl
        · exact .inl rfl
        · (simp only [go_sem, Nat.reduceLT])
        refine OW.run [2, 3, 9, 10, 11, 12, 13, 14, 15] ?_
        simp (config := { maxSteps := 2000000 }) only [go_sem, ↓reduceIte, Nat.reduceEqDiff, Nat.reduceLT, Nat.reduceLeDiff, Nat.reduceAdd, Nat.reduceMul, Nat.reduceSub, Nat.reduceBEq, Int.reduceToNat, and_assoc, wrap_w64, wrap_wu64, wrap_wu8, wrap_wu32, wrap_wi32, bits_i64, bits_u64, bit_and, bit_or, bit_xor, shr1, shl1, shr_w, shl_w, rep_I, rep_Bo, seg_mapV, allOne_mapI, ite_or_not, ite_and_not, take_mapF, drop_mapF, Nat.sub_zero, Option.map_some, Option.map_none]
        refine OW.frz 3 (by exact Nat.zero_le _) (by exact allD_mapV _) ?_
        simp only [Env.frzL, Env.frz, frzOb, V.frz, V.frz.frzs, asD, map_asD, map_nz_I, map_nz_Bo, map_nz_Sx, map_nz_L, nz_int, nz_bool, nz_str, nz_list, nz_ref, nz_nil, go_sem, ↓reduceIte, Nat.reduceEqDiff, Nat.reduceLT, Nat.reduceLeDiff, Nat.reduceAdd, Nat.reduceMul, Nat.reduceSub, Nat.reduceBEq]
        refine OW.call' 4 rfl rfl rfl (by ((simp only [go_sem, List.toList_toArray, ↓reduceIte, Nat.reduceEqDiff, Nat.reduceLT, Nat.reduceBEq]); exact rfl)) ?_ (code_Flip_ok N _ _ _ _ e17) ?_ ?_ ?_ ?_
        · (((simp only [go_sem, map_toDs, toDs_nil, toDs_cons, toDs_append, toDs_mapD, toDs_seg, toDs_drop, toD_own, toD_ptr, toD_clo, toD_agg, toD_tup, map_nz_I, map_nz_Bo, map_nz_Sx, map_nz_L, seg_mapD, seg_flat, toD_d, nz_list, nz_int, nz_bool, nz_str, nz_agg, nz_tup, nz_clo, nz_ref, nz_nil, take_len, take_mapF, drop_mapF, List.length_set, List.length_replicate, List.drop_zero, ↓reduceIte, Nat.reduceEqDiff, Nat.reduceLT, Nat.reduceLeDiff, Nat.reduceAdd, Nat.reduceMul, Nat.reduceSub, Nat.reduceBEq]; try simp only [seg, go_sem, ↓reduceIte, Nat.reduceEqDiff, Nat.reduceLT, Nat.reduceLeDiff, Nat.reduceAdd, Nat.reduceMul, Nat.reduceSub, Nat.reduceBEq])); done)
        · exact okD_all rfl
        · exact .inl rfl
        · (simp only [go_sem, Nat.reduceLT])
        refine OW.run [2, 3, 9, 10, 11, 12, 13, 14, 15] ?_
        simp (config := { maxSteps := 2000000 }) only [go_sem, ↓reduceIte, Nat.reduceEqDiff, Nat.reduceLT, Nat.reduceLeDiff, Nat.reduceAdd, Nat.reduceMul, Nat.reduceSub, Nat.reduceBEq, Int.reduceToNat, and_assoc, wrap_w64, wrap_wu64, wrap_wu8, wrap_wu32, wrap_wi32, bits_i64, bits_u64, bit_and, bit_or, bit_xor, shr1, shl1, shr_w, shl_w, rep_I, rep_Bo, seg_mapV, allOne_mapI, ite_or_not, ite_and_not, take_mapF, drop_mapF, Nat.sub_zero, Option.map_some, Option.map_none]
        refine OW.nil (hK _ ?_)
        clear hK K
        change PW _ _ _ _ _
        refine PW.seq ?_
        refine PW.seq ?_
        obtain ⟨x18, e18, hrun⟩ := bnd_some hrun
        refine PW.regionK fun K hK => ?_
        refine OW.run [3, 11, 13, 14, 141] ?_
        simp (config := { maxSteps := 2000000 }) only [go_sem, ↓reduceIte, Nat.reduceEqDiff, Nat.reduceLT, Nat.reduceLeDiff, Nat.reduceAdd, Nat.reduceMul, Nat.reduceSub, Nat.reduceBEq, Int.reduceToNat, and_assoc, wrap_w64, wrap_wu64, wrap_wu8, wrap_wu32, wrap_wi32, bits_i64, bits_u64, bit_and, bit_or, bit_xor, shr1, shl1, shr_w, shl_w, rep_I, rep_Bo, seg_mapV, allOne_mapI, ite_or_not, ite_and_not, take_mapF, drop_mapF, Nat.sub_zero, Option.map_some, Option.map_none]
        refine OW.callG' (g := (!(((((x111 != (0 : Int)) || (decide ((x11.length : Int) > (0 : Int)))) || (x141 != (0 : Int))) || (x172 != (0 : Int))) || ((x17.length : Int) != (word.length : Int))))) 4 rfl rfl ?_ (fun hg => rfl) (fun hg => by ((simp only [go_sem, List.toList_toArray, ↓reduceIte, Nat.reduceEqDiff, Nat.reduceLT, Nat.reduceBEq]); exact rfl)) (fun hg => ?_) (fun hg => (base_AreBits_ok N _ _ (grd_t hg e18))) ?_ ?_ ?_ ?_
        · (simp only [go_sem, ↓reduceIte, Nat.reduceEqDiff, Nat.reduceLT, Nat.reduceLeDiff, Nat.reduceAdd, Nat.reduceMul, Nat.reduceSub, Nat.reduceBEq]; done)
        · rfl
        · exact okD_all rfl
        · exact .inl rfl
        · (simp only [go_sem, Nat.reduceLT])
        refine OW.run [3, 11, 13, 14, 141] ?_
        simp (config := { maxSteps := 2000000 }) only [go_sem, ↓reduceIte, Nat.reduceEqDiff, Nat.reduceLT, Nat.reduceLeDiff, Nat.reduceAdd, Nat.reduceMul, Nat.reduceSub, Nat.reduceBEq, Int.reduceToNat, and_assoc, wrap_w64, wrap_wu64, wrap_wu8, wrap_wu32, wrap_wi32, bits_i64, bits_u64, bit_and, bit_or, bit_xor, shr1, shl1, shr_w, shl_w, rep_I, rep_Bo, seg_mapV, allOne_mapI, ite_or_not, ite_and_not, take_mapF, drop_mapF, Nat.sub_zero, Option.map_some, Option.map_none]
        refine OW.nil (hK _ ?_)
        clear hK K
        change PW _ _ _ _ _
        refine PW.cond rfl (fun h5 => ?_) (fun h5 => ?_)
        · replace hrun := br_t h5 hrun
          refine PW.seq ?_
          refine PW.regionK fun K hK => ?_
          refine OW.run [6] ?_
          simp (config := { maxSteps := 2000000 }) only [go_sem, ↓reduceIte, Nat.reduceEqDiff, Nat.reduceLT, Nat.reduceLeDiff, Nat.reduceAdd, Nat.reduceMul, Nat.reduceSub, Nat.reduceBEq, Int.reduceToNat, and_assoc, wrap_w64, wrap_wu64, wrap_wu8, wrap_wu32, wrap_wi32, bits_i64, bits_u64, bit_and, bit_or, bit_xor, shr1, shl1, shr_w, shl_w, rep_I, rep_Bo, seg_mapV, allOne_mapI, ite_or_not, ite_and_not, take_mapF, drop_mapF, Nat.sub_zero, Option.map_some, Option.map_none]
          refine OW.nil (hK _ ?_)
          clear hK K
          change PW _ _ _ _ _
          refine PW.ret ?_
          change PW.Ends _ _ _ _ _ _
          refine PW.Ends.intro (.inr rfl) ?_
          simp (config := { maxSteps := 2000000 }) only [go_sem, ↓reduceIte, Nat.reduceEqDiff, Nat.reduceLT, Nat.reduceLeDiff, Nat.reduceAdd, Nat.reduceMul, Nat.reduceSub, Nat.reduceBEq, Int.reduceToNat, and_assoc, wrap_w64, wrap_wu64, wrap_wu8, wrap_wu32, wrap_wi32, bits_i64, bits_u64, bit_and, bit_or, bit_xor, shr1, shl1, shr_w, shl_w, rep_I, rep_Bo, seg_mapV, allOne_mapI, ite_or_not, ite_and_not, take_mapF, drop_mapF, Nat.sub_zero, Option.map_some, Option.map_none]
          obtain rfl := Option.some.inj hrun
          refine RetOK.data' 4 (by exact trivial) ?_
          rfl
        · replace hrun := br_f h5 hrun
          refine PW.skip ?_
          change PW _ _ _ _ _
          refine PW.seq ?_
          obtain ⟨⟨x19, x191⟩, e19, hrun⟩ := bnd_some hrun
          obtain ⟨x20, e20, hrun⟩ := bnd_some hrun
          obtain ⟨⟨x21, x211⟩, e21, hrun⟩ := bnd_some hrun
          refine PW.regionK fun K hK => ?_
          refine OW.run [3, 11, 13, 14, 16, 17] ?_
          simp (config := { maxSteps := 2000000 }) only [go_sem, ↓reduceIte, Nat.reduceEqDiff, Nat.reduceLT, Nat.reduceLeDiff, Nat.reduceAdd, Nat.reduceMul, Nat.reduceSub, Nat.reduceBEq, Int.reduceToNat, and_assoc, wrap_w64, wrap_wu64, wrap_wu8, wrap_wu32, wrap_wi32, bits_i64, bits_u64, bit_and, bit_or, bit_xor, shr1, shl1, shr_w, shl_w, rep_I, rep_Bo, seg_mapV, allOne_mapI, ite_or_not, ite_and_not, take_mapF, drop_mapF, Nat.sub_zero, Option.map_some, Option.map_none]
          refine OW.call' 4 rfl rfl rfl (by ((simp only [go_sem, List.toList_toArray, ↓reduceIte, Nat.reduceEqDiff, Nat.reduceLT, Nat.reduceBEq]); exact rfl)) ?_ (ref02_CopyParity_ok N _ _ _ e19) ?_ ?_ ?_ ?_
          · rfl
          · (refine okAll_intro ?_; (simp only [go_sem, okAll_nil, okAll_cons, okAll_append, okD_dd, okAll_mapD, okAll_segD, okAll_dropD, okD_own, okD_ptr, okD_clo, okD_agg, okD_tup, List.length_set, List.length_replicate, and_true, true_and, Nat.le_refl, ↓reduceIte, Nat.reduceEqDiff, Nat.reduceLT, Nat.reduceLeDiff, Nat.reduceAdd, Nat.reduceMul, Nat.reduceSub, Nat.reduceBEq]; done))
          · exact .inl rfl
          · (simp only [go_sem, Nat.reduceLT])
          refine OW.run [3, 11, 13, 14, 16, 17] ?_
          simp (config := { maxSteps := 2000000 }) only [go_sem, ↓reduceIte, Nat.reduceEqDiff, Nat.reduceLT, Nat.reduceLeDiff, Nat.reduceAdd, Nat.reduceMul, Nat.reduceSub, Nat.reduceBEq, Int.reduceToNat, and_assoc, wrap_w64, wrap_wu64, wrap_wu8, wrap_wu32, wrap_wi32, bits_i64, bits_u64, bit_and, bit_or, bit_xor, shr1, shl1, shr_w, shl_w, rep_I, rep_Bo, seg_mapV, allOne_mapI, ite_or_not, ite_and_not, take_mapF, drop_mapF, Nat.sub_zero, Option.map_some, Option.map_none]
          refine OW.call' 4 rfl rfl rfl (by ((simp only [go_sem, List.toList_toArray, ↓reduceIte, Nat.reduceEqDiff, Nat.reduceLT, Nat.reduceBEq]); exact rfl)) ?_ (base_CopyInts_ok N _ _ e20) ?_ ?_ ?_ ?_
          · rfl
          · exact okD_all rfl
          · exact .inl rfl
          · (simp only [go_sem, Nat.reduceLT])
          refine OW.run [3, 11, 13, 14, 16, 17] ?_
          simp (config := { maxSteps := 2000000 }) only [go_sem, ↓reduceIte, Nat.reduceEqDiff, Nat.reduceLT, Nat.reduceLeDiff, Nat.reduceAdd, Nat.reduceMul, Nat.reduceSub, Nat.reduceBEq, Int.reduceToNat, and_assoc, wrap_w64, wrap_wu64, wrap_wu8, wrap_wu32, wrap_wi32, bits_i64, bits_u64, bit_and, bit_or, bit_xor, shr1, shl1, shr_w, shl_w, rep_I, rep_Bo, seg_mapV, allOne_mapI, ite_or_not, ite_and_not, take_mapF, drop_mapF, Nat.sub_zero, Option.map_some, Option.map_none]
          refine OW.frz 4 (by exact Nat.zero_le _) (by exact allD_mapV _) ?_
          simp only [Env.frzL, Env.frz, frzOb, V.frz, V.frz.frzs, asD, map_asD, map_nz_I, map_nz_Bo, map_nz_Sx, map_nz_L, nz_int, nz_bool, nz_str, nz_list, nz_ref, nz_nil, go_sem, ↓reduceIte, Nat.reduceEqDiff, Nat.reduceLT, Nat.reduceLeDiff, Nat.reduceAdd, Nat.reduceMul, Nat.reduceSub, Nat.reduceBEq]
          refine OW.call' 4 rfl rfl rfl (by ((simp only [go_sem, List.toList_toArray, ↓reduceIte, Nat.reduceEqDiff, Nat.reduceLT, Nat.reduceBEq]); exact rfl)) ?_ (code_Failed_ok N _ _ _ _ e21) ?_ ?_ ?_ ?_
          · (((simp only [go_sem, map_toDs, toDs_nil, toDs_cons, toDs_append, toDs_mapD, toDs_seg, toDs_drop, toD_own, toD_ptr, toD_clo, toD_agg, toD_tup, map_nz_I, map_nz_Bo, map_nz_Sx, map_nz_L, seg_mapD, seg_flat, toD_d, nz_list, nz_int, nz_bool, nz_str, nz_agg, nz_tup, nz_clo, nz_ref, nz_nil, take_len, take_mapF, drop_mapF, List.length_set, List.length_replicate, List.drop_zero, ↓reduceIte, Nat.reduceEqDiff, Nat.reduceLT, Nat.reduceLeDiff, Nat.reduceAdd, Nat.reduceMul, Nat.reduceSub, Nat.reduceBEq]; try simp only [seg, go_sem, ↓reduceIte, Nat.reduceEqDiff, Nat.reduceLT, Nat.reduceLeDiff, Nat.reduceAdd, Nat.reduceMul, Nat.reduceSub, Nat.reduceBEq])); done)
          · exact okD_all rfl
          · exact .inl rfl
          · (simp only [go_sem, Nat.reduceLT])
          refine OW.run [3, 11, 13, 14, 16, 17] ?_
          simp (config := { maxSteps := 2000000 }) only [go_sem, ↓reduceIte, Nat.reduceEqDiff, Nat.reduceLT, Nat.reduceLeDiff, Nat.reduceAdd, Nat.reduceMul, Nat.reduceSub, Nat.reduceBEq, Int.reduceToNat, and_assoc, wrap_w64, wrap_wu64, wrap_wu8, wrap_wu32, wrap_wi32, bits_i64, bits_u64, bit_and, bit_or, bit_xor, shr1, shl1, shr_w, shl_w, rep_I, rep_Bo, seg_mapV, allOne_mapI, ite_or_not, ite_and_not, take_mapF, drop_mapF, Nat.sub_zero, Option.map_some, Option.map_none]
          refine OW.nil (hK _ ?_)
          clear hK K
          change PW _ _ _ _ _
          refine PW.seq ?_
          refine PW.seq ?_
          obtain ⟨x22, e22, hrun⟩ := bnd_some hrun
          refine PW.regionK fun K hK => ?_
          refine OW.run [3, 13, 16, 161] ?_
          simp (config := { maxSteps := 2000000 }) only [go_sem, ↓reduceIte, Nat.reduceEqDiff, Nat.reduceLT, Nat.reduceLeDiff, Nat.reduceAdd, Nat.reduceMul, Nat.reduceSub, Nat.reduceBEq, Int.reduceToNat, and_assoc, wrap_w64, wrap_wu64, wrap_wu8, wrap_wu32, wrap_wi32, bits_i64, bits_u64, bit_and, bit_or, bit_xor, shr1, shl1, shr_w, shl_w, rep_I, rep_Bo, seg_mapV, allOne_mapI, ite_or_not, ite_and_not, take_mapF, drop_mapF, Nat.sub_zero, Option.map_some, Option.map_none]
          refine OW.callG' (g := (!(x211 != (0 : Int)))) 4 rfl rfl ?_ (fun hg => rfl) (fun hg => by ((simp only [go_sem, List.toList_toArray, ↓reduceIte, Nat.reduceEqDiff, Nat.reduceLT, Nat.reduceBEq]); exact rfl)) (fun hg => ?_) (fun hg => (base_Within_ok N _ _ _ _ (grd_t hg e22))) ?_ ?_ ?_ ?_
          · (simp only [go_sem, ↓reduceIte, Nat.reduceEqDiff, Nat.reduceLT, Nat.reduceLeDiff, Nat.reduceAdd, Nat.reduceMul, Nat.reduceSub, Nat.reduceBEq]; done)
          · rfl
          · exact okD_all rfl
          · exact .inl rfl
          · (simp only [go_sem, Nat.reduceLT])
          refine OW.run [3, 13, 16, 161] ?_
          simp (config := { maxSteps := 2000000 }) only [go_sem, ↓reduceIte, Nat.reduceEqDiff, Nat.reduceLT, Nat.reduceLeDiff, Nat.reduceAdd, Nat.reduceMul, Nat.reduceSub, Nat.reduceBEq, Int.reduceToNat, and_assoc, wrap_w64, wrap_wu64, wrap_wu8, wrap_wu32, wrap_wi32, bits_i64, bits_u64, bit_and, bit_or, bit_xor, shr1, shl1, shr_w, shl_w, rep_I, rep_Bo, seg_mapV, allOne_mapI, ite_or_not, ite_and_not, take_mapF, drop_mapF, Nat.sub_zero, Option.map_some, Option.map_none]
          refine OW.nil (hK _ ?_)
          clear hK K
          change PW _ _ _ _ _
          refine PW.cond rfl (fun h6 => ?_) (fun h6 => ?_)
          · replace hrun := br_t h6 hrun
            refine PW.seq ?_
            refine PW.regionK fun K hK => ?_
            refine OW.run [6] ?_
            simp (config := { maxSteps := 2000000 }) only [go_sem, ↓reduceIte, Nat.reduceEqDiff, Nat.reduceLT, Nat.reduceLeDiff, Nat.reduceAdd, Nat.reduceMul, Nat.reduceSub, Nat.reduceBEq, Int.reduceToNat, and_assoc, wrap_w64, wrap_wu64, wrap_wu8, wrap_wu32, wrap_wi32, bits_i64, bits_u64, bit_and, bit_or, bit_xor, shr1, shl1, shr_w, shl_w, rep_I, rep_Bo, seg_mapV, allOne_mapI, ite_or_not, ite_and_not, take_mapF, drop_mapF, Nat.sub_zero, Option.map_some, Option.map_none]
            refine OW.nil (hK _ ?_)
            clear hK K
            change PW _ _ _ _ _
            refine PW.ret ?_
            change PW.Ends _ _ _ _ _ _
            refine PW.Ends.intro (.inr rfl) ?_
            simp (config := { maxSteps := 2000000 }) only [go_sem, ↓reduceIte, Nat.reduceEqDiff, Nat.reduceLT, Nat.reduceLeDiff, Nat.reduceAdd, Nat.reduceMul, Nat.reduceSub, Nat.reduceBEq, Int.reduceToNat, and_assoc, wrap_w64, wrap_wu64, wrap_wu8, wrap_wu32, wrap_wi32, bits_i64, bits_u64, bit_and, bit_or, bit_xor, shr1, shl1, shr_w, shl_w, rep_I, rep_Bo, seg_mapV, allOne_mapI, ite_or_not, ite_and_not, take_mapF, drop_mapF, Nat.sub_zero, Option.map_some, Option.map_none]
            obtain rfl := Option.some.inj hrun
            refine RetOK.data' 4 (by exact trivial) ?_
            rfl
          · replace hrun := br_f h6 hrun
            refine PW.skip ?_
            change PW _ _ _ _ _
            refine PW.joinS (τ := Unit) [] 0 (fun _ => []) (fun _ => []) _ _ r (by exact Nat.le_refl _) hrun ?_ ?_
            · intro K_ hrun N7 hN7
              refine PW.seq ?_
              refine PW.regionK fun K hK => ?_
              refine OW.run [3, 13, 16, 18] ?_
              simp (config := { maxSteps := 2000000 }) only [go_sem, ↓reduceIte, Nat.reduceEqDiff, Nat.reduceLT, Nat.reduceLeDiff, Nat.reduceAdd, Nat.reduceMul, Nat.reduceSub, Nat.reduceBEq, Int.reduceToNat, and_assoc, wrap_w64, wrap_wu64, wrap_wu8, wrap_wu32, wrap_wi32, bits_i64, bits_u64, bit_and, bit_or, bit_xor, shr1, shl1, shr_w, shl_w, rep_I, rep_Bo, seg_mapV, allOne_mapI, ite_or_not, ite_and_not, take_mapF, drop_mapF, Nat.sub_zero, Option.map_some, Option.map_none]
              refine OW.nil (hK _ ?_)
              clear hK K
              change PW _ _ _ _ _
              refine PW.block ?_
              refine PW.loopS (σ := Int) [3, 13, 16, 18] 5 (fun k => [(18, .d (I k))]) (fun k => [{ cells := [.d (I c_Info), .d (.list c_Rows.length (c_Rows.map L))], e := 98 }, { cells := [], e := 3 }, { cells := [], e := 3 }, { cells := [], e := 3 }, { cells := [], e := 3 }]) (law02_CodeFlips.b1 N c_Info c_Rows x17 x21 K_) r N (0 : Int) (by exact Nat.zero_le _) hrun (by (simp only [Env.frzL, Env.frz, frzOb, V.frz, V.frz.frzs, asD, map_asD, map_nz_I, map_nz_Bo, map_nz_Sx, map_nz_L, nz_int, nz_bool, nz_str, nz_list, nz_ref, nz_nil, map_toDs, toDs_nil, toDs_cons, toDs_append, toDs_mapD, toDs_seg, toDs_drop, toD_own, toD_ptr, toD_clo, toD_agg, toD_tup, map_nz_I, map_nz_Bo, map_nz_Sx, map_nz_L, seg_mapD, seg_flat, toD_d, nz_list, nz_int, nz_bool, nz_str, nz_agg, nz_tup, nz_clo, nz_ref, nz_nil, take_len, take_mapF, drop_mapF, List.length_set, List.length_replicate, List.drop_zero, go_sem, ↓reduceIte, Nat.reduceEqDiff, Nat.reduceLT, Nat.reduceLeDiff, Nat.reduceAdd, Nat.reduceMul, Nat.reduceSub, Nat.reduceBEq]; done)) ?_
              rintro n k hrun N8 hN8
              unfold law02_CodeFlips.b1 at hrun
              try simp only [go_sem, ↓reduceIte, Nat.reduceEqDiff, Nat.reduceLT, Nat.reduceLeDiff, Nat.reduceAdd, Nat.reduceMul, Nat.reduceSub, Nat.reduceBEq]
              refine PW.seq ?_
              refine PW.seq ?_
              refine PW.regionK fun K hK => ?_
              refine OW.run [3, 13, 16, 18, 165] ?_
              simp (config := { maxSteps := 2000000 }) only [go_sem, ↓reduceIte, Nat.reduceEqDiff, Nat.reduceLT, Nat.reduceLeDiff, Nat.reduceAdd, Nat.reduceMul, Nat.reduceSub, Nat.reduceBEq, Int.reduceToNat, and_assoc, wrap_w64, wrap_wu64, wrap_wu8, wrap_wu32, wrap_wi32, bits_i64, bits_u64, bit_and, bit_or, bit_xor, shr1, shl1, shr_w, shl_w, rep_I, rep_Bo, seg_mapV, allOne_mapI, ite_or_not, ite_and_not, take_mapF, drop_mapF, Nat.sub_zero, Option.map_some, Option.map_none]
              refine OW.nil (hK _ ?_)
              clear hK K
              change PW _ _ _ _ _
              refine PW.cond rfl (fun h9 => ?_) (fun h9 => ?_)
              · replace hrun := br_t h9 hrun
                refine PW.skip ?_
                change PW _ _ _ _ _
                refine PW.seq ?_
                refine PW.block ?_
                refine PW.seq ?_
                obtain ⟨x23, e23, hrun⟩ := bnd_some hrun
                refine PW.regionK fun K hK => ?_
                refine OW.run [3, 13, 16, 18, 19] ?_
                simp (config := { maxSteps := 2000000 }) only [go_sem, ↓reduceIte, Nat.reduceEqDiff, Nat.reduceLT, Nat.reduceLeDiff, Nat.reduceAdd, Nat.reduceMul, Nat.reduceSub, Nat.reduceBEq, Int.reduceToNat, and_assoc, wrap_w64, wrap_wu64, wrap_wu8, wrap_wu32, wrap_wi32, bits_i64, bits_u64, bit_and, bit_or, bit_xor, shr1, shl1, shr_w, shl_w, rep_I, rep_Bo, seg_mapV, allOne_mapI, ite_or_not, ite_and_not, take_mapF, drop_mapF, Nat.sub_zero, Option.map_some, Option.map_none]
                refine OW.call' 4 rfl rfl rfl (by ((simp only [go_sem, List.toList_toArray, ↓reduceIte, Nat.reduceEqDiff, Nat.reduceLT, Nat.reduceBEq]); exact rfl)) ?_ (base_CopyInts_ok N _ _ e23) ?_ ?_ ?_ ?_
                · rfl
                · exact okD_all rfl
                · exact .inl rfl
                · (simp only [go_sem, Nat.reduceLT])
                refine OW.run [3, 13, 16, 18, 19] ?_
                simp (config := { maxSteps := 2000000 }) only [go_sem, ↓reduceIte, Nat.reduceEqDiff, Nat.reduceLT, Nat.reduceLeDiff, Nat.reduceAdd, Nat.reduceMul, Nat.reduceSub, Nat.reduceBEq, Int.reduceToNat, and_assoc, wrap_w64, wrap_wu64, wrap_wu8, wrap_wu32, wrap_wi32, bits_i64, bits_u64, bit_and, bit_or, bit_xor, shr1, shl1, shr_w, shl_w, rep_I, rep_Bo, seg_mapV, allOne_mapI, ite_or_not, ite_and_not, take_mapF, drop_mapF, Nat.sub_zero, Option.map_some, Option.map_none]
                refine OW.nil (hK _ ?_)
                clear hK K
                change PW _ _ _ _ _
                refine PW.seq ?_
                obtain ⟨c10, hrun⟩ := chk_some hrun
                obtain ⟨c11, hrun⟩ := chk_some hrun
                refine PW.regionK fun K hK => ?_
                refine OW.run [3, 13, 16, 18, 19] ?_
                simp (config := { maxSteps := 2000000 }) only [go_sem, ↓reduceIte, Nat.reduceEqDiff, Nat.reduceLT, Nat.reduceLeDiff, Nat.reduceAdd, Nat.reduceMul, Nat.reduceSub, Nat.reduceBEq, Int.reduceToNat, and_assoc, wrap_w64, wrap_wu64, wrap_wu8, wrap_wu32, wrap_wi32, bits_i64, bits_u64, bit_and, bit_or, bit_xor, shr1, shl1, shr_w, shl_w, rep_I, rep_Bo, seg_mapV, allOne_mapI, ite_or_not, ite_and_not, take_mapF, drop_mapF, Nat.sub_zero, Option.map_some, Option.map_none]
                refine And.intro (by omega) (And.intro (by omega) (And.intro (by omega) (And.intro (by omega) (And.intro (by omega) (And.intro (by omega) ?_)))))
                refine OW.nil (hK _ ?_)
                clear hK K
                change PW _ _ _ _ _
                refine PW.seq ?_
                obtain ⟨⟨x24, x241⟩, e24, hrun⟩ := bnd_some hrun
                obtain ⟨⟨x25, x251⟩, e25, hrun⟩ := bnd_some hrun
                refine PW.regionK fun K hK => ?_
                refine OW.run [3, 13, 16, 18, 20, 21] ?_
                simp (config := { maxSteps := 2000000 }) only [go_sem, ↓reduceIte, Nat.reduceEqDiff, Nat.reduceLT, Nat.reduceLeDiff, Nat.reduceAdd, Nat.reduceMul, Nat.reduceSub, Nat.reduceBEq, Int.reduceToNat, and_assoc, wrap_w64, wrap_wu64, wrap_wu8, wrap_wu32, wrap_wi32, bits_i64, bits_u64, bit_and, bit_or, bit_xor, shr1, shl1, shr_w, shl_w, rep_I, rep_Bo, seg_mapV, allOne_mapI, ite_or_not, ite_and_not, take_mapF, drop_mapF, Nat.sub_zero, Option.map_some, Option.map_none]
                refine OW.call' 4 rfl rfl rfl (by ((simp only [go_sem, List.toList_toArray, ↓reduceIte, Nat.reduceEqDiff, Nat.reduceLT, Nat.reduceBEq]); exact rfl)) ?_ (ref02_CopyParity_ok N _ _ _ e24) ?_ ?_ ?_ ?_
                · rfl
                · (refine okAll_intro ?_; (simp only [go_sem, okAll_nil, okAll_cons, okAll_append, okD_dd, okAll_mapD, okAll_segD, okAll_dropD, okD_own, okD_ptr, okD_clo, okD_agg, okD_tup, List.length_set, List.length_replicate, and_true, true_and, Nat.le_refl, ↓reduceIte, Nat.reduceEqDiff, Nat.reduceLT, Nat.reduceLeDiff, Nat.reduceAdd, Nat.reduceMul, Nat.reduceSub, Nat.reduceBEq]; done))
                · exact .inl rfl
                · (simp only [go_sem, Nat.reduceLT])
                refine OW.run [3, 13, 16, 18, 20, 21] ?_
                simp (config := { maxSteps := 2000000 }) only [go_sem, ↓reduceIte, Nat.reduceEqDiff, Nat.reduceLT, Nat.reduceLeDiff, Nat.reduceAdd, Nat.reduceMul, Nat.reduceSub, Nat.reduceBEq, Int.reduceToNat, and_assoc, wrap_w64, wrap_wu64, wrap_wu8, wrap_wu32, wrap_wi32, bits_i64, bits_u64, bit_and, bit_or, bit_xor, shr1, shl1, shr_w, shl_w, rep_I, rep_Bo, seg_mapV, allOne_mapI, ite_or_not, ite_and_not, take_mapF, drop_mapF, Nat.sub_zero, Option.map_some, Option.map_none]
                refine OW.frz 5 (by exact Nat.zero_le _) (by exact allD_mapV _) ?_
                simp only [Env.frzL, Env.frz, frzOb, V.frz, V.frz.frzs, asD, map_asD, map_nz_I, map_nz_Bo, map_nz_Sx, map_nz_L, nz_int, nz_bool, nz_str, nz_list, nz_ref, nz_nil, go_sem, ↓reduceIte, Nat.reduceEqDiff, Nat.reduceLT, Nat.reduceLeDiff, Nat.reduceAdd, Nat.reduceMul, Nat.reduceSub, Nat.reduceBEq]
                refine OW.call' 4 rfl rfl rfl (by ((simp only [go_sem, List.toList_toArray, ↓reduceIte, Nat.reduceEqDiff, Nat.reduceLT, Nat.reduceBEq]); exact rfl)) ?_ (code_Failed_ok N _ _ _ _ e25) ?_ ?_ ?_ ?_
                · (((simp only [go_sem, map_toDs, toDs_nil, toDs_cons, toDs_append, toDs_mapD, toDs_seg, toDs_drop, toD_own, toD_ptr, toD_clo, toD_agg, toD_tup, map_nz_I, map_nz_Bo, map_nz_Sx, map_nz_L, seg_mapD, seg_flat, toD_d, nz_list, nz_int, nz_bool, nz_str, nz_agg, nz_tup, nz_clo, nz_ref, nz_nil, take_len, take_mapF, drop_mapF, List.length_set, List.length_replicate, List.drop_zero, ↓reduceIte, Nat.reduceEqDiff, Nat.reduceLT, Nat.reduceLeDiff, Nat.reduceAdd, Nat.reduceMul, Nat.reduceSub, Nat.reduceBEq]; try simp only [seg, go_sem, ↓reduceIte, Nat.reduceEqDiff, Nat.reduceLT, Nat.reduceLeDiff, Nat.reduceAdd, Nat.reduceMul, Nat.reduceSub, Nat.reduceBEq])); (repeat' (first | rfl | (refine list_congr ?_; simp only [List.length_take, List.length_drop, List.length_set, List.length_replicate] <;> omega) | (refine congr (congrArg List.cons ?_) ?_) | (refine congrArg D.agg ?_) | (refine congrArg D.tup ?_) | (refine congrArg D.ref ?_) | (refine congrArg (D.list _) ?_) | (refine congrArg (D.clo _) ?_))))
                · exact okD_all rfl
                · exact .inl rfl
                · (simp only [go_sem, Nat.reduceLT])
                refine OW.run [3, 13, 16, 18, 20, 21] ?_
                simp (config := { maxSteps := 2000000 }) only [go_sem, ↓reduceIte, Nat.reduceEqDiff, Nat.reduceLT, Nat.reduceLeDiff, Nat.reduceAdd, Nat.reduceMul, Nat.reduceSub, Nat.reduceBEq, Int.reduceToNat, and_assoc, wrap_w64, wrap_wu64, wrap_wu8, wrap_wu32, wrap_wi32, bits_i64, bits_u64, bit_and, bit_or, bit_xor, shr1, shl1, shr_w, shl_w, rep_I, rep_Bo, seg_mapV, allOne_mapI, ite_or_not, ite_and_not, take_mapF, drop_mapF, Nat.sub_zero, Option.map_some, Option.map_none]
                refine OW.nil (hK _ ?_)
                clear hK K
                change PW _ _ _ _ _
                refine PW.seq ?_
                refine PW.regionK fun K hK => ?_
                refine OW.run [3, 13, 16, 18, 193] ?_
                simp (config := { maxSteps := 2000000 }) only [go_sem, ↓reduceIte, Nat.reduceEqDiff, Nat.reduceLT, Nat.reduceLeDiff, Nat.reduceAdd, Nat.reduceMul, Nat.reduceSub, Nat.reduceBEq, Int.reduceToNat, and_assoc, wrap_w64, wrap_wu64, wrap_wu8, wrap_wu32, wrap_wi32, bits_i64, bits_u64, bit_and, bit_or, bit_xor, shr1, shl1, shr_w, shl_w, rep_I, rep_Bo, seg_mapV, allOne_mapI, ite_or_not, ite_and_not, take_mapF, drop_mapF, Nat.sub_zero, Option.map_some, Option.map_none]
                refine OW.nil (hK _ ?_)
                clear hK K
                change PW _ _ _ _ _
                refine PW.cond rfl (fun h12 => ?_) (fun h12 => ?_)
                · replace hrun := br_t h12 hrun
                  refine PW.seq ?_
                  refine PW.regionK fun K hK => ?_
                  refine OW.run [6] ?_
                  simp (config := { maxSteps := 2000000 }) only [go_sem, ↓reduceIte, Nat.reduceEqDiff, Nat.reduceLT, Nat.reduceLeDiff, Nat.reduceAdd, Nat.reduceMul, Nat.reduceSub, Nat.reduceBEq, Int.reduceToNat, and_assoc, wrap_w64, wrap_wu64, wrap_wu8, wrap_wu32, wrap_wi32, bits_i64, bits_u64, bit_and, bit_or, bit_xor, shr1, shl1, shr_w, shl_w, rep_I, rep_Bo, seg_mapV, allOne_mapI, ite_or_not, ite_and_not, take_mapF, drop_mapF, Nat.sub_zero, Option.map_some, Option.map_none]
                  refine OW.nil (hK _ ?_)
                  clear hK K
                  change PW _ _ _ _ _
                  refine PW.ret ?_
                  change PW.Ends _ _ _ _ _ _
                  refine PW.Ends.intro (.inr rfl) ?_
                  simp (config := { maxSteps := 2000000 }) only [go_sem, ↓reduceIte, Nat.reduceEqDiff, Nat.reduceLT, Nat.reduceLeDiff, Nat.reduceAdd, Nat.reduceMul, Nat.reduceSub, Nat.reduceBEq, Int.reduceToNat, and_assoc, wrap_w64, wrap_wu64, wrap_wu8, wrap_wu32, wrap_wi32, bits_i64, bits_u64, bit_and, bit_or, bit_xor, shr1, shl1, shr_w, shl_w, rep_I, rep_Bo, seg_mapV, allOne_mapI, ite_or_not, ite_and_not, take_mapF, drop_mapF, Nat.sub_zero, Option.map_some, Option.map_none]
                  obtain rfl := Option.some.inj hrun
                  refine RetOK.data' 4 (by exact trivial) ?_
                  rfl
                · replace hrun := br_f h12 hrun
                  refine PW.skip ?_
                  change PW _ _ _ _ _
                  refine PW.regionK fun K hK => ?_
                  refine OW.run [3, 13, 16, 18] ?_
                  simp (config := { maxSteps := 2000000 }) only [go_sem, ↓reduceIte, Nat.reduceEqDiff, Nat.reduceLT, Nat.reduceLeDiff, Nat.reduceAdd, Nat.reduceMul, Nat.reduceSub, Nat.reduceBEq, Int.reduceToNat, and_assoc, wrap_w64, wrap_wu64, wrap_wu8, wrap_wu32, wrap_wi32, bits_i64, bits_u64, bit_and, bit_or, bit_xor, shr1, shl1, shr_w, shl_w, rep_I, rep_Bo, seg_mapV, allOne_mapI, ite_or_not, ite_and_not, take_mapF, drop_mapF, Nat.sub_zero, Option.map_some, Option.map_none]
                  refine OW.nil (hK _ ?_)
                  clear hK K
                  refine hN8 [] (w64 (k + (1 : Int))) _ hrun (by exact trivial) ?_
                  (simp only [Env.frzL, Env.frz, frzOb, V.frz, V.frz.frzs, asD, map_asD, map_nz_I, map_nz_Bo, map_nz_Sx, map_nz_L, nz_int, nz_bool, nz_str, nz_list, nz_ref, nz_nil, map_toDs, toDs_nil, toDs_cons, toDs_append, toDs_mapD, toDs_seg, toDs_drop, toD_own, toD_ptr, toD_clo, toD_agg, toD_tup, map_nz_I, map_nz_Bo, map_nz_Sx, map_nz_L, seg_mapD, seg_flat, toD_d, nz_list, nz_int, nz_bool, nz_str, nz_agg, nz_tup, nz_clo, nz_ref, nz_nil, take_len, take_mapF, drop_mapF, List.length_set, List.length_replicate, List.drop_zero, go_sem, ↓reduceIte, Nat.reduceEqDiff, Nat.reduceLT, Nat.reduceLeDiff, Nat.reduceAdd, Nat.reduceMul, Nat.reduceSub, Nat.reduceBEq]; done)
              · replace hrun := br_f h9 hrun
                refine PW.exit ?_
                refine hN7 [] () _ hrun (by exact trivial) ?_
                (simp only [Env.frzL, Env.frz, frzOb, V.frz, V.frz.frzs, asD, map_asD, map_nz_I, map_nz_Bo, map_nz_Sx, map_nz_L, nz_int, nz_bool, nz_str, nz_list, nz_ref, nz_nil, map_toDs, toDs_nil, toDs_cons, toDs_append, toDs_mapD, toDs_seg, toDs_drop, toD_own, toD_ptr, toD_clo, toD_agg, toD_tup, map_nz_I, map_nz_Bo, map_nz_Sx, map_nz_L, seg_mapD, seg_flat, toD_d, nz_list, nz_int, nz_bool, nz_str, nz_agg, nz_tup, nz_clo, nz_ref, nz_nil, take_len, take_mapF, drop_mapF, List.length_set, List.length_replicate, List.drop_zero, go_sem, ↓reduceIte, Nat.reduceEqDiff, Nat.reduceLT, Nat.reduceLeDiff, Nat.reduceAdd, Nat.reduceMul, Nat.reduceSub, Nat.reduceBEq]; done)
            · rintro _ hrun
              try simp only [go_sem, ↓reduceIte, Nat.reduceEqDiff, Nat.reduceLT, Nat.reduceLeDiff, Nat.reduceAdd, Nat.reduceMul, Nat.reduceSub, Nat.reduceBEq]
              refine PW.seq ?_
              refine PW.regionK fun K hK => ?_
              refine OW.run [6] ?_
              simp (config := { maxSteps := 2000000 }) only [go_sem, ↓reduceIte, Nat.reduceEqDiff, Nat.reduceLT, Nat.reduceLeDiff, Nat.reduceAdd, Nat.reduceMul, Nat.reduceSub, Nat.reduceBEq, Int.reduceToNat, and_assoc, wrap_w64, wrap_wu64, wrap_wu8, wrap_wu32, wrap_wi32, bits_i64, bits_u64, bit_and, bit_or, bit_xor, shr1, shl1, shr_w, shl_w, rep_I, rep_Bo, seg_mapV, allOne_mapI, ite_or_not, ite_and_not, take_mapF, drop_mapF, Nat.sub_zero, Option.map_some, Option.map_none]
              refine OW.nil (hK _ ?_)
              clear hK K
              change PW _ _ _ _ _
              refine PW.ret ?_
              change PW.Ends _ _ _ _ _ _
              refine PW.Ends.intro (.inr rfl) ?_
              simp (config := { maxSteps := 2000000 }) only [go_sem, ↓reduceIte, Nat.reduceEqDiff, Nat.reduceLT, Nat.reduceLeDiff, Nat.reduceAdd, Nat.reduceMul, Nat.reduceSub, Nat.reduceBEq, Int.reduceToNat, and_assoc, wrap_w64, wrap_wu64, wrap_wu8, wrap_wu32, wrap_wi32, bits_i64, bits_u64, bit_and, bit_or, bit_xor, shr1, shl1, shr_w, shl_w, rep_I, rep_Bo, seg_mapV, allOne_mapI, ite_or_not, ite_and_not, take_mapF, drop_mapF, Nat.sub_zero, Option.map_some, Option.map_none]
              obtain rfl := Option.some.inj hrun
              refine RetOK.data' 4 (by exact trivial) ?_
              rfl

end Go.Proofs.Ytikelkndldaejaa
