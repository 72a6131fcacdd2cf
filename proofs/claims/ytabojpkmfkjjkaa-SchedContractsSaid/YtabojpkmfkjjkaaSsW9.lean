import Derived.Test.YtabojpkmfkjjkaaSsBase
import Derived.Test.YtabojpkmfkjjkaaSsW0
import Derived.Test.YtabojpkmfkjjkaaSsW3
import Derived.Test.YtabojpkmfkjjkaaSsW4
import Derived.Test.YtabojpkmfkjjkaaSsW8
set_option linter.all false
namespace Go.Proofs.Ytabojpkmfkjjkaa
open Go.PW Go.Sh

set_option maxRecDepth 20000 in
set_option maxHeartbeats 8000000 in
theorem sched_Breaks_1_ok (N : Nat) (n : Int) (r : Bool) (hrun : sched_Breaks_1 N n = some r) : CallOK Try.prog 119 [(I n)] (.d (Bo r)) [] := by
 refine CallOK.of_PW Try.func119 rfl (by rw [Try.results119]) Try.ntmps119 Try.call119 ?_
 change PW _ _ _ _ _
 try simp only [go_sem, simprocAttr]
 unfold sched_Breaks_1 at hrun
 refine PW.seq ?_
 refine PW.regionK fun K hK => ?_
 refine OW.run [0] ?_
 simp only [go_sem, simprocAttr, and_assoc, sw0]
 refine OW.nil (hK _ ?_)
 clear hK K
 change PW _ _ _ _ _
 refine PW.seq ?_
 obtain ⟨x1, e1, hrun⟩ := bnd_some hrun
 refine PW.regionK fun K hK => ?_
 refine OW.run [2] ?_
 simp only [go_sem, simprocAttr, and_assoc, sw0]
 refine OW.call' 4 rfl rfl rfl (by ((simp only [go_sem, List.toList_toArray, ↓reduceIte, Nat.reduceEqDiff, Nat.reduceLT, Nat.reduceBEq]); exact rfl)) ?_ (sched_within_ok N _ _ _ _ e1) ?_ ?_ ?_ ?_
 · rfl
 · exact okD_all rfl
 · exact .inl rfl
 · (simp only [go_sem, Nat.reduceLT])
 refine OW.run [2] ?_
 simp only [go_sem, simprocAttr, and_assoc, sw0]
 refine OW.nil (hK _ ?_)
 clear hK K
 change PW _ _ _ _ _
 refine PW.ret ?_
 change PW.Ends _ _ _ _ _ _
 refine PW.Ends.intro (.inr rfl) ?_
 simp only [go_sem, simprocAttr, and_assoc, sw0]
 obtain rfl := Option.some.inj hrun
 refine RetOK.data' 4 (by exact trivial) ?_
 rfl

set_option maxRecDepth 20000 in
set_option maxHeartbeats 8000000 in
theorem sched_Breaks_ok (N : Nat) (s_Blocks : Int) (s_Control : Int) (s_Power : Int) (s_Table : List Int) (x_Name : ByteArray) (x_Kind : Int) (x_Priority : Int) (x_Weight : Int) (x_Power : Int) (x_Least : Int) (x_Burst : Int) (x_Rate : Int) (x_Delay : Int) (arrivals : List Int) (r : Int × Int × Int) (hrun : sched_Breaks N s_Blocks s_Control s_Power s_Table x_Name x_Kind x_Priority x_Weight x_Power x_Least x_Burst x_Rate x_Delay arrivals = some r) : CallOK Try.prog 52 [(.agg [(I s_Blocks), (I s_Control), (I s_Power), (L s_Table)]), (.agg [(Sx x_Name), (I x_Kind), (I x_Priority), (I x_Weight), (I x_Power), (I x_Least), (I x_Burst), (I x_Rate), (I x_Delay)]), (L arrivals)] (.d (.tup [(.agg [(I r.1), (I r.2.1)]), (I r.2.2)])) [] := by
 refine CallOK.of_PW Try.func52 rfl (by rw [Try.results52]) Try.ntmps52 Try.call52 ?_
 change PW _ _ _ _ _
 try simp only [go_sem, simprocAttr]
 unfold sched_Breaks at hrun
 refine PW.seq ?_
 refine PW.regionK fun K hK => ?_
 refine OW.run [2, 3, 4, 6] ?_
 simp only [go_sem, simprocAttr, and_assoc, sw0]
 refine OW.nil (hK _ ?_)
 clear hK K
 change PW _ _ _ _ _
 refine PW.seq ?_
 obtain ⟨⟨x1, x11, x12, x13, x14⟩, e1, hrun⟩ := bnd_some hrun
 refine PW.regionK fun K hK => ?_
 refine OW.run [2, 4, 6, 9] ?_
 simp only [go_sem, simprocAttr, and_assoc, sw0]
 refine OW.call' 4 rfl rfl rfl (by ((simp only [go_sem, List.toList_toArray, ↓reduceIte, Nat.reduceEqDiff, Nat.reduceLT, Nat.reduceBEq]); exact rfl)) ?_ (sched_openBearer_ok N _ _ _ _ _ _ _ _ _ _ _ _ _ _ e1) ?_ ?_ ?_ ?_
 · rfl
 · (refine okAll_intro ?_; (simp only [go_sem, sw2, List.length_set, List.length_replicate, and_true, true_and, Nat.le_refl, simprocAttr]; done))
 · exact .inl rfl
 · (simp only [go_sem, Nat.reduceLT])
 refine OW.run [2, 4, 6, 9] ?_
 simp only [go_sem, simprocAttr, and_assoc, sw0]
 refine OW.nil (hK _ ?_)
 clear hK K
 change PW _ _ _ _ _
 refine PW.seq ?_
 obtain ⟨x2, e2, hrun⟩ := bnd_some hrun
 refine PW.regionK fun K hK => ?_
 refine OW.run [2, 4, 6, 9, 10] ?_
 simp only [go_sem, simprocAttr, and_assoc, sw0]
 refine OW.call' 4 rfl rfl rfl (by ((simp only [go_sem, List.toList_toArray, ↓reduceIte, Nat.reduceEqDiff, Nat.reduceLT, Nat.reduceBEq]); exact rfl)) ?_ (slices_ContainsFunc_ii_ok N _ 119 [] (fun y0 => sched_Breaks_1 N y0) (fun y0 r h => sched_Breaks_1_ok N y0 r h) _ e2) ?_ ?_ ?_ ?_
 · rfl
 · exact okD_all rfl
 · exact .inl rfl
 · (simp only [go_sem, Nat.reduceLT])
 refine OW.run [2, 4, 6, 9, 10] ?_
 simp only [go_sem, simprocAttr, and_assoc, sw0]
 refine OW.nil (hK _ ?_)
 clear hK K
 change PW _ _ _ _ _
 refine PW.seq ?_
 obtain ⟨x3, e3, hrun⟩ := bnd_some hrun
 obtain ⟨x4, e4, hrun⟩ := bnd_some hrun
 obtain ⟨x5, e5, hrun⟩ := bnd_some hrun
 obtain ⟨x6, e6, hrun⟩ := bnd_some hrun
 obtain ⟨x7, e7, hrun⟩ := bnd_some hrun
 refine PW.regionK fun K hK => ?_
 refine OW.run [2, 4, 6, 9] ?_
 simp only [go_sem, simprocAttr, and_assoc, sw0]
 refine OW.call' 4 rfl rfl rfl (by ((simp only [go_sem, List.toList_toArray, ↓reduceIte, Nat.reduceEqDiff, Nat.reduceLT, Nat.reduceBEq]); exact rfl)) ?_ (sched_guaranteed_ok N _ _ _ _ _ _ _ _ _ _ e3) ?_ ?_ ?_ ?_
 · rfl
 · (refine okAll_intro ?_; (simp only [go_sem, sw2, List.length_set, List.length_replicate, and_true, true_and, Nat.le_refl, simprocAttr]; done))
 · exact .inl rfl
 · (simp only [go_sem, Nat.reduceLT])
 refine OW.run [2, 4, 6, 9] ?_
 simp only [go_sem, simprocAttr, and_assoc, sw0]
 refine OW.call' 4 rfl rfl rfl (by ((simp only [go_sem, List.toList_toArray, ↓reduceIte, Nat.reduceEqDiff, Nat.reduceLT, Nat.reduceBEq]); exact rfl)) ?_ (sched_unless_ok N _ _ _ e4) ?_ ?_ ?_ ?_
 · rfl
 · exact okD_all rfl
 · exact .inl rfl
 · (simp only [go_sem, Nat.reduceLT])
 refine OW.run [2, 4, 6, 9] ?_
 simp only [go_sem, simprocAttr, and_assoc, sw0]
 refine OW.call' 4 rfl rfl rfl (by ((simp only [go_sem, List.toList_toArray, ↓reduceIte, Nat.reduceEqDiff, Nat.reduceLT, Nat.reduceBEq]); exact rfl)) ?_ (sched_unless_ok N _ _ _ e5) ?_ ?_ ?_ ?_
 · rfl
 · exact okD_all rfl
 · exact .inl rfl
 · (simp only [go_sem, Nat.reduceLT])
 refine OW.run [2, 4, 6, 9] ?_
 simp only [go_sem, simprocAttr, and_assoc, sw0]
 refine OW.call' 4 rfl rfl rfl (by ((simp only [go_sem, List.toList_toArray, ↓reduceIte, Nat.reduceEqDiff, Nat.reduceLT, Nat.reduceBEq]); exact rfl)) ?_ (sched_unless_ok N _ _ _ e6) ?_ ?_ ?_ ?_
 · rfl
 · exact okD_all rfl
 · exact .inl rfl
 · (simp only [go_sem, Nat.reduceLT])
 refine OW.run [2, 4, 6, 9] ?_
 simp only [go_sem, simprocAttr, and_assoc, sw0]
 refine OW.call' 4 rfl rfl rfl (by ((simp only [go_sem, List.toList_toArray, ↓reduceIte, Nat.reduceEqDiff, Nat.reduceLT, Nat.reduceBEq]); exact rfl)) ?_ (sched_first_ok N _ _ e7) ?_ ?_ ?_ ?_
 · rfl
 · (refine okAll_intro ?_; (simp only [go_sem, sw2, List.length_set, List.length_replicate, and_true, true_and, Nat.le_refl, simprocAttr]; simp only [seg, go_sem, sw2, List.length_set, List.length_replicate, and_true, true_and, Nat.le_refl, simprocAttr]; done))
 · exact .inr ⟨rfl, rfl⟩
 · (simp only [go_sem, Nat.reduceLT])
 refine OW.run [2, 4, 6, 9] ?_
 simp only [go_sem, simprocAttr, and_assoc, sw0]
 refine OW.nil (hK _ ?_)
 clear hK K
 change PW _ _ _ _ _
 refine PW.seq ?_
 refine PW.seq ?_
 refine PW.regionK fun K hK => ?_
 refine OW.run [2, 4, 6, 9, 38] ?_
 simp only [go_sem, simprocAttr, and_assoc, sw0]
 refine OW.nil (hK _ ?_)
 clear hK K
 change PW _ _ _ _ _
 refine PW.cond rfl (fun h1 => ?_) (fun h1 => ?_)
 ·
  replace hrun := br_t h1 hrun
  refine PW.seq ?_
  refine PW.regionK fun K hK => ?_
  refine OW.run [6, 7] ?_
  simp only [go_sem, simprocAttr, and_assoc, sw0]
  refine OW.nil (hK _ ?_)
  clear hK K
  change PW _ _ _ _ _
  refine PW.ret ?_
  change PW.Ends _ _ _ _ _ _
  refine PW.Ends.intro (.inr rfl) ?_
  simp only [go_sem, simprocAttr, and_assoc, sw0]
  obtain rfl := Option.some.inj hrun
  refine RetOK.data' 4 (by (refine okAll_intro ?_; (simp only [go_sem, sw2, List.length_set, List.length_replicate, and_true, true_and, Nat.le_refl, simprocAttr]; done))) ?_
  rfl
 ·
  replace hrun := br_f h1 hrun
  refine PW.skip ?_
  change PW _ _ _ _ _
  refine PW.joinS (τ := Unit) [6] 3 (fun _ => []) (fun _ => [{ cells := [.d (I s_Blocks), .d (I s_Control), .d (I s_Power), .d (L s_Table)], e := 24 }, { cells := [.d (Sx x_Name), .d (I x_Kind), .d (I x_Priority), .d (I x_Weight), .d (I x_Power), .d (I x_Least), .d (I x_Burst), .d (I x_Rate), .d (I x_Delay)], e := 27 }, { cells := [.d (I (0 : Int)), .d (I (0 : Int))], e := 86 }]) _ _ r (by exact Nat.zero_le _) hrun ?_ ?_
  ·
   intro K_ hrun N2 hN2
   refine PW.seq ?_
   refine PW.regionK fun K hK => ?_
   refine OW.run [2, 4, 6, 42, 43] ?_
   simp only [go_sem, simprocAttr, and_assoc, sw0]
   refine OW.nil (hK _ ?_)
   clear hK K
   change PW _ _ _ _ _
   refine PW.block ?_
   refine PW.loopS (σ := Int) [2, 4, 6, 42, 43] 3 (fun t43 => [(43, .d (I t43))]) (fun t43 => [{ cells := [.d (I s_Blocks), .d (I s_Control), .d (I s_Power), .d (L s_Table)], e := 24 }, { cells := [.d (Sx x_Name), .d (I x_Kind), .d (I x_Priority), .d (I x_Weight), .d (I x_Power), .d (I x_Least), .d (I x_Burst), .d (I x_Rate), .d (I x_Delay)], e := 27 }, { cells := [.d (I (0 : Int)), .d (I (0 : Int))], e := 86 }]) (sched_Breaks.b1 N x_Burst x_Rate arrivals K_) r N (0 : Int) (by exact Nat.zero_le _) hrun (by (simp only [Env.frzL, Env.frz, frzOb, V.frz, V.frz.frzs, asD, map_asD, sw1, go_sem, simprocAttr]; done)) ?_
   rintro n t43 hrun N3 hN3
   unfold sched_Breaks.b1 at hrun
   try simp only [go_sem, simprocAttr]
   refine PW.seq ?_
   refine PW.regionK fun K hK => ?_
   refine OW.run [2, 4, 6, 42, 43, 44] ?_
   simp only [go_sem, simprocAttr, and_assoc, sw0]
   refine OW.nil (hK _ ?_)
   clear hK K
   change PW _ _ _ _ _
   refine PW.seq ?_
   refine PW.cond rfl (fun h4 => ?_) (fun h4 => ?_)
   ·
    replace hrun := br_t h4 hrun
    refine PW.skip ?_
    change PW _ _ _ _ _
    refine PW.joinS (τ := Unit) [2, 4, 6, 42, 43] 3 (fun _ => []) (fun _ => [{ cells := [.d (I s_Blocks), .d (I s_Control), .d (I s_Power), .d (L s_Table)], e := 24 }, { cells := [.d (Sx x_Name), .d (I x_Kind), .d (I x_Priority), .d (I x_Weight), .d (I x_Power), .d (I x_Least), .d (I x_Burst), .d (I x_Rate), .d (I x_Delay)], e := 27 }, { cells := [.d (I (0 : Int)), .d (I (0 : Int))], e := 86 }]) _ _ r (by exact Nat.zero_le _) hrun ?_ ?_
    ·
     intro K_1 hrun N5 hN5
     refine PW.block ?_
     refine PW.seq ?_
     refine PW.regionK fun K hK => ?_
     refine OW.run [2, 4, 6, 11, 42, 43] ?_
     simp only [go_sem, simprocAttr, and_assoc, sw0]
     refine OW.nil (hK _ ?_)
     clear hK K
     change PW _ _ _ _ _
     refine PW.seq ?_
     refine PW.drawK 3 mixed (by kernel_rfl) fun K hK => ?_
     change FW _ _ _ _ _
     refine FW.run ?_
     simp only [go_sem, simprocAttr, and_assoc, sw0]
     repeat (refine And.intro (by omega) ?_)
     refine FW.nil ?_
     change OW _ _ _ _ _ _
     refine OW.run [2, 4, 6, 11, 12, 13, 42, 43] ?_
     simp only [go_sem, simprocAttr, and_assoc, sw0]
     refine OW.nil (hK _ ?_)
     clear hK K
     change PW _ _ _ _ _
     refine PW.seq ?_
     obtain ⟨c6, hrun⟩ := chk_some hrun
     refine PW.regionK fun K hK => ?_
     refine OW.run [2, 4, 6, 11, 12, 13, 42, 43, 50, 51, 52] ?_
     (simp only [go_sem, simprocAttr, and_assoc, sw0, slice_len I ((arrivals.drop t43.toNat).take (arrivals.length - t43.toNat)) (arrivals.length - t43.toNat) (by simp only [List.length_take, List.length_drop]; omega)])
     repeat (refine And.intro (by omega) ?_)
     refine OW.nil (hK _ ?_)
     clear hK K
     change PW _ _ _ _ _
     refine PW.block ?_
     refine PW.loopS (σ := Int × Int × Int) [2, 4, 6, 11, 12, 13, 42, 43, 50, 51, 52] 3 (fun (sum, most, t52) => [(12, .d (I sum)), (13, .d (I most)), (52, .d (I t52))]) (fun (sum, most, t52) => [{ cells := [.d (I s_Blocks), .d (I s_Control), .d (I s_Power), .d (L s_Table)], e := 24 }, { cells := [.d (Sx x_Name), .d (I x_Kind), .d (I x_Priority), .d (I x_Weight), .d (I x_Power), .d (I x_Least), .d (I x_Burst), .d (I x_Rate), .d (I x_Delay)], e := 27 }, { cells := [.d (I (0 : Int)), .d (I (0 : Int))], e := 86 }]) (sched_Breaks.b2 N x_Rate arrivals t43 K_1) r N ((0 : Int), x_Burst, (0 : Int)) (by exact Nat.zero_le _) hrun (by (simp only [Env.frzL, Env.frz, frzOb, V.frz, V.frz.frzs, asD, map_asD, sw1, go_sem, simprocAttr]; done)) ?_
     rintro n ⟨sum, most, t52⟩ hrun N7 hN7
     unfold sched_Breaks.b2 at hrun
     try simp only [go_sem, simprocAttr]
     refine PW.seq ?_
     refine PW.regionK fun K hK => ?_
     refine OW.run [2, 4, 6, 11, 12, 13, 42, 43, 50, 51, 52, 53] ?_
     simp only [go_sem, simprocAttr, and_assoc, sw0]
     refine OW.nil (hK _ ?_)
     clear hK K
     change PW _ _ _ _ _
     refine PW.seq ?_
     refine PW.cond rfl (fun h8 => ?_) (fun h8 => ?_)
     ·
      replace hrun := br_t h8 hrun
      refine PW.skip ?_
      change PW _ _ _ _ _
      refine PW.seq ?_
      refine PW.block ?_
      refine PW.seq ?_
      obtain ⟨c9, hrun⟩ := chk_some hrun
      refine PW.regionK fun K hK => ?_
      refine OW.run [2, 4, 6, 11, 12, 13, 14, 15, 42, 43, 50, 51, 52] ?_
      simp only [go_sem, simprocAttr, and_assoc, sw0]
      repeat (refine And.intro (by omega) ?_)
      refine OW.nil (hK _ ?_)
      clear hK K
      change PW _ _ _ _ _
      refine PW.seq ?_
      refine PW.seq ?_
      refine PW.regionK fun K hK => ?_
      refine OW.run [2, 4, 6, 11, 12, 13, 14, 42, 43, 50, 51, 52] ?_
      simp only [go_sem, simprocAttr, and_assoc, sw0]
      refine OW.nil (hK _ ?_)
      clear hK K
      change PW _ _ _ _ _
      refine PW.seq ?_
      refine PW.regionK fun K hK => ?_
      refine OW.run [2, 4, 6, 11, 12, 13, 14, 42, 43, 50, 51, 52, 62] ?_
      simp only [go_sem, simprocAttr, and_assoc, sw0]
      refine OW.nil (hK _ ?_)
      clear hK K
      change PW _ _ _ _ _
      refine PW.cond rfl (fun h10 => ?_) (fun h10 => ?_)
      ·
       replace hrun := br_t h10 hrun
       refine PW.seq ?_
       refine PW.regionK fun K hK => ?_
       refine OW.run [6, 7] ?_
       simp only [go_sem, simprocAttr, and_assoc, sw0]
       refine OW.nil (hK _ ?_)
       clear hK K
       change PW _ _ _ _ _
       refine PW.ret ?_
       change PW.Ends _ _ _ _ _ _
       refine PW.Ends.intro (.inr rfl) ?_
       simp only [go_sem, simprocAttr, and_assoc, sw0]
       obtain rfl := Option.some.inj hrun
       refine RetOK.data' 4 (by (refine okAll_intro ?_; (simp only [go_sem, sw2, List.length_set, List.length_replicate, and_true, true_and, Nat.le_refl, simprocAttr]; done))) ?_
       rfl
      ·
       replace hrun := br_f h10 hrun
       refine PW.skip ?_
       change PW _ _ _ _ _
       refine PW.regionK fun K hK => ?_
       refine OW.run [2, 4, 6, 11, 12, 13, 42, 43, 50, 51, 52] ?_
       simp only [go_sem, simprocAttr, and_assoc, sw0]
       repeat (refine And.intro (by omega) ?_)
       refine OW.nil (hK _ ?_)
       clear hK K
       change PW _ _ _ _ _
       refine PW.regionK fun K hK => ?_
       refine OW.run [2, 4, 6, 11, 12, 13, 42, 43, 50, 51, 52] ?_
       simp only [go_sem, simprocAttr, and_assoc, sw0]
       refine OW.nil (hK _ ?_)
       clear hK K
       refine hN7 [] (w64 (sum + (((arrivals.drop t43.toNat).take (arrivals.length - t43.toNat)).getD t52.toNat 0)), w64 (most + x_Rate), w64 (t52 + (1 : Int))) _ hrun (by exact trivial) ?_
       (simp only [Env.frzL, Env.frz, frzOb, V.frz, V.frz.frzs, asD, map_asD, sw1, go_sem, simprocAttr]; done)
     ·
      replace hrun := br_f h8 hrun
      refine PW.exit ?_
      refine hN5 [] () _ hrun (by exact trivial) ?_
      (simp only [Env.frzL, Env.frz, frzOb, V.frz, V.frz.frzs, asD, map_asD, sw1, go_sem, simprocAttr]; done)
    ·
     rintro _ hrun
     try simp only [go_sem, simprocAttr]
     refine PW.regionK fun K hK => ?_
     refine OW.run [2, 4, 6, 42, 43] ?_
     simp only [go_sem, simprocAttr, and_assoc, sw0]
     refine OW.nil (hK _ ?_)
     clear hK K
     refine hN3 [] (w64 (t43 + (1 : Int))) _ hrun (by exact trivial) ?_
     (simp only [Env.frzL, Env.frz, frzOb, V.frz, V.frz.frzs, asD, map_asD, sw1, go_sem, simprocAttr]; done)
   ·
    replace hrun := br_f h4 hrun
    refine PW.exit ?_
    refine hN2 [] () _ hrun (by exact trivial) ?_
    (simp only [Env.frzL, Env.frz, frzOb, V.frz, V.frz.frzs, asD, map_asD, sw1, go_sem, simprocAttr]; done)
  ·
   rintro _ hrun
   try simp only [go_sem, simprocAttr]
   refine PW.seq ?_
   refine PW.regionK fun K hK => ?_
   refine OW.run [6, 7] ?_
   simp only [go_sem, simprocAttr, and_assoc, sw0]
   refine OW.nil (hK _ ?_)
   clear hK K
   change PW _ _ _ _ _
   refine PW.ret ?_
   change PW.Ends _ _ _ _ _ _
   refine PW.Ends.intro (.inr rfl) ?_
   simp only [go_sem, simprocAttr, and_assoc, sw0]
   obtain rfl := Option.some.inj hrun
   refine RetOK.data' 4 (by (refine okAll_intro ?_; (simp only [go_sem, sw2, List.length_set, List.length_replicate, and_true, true_and, Nat.le_refl, simprocAttr]; done))) ?_
   rfl

set_option maxRecDepth 20000 in
set_option maxHeartbeats 8000000 in
theorem ref06_ArrivalsErr_ok (N : Nat) (l : List Int) (r : Int) (hrun : ref06_ArrivalsErr N l = some r) : CallOK Try.prog 53 [(L l)] (.d (I r)) [] := by
 refine CallOK.of_PW Try.func53 rfl (by rw [Try.results53]) Try.ntmps53 Try.call53 ?_
 change PW _ _ _ _ _
 try simp only [go_sem, simprocAttr]
 unfold ref06_ArrivalsErr at hrun
 refine PW.seq ?_
 refine PW.regionK fun K hK => ?_
 refine OW.run [0] ?_
 simp only [go_sem, simprocAttr, and_assoc, sw0]
 refine OW.nil (hK _ ?_)
 clear hK K
 change PW _ _ _ _ _
 refine PW.seq ?_
 refine PW.seq ?_
 refine PW.regionK fun K hK => ?_
 refine OW.run [0, 6] ?_
 simp only [go_sem, simprocAttr, and_assoc, sw0]
 refine OW.nil (hK _ ?_)
 clear hK K
 change PW _ _ _ _ _
 refine PW.cond rfl (fun h1 => ?_) (fun h1 => ?_)
 ·
  replace hrun := br_t h1 hrun
  refine PW.seq ?_
  refine PW.regionK fun K hK => ?_
  refine OW.run [2] ?_
  simp only [go_sem, simprocAttr, and_assoc, sw0]
  refine OW.nil (hK _ ?_)
  clear hK K
  change PW _ _ _ _ _
  refine PW.ret ?_
  change PW.Ends _ _ _ _ _ _
  refine PW.Ends.intro (.inr rfl) ?_
  simp only [go_sem, simprocAttr, and_assoc, sw0]
  obtain rfl := Option.some.inj hrun
  refine RetOK.data' 4 (by exact trivial) ?_
  rfl
 ·
  replace hrun := br_f h1 hrun
  refine PW.skip ?_
  change PW _ _ _ _ _
  refine PW.joinS (τ := Unit) [] 0 (fun _ => []) (fun _ => []) _ _ r (by exact Nat.le_refl _) hrun ?_ ?_
  ·
   intro K_ hrun N2 hN2
   refine PW.seq ?_
   refine PW.regionK fun K hK => ?_
   refine OW.run [0, 3] ?_
   simp only [go_sem, simprocAttr, and_assoc, sw0]
   refine OW.nil (hK _ ?_)
   clear hK K
   change PW _ _ _ _ _
   refine PW.block ?_
   refine PW.loopS (σ := Int) [0, 3] 0 (fun i => [(3, .d (I i))]) (fun i => []) (ref06_ArrivalsErr.b1 N l K_) r N (0 : Int) (by exact Nat.le_refl _) hrun (by (simp only [Env.frzL, Env.frz, frzOb, V.frz, V.frz.frzs, asD, map_asD, sw1, go_sem, simprocAttr]; done)) ?_
   rintro n i hrun N3 hN3
   unfold ref06_ArrivalsErr.b1 at hrun
   try simp only [go_sem, simprocAttr]
   refine PW.seq ?_
   refine PW.seq ?_
   refine PW.regionK fun K hK => ?_
   refine OW.run [0, 3, 10] ?_
   simp only [go_sem, simprocAttr, and_assoc, sw0]
   refine OW.nil (hK _ ?_)
   clear hK K
   change PW _ _ _ _ _
   refine PW.cond rfl (fun h4 => ?_) (fun h4 => ?_)
   ·
    replace hrun := br_t h4 hrun
    refine PW.skip ?_
    change PW _ _ _ _ _
    refine PW.seq ?_
    refine PW.block ?_
    refine PW.seq ?_
    obtain ⟨c5, hrun⟩ := chk_some hrun
    obtain ⟨x1, e1, hrun⟩ := bnd_some hrun
    refine PW.regionK fun K hK => ?_
    refine OW.run [0, 3, 18] ?_
    simp only [go_sem, simprocAttr, and_assoc, sw0]
    repeat (refine And.intro (by omega) ?_)
    refine OW.call' 4 rfl rfl rfl (by ((simp only [go_sem, List.toList_toArray, ↓reduceIte, Nat.reduceEqDiff, Nat.reduceLT, Nat.reduceBEq]); exact rfl)) ?_ (base_Within_ok N _ _ _ _ e1) ?_ ?_ ?_ ?_
    · rfl
    · exact okD_all rfl
    · exact .inl rfl
    · (simp only [go_sem, Nat.reduceLT])
    refine OW.run [0, 3, 18] ?_
    simp only [go_sem, simprocAttr, and_assoc, sw0]
    refine OW.nil (hK _ ?_)
    clear hK K
    change PW _ _ _ _ _
    refine PW.cond rfl (fun h6 => ?_) (fun h6 => ?_)
    ·
     replace hrun := br_t h6 hrun
     refine PW.seq ?_
     refine PW.regionK fun K hK => ?_
     refine OW.run [2] ?_
     simp only [go_sem, simprocAttr, and_assoc, sw0]
     refine OW.nil (hK _ ?_)
     clear hK K
     change PW _ _ _ _ _
     refine PW.ret ?_
     change PW.Ends _ _ _ _ _ _
     refine PW.Ends.intro (.inr rfl) ?_
     simp only [go_sem, simprocAttr, and_assoc, sw0]
     obtain rfl := Option.some.inj hrun
     refine RetOK.data' 4 (by exact trivial) ?_
     rfl
    ·
     replace hrun := br_f h6 hrun
     refine PW.skip ?_
     change PW _ _ _ _ _
     refine PW.regionK fun K hK => ?_
     refine OW.run [0, 3] ?_
     simp only [go_sem, simprocAttr, and_assoc, sw0]
     refine OW.nil (hK _ ?_)
     clear hK K
     refine hN3 [] (w64 (i + (1 : Int))) _ hrun (by exact trivial) ?_
     (simp only [Env.frzL, Env.frz, frzOb, V.frz, V.frz.frzs, asD, map_asD, sw1, go_sem, simprocAttr]; done)
   ·
    replace hrun := br_f h4 hrun
    refine PW.exit ?_
    refine hN2 [] () _ hrun (by exact trivial) ?_
    (simp only [Env.frzL, Env.frz, frzOb, V.frz, V.frz.frzs, asD, map_asD, sw1, go_sem, simprocAttr]; done)
  ·
   rintro _ hrun
   try simp only [go_sem, simprocAttr]
   refine PW.seq ?_
   refine PW.regionK fun K hK => ?_
   refine OW.run [2] ?_
   simp only [go_sem, simprocAttr, and_assoc, sw0]
   refine OW.nil (hK _ ?_)
   clear hK K
   change PW _ _ _ _ _
   refine PW.ret ?_
   change PW.Ends _ _ _ _ _ _
   refine PW.Ends.intro (.inr rfl) ?_
   simp only [go_sem, simprocAttr, and_assoc, sw0]
   obtain rfl := Option.some.inj hrun
   refine RetOK.data' 4 (by exact trivial) ?_
   rfl

set_option maxRecDepth 20000 in
set_option maxHeartbeats 8000000 in
theorem ref06_Breaks_ok (N : Nat) (x_Name : ByteArray) (x_Kind : Int) (x_Priority : Int) (x_Weight : Int) (x_Power : Int) (x_Least : Int) (x_Burst : Int) (x_Rate : Int) (x_Delay : Int) (arrivals : List Int) (r : Int × Int × Bool) (hrun : ref06_Breaks N x_Name x_Kind x_Priority x_Weight x_Power x_Least x_Burst x_Rate x_Delay arrivals = some r) : CallOK Try.prog 54 [(.agg [(Sx x_Name), (I x_Kind), (I x_Priority), (I x_Weight), (I x_Power), (I x_Least), (I x_Burst), (I x_Rate), (I x_Delay)]), (L arrivals)] (.d (.tup [(.agg [(I r.1), (I r.2.1)]), (Bo r.2.2)])) [] := by
 refine CallOK.of_PW Try.func54 rfl (by rw [Try.results54]) Try.ntmps54 Try.call54 ?_
 change PW _ _ _ _ _
 try simp only [go_sem, simprocAttr]
 unfold ref06_Breaks at hrun
 refine PW.seq ?_
 refine PW.regionK fun K hK => ?_
 refine OW.run [1, 2, 4] ?_
 simp only [go_sem, simprocAttr, and_assoc, sw0]
 refine OW.nil (hK _ ?_)
 clear hK K
 change PW _ _ _ _ _
 refine PW.joinS (τ := Unit) [4] 2 (fun _ => []) (fun _ => [{ cells := [.d (Sx x_Name), .d (I x_Kind), .d (I x_Priority), .d (I x_Weight), .d (I x_Power), .d (I x_Least), .d (I x_Burst), .d (I x_Rate), .d (I x_Delay)], e := 27 }, { cells := [.d (I (0 : Int)), .d (I (0 : Int))], e := 86 }]) _ _ r (by exact Nat.zero_le _) hrun ?_ ?_
 ·
  intro K_ hrun N1 hN1
  refine PW.seq ?_
  refine PW.regionK fun K hK => ?_
  refine OW.run [1, 2, 4, 6] ?_
  simp only [go_sem, simprocAttr, and_assoc, sw0]
  refine OW.nil (hK _ ?_)
  clear hK K
  change PW _ _ _ _ _
  refine PW.block ?_
  refine PW.loopS (σ := Int) [1, 2, 4, 6] 2 (fun i => [(6, .d (I i))]) (fun i => [{ cells := [.d (Sx x_Name), .d (I x_Kind), .d (I x_Priority), .d (I x_Weight), .d (I x_Power), .d (I x_Least), .d (I x_Burst), .d (I x_Rate), .d (I x_Delay)], e := 27 }, { cells := [.d (I (0 : Int)), .d (I (0 : Int))], e := 86 }]) (ref06_Breaks.b1 N x_Burst x_Rate arrivals K_) r N (0 : Int) (by exact Nat.zero_le _) hrun (by (simp only [Env.frzL, Env.frz, frzOb, V.frz, V.frz.frzs, asD, map_asD, sw1, go_sem, simprocAttr]; done)) ?_
  rintro n i hrun N2 hN2
  unfold ref06_Breaks.b1 at hrun
  try simp only [go_sem, simprocAttr]
  refine PW.seq ?_
  refine PW.seq ?_
  refine PW.regionK fun K hK => ?_
  refine OW.run [1, 2, 4, 6, 12] ?_
  simp only [go_sem, simprocAttr, and_assoc, sw0]
  refine OW.nil (hK _ ?_)
  clear hK K
  change PW _ _ _ _ _
  refine PW.cond rfl (fun h3 => ?_) (fun h3 => ?_)
  ·
   replace hrun := br_t h3 hrun
   refine PW.skip ?_
   change PW _ _ _ _ _
   refine PW.joinS (τ := Unit) [1, 2, 4, 6] 2 (fun _ => []) (fun _ => [{ cells := [.d (Sx x_Name), .d (I x_Kind), .d (I x_Priority), .d (I x_Weight), .d (I x_Power), .d (I x_Least), .d (I x_Burst), .d (I x_Rate), .d (I x_Delay)], e := 27 }, { cells := [.d (I (0 : Int)), .d (I (0 : Int))], e := 86 }]) _ _ r (by exact Nat.zero_le _) hrun ?_ ?_
   ·
    intro K_1 hrun N4 hN4
    refine PW.block ?_
    refine PW.seq ?_
    refine PW.regionK fun K hK => ?_
    refine OW.run [1, 2, 4, 6, 7] ?_
    simp only [go_sem, simprocAttr, and_assoc, sw0]
    refine OW.nil (hK _ ?_)
    clear hK K
    change PW _ _ _ _ _
    refine PW.seq ?_
    refine PW.regionK fun K hK => ?_
    refine OW.run [1, 2, 4, 6, 7, 8] ?_
    simp only [go_sem, simprocAttr, and_assoc, sw0]
    refine OW.nil (hK _ ?_)
    clear hK K
    change PW _ _ _ _ _
    refine PW.block ?_
    refine PW.loopS (σ := Int × Int) [1, 2, 4, 6, 7, 8] 2 (fun (sum, k) => [(7, .d (I sum)), (8, .d (I k))]) (fun (sum, k) => [{ cells := [.d (Sx x_Name), .d (I x_Kind), .d (I x_Priority), .d (I x_Weight), .d (I x_Power), .d (I x_Least), .d (I x_Burst), .d (I x_Rate), .d (I x_Delay)], e := 27 }, { cells := [.d (I (0 : Int)), .d (I (0 : Int))], e := 86 }]) (ref06_Breaks.b2 N x_Burst x_Rate arrivals i K_1) r N ((0 : Int), i) (by exact Nat.zero_le _) hrun (by (simp only [Env.frzL, Env.frz, frzOb, V.frz, V.frz.frzs, asD, map_asD, sw1, go_sem, simprocAttr]; done)) ?_
    rintro n ⟨sum, k⟩ hrun N5 hN5
    unfold ref06_Breaks.b2 at hrun
    try simp only [go_sem, simprocAttr]
    refine PW.seq ?_
    refine PW.seq ?_
    refine PW.regionK fun K hK => ?_
    refine OW.run [1, 2, 4, 6, 7, 8, 19] ?_
    simp only [go_sem, simprocAttr, and_assoc, sw0]
    refine OW.nil (hK _ ?_)
    clear hK K
    change PW _ _ _ _ _
    refine PW.cond rfl (fun h6 => ?_) (fun h6 => ?_)
    ·
     replace hrun := br_t h6 hrun
     refine PW.skip ?_
     change PW _ _ _ _ _
     refine PW.seq ?_
     refine PW.block ?_
     refine PW.seq ?_
     obtain ⟨c7, hrun⟩ := chk_some hrun
     refine PW.regionK fun K hK => ?_
     refine OW.run [1, 2, 4, 6, 7, 8] ?_
     simp only [go_sem, simprocAttr, and_assoc, sw0]
     repeat (refine And.intro (by omega) ?_)
     refine OW.nil (hK _ ?_)
     clear hK K
     change PW _ _ _ _ _
     refine PW.seq ?_
     refine PW.regionK fun K hK => ?_
     refine OW.run [1, 2, 4, 6, 7, 8, 38] ?_
     simp only [go_sem, simprocAttr, and_assoc, sw0]
     repeat (refine And.intro (by omega) ?_)
     refine OW.nil (hK _ ?_)
     clear hK K
     change PW _ _ _ _ _
     refine PW.cond rfl (fun h8 => ?_) (fun h8 => ?_)
     ·
      replace hrun := br_t h8 hrun
      refine PW.seq ?_
      refine PW.regionK fun K hK => ?_
      refine OW.run [4, 5] ?_
      simp only [go_sem, simprocAttr, and_assoc, sw0]
      refine OW.nil (hK _ ?_)
      clear hK K
      change PW _ _ _ _ _
      refine PW.ret ?_
      change PW.Ends _ _ _ _ _ _
      refine PW.Ends.intro (.inr rfl) ?_
      simp only [go_sem, simprocAttr, and_assoc, sw0]
      obtain rfl := Option.some.inj hrun
      refine RetOK.data' 4 (by (refine okAll_intro ?_; (simp only [go_sem, sw2, List.length_set, List.length_replicate, and_true, true_and, Nat.le_refl, simprocAttr]; done))) ?_
      rfl
     ·
      replace hrun := br_f h8 hrun
      refine PW.skip ?_
      change PW _ _ _ _ _
      refine PW.regionK fun K hK => ?_
      refine OW.run [1, 2, 4, 6, 7, 8] ?_
      simp only [go_sem, simprocAttr, and_assoc, sw0]
      refine OW.nil (hK _ ?_)
      clear hK K
      refine hN5 [] (w64 (sum + (arrivals.getD k.toNat 0)), w64 (k + (1 : Int))) _ hrun (by exact trivial) ?_
      (simp only [Env.frzL, Env.frz, frzOb, V.frz, V.frz.frzs, asD, map_asD, sw1, go_sem, simprocAttr]; done)
    ·
     replace hrun := br_f h6 hrun
     refine PW.exit ?_
     refine hN4 [] () _ hrun (by exact trivial) ?_
     (simp only [Env.frzL, Env.frz, frzOb, V.frz, V.frz.frzs, asD, map_asD, sw1, go_sem, simprocAttr]; done)
   ·
    rintro _ hrun
    try simp only [go_sem, simprocAttr]
    refine PW.regionK fun K hK => ?_
    refine OW.run [1, 2, 4, 6] ?_
    simp only [go_sem, simprocAttr, and_assoc, sw0]
    refine OW.nil (hK _ ?_)
    clear hK K
    refine hN2 [] (w64 (i + (1 : Int))) _ hrun (by exact trivial) ?_
    (simp only [Env.frzL, Env.frz, frzOb, V.frz, V.frz.frzs, asD, map_asD, sw1, go_sem, simprocAttr]; done)
  ·
   replace hrun := br_f h3 hrun
   refine PW.exit ?_
   refine hN1 [] () _ hrun (by exact trivial) ?_
   (simp only [Env.frzL, Env.frz, frzOb, V.frz, V.frz.frzs, asD, map_asD, sw1, go_sem, simprocAttr]; done)
 ·
  rintro _ hrun
  try simp only [go_sem, simprocAttr]
  refine PW.seq ?_
  refine PW.regionK fun K hK => ?_
  refine OW.run [4, 5] ?_
  simp only [go_sem, simprocAttr, and_assoc, sw0]
  refine OW.nil (hK _ ?_)
  clear hK K
  change PW _ _ _ _ _
  refine PW.ret ?_
  change PW.Ends _ _ _ _ _ _
  refine PW.Ends.intro (.inr rfl) ?_
  simp only [go_sem, simprocAttr, and_assoc, sw0]
  obtain rfl := Option.some.inj hrun
  refine RetOK.data' 4 (by (refine okAll_intro ?_; (simp only [go_sem, sw2, List.length_set, List.length_replicate, and_true, true_and, Nat.le_refl, simprocAttr]; done))) ?_
  rfl

set_option maxRecDepth 20000 in
set_option maxHeartbeats 8000000 in
theorem law06_SchedContracts_ok (N : Nat) (s_Blocks : Int) (s_Control : Int) (s_Power : Int) (s_Table : List Int) (x_Name : ByteArray) (x_Kind : Int) (x_Priority : Int) (x_Weight : Int) (x_Power : Int) (x_Least : Int) (x_Burst : Int) (x_Rate : Int) (x_Delay : Int) (arrivals : List Int) (r : Bool) (hrun : law06_SchedContracts N s_Blocks s_Control s_Power s_Table x_Name x_Kind x_Priority x_Weight x_Power x_Least x_Burst x_Rate x_Delay arrivals = some r) : CallOK Try.prog 9 [(.agg [(I s_Blocks), (I s_Control), (I s_Power), (L s_Table)]), (.agg [(Sx x_Name), (I x_Kind), (I x_Priority), (I x_Weight), (I x_Power), (I x_Least), (I x_Burst), (I x_Rate), (I x_Delay)]), (L arrivals)] (.d (Bo r)) [] := by
 refine CallOK.of_PW Try.func9 rfl (by rw [Try.results9]) Try.ntmps9 Try.call9 ?_
 change PW _ _ _ _ _
 try simp only [go_sem, simprocAttr]
 unfold law06_SchedContracts at hrun
 refine PW.seq ?_
 refine PW.regionK fun K hK => ?_
 refine OW.run [2, 3, 4] ?_
 simp only [go_sem, simprocAttr, and_assoc, sw0]
 refine OW.nil (hK _ ?_)
 clear hK K
 change PW _ _ _ _ _
 refine PW.seq ?_
 refine PW.seq ?_
 obtain ⟨x1, e1, hrun⟩ := bnd_some hrun
 refine PW.regionK fun K hK => ?_
 refine OW.run [2, 3, 4, 14] ?_
 simp only [go_sem, simprocAttr, and_assoc, sw0]
 refine OW.call' 4 rfl rfl rfl (by ((simp only [go_sem, List.toList_toArray, ↓reduceIte, Nat.reduceEqDiff, Nat.reduceLT, Nat.reduceBEq]); exact rfl)) ?_ (law06_awake_ok N  _ e1) ?_ ?_ ?_ ?_
 · rfl
 · exact okD_all rfl
 · exact .inl rfl
 · (simp only [go_sem, Nat.reduceLT])
 refine OW.run [2, 3, 4, 14] ?_
 simp only [go_sem, simprocAttr, and_assoc, sw0]
 refine OW.nil (hK _ ?_)
 clear hK K
 change PW _ _ _ _ _
 refine PW.cond rfl (fun h1 => ?_) (fun h1 => ?_)
 ·
  replace hrun := br_t h1 hrun
  refine PW.seq ?_
  refine PW.regionK fun K hK => ?_
  refine OW.run [6] ?_
  simp only [go_sem, simprocAttr, and_assoc, sw0]
  refine OW.nil (hK _ ?_)
  clear hK K
  change PW _ _ _ _ _
  refine PW.ret ?_
  change PW.Ends _ _ _ _ _ _
  refine PW.Ends.intro (.inr rfl) ?_
  simp only [go_sem, simprocAttr, and_assoc, sw0]
  obtain rfl := Option.some.inj hrun
  refine RetOK.data' 4 (by exact trivial) ?_
  rfl
 ·
  replace hrun := br_f h1 hrun
  refine PW.skip ?_
  change PW _ _ _ _ _
  refine PW.seq ?_
  refine PW.seq ?_
  obtain ⟨x2, e2, hrun⟩ := bnd_some hrun
  refine PW.regionK fun K hK => ?_
  refine OW.run [2, 3, 4, 24] ?_
  simp only [go_sem, simprocAttr, and_assoc, sw0]
  refine OW.call' 4 rfl rfl rfl (by ((simp only [go_sem, List.toList_toArray, ↓reduceIte, Nat.reduceEqDiff, Nat.reduceLT, Nat.reduceBEq]); exact rfl)) ?_ (law06_Few_ok N _ _ _ _ _ _ e2) ?_ ?_ ?_ ?_
  · rfl
  · (refine okAll_intro ?_; (simp only [go_sem, sw2, List.length_set, List.length_replicate, and_true, true_and, Nat.le_refl, simprocAttr]; simp only [seg, go_sem, sw2, List.length_set, List.length_replicate, and_true, true_and, Nat.le_refl, simprocAttr]; done))
  · exact .inr ⟨rfl, rfl⟩
  · (simp only [go_sem, Nat.reduceLT])
  refine OW.run [2, 3, 4, 24] ?_
  simp only [go_sem, simprocAttr, and_assoc, sw0]
  refine OW.nil (hK _ ?_)
  clear hK K
  change PW _ _ _ _ _
  refine PW.cond rfl (fun h2 => ?_) (fun h2 => ?_)
  ·
   replace hrun := br_t h2 hrun
   refine PW.seq ?_
   refine PW.regionK fun K hK => ?_
   refine OW.run [6] ?_
   simp only [go_sem, simprocAttr, and_assoc, sw0]
   refine OW.nil (hK _ ?_)
   clear hK K
   change PW _ _ _ _ _
   refine PW.ret ?_
   change PW.Ends _ _ _ _ _ _
   refine PW.Ends.intro (.inr rfl) ?_
   simp only [go_sem, simprocAttr, and_assoc, sw0]
   obtain rfl := Option.some.inj hrun
   refine RetOK.data' 4 (by exact trivial) ?_
   rfl
  ·
   replace hrun := br_f h2 hrun
   refine PW.skip ?_
   change PW _ _ _ _ _
   refine PW.seq ?_
   obtain ⟨⟨x3, x31, x32, x33⟩, e3, hrun⟩ := bnd_some hrun
   obtain ⟨x4, e4, hrun⟩ := bnd_some hrun
   obtain ⟨⟨x5, x51, x52⟩, e5, hrun⟩ := bnd_some hrun
   refine PW.drawO 11 [9] [86] mixed (by kernel_rfl) (by decide) rfl fun K hK => ?_
   refine FWO.run ?_
   simp only [go_sem, simprocAttr, and_assoc, sw0]
   refine FWO.call' 4 (by decide) rfl rfl rfl (by ((simp only [go_sem, List.toList_toArray, ↓reduceIte, Nat.reduceEqDiff, Nat.reduceLT, Nat.reduceBEq]); exact rfl)) ?_ (ref06_Copy_ok N _ _ _ _ _ e3) ?_ ?_ ?_ ?_
   · rfl
   · (refine okAll_intro ?_; (simp only [go_sem, sw2, List.length_set, List.length_replicate, and_true, true_and, Nat.le_refl, simprocAttr]; done))
   · exact .inl rfl
   · (simp only [go_sem, Nat.reduceLT])
   refine FWO.run ?_
   simp only [go_sem, simprocAttr, and_assoc, sw0]
   refine FWO.call' 4 (by decide) rfl rfl rfl (by ((simp only [go_sem, List.toList_toArray, ↓reduceIte, Nat.reduceEqDiff, Nat.reduceLT, Nat.reduceBEq]); exact rfl)) ?_ (base_CopyInts_okd N _ _ e4) ?_ ?_ ?_ ?_
   · rfl
   · exact okD_all rfl
   · exact .inl rfl
   · (simp only [go_sem, Nat.reduceLT])
   refine FWO.run ?_
   simp only [go_sem, simprocAttr, and_assoc, sw0]
   refine FWO.call' 4 (by decide) rfl rfl rfl (by ((simp only [go_sem, List.toList_toArray, ↓reduceIte, Nat.reduceEqDiff, Nat.reduceLT, Nat.reduceBEq]); exact rfl)) ?_ (sched_Breaks_ok N _ _ _ _ _ _ _ _ _ _ _ _ _ _ _ e5) ?_ ?_ ?_ ?_
   · rfl
   · (refine okAll_intro ?_; (simp only [go_sem, sw2, List.length_set, List.length_replicate, and_true, true_and, Nat.le_refl, simprocAttr]; done))
   · exact .inl rfl
   · (simp only [go_sem, Nat.reduceLT])
   refine FWO.run ?_
   simp only [go_sem, simprocAttr, and_assoc, sw0]
   repeat (refine And.intro (by rfl) ?_)
   first | refine FWO.nil ?_ | skip
   change OW _ _ _ _ _ _
   refine OW.run [2, 3, 4, 7, 8] ?_
   simp only [go_sem, simprocAttr, and_assoc, sw0]
   refine OW.nil (hK _ ?_)
   clear hK K
   change PW _ _ _ _ _
   refine PW.seq ?_
   obtain ⟨x6, e6, hrun⟩ := bnd_some hrun
   refine PW.regionK fun K hK => ?_
   refine OW.run [2, 3, 4, 7, 8, 9] ?_
   simp only [go_sem, simprocAttr, and_assoc, sw0]
   refine OW.call' 4 rfl rfl rfl (by ((simp only [go_sem, List.toList_toArray, ↓reduceIte, Nat.reduceEqDiff, Nat.reduceLT, Nat.reduceBEq]); exact rfl)) ?_ (ref06_SiteErr_ok N _ _ _ _ _ e6) ?_ ?_ ?_ ?_
   · rfl
   · (refine okAll_intro ?_; (simp only [go_sem, sw2, List.length_set, List.length_replicate, and_true, true_and, Nat.le_refl, simprocAttr]; done))
   · exact .inl rfl
   · (simp only [go_sem, Nat.reduceLT])
   refine OW.run [2, 3, 4, 7, 8, 9] ?_
   simp only [go_sem, simprocAttr, and_assoc, sw0]
   refine OW.nil (hK _ ?_)
   clear hK K
   change PW _ _ _ _ _
   refine PW.joinS (τ := Int) [2, 4, 7, 8, 9] 4 (fun d => [(9, .d (I d))]) (fun d => [{ cells := [.d (I s_Blocks), .d (I s_Control), .d (I s_Power), .d (L s_Table)], e := 24 }, { cells := [.d (Sx x_Name), .d (I x_Kind), .d (I x_Priority), .d (I x_Weight), .d (I x_Power), .d (I x_Least), .d (I x_Burst), .d (I x_Rate), .d (I x_Delay)], e := 27 }, { cells := [.d (Sx x_Name), .d (I x_Kind), .d (I x_Priority), .d (I x_Weight), .d (I x_Power), .d (I x_Least), .d (I x_Burst), .d (I x_Rate), .d (I x_Delay)], e := 27 }, { cells := [.d (I x5), .d (I x51)], e := 86 }]) _ _ r (by exact Nat.zero_le _) hrun ?_ ?_
   ·
    intro K_ hrun N3 hN3
    refine PW.seq ?_
    refine PW.regionK fun K hK => ?_
    refine OW.run [2, 3, 4, 7, 8, 9, 37] ?_
    simp only [go_sem, simprocAttr, and_assoc, sw0]
    refine OW.nil (hK _ ?_)
    clear hK K
    change PW _ _ _ _ _
    refine PW.cond rfl (fun h4 => ?_) (fun h4 => ?_)
    ·
     replace hrun := br_t h4 hrun
     obtain ⟨x7, e7, hrun⟩ := bnd_some hrun
     refine PW.regionK fun K hK => ?_
     refine OW.run [2, 4, 7, 8, 9] ?_
     simp only [go_sem, simprocAttr, and_assoc, sw0]
     refine OW.call' 4 rfl rfl rfl (by ((simp only [go_sem, List.toList_toArray, ↓reduceIte, Nat.reduceEqDiff, Nat.reduceLT, Nat.reduceBEq]); exact rfl)) ?_ (ref06_BearerErr_ok N _ _ _ _ _ _ _ _ _ _ _ _ _ _ e7) ?_ ?_ ?_ ?_
     · rfl
     · (refine okAll_intro ?_; (simp only [go_sem, sw2, List.length_set, List.length_replicate, and_true, true_and, Nat.le_refl, simprocAttr]; done))
     · exact .inl rfl
     · (simp only [go_sem, Nat.reduceLT])
     refine OW.run [2, 4, 7, 8, 9] ?_
     simp only [go_sem, simprocAttr, and_assoc, sw0]
     refine OW.nil (hK _ ?_)
     clear hK K
     refine hN3 [] x7 _ hrun (by exact trivial) ?_
     (simp only [Env.frzL, Env.frz, frzOb, V.frz, V.frz.frzs, asD, map_asD, sw1, go_sem, simprocAttr]; done)
    ·
     replace hrun := br_f h4 hrun
     refine PW.skip ?_
     refine hN3 [] x6 _ hrun (by exact trivial) ?_
     (simp only [Env.frzL, Env.frz, frzOb, V.frz, V.frz.frzs, asD, map_asD, sw1, go_sem, simprocAttr]; done)
   ·
    rintro d hrun
    try simp only [go_sem, simprocAttr]
    refine PW.joinS (τ := Int) [2, 4, 7, 8, 9] 4 (fun d1 => [(9, .d (I d1))]) (fun d1 => [{ cells := [.d (I s_Blocks), .d (I s_Control), .d (I s_Power), .d (L s_Table)], e := 24 }, { cells := [.d (Sx x_Name), .d (I x_Kind), .d (I x_Priority), .d (I x_Weight), .d (I x_Power), .d (I x_Least), .d (I x_Burst), .d (I x_Rate), .d (I x_Delay)], e := 27 }, { cells := [.d (Sx x_Name), .d (I x_Kind), .d (I x_Priority), .d (I x_Weight), .d (I x_Power), .d (I x_Least), .d (I x_Burst), .d (I x_Rate), .d (I x_Delay)], e := 27 }, { cells := [.d (I x5), .d (I x51)], e := 86 }]) _ _ r (by exact Nat.zero_le _) hrun ?_ ?_
    ·
     intro K_1 hrun N5 hN5
     refine PW.seq ?_
     refine PW.regionK fun K hK => ?_
     refine OW.run [2, 4, 7, 8, 9, 47] ?_
     simp only [go_sem, simprocAttr, and_assoc, sw0]
     repeat (refine And.intro (by omega) ?_)
     refine OW.nil (hK _ ?_)
     clear hK K
     change PW _ _ _ _ _
     refine PW.cond rfl (fun h6 => ?_) (fun h6 => ?_)
     ·
      replace hrun := br_t h6 hrun
      refine PW.regionK fun K hK => ?_
      refine OW.run [2, 4, 7, 8, 9] ?_
      simp only [go_sem, simprocAttr, and_assoc, sw0]
      refine OW.nil (hK _ ?_)
      clear hK K
      refine hN5 [] (15 : Int) _ hrun (by exact trivial) ?_
      (simp only [Env.frzL, Env.frz, frzOb, V.frz, V.frz.frzs, asD, map_asD, sw1, go_sem, simprocAttr]; done)
     ·
      replace hrun := br_f h6 hrun
      refine PW.skip ?_
      refine hN5 [] d _ hrun (by exact trivial) ?_
      (simp only [Env.frzL, Env.frz, frzOb, V.frz, V.frz.frzs, asD, map_asD, sw1, go_sem, simprocAttr]; done)
    ·
     rintro d1 hrun
     try simp only [go_sem, simprocAttr]
     refine PW.joinS (τ := Int) [2, 4, 7, 8, 9] 4 (fun d2 => [(9, .d (I d2))]) (fun d2 => [{ cells := [.d (I s_Blocks), .d (I s_Control), .d (I s_Power), .d (L s_Table)], e := 24 }, { cells := [.d (Sx x_Name), .d (I x_Kind), .d (I x_Priority), .d (I x_Weight), .d (I x_Power), .d (I x_Least), .d (I x_Burst), .d (I x_Rate), .d (I x_Delay)], e := 27 }, { cells := [.d (Sx x_Name), .d (I x_Kind), .d (I x_Priority), .d (I x_Weight), .d (I x_Power), .d (I x_Least), .d (I x_Burst), .d (I x_Rate), .d (I x_Delay)], e := 27 }, { cells := [.d (I x5), .d (I x51)], e := 86 }]) _ _ r (by exact Nat.zero_le _) hrun ?_ ?_
     ·
      intro K_2 hrun N7 hN7
      refine PW.seq ?_
      refine PW.regionK fun K hK => ?_
      refine OW.run [2, 4, 7, 8, 9, 49] ?_
      simp only [go_sem, simprocAttr, and_assoc, sw0]
      refine OW.nil (hK _ ?_)
      clear hK K
      change PW _ _ _ _ _
      refine PW.cond rfl (fun h8 => ?_) (fun h8 => ?_)
      ·
       replace hrun := br_t h8 hrun
       obtain ⟨x8, e8, hrun⟩ := bnd_some hrun
       refine PW.regionK fun K hK => ?_
       refine OW.run [2, 4, 7, 8, 9] ?_
       simp only [go_sem, simprocAttr, and_assoc, sw0]
       refine OW.call' 4 rfl rfl rfl (by ((simp only [go_sem, List.toList_toArray, ↓reduceIte, Nat.reduceEqDiff, Nat.reduceLT, Nat.reduceBEq]); exact rfl)) ?_ (ref06_ArrivalsErr_ok N _ _ e8) ?_ ?_ ?_ ?_
       · rfl
       · exact okD_all rfl
       · exact .inl rfl
       · (simp only [go_sem, Nat.reduceLT])
       refine OW.run [2, 4, 7, 8, 9] ?_
       simp only [go_sem, simprocAttr, and_assoc, sw0]
       refine OW.nil (hK _ ?_)
       clear hK K
       refine hN7 [] x8 _ hrun (by exact trivial) ?_
       (simp only [Env.frzL, Env.frz, frzOb, V.frz, V.frz.frzs, asD, map_asD, sw1, go_sem, simprocAttr]; done)
      ·
       replace hrun := br_f h8 hrun
       refine PW.skip ?_
       refine hN7 [] d1 _ hrun (by exact trivial) ?_
       (simp only [Env.frzL, Env.frz, frzOb, V.frz, V.frz.frzs, asD, map_asD, sw1, go_sem, simprocAttr]; done)
     ·
      rintro d2 hrun
      try simp only [go_sem, simprocAttr]
      refine PW.seq ?_
      refine PW.regionK fun K hK => ?_
      refine OW.run [2, 4, 7, 8, 9, 10] ?_
      simp only [go_sem, simprocAttr, and_assoc, sw0]
      refine OW.nil (hK _ ?_)
      clear hK K
      change PW _ _ _ _ _
      refine PW.seq ?_
      refine PW.seq ?_
      refine PW.regionK fun K hK => ?_
      refine OW.run [2, 4, 7, 8, 9, 10, 53] ?_
      simp only [go_sem, simprocAttr, and_assoc, sw0]
      refine OW.nil (hK _ ?_)
      clear hK K
      change PW _ _ _ _ _
      refine PW.cond rfl (fun h9 => ?_) (fun h9 => ?_)
      ·
       replace hrun := br_t h9 hrun
       refine PW.seq ?_
       obtain ⟨⟨x9, x91, x92⟩, e9, hrun⟩ := bnd_some hrun
       refine PW.regionK fun K hK => ?_
       refine OW.run [7, 8, 9, 10, 11, 12] ?_
       simp only [go_sem, simprocAttr, and_assoc, sw0]
       refine OW.call' 4 rfl rfl rfl (by ((simp only [go_sem, List.toList_toArray, ↓reduceIte, Nat.reduceEqDiff, Nat.reduceLT, Nat.reduceBEq]); exact rfl)) ?_ (ref06_Breaks_ok N _ _ _ _ _ _ _ _ _ _ _ e9) ?_ ?_ ?_ ?_
       · rfl
       · (refine okAll_intro ?_; (simp only [go_sem, sw2, List.length_set, List.length_replicate, and_true, true_and, Nat.le_refl, simprocAttr]; done))
       · exact .inl rfl
       · (simp only [go_sem, Nat.reduceLT])
       refine OW.run [7, 8, 9, 10, 11, 12] ?_
       simp only [go_sem, simprocAttr, and_assoc, sw0]
       refine OW.nil (hK _ ?_)
       clear hK K
       change PW _ _ _ _ _
       refine PW.seq ?_
       refine PW.regionK fun K hK => ?_
       refine OW.run [7, 8, 9, 10, 12] ?_
       simp only [go_sem, simprocAttr, and_assoc, sw0]
       refine OW.nil (hK _ ?_)
       clear hK K
       change PW _ _ _ _ _
       refine PW.seq ?_
       refine PW.regionK fun K hK => ?_
       refine OW.run [7, 8, 9, 10, 62] ?_
       simp only [go_sem, simprocAttr, and_assoc, sw0]
       refine OW.nil (hK _ ?_)
       clear hK K
       change PW _ _ _ _ _
       refine PW.cond rfl (fun h10 => ?_) (fun h10 => ?_)
       ·
        replace hrun := br_t h10 hrun
        refine PW.regionK fun K hK => ?_
        refine OW.run [7, 8, 9, 10] ?_
        simp only [go_sem, simprocAttr, and_assoc, sw0]
        refine OW.nil (hK _ ?_)
        clear hK K
        change PW _ _ _ _ _
        refine PW.seq ?_
        refine PW.regionK fun K hK => ?_
        refine OW.run [6] ?_
        simp only [go_sem, simprocAttr, and_assoc, sw0]
        refine OW.nil (hK _ ?_)
        clear hK K
        change PW _ _ _ _ _
        refine PW.ret ?_
        change PW.Ends _ _ _ _ _ _
        refine PW.Ends.intro (.inr rfl) ?_
        simp only [go_sem, simprocAttr, and_assoc, sw0]
        obtain rfl := Option.some.inj hrun
        refine RetOK.data' 4 (by exact trivial) ?_
        rfl
       ·
        replace hrun := br_f h10 hrun
        refine PW.skip ?_
        change PW _ _ _ _ _
        refine PW.seq ?_
        refine PW.regionK fun K hK => ?_
        refine OW.run [6] ?_
        simp only [go_sem, simprocAttr, and_assoc, sw0]
        refine OW.nil (hK _ ?_)
        clear hK K
        change PW _ _ _ _ _
        refine PW.ret ?_
        change PW.Ends _ _ _ _ _ _
        refine PW.Ends.intro (.inr rfl) ?_
        simp only [go_sem, simprocAttr, and_assoc, sw0]
        obtain rfl := Option.some.inj hrun
        refine RetOK.data' 4 (by exact trivial) ?_
        rfl
      ·
       replace hrun := br_f h9 hrun
       refine PW.skip ?_
       change PW _ _ _ _ _
       refine PW.seq ?_
       refine PW.regionK fun K hK => ?_
       refine OW.run [6] ?_
       simp only [go_sem, simprocAttr, and_assoc, sw0]
       refine OW.nil (hK _ ?_)
       clear hK K
       change PW _ _ _ _ _
       refine PW.ret ?_
       change PW.Ends _ _ _ _ _ _
       refine PW.Ends.intro (.inr rfl) ?_
       simp only [go_sem, simprocAttr, and_assoc, sw0]
       obtain rfl := Option.some.inj hrun
       refine RetOK.data' 4 (by exact trivial) ?_
       rfl
end Go.Proofs.Ytabojpkmfkjjkaa
