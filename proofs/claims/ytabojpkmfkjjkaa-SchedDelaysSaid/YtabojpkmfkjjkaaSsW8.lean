import Derived.Test.YtabojpkmfkjjkaaSsBase
import Derived.Test.YtabojpkmfkjjkaaSsW0
import Derived.Test.YtabojpkmfkjjkaaSsW4
set_option linter.all false
namespace Go.Proofs.Ytabojpkmfkjjkaa
open Go.PW Go.Sh

set_option maxRecDepth 20000 in
set_option maxHeartbeats 8000000 in
theorem sched_DelayOf_ok (N : Nat) (s_Blocks : Int) (s_Control : Int) (s_Power : Int) (s_Table : List Int) (x_Name : ByteArray) (x_Kind : Int) (x_Priority : Int) (x_Weight : Int) (x_Power : Int) (x_Least : Int) (x_Burst : Int) (x_Rate : Int) (x_Delay : Int) (blocks : Int) (r : Int × Int) (hrun : sched_DelayOf N s_Blocks s_Control s_Power s_Table x_Name x_Kind x_Priority x_Weight x_Power x_Least x_Burst x_Rate x_Delay blocks = some r) : CallOK Try.prog 40 [(.agg [(I s_Blocks), (I s_Control), (I s_Power), (L s_Table)]), (.agg [(Sx x_Name), (I x_Kind), (I x_Priority), (I x_Weight), (I x_Power), (I x_Least), (I x_Burst), (I x_Rate), (I x_Delay)]), (I blocks)] (.d (.tup [(I r.1), (I r.2)])) [] := by
 refine CallOK.of_PW Try.func40 rfl (by rw [Try.results40]) Try.ntmps40 Try.call40 ?_
 change PW _ _ _ _ _
 try simp only [go_sem, simprocAttr]
 unfold sched_DelayOf at hrun
 refine PW.seq ?_
 refine PW.regionK fun K hK => ?_
 refine OW.run [2, 3, 4] ?_
 simp only [go_sem, simprocAttr, and_assoc, sw0]
 refine OW.nil (hK _ ?_)
 clear hK K
 change PW _ _ _ _ _
 refine PW.seq ?_
 obtain ⟨⟨x1, x11, x12, x13, x14⟩, e1, hrun⟩ := bnd_some hrun
 refine PW.regionK fun K hK => ?_
 refine OW.run [2, 3, 4, 9] ?_
 simp only [go_sem, simprocAttr, and_assoc, sw0]
 refine OW.call' 4 rfl rfl rfl (by ((simp only [go_sem, List.toList_toArray, ↓reduceIte, Nat.reduceEqDiff, Nat.reduceLT, Nat.reduceBEq]); exact rfl)) ?_ (sched_openBearer_ok N _ _ _ _ _ _ _ _ _ _ _ _ _ _ e1) ?_ ?_ ?_ ?_
 · rfl
 · (refine okAll_intro ?_; (simp only [go_sem, sw2, List.length_set, List.length_replicate, and_true, true_and, Nat.le_refl, simprocAttr]; done))
 · exact .inl rfl
 · (simp only [go_sem, Nat.reduceLT])
 refine OW.run [2, 3, 4, 9] ?_
 simp only [go_sem, simprocAttr, and_assoc, sw0]
 refine OW.nil (hK _ ?_)
 clear hK K
 change PW _ _ _ _ _
 refine PW.seq ?_
 refine PW.seq ?_
 obtain ⟨x2, e2, hrun⟩ := bnd_some hrun
 obtain ⟨x3, e3, hrun⟩ := bnd_some hrun
 obtain ⟨x4, e4, hrun⟩ := bnd_some hrun
 obtain ⟨x5, e5, hrun⟩ := bnd_some hrun
 obtain ⟨x6, e6, hrun⟩ := bnd_some hrun
 refine PW.drawK 9 mixed (by kernel_rfl) fun K hK => ?_
 change FW _ _ _ _ _
 refine FW.run ?_
 simp only [go_sem, simprocAttr, and_assoc, sw0]
 refine FW.call' 4 rfl rfl rfl (by ((simp only [go_sem, List.toList_toArray, ↓reduceIte, Nat.reduceEqDiff, Nat.reduceLT, Nat.reduceBEq]); exact rfl)) ?_ (sched_guaranteed_ok N _ _ _ _ _ _ _ _ _ _ e2) ?_ ?_ ?_ ?_
 · rfl
 · (refine okAll_intro ?_; (simp only [go_sem, sw2, List.length_set, List.length_replicate, and_true, true_and, Nat.le_refl, simprocAttr]; done))
 · exact .inl rfl
 · (simp only [go_sem, Nat.reduceLT])
 refine FW.run ?_
 simp only [go_sem, simprocAttr, and_assoc, sw0]
 refine FW.call' 4 rfl rfl rfl (by ((simp only [go_sem, List.toList_toArray, ↓reduceIte, Nat.reduceEqDiff, Nat.reduceLT, Nat.reduceBEq]); exact rfl)) ?_ (sched_unless_ok N _ _ _ e3) ?_ ?_ ?_ ?_
 · rfl
 · exact okD_all rfl
 · exact .inl rfl
 · (simp only [go_sem, Nat.reduceLT])
 refine FW.run ?_
 simp only [go_sem, simprocAttr, and_assoc, sw0]
 repeat (refine And.intro (by omega) ?_)
 refine FW.call' 4 rfl rfl rfl (by ((simp only [go_sem, List.toList_toArray, ↓reduceIte, Nat.reduceEqDiff, Nat.reduceLT, Nat.reduceBEq]); exact rfl)) ?_ (sched_within_ok N _ _ _ _ e4) ?_ ?_ ?_ ?_
 · rfl
 · exact okD_all rfl
 · exact .inl rfl
 · (simp only [go_sem, Nat.reduceLT])
 refine FW.run ?_
 simp only [go_sem, simprocAttr, and_assoc, sw0]
 refine FW.call' 4 rfl rfl rfl (by ((simp only [go_sem, List.toList_toArray, ↓reduceIte, Nat.reduceEqDiff, Nat.reduceLT, Nat.reduceBEq]); exact rfl)) ?_ (sched_unless_ok N _ _ _ e5) ?_ ?_ ?_ ?_
 · rfl
 · exact okD_all rfl
 · exact .inl rfl
 · (simp only [go_sem, Nat.reduceLT])
 refine FW.run ?_
 simp only [go_sem, simprocAttr, and_assoc, sw0]
 refine FW.nil ?_
 change OW _ _ _ _ _ _
 refine OW.run [2, 3, 4, 9] ?_
 simp only [go_sem, simprocAttr, and_assoc, sw0]
 refine OW.call' 4 rfl rfl rfl (by ((simp only [go_sem, List.toList_toArray, ↓reduceIte, Nat.reduceEqDiff, Nat.reduceLT, Nat.reduceBEq]); exact rfl)) ?_ (sched_first_ok N _ _ e6) ?_ ?_ ?_ ?_
 · rfl
 · (refine okAll_intro ?_; (simp only [go_sem, sw2, List.length_set, List.length_replicate, and_true, true_and, Nat.le_refl, simprocAttr]; simp only [seg, go_sem, sw2, List.length_set, List.length_replicate, and_true, true_and, Nat.le_refl, simprocAttr]; done))
 · exact .inr ⟨rfl, rfl⟩
 · (simp only [go_sem, Nat.reduceLT])
 refine OW.run [2, 3, 4, 9] ?_
 simp only [go_sem, simprocAttr, and_assoc, sw0]
 refine OW.nil (hK _ ?_)
 clear hK K
 change PW _ _ _ _ _
 refine PW.seq ?_
 refine PW.regionK fun K hK => ?_
 refine OW.run [2, 3, 4, 9, 29] ?_
 simp only [go_sem, simprocAttr, and_assoc, sw0]
 refine OW.nil (hK _ ?_)
 clear hK K
 change PW _ _ _ _ _
 refine PW.cond rfl (fun h1 => ?_) (fun h1 => ?_)
 ·
  replace hrun := br_t h1 hrun
  refine PW.seq ?_
  refine PW.regionK fun K hK => ?_
  refine OW.run [6, 7] ?_
  simp only [go_sem, simprocAttr, and_assoc, sw0]
  refine OW.nil (hK _ ?_)
  clear hK K
  change PW _ _ _ _ _
  refine PW.ret ?_
  change PW.Ends _ _ _ _ _ _
  refine PW.Ends.intro (.inr rfl) ?_
  simp only [go_sem, simprocAttr, and_assoc, sw0]
  obtain rfl := Option.some.inj hrun
  refine RetOK.data' 4 (by exact okD_all rfl) ?_
  rfl
 ·
  replace hrun := br_f h1 hrun
  refine PW.skip ?_
  change PW _ _ _ _ _
  refine PW.seq ?_
  obtain ⟨c2, hrun⟩ := chk_some hrun
  refine PW.regionK fun K hK => ?_
  refine OW.run [4, 10] ?_
  simp only [go_sem, simprocAttr, and_assoc, sw0]
  repeat (refine And.intro (by omega) ?_)
  refine OW.nil (hK _ ?_)
  clear hK K
  change PW _ _ _ _ _
  refine PW.seq ?_
  refine PW.seq ?_
  refine PW.regionK fun K hK => ?_
  refine OW.run [4, 10, 42] ?_
  simp only [go_sem, simprocAttr, and_assoc, sw0]
  repeat (refine And.intro (by omega) ?_)
  refine OW.nil (hK _ ?_)
  clear hK K
  change PW _ _ _ _ _
  refine PW.cond rfl (fun h3 => ?_) (fun h3 => ?_)
  ·
   replace hrun := br_t h3 hrun
   refine PW.seq ?_
   refine PW.regionK fun K hK => ?_
   refine OW.run [6, 7] ?_
   simp only [go_sem, simprocAttr, and_assoc, sw0]
   refine OW.nil (hK _ ?_)
   clear hK K
   change PW _ _ _ _ _
   refine PW.ret ?_
   change PW.Ends _ _ _ _ _ _
   refine PW.Ends.intro (.inr rfl) ?_
   simp only [go_sem, simprocAttr, and_assoc, sw0]
   obtain rfl := Option.some.inj hrun
   refine RetOK.data' 4 (by exact okD_all rfl) ?_
   rfl
  ·
   replace hrun := br_f h3 hrun
   refine PW.skip ?_
   change PW _ _ _ _ _
   refine PW.seq ?_
   obtain ⟨x7, e7, hrun⟩ := bnd_some hrun
   refine PW.regionK fun K hK => ?_
   refine OW.run [6, 7] ?_
   simp only [go_sem, simprocAttr, and_assoc, sw0]
   repeat (refine And.intro (by omega) ?_)
   refine OW.call' 4 rfl rfl rfl (by ((simp only [go_sem, List.toList_toArray, ↓reduceIte, Nat.reduceEqDiff, Nat.reduceLT, Nat.reduceBEq]); exact rfl)) ?_ (sched_ceil_ok N _ _ _ e7) ?_ ?_ ?_ ?_
   · rfl
   · exact okD_all rfl
   · exact .inl rfl
   · (simp only [go_sem, Nat.reduceLT])
   refine OW.run [6, 7] ?_
   simp only [go_sem, simprocAttr, and_assoc, sw0]
   refine OW.nil (hK _ ?_)
   clear hK K
   change PW _ _ _ _ _
   refine PW.ret ?_
   change PW.Ends _ _ _ _ _ _
   refine PW.Ends.intro (.inr rfl) ?_
   simp only [go_sem, simprocAttr, and_assoc, sw0]
   obtain rfl := Option.some.inj hrun
   refine RetOK.data' 4 (by exact okD_all rfl) ?_
   rfl
end Go.Proofs.Ytabojpkmfkjjkaa
