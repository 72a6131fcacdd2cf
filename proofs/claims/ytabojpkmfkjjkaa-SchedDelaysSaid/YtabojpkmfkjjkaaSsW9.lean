import Derived.Test.YtabojpkmfkjjkaaSsBase
import Derived.Test.YtabojpkmfkjjkaaSsW0
import Derived.Test.YtabojpkmfkjjkaaSsW3
import Derived.Test.YtabojpkmfkjjkaaSsW4
import Derived.Test.YtabojpkmfkjjkaaSsW8
set_option linter.all false
namespace Go.Proofs.Ytabojpkmfkjjkaa
open Go.PW Go.Sh

set_option maxRecDepth 20000 in
set_option maxHeartbeats 8000000 in
theorem law06_SchedDelays_ok (N : Nat) (s_Blocks : Int) (s_Control : Int) (s_Power : Int) (s_Table : List Int) (x_Name : ByteArray) (x_Kind : Int) (x_Priority : Int) (x_Weight : Int) (x_Power : Int) (x_Least : Int) (x_Burst : Int) (x_Rate : Int) (x_Delay : Int) (blocks : Int) (r : Bool) (hrun : law06_SchedDelays N s_Blocks s_Control s_Power s_Table x_Name x_Kind x_Priority x_Weight x_Power x_Least x_Burst x_Rate x_Delay blocks = some r) : CallOK Try.prog 7 [(.agg [(I s_Blocks), (I s_Control), (I s_Power), (L s_Table)]), (.agg [(Sx x_Name), (I x_Kind), (I x_Priority), (I x_Weight), (I x_Power), (I x_Least), (I x_Burst), (I x_Rate), (I x_Delay)]), (I blocks)] (.d (Bo r)) [] := by
 refine CallOK.of_PW Try.func7 rfl (by rw [Try.results7]) Try.ntmps7 Try.call7 ?_
 change PW _ _ _ _ _
 try simp only [go_sem, simprocAttr]
 unfold law06_SchedDelays at hrun
 refine PW.seq ?_
 refine PW.regionK fun K hK => ?_
 refine OW.run [2, 3, 4] ?_
 simp only [go_sem, simprocAttr, and_assoc, sw0]
 refine OW.nil (hK _ ?_)
 clear hK K
 change PW _ _ _ _ _
 refine PW.seq ?_
 refine PW.seq ?_
 obtain ⟨x1, e1, hrun⟩ := bnd_some hrun
 refine PW.regionK fun K hK => ?_
 refine OW.run [2, 3, 4, 17] ?_
 simp only [go_sem, simprocAttr, and_assoc, sw0]
 refine OW.call' 4 rfl rfl rfl (by ((simp only [go_sem, List.toList_toArray, ↓reduceIte, Nat.reduceEqDiff, Nat.reduceLT, Nat.reduceBEq]); exact rfl)) ?_ (law06_awake_ok N  _ e1) ?_ ?_ ?_ ?_
 · rfl
 · exact okD_all rfl
 · exact .inl rfl
 · (simp only [go_sem, Nat.reduceLT])
 refine OW.run [2, 3, 4, 17] ?_
 simp only [go_sem, simprocAttr, and_assoc, sw0]
 refine OW.nil (hK _ ?_)
 clear hK K
 change PW _ _ _ _ _
 refine PW.cond rfl (fun h1 => ?_) (fun h1 => ?_)
 ·
  replace hrun := br_t h1 hrun
  refine PW.seq ?_
  refine PW.regionK fun K hK => ?_
  refine OW.run [6] ?_
  simp only [go_sem, simprocAttr, and_assoc, sw0]
  refine OW.nil (hK _ ?_)
  clear hK K
  change PW _ _ _ _ _
  refine PW.ret ?_
  change PW.Ends _ _ _ _ _ _
  refine PW.Ends.intro (.inr rfl) ?_
  simp only [go_sem, simprocAttr, and_assoc, sw0]
  obtain rfl := Option.some.inj hrun
  refine RetOK.data' 4 (by exact trivial) ?_
  rfl
 ·
  replace hrun := br_f h1 hrun
  refine PW.skip ?_
  change PW _ _ _ _ _
  refine PW.seq ?_
  refine PW.seq ?_
  obtain ⟨x2, e2, hrun⟩ := bnd_some hrun
  refine PW.regionK fun K hK => ?_
  refine OW.run [2, 3, 4, 22] ?_
  simp only [go_sem, simprocAttr, and_assoc, sw0]
  refine OW.call' 4 rfl rfl rfl (by ((simp only [go_sem, List.toList_toArray, ↓reduceIte, Nat.reduceEqDiff, Nat.reduceLT, Nat.reduceBEq]); exact rfl)) ?_ (law06_Few_ok N _ _ _ _ _ _ e2) ?_ ?_ ?_ ?_
  · rfl
  · (refine okAll_intro ?_; (simp only [go_sem, sw2, List.length_set, List.length_replicate, and_true, true_and, Nat.le_refl, simprocAttr]; simp only [seg, go_sem, sw2, List.length_set, List.length_replicate, and_true, true_and, Nat.le_refl, simprocAttr]; done))
  · exact .inr ⟨rfl, rfl⟩
  · (simp only [go_sem, Nat.reduceLT])
  refine OW.run [2, 3, 4, 22] ?_
  simp only [go_sem, simprocAttr, and_assoc, sw0]
  refine OW.nil (hK _ ?_)
  clear hK K
  change PW _ _ _ _ _
  refine PW.cond rfl (fun h2 => ?_) (fun h2 => ?_)
  ·
   replace hrun := br_t h2 hrun
   refine PW.seq ?_
   refine PW.regionK fun K hK => ?_
   refine OW.run [6] ?_
   simp only [go_sem, simprocAttr, and_assoc, sw0]
   refine OW.nil (hK _ ?_)
   clear hK K
   change PW _ _ _ _ _
   refine PW.ret ?_
   change PW.Ends _ _ _ _ _ _
   refine PW.Ends.intro (.inr rfl) ?_
   simp only [go_sem, simprocAttr, and_assoc, sw0]
   obtain rfl := Option.some.inj hrun
   refine RetOK.data' 4 (by exact trivial) ?_
   rfl
  ·
   replace hrun := br_f h2 hrun
   refine PW.skip ?_
   change PW _ _ _ _ _
   refine PW.seq ?_
   obtain ⟨⟨x3, x31, x32, x33⟩, e3, hrun⟩ := bnd_some hrun
   obtain ⟨⟨x4, x41⟩, e4, hrun⟩ := bnd_some hrun
   refine PW.drawK 9 mixed (by kernel_rfl) fun K hK => ?_
   change FW _ _ _ _ _
   refine FW.run ?_
   simp only [go_sem, simprocAttr, and_assoc, sw0]
   refine FW.call' 4 rfl rfl rfl (by ((simp only [go_sem, List.toList_toArray, ↓reduceIte, Nat.reduceEqDiff, Nat.reduceLT, Nat.reduceBEq]); exact rfl)) ?_ (ref06_Copy_ok N _ _ _ _ _ e3) ?_ ?_ ?_ ?_
   · rfl
   · (refine okAll_intro ?_; (simp only [go_sem, sw2, List.length_set, List.length_replicate, and_true, true_and, Nat.le_refl, simprocAttr]; done))
   · exact .inl rfl
   · (simp only [go_sem, Nat.reduceLT])
   refine FW.run ?_
   simp only [go_sem, simprocAttr, and_assoc, sw0]
   refine FW.call' 4 rfl rfl rfl (by ((simp only [go_sem, List.toList_toArray, ↓reduceIte, Nat.reduceEqDiff, Nat.reduceLT, Nat.reduceBEq]); exact rfl)) ?_ (sched_DelayOf_ok N _ _ _ _ _ _ _ _ _ _ _ _ _ _ _ e4) ?_ ?_ ?_ ?_
   · rfl
   · (refine okAll_intro ?_; (simp only [go_sem, sw2, List.length_set, List.length_replicate, and_true, true_and, Nat.le_refl, simprocAttr]; done))
   · exact .inl rfl
   · (simp only [go_sem, Nat.reduceLT])
   refine FW.run ?_
   simp only [go_sem, simprocAttr, and_assoc, sw0]
   refine FW.nil ?_
   change OW _ _ _ _ _ _
   refine OW.run [2, 3, 4, 7, 8] ?_
   simp only [go_sem, simprocAttr, and_assoc, sw0]
   refine OW.nil (hK _ ?_)
   clear hK K
   change PW _ _ _ _ _
   refine PW.seq ?_
   obtain ⟨x5, e5, hrun⟩ := bnd_some hrun
   refine PW.regionK fun K hK => ?_
   refine OW.run [2, 3, 4, 7, 8, 9] ?_
   simp only [go_sem, simprocAttr, and_assoc, sw0]
   refine OW.call' 4 rfl rfl rfl (by ((simp only [go_sem, List.toList_toArray, ↓reduceIte, Nat.reduceEqDiff, Nat.reduceLT, Nat.reduceBEq]); exact rfl)) ?_ (ref06_SiteErr_ok N _ _ _ _ _ e5) ?_ ?_ ?_ ?_
   · rfl
   · (refine okAll_intro ?_; (simp only [go_sem, sw2, List.length_set, List.length_replicate, and_true, true_and, Nat.le_refl, simprocAttr]; done))
   · exact .inl rfl
   · (simp only [go_sem, Nat.reduceLT])
   refine OW.run [2, 3, 4, 7, 8, 9] ?_
   simp only [go_sem, simprocAttr, and_assoc, sw0]
   refine OW.nil (hK _ ?_)
   clear hK K
   change PW _ _ _ _ _
   refine PW.joinS (τ := Int) [2, 3, 4, 7, 8, 9] 2 (fun d => [(9, .d (I d))]) (fun d => [{ cells := [.d (I s_Blocks), .d (I s_Control), .d (I s_Power), .d (L s_Table)], e := 24 }, { cells := [.d (Sx x_Name), .d (I x_Kind), .d (I x_Priority), .d (I x_Weight), .d (I x_Power), .d (I x_Least), .d (I x_Burst), .d (I x_Rate), .d (I x_Delay)], e := 27 }]) _ _ r (by exact Nat.zero_le _) hrun ?_ ?_
   ·
    intro K_ hrun N3 hN3
    refine PW.seq ?_
    refine PW.regionK fun K hK => ?_
    refine OW.run [2, 3, 4, 7, 8, 9, 34] ?_
    simp only [go_sem, simprocAttr, and_assoc, sw0]
    refine OW.nil (hK _ ?_)
    clear hK K
    change PW _ _ _ _ _
    refine PW.cond rfl (fun h4 => ?_) (fun h4 => ?_)
    ·
     replace hrun := br_t h4 hrun
     obtain ⟨x6, e6, hrun⟩ := bnd_some hrun
     refine PW.regionK fun K hK => ?_
     refine OW.run [2, 3, 4, 7, 8, 9] ?_
     simp only [go_sem, simprocAttr, and_assoc, sw0]
     refine OW.call' 4 rfl rfl rfl (by ((simp only [go_sem, List.toList_toArray, ↓reduceIte, Nat.reduceEqDiff, Nat.reduceLT, Nat.reduceBEq]); exact rfl)) ?_ (ref06_BearerErr_ok N _ _ _ _ _ _ _ _ _ _ _ _ _ _ e6) ?_ ?_ ?_ ?_
     · rfl
     · (refine okAll_intro ?_; (simp only [go_sem, sw2, List.length_set, List.length_replicate, and_true, true_and, Nat.le_refl, simprocAttr]; done))
     · exact .inl rfl
     · (simp only [go_sem, Nat.reduceLT])
     refine OW.run [2, 3, 4, 7, 8, 9] ?_
     simp only [go_sem, simprocAttr, and_assoc, sw0]
     refine OW.nil (hK _ ?_)
     clear hK K
     refine hN3 [] x6 _ hrun (by exact trivial) ?_
     (simp only [Env.frzL, Env.frz, frzOb, V.frz, V.frz.frzs, asD, map_asD, sw1, go_sem, simprocAttr]; done)
    ·
     replace hrun := br_f h4 hrun
     refine PW.skip ?_
     refine hN3 [] x5 _ hrun (by exact trivial) ?_
     (simp only [Env.frzL, Env.frz, frzOb, V.frz, V.frz.frzs, asD, map_asD, sw1, go_sem, simprocAttr]; done)
   ·
    rintro d hrun
    try simp only [go_sem, simprocAttr]
    refine PW.joinS (τ := Int) [2, 3, 4, 7, 8, 9] 2 (fun d1 => [(9, .d (I d1))]) (fun d1 => [{ cells := [.d (I s_Blocks), .d (I s_Control), .d (I s_Power), .d (L s_Table)], e := 24 }, { cells := [.d (Sx x_Name), .d (I x_Kind), .d (I x_Priority), .d (I x_Weight), .d (I x_Power), .d (I x_Least), .d (I x_Burst), .d (I x_Rate), .d (I x_Delay)], e := 27 }]) _ _ r (by exact Nat.zero_le _) hrun ?_ ?_
    ·
     intro K_1 hrun N5 hN5
     refine PW.seq ?_
     refine PW.regionK fun K hK => ?_
     refine OW.run [2, 3, 4, 7, 8, 9, 44] ?_
     simp only [go_sem, simprocAttr, and_assoc, sw0]
     repeat (refine And.intro (by omega) ?_)
     refine OW.nil (hK _ ?_)
     clear hK K
     change PW _ _ _ _ _
     refine PW.cond rfl (fun h6 => ?_) (fun h6 => ?_)
     ·
      replace hrun := br_t h6 hrun
      refine PW.regionK fun K hK => ?_
      refine OW.run [2, 3, 4, 7, 8, 9] ?_
      simp only [go_sem, simprocAttr, and_assoc, sw0]
      refine OW.nil (hK _ ?_)
      clear hK K
      refine hN5 [] (15 : Int) _ hrun (by exact trivial) ?_
      (simp only [Env.frzL, Env.frz, frzOb, V.frz, V.frz.frzs, asD, map_asD, sw1, go_sem, simprocAttr]; done)
     ·
      replace hrun := br_f h6 hrun
      refine PW.skip ?_
      refine hN5 [] d _ hrun (by exact trivial) ?_
      (simp only [Env.frzL, Env.frz, frzOb, V.frz, V.frz.frzs, asD, map_asD, sw1, go_sem, simprocAttr]; done)
    ·
     rintro d1 hrun
     try simp only [go_sem, simprocAttr]
     refine PW.seq ?_
     refine PW.seq ?_
     refine PW.regionK fun K hK => ?_
     refine OW.run [2, 3, 4, 7, 8, 9, 46] ?_
     simp only [go_sem, simprocAttr, and_assoc, sw0]
     refine OW.nil (hK _ ?_)
     clear hK K
     change PW _ _ _ _ _
     refine PW.cond rfl (fun h7 => ?_) (fun h7 => ?_)
     ·
      replace hrun := br_t h7 hrun
      refine PW.seq ?_
      refine PW.regionK fun K hK => ?_
      refine OW.run [6] ?_
      simp only [go_sem, simprocAttr, and_assoc, sw0]
      refine OW.nil (hK _ ?_)
      clear hK K
      change PW _ _ _ _ _
      refine PW.ret ?_
      change PW.Ends _ _ _ _ _ _
      refine PW.Ends.intro (.inr rfl) ?_
      simp only [go_sem, simprocAttr, and_assoc, sw0]
      obtain rfl := Option.some.inj hrun
      refine RetOK.data' 4 (by exact trivial) ?_
      rfl
     ·
      replace hrun := br_f h7 hrun
      refine PW.skip ?_
      change PW _ _ _ _ _
      refine PW.seq ?_
      obtain ⟨⟨x7, x71, x72⟩, e7, hrun⟩ := bnd_some hrun
      refine PW.regionK fun K hK => ?_
      refine OW.run [2, 3, 4, 7, 8, 10] ?_
      simp only [go_sem, simprocAttr, and_assoc, sw0]
      refine OW.call' 4 rfl rfl rfl (by ((simp only [go_sem, List.toList_toArray, ↓reduceIte, Nat.reduceEqDiff, Nat.reduceLT, Nat.reduceBEq]); exact rfl)) ?_ (ref06_NeedOf_ok N _ _ _ _ _ _ _ _ _ _ _ _ _ _ e7) ?_ ?_ ?_ ?_
      · rfl
      · (refine okAll_intro ?_; (simp only [go_sem, sw2, List.length_set, List.length_replicate, and_true, true_and, Nat.le_refl, simprocAttr]; done))
      · exact .inl rfl
      · (simp only [go_sem, Nat.reduceLT])
      refine OW.run [2, 3, 4, 7, 8, 10] ?_
      simp only [go_sem, simprocAttr, and_assoc, sw0]
      refine OW.nil (hK _ ?_)
      clear hK K
      change PW _ _ _ _ _
      refine PW.joinS (τ := Unit) [2, 3, 4, 7, 8] 2 (fun _ => []) (fun _ => [{ cells := [.d (I s_Blocks), .d (I s_Control), .d (I s_Power), .d (L s_Table)], e := 24 }, { cells := [.d (Sx x_Name), .d (I x_Kind), .d (I x_Priority), .d (I x_Weight), .d (I x_Power), .d (I x_Least), .d (I x_Burst), .d (I x_Rate), .d (I x_Delay)], e := 27 }]) _ _ r (by exact Nat.zero_le _) hrun ?_ ?_
      ·
       intro K_2 hrun N8 hN8
       refine PW.seq ?_
       refine PW.regionK fun K hK => ?_
       refine OW.run [2, 3, 4, 7, 8, 10, 61] ?_
       simp only [go_sem, simprocAttr, and_assoc, sw0]
       repeat (refine And.intro (by omega) ?_)
       refine OW.nil (hK _ ?_)
       clear hK K
       change PW _ _ _ _ _
       refine PW.cond rfl (fun h9 => ?_) (fun h9 => ?_)
       ·
        replace hrun := br_t h9 hrun
        refine PW.seq ?_
        obtain ⟨⟨x8, x81, x82, x83⟩, e8, hrun⟩ := bnd_some hrun
        obtain ⟨⟨x9, x91⟩, e9, hrun⟩ := bnd_some hrun
        refine PW.drawK 9 mixed (by kernel_rfl) fun K hK => ?_
        change FW _ _ _ _ _
        refine FW.run ?_
        simp only [go_sem, simprocAttr, and_assoc, sw0]
        refine FW.call' 4 rfl rfl rfl (by ((simp only [go_sem, List.toList_toArray, ↓reduceIte, Nat.reduceEqDiff, Nat.reduceLT, Nat.reduceBEq]); exact rfl)) ?_ (ref06_Copy_ok N _ _ _ _ _ e8) ?_ ?_ ?_ ?_
        · rfl
        · (refine okAll_intro ?_; (simp only [go_sem, sw2, List.length_set, List.length_replicate, and_true, true_and, Nat.le_refl, simprocAttr]; done))
        · exact .inl rfl
        · (simp only [go_sem, Nat.reduceLT])
        refine FW.run ?_
        simp only [go_sem, simprocAttr, and_assoc, sw0]
        refine FW.call' 4 rfl rfl rfl (by ((simp only [go_sem, List.toList_toArray, ↓reduceIte, Nat.reduceEqDiff, Nat.reduceLT, Nat.reduceBEq]); exact rfl)) ?_ (sched_DelayOf_ok N _ _ _ _ _ _ _ _ _ _ _ _ _ _ _ e9) ?_ ?_ ?_ ?_
        · rfl
        · (refine okAll_intro ?_; (simp only [go_sem, sw2, List.length_set, List.length_replicate, and_true, true_and, Nat.le_refl, simprocAttr]; done))
        · exact .inl rfl
        · (simp only [go_sem, Nat.reduceLT])
        refine FW.run ?_
        simp only [go_sem, simprocAttr, and_assoc, sw0]
        refine FW.nil ?_
        change OW _ _ _ _ _ _
        refine OW.run [2, 3, 4, 7, 8, 10, 11, 12] ?_
        simp only [go_sem, simprocAttr, and_assoc, sw0]
        refine OW.nil (hK _ ?_)
        clear hK K
        change PW _ _ _ _ _
        refine PW.seq ?_
        refine PW.seq ?_
        refine PW.regionK fun K hK => ?_
        refine OW.run [2, 3, 4, 7, 8, 10, 77] ?_
        simp only [go_sem, simprocAttr, and_assoc, sw0]
        repeat (refine And.intro (by omega) ?_)
        refine OW.nil (hK _ ?_)
        clear hK K
        change PW _ _ _ _ _
        refine PW.cond rfl (fun h10 => ?_) (fun h10 => ?_)
        ·
         replace hrun := br_t h10 hrun
         refine PW.seq ?_
         refine PW.regionK fun K hK => ?_
         refine OW.run [6] ?_
         simp only [go_sem, simprocAttr, and_assoc, sw0]
         refine OW.nil (hK _ ?_)
         clear hK K
         change PW _ _ _ _ _
         refine PW.ret ?_
         change PW.Ends _ _ _ _ _ _
         refine PW.Ends.intro (.inr rfl) ?_
         simp only [go_sem, simprocAttr, and_assoc, sw0]
         obtain rfl := Option.some.inj hrun
         refine RetOK.data' 4 (by exact trivial) ?_
         rfl
        ·
         replace hrun := br_f h10 hrun
         refine PW.skip ?_
         change PW _ _ _ _ _
         refine PW.seq ?_
         refine PW.regionK fun K hK => ?_
         refine OW.run [2, 3, 4, 7, 8, 10, 79] ?_
         simp only [go_sem, simprocAttr, and_assoc, sw0]
         refine OW.nil (hK _ ?_)
         clear hK K
         change PW _ _ _ _ _
         refine PW.cond rfl (fun h11 => ?_) (fun h11 => ?_)
         ·
          replace hrun := br_t h11 hrun
          refine PW.seq ?_
          obtain ⟨⟨x10, x101, x102, x103⟩, e10, hrun⟩ := bnd_some hrun
          obtain ⟨⟨x11, x111⟩, e11, hrun⟩ := bnd_some hrun
          refine PW.drawK 10 mixed (by kernel_rfl) fun K hK => ?_
          change FW _ _ _ _ _
          refine FW.run ?_
          simp only [go_sem, simprocAttr, and_assoc, sw0]
          refine FW.call' 4 rfl rfl rfl (by ((simp only [go_sem, List.toList_toArray, ↓reduceIte, Nat.reduceEqDiff, Nat.reduceLT, Nat.reduceBEq]); exact rfl)) ?_ (ref06_Copy_ok N _ _ _ _ _ e10) ?_ ?_ ?_ ?_
          · rfl
          · (refine okAll_intro ?_; (simp only [go_sem, sw2, List.length_set, List.length_replicate, and_true, true_and, Nat.le_refl, simprocAttr]; done))
          · exact .inl rfl
          · (simp only [go_sem, Nat.reduceLT])
          refine FW.run ?_
          simp only [go_sem, simprocAttr, and_assoc, sw0]
          refine FW.call' 4 rfl rfl rfl (by ((simp only [go_sem, List.toList_toArray, ↓reduceIte, Nat.reduceEqDiff, Nat.reduceLT, Nat.reduceBEq]); exact rfl)) ?_ (sched_DelayOf_ok N _ _ _ _ _ _ _ _ _ _ _ _ _ _ _ e11) ?_ ?_ ?_ ?_
          · rfl
          · (refine okAll_intro ?_; (simp only [go_sem, sw2, List.length_set, List.length_replicate, and_true, true_and, Nat.le_refl, simprocAttr]; done))
          · exact .inl rfl
          · (simp only [go_sem, Nat.reduceLT])
          refine FW.run ?_
          simp only [go_sem, simprocAttr, and_assoc, sw0]
          refine FW.nil ?_
          change OW _ _ _ _ _ _
          refine OW.run [2, 3, 4, 7, 8, 13, 14] ?_
          simp only [go_sem, simprocAttr, and_assoc, sw0]
          refine OW.nil (hK _ ?_)
          clear hK K
          change PW _ _ _ _ _
          refine PW.seq ?_
          refine PW.regionK fun K hK => ?_
          refine OW.run [2, 3, 4, 7, 8, 96] ?_
          simp only [go_sem, simprocAttr, and_assoc, sw0]
          repeat (refine And.intro (by omega) ?_)
          refine OW.nil (hK _ ?_)
          clear hK K
          change PW _ _ _ _ _
          refine PW.cond rfl (fun h12 => ?_) (fun h12 => ?_)
          ·
           replace hrun := br_t h12 hrun
           refine PW.seq ?_
           refine PW.regionK fun K hK => ?_
           refine OW.run [6] ?_
           simp only [go_sem, simprocAttr, and_assoc, sw0]
           refine OW.nil (hK _ ?_)
           clear hK K
           change PW _ _ _ _ _
           refine PW.ret ?_
           change PW.Ends _ _ _ _ _ _
           refine PW.Ends.intro (.inr rfl) ?_
           simp only [go_sem, simprocAttr, and_assoc, sw0]
           obtain rfl := Option.some.inj hrun
           refine RetOK.data' 4 (by exact trivial) ?_
           rfl
          ·
           replace hrun := br_f h12 hrun
           refine PW.skip ?_
           refine hN8 [] () _ hrun (by exact trivial) ?_
           (simp only [Env.frzL, Env.frz, frzOb, V.frz, V.frz.frzs, asD, map_asD, sw1, go_sem, simprocAttr]; done)
         ·
          replace hrun := br_f h11 hrun
          refine PW.skip ?_
          refine hN8 [] () _ hrun (by exact trivial) ?_
          (simp only [Env.frzL, Env.frz, frzOb, V.frz, V.frz.frzs, asD, map_asD, sw1, go_sem, simprocAttr]; done)
       ·
        replace hrun := br_f h9 hrun
        refine PW.skip ?_
        refine hN8 [] () _ hrun (by exact trivial) ?_
        (simp only [Env.frzL, Env.frz, frzOb, V.frz, V.frz.frzs, asD, map_asD, sw1, go_sem, simprocAttr]; done)
      ·
       rintro _ hrun
       try simp only [go_sem, simprocAttr]
       refine PW.seq ?_
       refine PW.seq ?_
       obtain ⟨x12, e12, hrun⟩ := bnd_some hrun
       refine PW.regionK fun K hK => ?_
       refine OW.run [2, 3, 4, 7, 8, 101] ?_
       simp only [go_sem, simprocAttr, and_assoc, sw0]
       repeat (refine And.intro (by omega) ?_)
       refine OW.call' 4 rfl rfl rfl (by ((simp only [go_sem, List.toList_toArray, ↓reduceIte, Nat.reduceEqDiff, Nat.reduceLT, Nat.reduceBEq]); exact rfl)) ?_ (base_Within_ok N _ _ _ _ e12) ?_ ?_ ?_ ?_
       · rfl
       · exact okD_all rfl
       · exact .inl rfl
       · (simp only [go_sem, Nat.reduceLT])
       refine OW.run [2, 3, 4, 7, 8, 101] ?_
       simp only [go_sem, simprocAttr, and_assoc, sw0]
       refine OW.nil (hK _ ?_)
       clear hK K
       change PW _ _ _ _ _
       refine PW.cond rfl (fun h13 => ?_) (fun h13 => ?_)
       ·
        replace hrun := br_t h13 hrun
        refine PW.seq ?_
        refine PW.regionK fun K hK => ?_
        refine OW.run [6] ?_
        simp only [go_sem, simprocAttr, and_assoc, sw0]
        refine OW.nil (hK _ ?_)
        clear hK K
        change PW _ _ _ _ _
        refine PW.ret ?_
        change PW.Ends _ _ _ _ _ _
        refine PW.Ends.intro (.inr rfl) ?_
        simp only [go_sem, simprocAttr, and_assoc, sw0]
        obtain rfl := Option.some.inj hrun
        refine RetOK.data' 4 (by exact trivial) ?_
        rfl
       ·
        replace hrun := br_f h13 hrun
        refine PW.skip ?_
        change PW _ _ _ _ _
        refine PW.seq ?_
        obtain ⟨c14, hrun⟩ := chk_some hrun
        refine PW.regionK fun K hK => ?_
        refine OW.run [4, 7, 8, 15] ?_
        simp only [go_sem, simprocAttr, and_assoc, sw0]
        repeat (refine And.intro (by omega) ?_)
        refine OW.nil (hK _ ?_)
        clear hK K
        change PW _ _ _ _ _
        refine PW.seq ?_
        refine PW.seq ?_
        refine PW.regionK fun K hK => ?_
        refine OW.run [4, 7, 8, 15, 119] ?_
        simp only [go_sem, simprocAttr, and_assoc, sw0]
        repeat (refine And.intro (by omega) ?_)
        refine OW.nil (hK _ ?_)
        clear hK K
        change PW _ _ _ _ _
        refine PW.cond rfl (fun h15 => ?_) (fun h15 => ?_)
        ·
         replace hrun := br_t h15 hrun
         refine PW.seq ?_
         refine PW.regionK fun K hK => ?_
         refine OW.run [6] ?_
         simp only [go_sem, simprocAttr, and_assoc, sw0]
         refine OW.nil (hK _ ?_)
         clear hK K
         change PW _ _ _ _ _
         refine PW.ret ?_
         change PW.Ends _ _ _ _ _ _
         refine PW.Ends.intro (.inr rfl) ?_
         simp only [go_sem, simprocAttr, and_assoc, sw0]
         obtain rfl := Option.some.inj hrun
         refine RetOK.data' 4 (by exact trivial) ?_
         rfl
        ·
         replace hrun := br_f h15 hrun
         refine PW.skip ?_
         change PW _ _ _ _ _
         refine PW.seq ?_
         obtain ⟨x13, e13, hrun⟩ := bnd_some hrun
         refine PW.regionK fun K hK => ?_
         refine OW.run [6] ?_
         simp only [go_sem, simprocAttr, and_assoc, sw0]
         repeat (refine And.intro (by omega) ?_)
         refine OW.callG' (g := (x41 == (0 : Int))) 4 rfl rfl ?_ (fun hg => by first | rfl | (simp only [go_sem, ↓reduceIte]; rfl)) (fun hg => by ((simp only [go_sem, List.toList_toArray, ↓reduceIte, Nat.reduceEqDiff, Nat.reduceLT, Nat.reduceBEq]); exact rfl)) (fun hg => ?_) (fun hg => (base_Ceil_ok N _ _ _ (grd_t hg e13))) ?_ ?_ ?_ ?_
         · (simp only [go_sem, simprocAttr]; done)
         · rfl
         · exact okD_all rfl
         · exact .inl rfl
         · (simp only [go_sem, Nat.reduceLT])
         refine OW.run [6] ?_
         simp only [go_sem, simprocAttr, and_assoc, sw0]
         refine OW.nil (hK _ ?_)
         clear hK K
         change PW _ _ _ _ _
         refine PW.ret ?_
         change PW.Ends _ _ _ _ _ _
         refine PW.Ends.intro (.inr rfl) ?_
         simp only [go_sem, simprocAttr, and_assoc, sw0]
         obtain rfl := Option.some.inj hrun
         refine RetOK.data' 4 (by exact trivial) ?_
         rfl

end Go.Proofs.Ytabojpkmfkjjkaa
