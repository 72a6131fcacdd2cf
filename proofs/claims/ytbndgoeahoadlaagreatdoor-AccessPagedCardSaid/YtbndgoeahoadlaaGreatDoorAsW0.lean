import Derived.Test.YtbndgoeahoadlaaGreatDoorAsBase
set_option linter.all false
namespace Go.Proofs.YtbndgoeahoadlaaGreatDoor
open Go.PW Go.Sh

set_option maxRecDepth 20000
set_option maxHeartbeats 8000000
theorem access_within_ok (N : Nat) (n : Int) (lo : Int) (hi : Int) (r : Bool) (H : access_within N n lo hi = some r) : CallOK Tryz.prog 76 [(I n), (I lo), (I hi)] (.d (Bo r)) [] := by
 refine CallOK.of_PW Tryz.func76 rfl (by rw [Tryz.results76]) Tryz.ntmps76 Tryz.call76 ?_
 change PW _ _ _ _ _
 try simp only [go_sem, simprocAttr]
 unfold access_within at H
 refine PW.seq ?_
 refine PW.regionK fun K hK => OW.run [0, 1, 2] ?_
 simp only [go_sem, simprocAttr, sw0]
 refine OW.nil (hK _ ?_)
 refine PW.seq ?_
 refine PW.regionK fun K hK => OW.run [6] ?_
 simp only [go_sem, simprocAttr, sw0]
 refine OW.nil (hK _ ?_)
 refine PW.ret ?_
 change PW.Ends _ _ _ _ _ _
 refine PW.Ends.intro (.inr rfl) ?_
 simp only [go_sem, simprocAttr, sw0]
 obtain rfl := Option.some.inj H
 refine RetOK.data' 4 (by exact trivial) ?_
 rfl

theorem access_unless_ok (N : Nat) (is_ : Bool) (e : Int) (r : Int) (H : access_unless N is_ e = some r) : CallOK Tryz.prog 83 [(Bo is_), (I e)] (.d (I r)) [] := by
 refine CallOK.of_PW Tryz.func83 rfl (by rw [Tryz.results83]) Tryz.ntmps83 Tryz.call83 ?_
 change PW _ _ _ _ _
 try simp only [go_sem, simprocAttr]
 unfold access_unless at H
 refine PW.seq ?_
 refine PW.regionK fun K hK => OW.run [0, 1] ?_
 simp only [go_sem, simprocAttr, sw0]
 refine OW.nil (hK _ ?_)
 refine PW.seq ?_
 refine PW.seq ?_
 refine PW.regionK fun K hK => OW.run [1, 5] ?_
 simp only [go_sem, simprocAttr, sw0]
 refine OW.nil (hK _ ?_)
 refine PW.cond rfl (fun h1 => ?_) (fun h1 => ?_)
 replace H := br_t h1 H
 refine PW.seq ?_
 refine PW.regionK fun K hK => OW.run [4] ?_
 simp only [go_sem, simprocAttr, sw0]
 refine OW.nil (hK _ ?_)
 refine PW.ret ?_
 change PW.Ends _ _ _ _ _ _
 refine PW.Ends.intro (.inr rfl) ?_
 simp only [go_sem, simprocAttr, sw0]
 obtain rfl := Option.some.inj H
 refine RetOK.data' 4 (by exact trivial) ?_
 rfl
 replace H := br_f h1 H
 refine PW.skip ?_
 refine PW.seq ?_
 refine PW.regionK fun K hK => OW.run [4] ?_
 simp only [go_sem, simprocAttr, sw0]
 refine OW.nil (hK _ ?_)
 refine PW.ret ?_
 change PW.Ends _ _ _ _ _ _
 refine PW.Ends.intro (.inr rfl) ?_
 simp only [go_sem, simprocAttr, sw0]
 obtain rfl := Option.some.inj H
 refine RetOK.data' 4 (by exact trivial) ?_
 rfl

theorem access_CheckSleep_ok (N : Nat) (Zc : Int) (Zf : Int) (Ze : Int) (Zd : Int) (r : Int) (H : access_CheckSleep N Zc Zf Ze Zd = some r) : CallOK Tryz.prog 46 [(.agg [(I Zc), (I Zf), (I Ze), (I Zd)])] (.d (I r)) [] := by
 refine CallOK.of_PW Tryz.func46 rfl (by rw [Tryz.results46]) Tryz.ntmps46 Tryz.call46 ?_
 change PW _ _ _ _ _
 try simp only [go_sem, simprocAttr]
 unfold access_CheckSleep at H
 refine PW.seq ?_
 refine PW.regionK fun K hK => OW.run [1] ?_
 simp only [go_sem, simprocAttr, sw0]
 refine OW.nil (hK _ ?_)
 refine PW.seq ?_
 obtain ⟨x1, e1, H⟩ := bnd_some H
 obtain ⟨x2, e2, H⟩ := bnd_some H
 obtain ⟨x3, e3, H⟩ := bnd_some H
 obtain ⟨x4, e4, H⟩ := bnd_some H
 refine PW.regionK fun K hK => OW.run [3] ?_
 simp only [go_sem, simprocAttr, sw0]
 repeat (refine And.intro (by omega) ?_)
 refine OW.call' 4 rfl rfl rfl (by first | exact rfl | ((simp only [go_sem, List.toList_toArray, simprocAttr]); exact rfl)) ?_ (access_within_ok N _ _ _ _ e1) ?_ ?_ ?_ ?_
 rfl
 exact okD_all rfl
 exact .inl rfl
 (simp only [go_sem, Nat.reduceLT])
 refine OW.run [3] ?_
 simp only [go_sem, simprocAttr, sw0]
 repeat (refine And.intro (by omega) ?_)
 refine OW.callG' 4 rfl rfl ?_ (fun hg => by first | rfl | (simp only [go_sem, ↓reduceIte]; rfl)) (fun hg => by ((simp only [go_sem, List.toList_toArray, simprocAttr]); exact rfl)) (fun hg => ?_) (fun hg => (access_within_ok N _ _ _ _ (grd_t hg e2))) ?_ ?_ ?_ ?_
 simp only [go_sem, simprocAttr]
 rfl
 exact okD_all rfl
 exact .inl rfl
 (simp only [go_sem, Nat.reduceLT])
 refine OW.run [3] ?_
 simp only [go_sem, simprocAttr, sw0]
 repeat (refine And.intro (by omega) ?_)
 refine OW.callG' 4 rfl rfl ?_ (fun hg => by first | rfl | (simp only [go_sem, ↓reduceIte]; rfl)) (fun hg => by ((simp only [go_sem, List.toList_toArray, simprocAttr]); exact rfl)) (fun hg => ?_) (fun hg => (access_within_ok N _ _ _ _ (grd_t hg e3))) ?_ ?_ ?_ ?_
 simp only [go_sem, simprocAttr]
 rfl
 exact okD_all rfl
 exact .inl rfl
 (simp only [go_sem, Nat.reduceLT])
 refine OW.run [3] ?_
 simp only [go_sem, simprocAttr, sw0]
 repeat (refine And.intro (by omega) ?_)
 refine OW.callG' 4 rfl rfl ?_ (fun hg => by first | rfl | (simp only [go_sem, ↓reduceIte]; rfl)) (fun hg => by ((simp only [go_sem, List.toList_toArray, simprocAttr]); exact rfl)) (fun hg => ?_) (fun hg => (access_within_ok N _ _ _ _ (grd_t hg e4))) ?_ ?_ ?_ ?_
 simp only [go_sem, simprocAttr]
 rfl
 exact okD_all rfl
 exact .inl rfl
 (simp only [go_sem, Nat.reduceLT])
 refine OW.run [3] ?_
 simp only [go_sem, simprocAttr, sw0]
 refine OW.nil (hK _ ?_)
 refine PW.seq ?_
 obtain ⟨x5, e5, H⟩ := bnd_some H
 refine PW.regionK fun K hK => OW.run [2] ?_
 simp only [go_sem, simprocAttr, sw0]
 refine OW.call' 4 rfl rfl rfl (by first | exact rfl | ((simp only [go_sem, List.toList_toArray, simprocAttr]); exact rfl)) ?_ (access_unless_ok N _ _ _ e5) ?_ ?_ ?_ ?_
 rfl
 exact okD_all rfl
 exact .inl rfl
 (simp only [go_sem, Nat.reduceLT])
 refine OW.run [2] ?_
 simp only [go_sem, simprocAttr, sw0]
 refine OW.nil (hK _ ?_)
 refine PW.ret ?_
 change PW.Ends _ _ _ _ _ _
 refine PW.Ends.intro (.inr rfl) ?_
 simp only [go_sem, simprocAttr, sw0]
 obtain rfl := Option.some.inj H
 refine RetOK.data' 4 (by exact trivial) ?_
 rfl

theorem access_isTick_ok (N : Nat) (n : Int) (r : Bool) (H : access_isTick N n = some r) : CallOK Tryz.prog 102 [(I n)] (.d (Bo r)) [] := by
 refine CallOK.of_PW Tryz.func102 rfl (by rw [Tryz.results102]) Tryz.ntmps102 Tryz.call102 ?_
 change PW _ _ _ _ _
 try simp only [go_sem, simprocAttr]
 unfold access_isTick at H
 refine PW.seq ?_
 refine PW.regionK fun K hK => OW.run [0] ?_
 simp only [go_sem, simprocAttr, sw0]
 refine OW.nil (hK _ ?_)
 refine PW.seq ?_
 obtain ⟨x1, e1, H⟩ := bnd_some H
 refine PW.regionK fun K hK => OW.run [2] ?_
 simp only [go_sem, simprocAttr, sw0]
 refine OW.call' 4 rfl rfl rfl (by first | exact rfl | ((simp only [go_sem, List.toList_toArray, simprocAttr]); exact rfl)) ?_ (access_within_ok N _ _ _ _ e1) ?_ ?_ ?_ ?_
 rfl
 exact okD_all rfl
 exact .inl rfl
 (simp only [go_sem, Nat.reduceLT])
 refine OW.run [2] ?_
 simp only [go_sem, simprocAttr, sw0]
 refine OW.nil (hK _ ?_)
 refine PW.ret ?_
 change PW.Ends _ _ _ _ _ _
 refine PW.Ends.intro (.inr rfl) ?_
 simp only [go_sem, simprocAttr, sw0]
 obtain rfl := Option.some.inj H
 refine RetOK.data' 4 (by exact trivial) ?_
 rfl

theorem access_tickErr_ok (N : Nat) (n : Int) (r : Int) (H : access_tickErr N n = some r) : CallOK Tryz.prog 94 [(I n)] (.d (I r)) [] := by
 refine CallOK.of_PW Tryz.func94 rfl (by rw [Tryz.results94]) Tryz.ntmps94 Tryz.call94 ?_
 change PW _ _ _ _ _
 try simp only [go_sem, simprocAttr]
 unfold access_tickErr at H
 refine PW.seq ?_
 refine PW.regionK fun K hK => OW.run [0] ?_
 simp only [go_sem, simprocAttr, sw0]
 refine OW.nil (hK _ ?_)
 refine PW.seq ?_
 obtain ⟨x1, e1, H⟩ := bnd_some H
 obtain ⟨x2, e2, H⟩ := bnd_some H
 refine PW.regionK fun K hK => OW.run [2] ?_
 simp only [go_sem, simprocAttr, sw0]
 refine OW.call' 4 rfl rfl rfl (by first | exact rfl | ((simp only [go_sem, List.toList_toArray, simprocAttr]); exact rfl)) ?_ (access_isTick_ok N _ _ e1) ?_ ?_ ?_ ?_
 rfl
 exact okD_all rfl
 exact .inl rfl
 (simp only [go_sem, Nat.reduceLT])
 refine OW.run [2] ?_
 simp only [go_sem, simprocAttr, sw0]
 refine OW.call' 4 rfl rfl rfl (by first | exact rfl | ((simp only [go_sem, List.toList_toArray, simprocAttr]); exact rfl)) ?_ (access_unless_ok N _ _ _ e2) ?_ ?_ ?_ ?_
 rfl
 exact okD_all rfl
 exact .inl rfl
 (simp only [go_sem, Nat.reduceLT])
 refine OW.run [2] ?_
 simp only [go_sem, simprocAttr, sw0]
 refine OW.nil (hK _ ?_)
 refine PW.ret ?_
 change PW.Ends _ _ _ _ _ _
 refine PW.Ends.intro (.inr rfl) ?_
 simp only [go_sem, simprocAttr, sw0]
 obtain rfl := Option.some.inj H
 refine RetOK.data' 4 (by exact trivial) ?_
 rfl

theorem access_first_ok (N : Nat) (l : List Int) (r : Int) (H : access_first N l = some r) : CallOK Tryz.prog 77 [(L l)] (.d (I r)) [] := by
 refine CallOK.of_PW Tryz.func77 rfl (by rw [Tryz.results77]) Tryz.ntmps77 Tryz.call77 ?_
 change PW _ _ _ _ _
 try simp only [go_sem, simprocAttr]
 unfold access_first at H
 refine PW.seq ?_
 refine PW.regionK fun K hK => OW.run [0] ?_
 simp only [go_sem, simprocAttr, sw0]
 refine OW.nil (hK _ ?_)
 refine PW.joinS (τ := Unit) [] 0 (fun _ => []) (fun _ => []) _ _ r (by exact Nat.le_refl _) H ?_ ?_
 intro K_ H N1 hN1
 refine PW.seq ?_
 refine PW.regionK fun K hK => OW.run [5, 6, 7] ?_
 simp only [go_sem, simprocAttr, sw0]
 refine OW.nil (hK _ ?_)
 refine PW.block ?_
 refine PW.loopS (σ := Int) [5, 6, 7] 0 (fun t7 => [(7, .d (I t7))]) (fun t7 => []) (access_first.b1 N l K_) r N (0 : Int) (by exact Nat.le_refl _) H (by (simp only [sw1, go_sem, simprocAttr]; done)) ?_
 rintro n t7 H N2 hN2
 unfold access_first.b1 at H
 try simp only [go_sem, simprocAttr]
 refine PW.seq ?_
 refine PW.regionK fun K hK => OW.run [5, 6, 7, 8] ?_
 simp only [go_sem, simprocAttr, sw0]
 refine OW.nil (hK _ ?_)
 refine PW.seq ?_
 refine PW.cond rfl (fun h3 => ?_) (fun h3 => ?_)
 replace H := br_t h3 H
 refine PW.skip ?_
 refine PW.seq ?_
 refine PW.block ?_
 refine PW.seq ?_
 obtain ⟨c4, H⟩ := chk_some H
 refine PW.regionK fun K hK => OW.run [4, 5, 6, 7] ?_
 simp only [go_sem, simprocAttr, sw0]
 repeat (refine And.intro (by omega) ?_)
 refine OW.nil (hK _ ?_)
 refine PW.seq ?_
 refine PW.regionK fun K hK => OW.run [4, 5, 6, 7, 12] ?_
 simp only [go_sem, simprocAttr, sw0]
 refine OW.nil (hK _ ?_)
 refine PW.cond rfl (fun h5 => ?_) (fun h5 => ?_)
 replace H := br_t h5 H
 refine PW.seq ?_
 refine PW.regionK fun K hK => OW.run [2] ?_
 simp only [go_sem, simprocAttr, sw0]
 refine OW.nil (hK _ ?_)
 refine PW.ret ?_
 change PW.Ends _ _ _ _ _ _
 refine PW.Ends.intro (.inr rfl) ?_
 simp only [go_sem, simprocAttr, sw0]
 obtain rfl := Option.some.inj H
 refine RetOK.data' 4 (by exact trivial) ?_
 rfl
 replace H := br_f h5 H
 refine PW.skip ?_
 refine PW.regionK fun K hK => OW.run [5, 6, 7] ?_
 simp only [go_sem, simprocAttr, sw0]
 refine OW.nil (hK _ ?_)
 refine hN2 [] (w64 (t7 + (1 : Int))) _ H (by exact trivial) ?_
 simp only [sw1, go_sem, simprocAttr]
 replace H := br_f h3 H
 refine PW.exit ?_
 refine hN1 [] () _ H (by exact trivial) ?_
 simp only [sw1, go_sem, simprocAttr]
 rintro _ H
 try simp only [go_sem, simprocAttr]
 refine PW.seq ?_
 refine PW.regionK fun K hK => OW.run [2] ?_
 simp only [go_sem, simprocAttr, sw0]
 refine OW.nil (hK _ ?_)
 refine PW.ret ?_
 change PW.Ends _ _ _ _ _ _
 refine PW.Ends.intro (.inr rfl) ?_
 simp only [go_sem, simprocAttr, sw0]
 obtain rfl := Option.some.inj H
 refine RetOK.data' 4 (by exact trivial) ?_
 rfl

theorem access_sleep_since_ok (N : Nat) (Z8 : Int) (Zb : Int) (Za : Int) (Z9 : Int) (tick : Int) (r : Int) (H : access_sleep_since N Z8 Zb Za Z9 tick = some r) : CallOK Tryz.prog 101 [(.agg [(I Z8), (I Zb), (I Za), (I Z9)]), (I tick)] (.d (I r)) [] := by
 refine CallOK.of_PW Tryz.func101 rfl (by rw [Tryz.results101]) Tryz.ntmps101 Tryz.call101 ?_
 change PW _ _ _ _ _
 try simp only [go_sem, simprocAttr]
 unfold access_sleep_since at H
 refine PW.seq ?_
 refine PW.regionK fun K hK => OW.run [1, 2] ?_
 simp only [go_sem, simprocAttr, sw0]
 refine OW.nil (hK _ ?_)
 refine PW.seq ?_
 obtain ⟨c1, H⟩ := chk_some H
 obtain ⟨c2, H⟩ := chk_some H
 refine PW.drawK 16 mixed (by kernel_rfl) fun K hK => ?_
 change FW _ _ _ _ _
 refine FW.run ?_
 simp only [go_sem, simprocAttr, sw0]
 repeat (refine And.intro (by omega) ?_)
 refine FW.nil ?_
 change OW _ _ _ _ _ _
 refine OW.run [4] ?_
 simp only [go_sem, simprocAttr, sw0]
 repeat (refine And.intro (by omega) ?_)
 refine OW.nil (hK _ ?_)
 refine PW.ret ?_
 change PW.Ends _ _ _ _ _ _
 refine PW.Ends.intro (.inr rfl) ?_
 simp only [go_sem, simprocAttr, sw0]
 obtain rfl := Option.some.inj H
 refine RetOK.data' 4 (by exact trivial) ?_
 rfl

theorem access_sleep_on_ok (N : Nat) (Z8 : Int) (Zb : Int) (Za : Int) (Z9 : Int) (tick : Int) (r : Bool) (H : access_sleep_on N Z8 Zb Za Z9 tick = some r) : CallOK Tryz.prog 100 [(.agg [(I Z8), (I Zb), (I Za), (I Z9)]), (I tick)] (.d (Bo r)) [] := by
 refine CallOK.of_PW Tryz.func100 rfl (by rw [Tryz.results100]) Tryz.ntmps100 Tryz.call100 ?_
 change PW _ _ _ _ _
 try simp only [go_sem, simprocAttr]
 unfold access_sleep_on at H
 refine PW.seq ?_
 refine PW.regionK fun K hK => OW.run [1, 2] ?_
 simp only [go_sem, simprocAttr, sw0]
 refine OW.nil (hK _ ?_)
 refine PW.seq ?_
 obtain ⟨x1, e1, H⟩ := bnd_some H
 refine PW.drawK 6 mixed (by kernel_rfl) fun K hK => ?_
 change FW _ _ _ _ _
 refine FW.run ?_
 simp only [go_sem, simprocAttr, sw0]
 refine FW.call' 4 rfl rfl rfl (by first | exact rfl | ((simp only [go_sem, List.toList_toArray, simprocAttr]); exact rfl)) ?_ (access_sleep_since_ok N _ _ _ _ _ _ e1) ?_ ?_ ?_ ?_
 rfl
 · (refine okAll_intro ?_; (simp only [go_sem, sw2, List.length_set, List.length_replicate, and_true, true_and, Nat.le_refl, simprocAttr]; done))
 exact .inl rfl
 (simp only [go_sem, Nat.reduceLT])
 refine FW.run ?_
 simp only [go_sem, simprocAttr, sw0]
 repeat (refine And.intro (by omega) ?_)
 refine FW.nil ?_
 change OW _ _ _ _ _ _
 refine OW.run [4] ?_
 simp only [go_sem, simprocAttr, sw0]
 refine OW.nil (hK _ ?_)
 refine PW.ret ?_
 change PW.Ends _ _ _ _ _ _
 refine PW.Ends.intro (.inr rfl) ?_
 simp only [go_sem, simprocAttr, sw0]
 obtain rfl := Option.some.inj H
 refine RetOK.data' 4 (by exact trivial) ?_
 rfl

theorem access_AwakeAt_ok (N : Nat) (Zc : Int) (Zf : Int) (Ze : Int) (Zd : Int) (tick : Int) (last : Int) (r : Bool × Int) (H : access_AwakeAt N Zc Zf Ze Zd tick last = some r) : CallOK Tryz.prog 47 [(.agg [(I Zc), (I Zf), (I Ze), (I Zd)]), (I tick), (I last)] (.d (.tup [(Bo r.1), (I r.2)])) [] := by
 refine CallOK.of_PW Tryz.func47 rfl (by rw [Tryz.results47]) Tryz.ntmps47 Tryz.call47 ?_
 change PW _ _ _ _ _
 try simp only [go_sem, simprocAttr]
 unfold access_AwakeAt at H
 refine PW.seq ?_
 refine PW.regionK fun K hK => OW.run [1, 2, 3] ?_
 simp only [go_sem, simprocAttr, sw0]
 refine OW.nil (hK _ ?_)
 refine PW.seq ?_
 refine PW.seq ?_
 obtain ⟨x1, e1, H⟩ := bnd_some H
 obtain ⟨x2, e2, H⟩ := bnd_some H
 obtain ⟨x3, e3, H⟩ := bnd_some H
 obtain ⟨x4, e4, H⟩ := bnd_some H
 obtain ⟨x5, e5, H⟩ := bnd_some H
 refine PW.regionK fun K hK => OW.run [1, 2, 3, 8] ?_
 simp only [go_sem, simprocAttr, sw0]
 refine OW.call' 4 rfl rfl rfl (by first | exact rfl | ((simp only [go_sem, List.toList_toArray, simprocAttr]); exact rfl)) ?_ (access_CheckSleep_ok N _ _ _ _ _ e1) ?_ ?_ ?_ ?_
 rfl
 · (refine okAll_intro ?_; (simp only [go_sem, sw2, List.length_set, List.length_replicate, and_true, true_and, Nat.le_refl, simprocAttr]; done))
 exact .inl rfl
 (simp only [go_sem, Nat.reduceLT])
 refine OW.run [1, 2, 3, 8] ?_
 simp only [go_sem, simprocAttr, sw0]
 refine OW.call' 4 rfl rfl rfl (by first | exact rfl | ((simp only [go_sem, List.toList_toArray, simprocAttr]); exact rfl)) ?_ (access_tickErr_ok N _ _ e2) ?_ ?_ ?_ ?_
 rfl
 exact okD_all rfl
 exact .inl rfl
 (simp only [go_sem, Nat.reduceLT])
 refine OW.run [1, 2, 3, 8] ?_
 simp only [go_sem, simprocAttr, sw0]
 refine OW.callG' 4 rfl rfl ?_ (fun hg => by first | rfl | (simp only [go_sem, ↓reduceIte]; rfl)) (fun hg => by ((simp only [go_sem, List.toList_toArray, simprocAttr]); exact rfl)) (fun hg => ?_) (fun hg => (access_isTick_ok N _ _ (grd_t hg e3))) ?_ ?_ ?_ ?_
 simp only [go_sem, simprocAttr]
 rfl
 exact okD_all rfl
 exact .inl rfl
 (simp only [go_sem, Nat.reduceLT])
 refine OW.run [1, 2, 3, 8] ?_
 simp only [go_sem, simprocAttr, sw0]
 refine OW.call' 4 rfl rfl rfl (by first | exact rfl | ((simp only [go_sem, List.toList_toArray, simprocAttr]); exact rfl)) ?_ (access_unless_ok N _ _ _ e4) ?_ ?_ ?_ ?_
 rfl
 exact okD_all rfl
 exact .inl rfl
 (simp only [go_sem, Nat.reduceLT])
 refine OW.run [1, 2, 3, 8] ?_
 simp only [go_sem, simprocAttr, sw0]
 refine OW.call' 4 rfl rfl rfl (by first | exact rfl | ((simp only [go_sem, List.toList_toArray, simprocAttr]); exact rfl)) ?_ (access_first_ok N _ _ e5) ?_ ?_ ?_ ?_
 rfl
 · (refine okAll_intro ?_; (simp only [go_sem, sw2, List.length_set, List.length_replicate, and_true, true_and, Nat.le_refl, simprocAttr]; simp only [seg, go_sem, sw2, List.length_set, List.length_replicate, and_true, true_and, Nat.le_refl, simprocAttr]; done))
 exact .inr ⟨rfl, rfl⟩
 (simp only [go_sem, Nat.reduceLT])
 refine OW.run [1, 2, 3, 8] ?_
 simp only [go_sem, simprocAttr, sw0]
 refine OW.nil (hK _ ?_)
 refine PW.seq ?_
 refine PW.regionK fun K hK => OW.run [1, 2, 3, 8, 24] ?_
 simp only [go_sem, simprocAttr, sw0]
 refine OW.nil (hK _ ?_)
 refine PW.cond rfl (fun h1 => ?_) (fun h1 => ?_)
 replace H := br_t h1 H
 refine PW.seq ?_
 refine PW.regionK fun K hK => OW.run [6, 7] ?_
 simp only [go_sem, simprocAttr, sw0]
 refine OW.nil (hK _ ?_)
 refine PW.ret ?_
 change PW.Ends _ _ _ _ _ _
 refine PW.Ends.intro (.inr rfl) ?_
 simp only [go_sem, simprocAttr, sw0]
 obtain rfl := Option.some.inj H
 refine RetOK.data' 4 (by exact okD_all rfl) ?_
 rfl
 replace H := br_f h1 H
 refine PW.skip ?_
 refine PW.seq ?_
 obtain ⟨x6, e6, H⟩ := bnd_some H
 refine PW.regionK fun K hK => OW.run [1, 3, 9] ?_
 simp only [go_sem, simprocAttr, sw0]
 repeat (refine And.intro (by omega) ?_)
 refine OW.callG' 4 rfl rfl ?_ (fun hg => by first | rfl | (simp only [go_sem, ↓reduceIte]; rfl)) (fun hg => by ((simp only [go_sem, List.toList_toArray, simprocAttr]); exact rfl)) (fun hg => ?_) (fun hg => (access_within_ok N _ _ _ _ (grd_t hg e6))) ?_ ?_ ?_ ?_
 simp only [go_sem, simprocAttr]
 rfl
 exact okD_all rfl
 exact .inl rfl
 (simp only [go_sem, Nat.reduceLT])
 refine OW.run [1, 3, 9] ?_
 simp only [go_sem, simprocAttr, sw0]
 refine OW.nil (hK _ ?_)
 refine PW.seq ?_
 obtain ⟨x7, e7, H⟩ := bnd_some H
 refine PW.regionK fun K hK => ?_
 refine OW.step rfl ?_
 simp only [go_sem, simprocAttr, sw0]
 refine OW.step rfl ?_
 simp only [go_sem, simprocAttr, sw0]
 refine OW.opA (g := (!((last != (-1 : Int)) && x6))) rfl ?_ (fun hg => ?_) (by (simp only [go_sem, Nat.reduceLT])) ?_
 simp only [go_sem, simprocAttr]
 · (first | decide | ((simp only [go_sem, simprocAttr, sw0]); done) | ((simp only [go_sem, simprocAttr, sw0]); (repeat (refine And.intro (by (first | omega | assumption | rfl | decide | (simp only [List.length_map, List.length_replicate, List.length_append, List.length_take, List.length_drop, List.length_set, List.length_cons, List.length_nil, Nat.zero_add, Int.toNat_natCast] at *; omega) | (simp only [List.length_map, List.length_replicate, List.length_append, List.length_take, List.length_drop, List.length_set, List.length_cons, List.length_nil, Nat.zero_add, Int.toNat_natCast]; done) | trivial)) ?_)); done) | ((simp only [go_sem, simprocAttr, sw0]); repeat (first | omega | rfl | trivial | refine ⟨?_, ?_⟩)))
 try simp only [go_sem, simprocAttr]
 refine OW.opA (g := (!((last != (-1 : Int)) && x6))) rfl ?_ (fun hg => ?_) (by (simp only [go_sem, Nat.reduceLT])) ?_
 simp only [go_sem, simprocAttr]
 · (first | decide | ((simp only [go_sem, simprocAttr, sw0]); done) | ((simp only [go_sem, simprocAttr, sw0]); (repeat (refine And.intro (by (first | omega | assumption | rfl | decide | (simp only [List.length_map, List.length_replicate, List.length_append, List.length_take, List.length_drop, List.length_set, List.length_cons, List.length_nil, Nat.zero_add, Int.toNat_natCast] at *; omega) | (simp only [List.length_map, List.length_replicate, List.length_append, List.length_take, List.length_drop, List.length_set, List.length_cons, List.length_nil, Nat.zero_add, Int.toNat_natCast]; done) | trivial)) ?_)); done) | ((simp only [go_sem, simprocAttr, sw0]); repeat (first | omega | rfl | trivial | refine ⟨?_, ?_⟩)))
 try simp only [go_sem, simprocAttr]
 refine OW.run [6, 7] ?_
 simp only [go_sem, simprocAttr, sw0]
 refine OW.callG' 4 rfl rfl ?_ (fun hg => by first | rfl | (simp only [go_sem, ↓reduceIte]; rfl)) (fun hg => by ((simp only [go_sem, List.toList_toArray, simprocAttr]); exact rfl)) (fun hg => ?_) (fun hg => (access_sleep_on_ok N _ _ _ _ _ _ (grd_t hg e7))) ?_ ?_ ?_ ?_
 simp only [go_sem, simprocAttr]
 rfl
 · (refine okAll_intro ?_; (simp only [go_sem, sw2, List.length_set, List.length_replicate, and_true, true_and, Nat.le_refl, simprocAttr]; done))
 exact .inl rfl
 (simp only [go_sem, Nat.reduceLT])
 refine OW.run [6, 7] ?_
 simp only [go_sem, simprocAttr, sw0]
 refine OW.nil (hK _ ?_)
 refine PW.ret ?_
 change PW.Ends _ _ _ _ _ _
 refine PW.Ends.intro (.inr rfl) ?_
 simp only [go_sem, simprocAttr, sw0]
 obtain rfl := Option.some.inj H
 refine RetOK.data' 4 (by exact okD_all rfl) ?_
 rfl

theorem access_NextAwake_ok (N : Nat) (Zc : Int) (Zf : Int) (Ze : Int) (Zd : Int) (tick : Int) (r : Int × Int) (H : access_NextAwake N Zc Zf Ze Zd tick = some r) : CallOK Tryz.prog 45 [(.agg [(I Zc), (I Zf), (I Ze), (I Zd)]), (I tick)] (.d (.tup [(I r.1), (I r.2)])) [] := by
 refine CallOK.of_PW Tryz.func45 rfl (by rw [Tryz.results45]) Tryz.ntmps45 Tryz.call45 ?_
 change PW _ _ _ _ _
 try simp only [go_sem, simprocAttr]
 unfold access_NextAwake at H
 refine PW.seq ?_
 refine PW.regionK fun K hK => OW.run [1, 2] ?_
 simp only [go_sem, simprocAttr, sw0]
 refine OW.nil (hK _ ?_)
 refine PW.seq ?_
 refine PW.seq ?_
 obtain ⟨x1, e1, H⟩ := bnd_some H
 obtain ⟨x2, e2, H⟩ := bnd_some H
 obtain ⟨x3, e3, H⟩ := bnd_some H
 refine PW.regionK fun K hK => OW.run [1, 2, 6] ?_
 simp only [go_sem, simprocAttr, sw0]
 refine OW.call' 4 rfl rfl rfl (by first | exact rfl | ((simp only [go_sem, List.toList_toArray, simprocAttr]); exact rfl)) ?_ (access_CheckSleep_ok N _ _ _ _ _ e1) ?_ ?_ ?_ ?_
 rfl
 · (refine okAll_intro ?_; (simp only [go_sem, sw2, List.length_set, List.length_replicate, and_true, true_and, Nat.le_refl, simprocAttr]; done))
 exact .inl rfl
 (simp only [go_sem, Nat.reduceLT])
 refine OW.run [1, 2, 6] ?_
 simp only [go_sem, simprocAttr, sw0]
 refine OW.call' 4 rfl rfl rfl (by first | exact rfl | ((simp only [go_sem, List.toList_toArray, simprocAttr]); exact rfl)) ?_ (access_tickErr_ok N _ _ e2) ?_ ?_ ?_ ?_
 rfl
 exact okD_all rfl
 exact .inl rfl
 (simp only [go_sem, Nat.reduceLT])
 refine OW.run [1, 2, 6] ?_
 simp only [go_sem, simprocAttr, sw0]
 refine OW.call' 4 rfl rfl rfl (by first | exact rfl | ((simp only [go_sem, List.toList_toArray, simprocAttr]); exact rfl)) ?_ (access_first_ok N _ _ e3) ?_ ?_ ?_ ?_
 rfl
 · (refine okAll_intro ?_; (simp only [go_sem, sw2, List.length_set, List.length_replicate, and_true, true_and, Nat.le_refl, simprocAttr]; simp only [seg, go_sem, sw2, List.length_set, List.length_replicate, and_true, true_and, Nat.le_refl, simprocAttr]; done))
 exact .inr ⟨rfl, rfl⟩
 (simp only [go_sem, Nat.reduceLT])
 refine OW.run [1, 2, 6] ?_
 simp only [go_sem, simprocAttr, sw0]
 refine OW.nil (hK _ ?_)
 refine PW.seq ?_
 refine PW.regionK fun K hK => OW.run [1, 2, 6, 15] ?_
 simp only [go_sem, simprocAttr, sw0]
 refine OW.nil (hK _ ?_)
 refine PW.cond rfl (fun h1 => ?_) (fun h1 => ?_)
 replace H := br_t h1 H
 refine PW.seq ?_
 refine PW.regionK fun K hK => OW.run [4, 5] ?_
 simp only [go_sem, simprocAttr, sw0]
 refine OW.nil (hK _ ?_)
 refine PW.ret ?_
 change PW.Ends _ _ _ _ _ _
 refine PW.Ends.intro (.inr rfl) ?_
 simp only [go_sem, simprocAttr, sw0]
 obtain rfl := Option.some.inj H
 refine RetOK.data' 4 (by exact okD_all rfl) ?_
 rfl
 replace H := br_f h1 H
 refine PW.skip ?_
 refine PW.seq ?_
 refine PW.regionK fun K hK => OW.run [1, 2, 7] ?_
 simp only [go_sem, simprocAttr, sw0]
 refine OW.nil (hK _ ?_)
 refine PW.seq ?_
 refine PW.seq ?_
 obtain ⟨x4, e4, H⟩ := bnd_some H
 refine PW.regionK fun K hK => OW.run [1, 2, 7, 21] ?_
 simp only [go_sem, simprocAttr, sw0]
 refine OW.call' 4 rfl rfl rfl (by first | exact rfl | ((simp only [go_sem, List.toList_toArray, simprocAttr]); exact rfl)) ?_ (access_sleep_on_ok N _ _ _ _ _ _ e4) ?_ ?_ ?_ ?_
 rfl
 · (refine okAll_intro ?_; (simp only [go_sem, sw2, List.length_set, List.length_replicate, and_true, true_and, Nat.le_refl, simprocAttr]; done))
 exact .inl rfl
 (simp only [go_sem, Nat.reduceLT])
 refine OW.run [1, 2, 7, 21] ?_
 simp only [go_sem, simprocAttr, sw0]
 refine OW.nil (hK _ ?_)
 refine PW.cond rfl (fun h2 => ?_) (fun h2 => ?_)
 replace H := br_t h2 H
 refine PW.seq ?_
 refine PW.regionK fun K hK => OW.run [4, 5] ?_
 simp only [go_sem, simprocAttr, sw0]
 refine OW.nil (hK _ ?_)
 refine PW.ret ?_
 change PW.Ends _ _ _ _ _ _
 refine PW.Ends.intro (.inr rfl) ?_
 simp only [go_sem, simprocAttr, sw0]
 obtain rfl := Option.some.inj H
 refine RetOK.data' 4 (by exact okD_all rfl) ?_
 rfl
 replace H := br_f h2 H
 refine PW.skip ?_
 refine PW.seq ?_
 obtain ⟨x5, e5, H⟩ := bnd_some H
 refine PW.drawK 7 mixed (by kernel_rfl) fun K hK => ?_
 change FW _ _ _ _ _
 refine FW.run ?_
 simp only [go_sem, simprocAttr, sw0]
 repeat (refine And.intro (by omega) ?_)
 refine FW.call' 4 rfl rfl rfl (by first | exact rfl | ((simp only [go_sem, List.toList_toArray, simprocAttr]); exact rfl)) ?_ (access_sleep_since_ok N _ _ _ _ _ _ e5) ?_ ?_ ?_ ?_
 rfl
 · (refine okAll_intro ?_; (simp only [go_sem, sw2, List.length_set, List.length_replicate, and_true, true_and, Nat.le_refl, simprocAttr]; done))
 exact .inl rfl
 (simp only [go_sem, Nat.reduceLT])
 refine FW.run ?_
 simp only [go_sem, simprocAttr, sw0]
 refine FW.nil ?_
 change OW _ _ _ _ _ _
 refine OW.run [4, 5] ?_
 simp only [go_sem, simprocAttr, sw0]
 refine OW.nil (hK _ ?_)
 refine PW.ret ?_
 change PW.Ends _ _ _ _ _ _
 refine PW.Ends.intro (.inr rfl) ?_
 simp only [go_sem, simprocAttr, sw0]
 obtain rfl := Option.some.inj H
 refine RetOK.data' 4 (by exact okD_all rfl) ?_
 rfl

theorem base_Within_ok (N : Nat) (n : Int) (lo : Int) (hi : Int) (r : Bool) (H : base_Within N n lo hi = some r) : CallOK Tryz.prog 32 [(I n), (I lo), (I hi)] (.d (Bo r)) [] := by
 refine CallOK.of_PW Tryz.func32 rfl (by rw [Tryz.results32]) Tryz.ntmps32 Tryz.call32 ?_
 change PW _ _ _ _ _
 try simp only [go_sem, simprocAttr]
 unfold base_Within at H
 refine PW.seq ?_
 refine PW.regionK fun K hK => OW.run [0, 1, 2] ?_
 simp only [go_sem, simprocAttr, sw0]
 refine OW.nil (hK _ ?_)
 refine PW.seq ?_
 refine PW.regionK fun K hK => OW.run [6] ?_
 simp only [go_sem, simprocAttr, sw0]
 refine OW.nil (hK _ ?_)
 refine PW.ret ?_
 change PW.Ends _ _ _ _ _ _
 refine PW.Ends.intro (.inr rfl) ?_
 simp only [go_sem, simprocAttr, sw0]
 obtain rfl := Option.some.inj H
 refine RetOK.data' 4 (by exact trivial) ?_
 rfl

theorem ref07_CheckSleep_ok (N : Nat) (Zc : Int) (Zf : Int) (Ze : Int) (Zd : Int) (r : Int) (H : ref07_CheckSleep N Zc Zf Ze Zd = some r) : CallOK Tryz.prog 41 [(.agg [(I Zc), (I Zf), (I Ze), (I Zd)])] (.d (I r)) [] := by
 refine CallOK.of_PW Tryz.func41 rfl (by rw [Tryz.results41]) Tryz.ntmps41 Tryz.call41 ?_
 change PW _ _ _ _ _
 try simp only [go_sem, simprocAttr]
 unfold ref07_CheckSleep at H
 refine PW.seq ?_
 refine PW.regionK fun K hK => OW.run [1] ?_
 simp only [go_sem, simprocAttr, sw0]
 refine OW.nil (hK _ ?_)
 refine PW.seq ?_
 refine PW.seq ?_
 obtain ⟨x1, e1, H⟩ := bnd_some H
 obtain ⟨x2, e2, H⟩ := bnd_some H
 obtain ⟨x3, e3, H⟩ := bnd_some H
 obtain ⟨x4, e4, H⟩ := bnd_some H
 refine PW.regionK fun K hK => OW.run [29] ?_
 simp only [go_sem, simprocAttr, sw0]
 repeat (refine And.intro (by omega) ?_)
 refine OW.call' 4 rfl rfl rfl (by first | exact rfl | ((simp only [go_sem, List.toList_toArray, simprocAttr]); exact rfl)) ?_ (base_Within_ok N _ _ _ _ e1) ?_ ?_ ?_ ?_
 rfl
 exact okD_all rfl
 exact .inl rfl
 (simp only [go_sem, Nat.reduceLT])
 refine OW.run [29] ?_
 simp only [go_sem, simprocAttr, sw0]
 repeat (refine And.intro (by omega) ?_)
 refine OW.callG' 4 rfl rfl ?_ (fun hg => by first | rfl | (simp only [go_sem, ↓reduceIte]; rfl)) (fun hg => by ((simp only [go_sem, List.toList_toArray, simprocAttr]); exact rfl)) (fun hg => ?_) (fun hg => (base_Within_ok N _ _ _ _ (grd_t hg e2))) ?_ ?_ ?_ ?_
 simp only [go_sem, simprocAttr]
 rfl
 exact okD_all rfl
 exact .inl rfl
 (simp only [go_sem, Nat.reduceLT])
 refine OW.run [29] ?_
 simp only [go_sem, simprocAttr, sw0]
 repeat (refine And.intro (by omega) ?_)
 refine OW.callG' 4 rfl rfl ?_ (fun hg => by first | rfl | (simp only [go_sem, ↓reduceIte]; rfl)) (fun hg => by ((simp only [go_sem, List.toList_toArray, simprocAttr]); exact rfl)) (fun hg => ?_) (fun hg => (base_Within_ok N _ _ _ _ (grd_t hg e3))) ?_ ?_ ?_ ?_
 simp only [go_sem, simprocAttr]
 rfl
 exact okD_all rfl
 exact .inl rfl
 (simp only [go_sem, Nat.reduceLT])
 refine OW.run [29] ?_
 simp only [go_sem, simprocAttr, sw0]
 repeat (refine And.intro (by omega) ?_)
 refine OW.callG' 4 rfl rfl ?_ (fun hg => by first | rfl | (simp only [go_sem, ↓reduceIte]; rfl)) (fun hg => by ((simp only [go_sem, List.toList_toArray, simprocAttr]); exact rfl)) (fun hg => ?_) (fun hg => (base_Within_ok N _ _ _ _ (grd_t hg e4))) ?_ ?_ ?_ ?_
 simp only [go_sem, simprocAttr]
 rfl
 exact okD_all rfl
 exact .inl rfl
 (simp only [go_sem, Nat.reduceLT])
 refine OW.run [29] ?_
 simp only [go_sem, simprocAttr, sw0]
 refine OW.nil (hK _ ?_)
 refine PW.cond rfl (fun h1 => ?_) (fun h1 => ?_)
 replace H := br_t h1 H
 refine PW.seq ?_
 refine PW.regionK fun K hK => OW.run [2] ?_
 simp only [go_sem, simprocAttr, sw0]
 refine OW.nil (hK _ ?_)
 refine PW.ret ?_
 change PW.Ends _ _ _ _ _ _
 refine PW.Ends.intro (.inr rfl) ?_
 simp only [go_sem, simprocAttr, sw0]
 obtain rfl := Option.some.inj H
 refine RetOK.data' 4 (by exact trivial) ?_
 rfl
 replace H := br_f h1 H
 refine PW.skip ?_
 refine PW.seq ?_
 refine PW.regionK fun K hK => OW.run [2] ?_
 simp only [go_sem, simprocAttr, sw0]
 refine OW.nil (hK _ ?_)
 refine PW.ret ?_
 change PW.Ends _ _ _ _ _ _
 refine PW.Ends.intro (.inr rfl) ?_
 simp only [go_sem, simprocAttr, sw0]
 obtain rfl := Option.some.inj H
 refine RetOK.data' 4 (by exact trivial) ?_
 rfl

end Go.Proofs.YtbndgoeahoadlaaGreatDoor
