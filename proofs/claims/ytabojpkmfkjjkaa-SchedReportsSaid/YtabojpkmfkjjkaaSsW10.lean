import Derived.Test.YtabojpkmfkjjkaaSsBase
import Derived.Test.YtabojpkmfkjjkaaSsW0
import Derived.Test.YtabojpkmfkjjkaaSsW1
import Derived.Test.YtabojpkmfkjjkaaSsW2
import Derived.Test.YtabojpkmfkjjkaaSsW3
import Derived.Test.YtabojpkmfkjjkaaSsW9
set_option linter.all false
namespace Go.Proofs.Ytabojpkmfkjjkaa
open Go.PW Go.Sh

set_option maxRecDepth 20000
set_option maxHeartbeats 8000000
theorem sched_loopErr_ok (N : Nat) (Zh : Int) (Zi : Int) (Ze : Int) (Zg : Int) (Zf : Int) (r : Int) (H : t4 N Zh Zi Ze Zg Zf = some r) : CallOK Try.prog 120 [(.agg [(I Zh), (I Zi), (I Ze), (I Zg), (I Zf)])] (.d (I r)) [] := by
 refine d3 Try.func120 rfl (by rw [Try.results120]) Try.ntmps120 Try.call120 ?_
 change PW _ _ _ _ _
 try simp only [go_sem, simprocAttr]
 unfold t4 at H
 refine a5 ?_
 refine a0 fun K hK => OW.run [1] ?_
 simp only [go_sem, simprocAttr, sw0]
 refine OW.nil (hK _ ?_)
 refine a5 ?_
 refine a0 fun K hK => OW.run [1, 3] ?_
 simp only [go_sem, simprocAttr, sw0]
 refine OW.nil (hK _ ?_)
 refine a5 ?_
 refine a0 fun K hK => OW.run [1, 3, 4] ?_
 simp only [go_sem, simprocAttr, sw0]
 refine OW.nil (hK _ ?_)
 refine a5 ?_
 obtain ⟨x1, e1, H⟩ := a8 H
 obtain ⟨x2, e2, H⟩ := a8 H
 obtain ⟨x3, e3, H⟩ := a8 H
 obtain ⟨x4, e4, H⟩ := a8 H
 obtain ⟨x5, e5, H⟩ := a8 H
 obtain ⟨x6, e6, H⟩ := a8 H
 obtain ⟨x7, e7, H⟩ := a8 H
 obtain ⟨x8, e8, H⟩ := a8 H
 obtain ⟨x9, e9, H⟩ := a8 H
 refine j0 41 n9 (by kernel_rfl) fun K hK => ?_
 change FW _ _ _ _ _
 refine FW.run ?_
 simp only [go_sem, simprocAttr, sw0]
 repeat (refine And.intro (by omega) ?_)
 refine l0 4 rfl rfl rfl (by ((simp only [go_sem, List.toList_toArray, simprocAttr]); exact rfl)) ?_ (sched_loopErr_1_ok N _ _ e1) ?_ ?_ ?_ ?_
 rfl
 exact d8 rfl
 exact .inl rfl
 (simp only [go_sem, Nat.reduceLT])
 refine FW.run ?_
 simp only [go_sem, simprocAttr, sw0]
 repeat (refine And.intro (by omega) ?_)
 refine v4 4 rfl rfl ?_ (fun hg => by first | rfl | (simp only [go_sem, ↓reduceIte]; rfl)) (fun hg => by ((simp only [go_sem, List.toList_toArray, simprocAttr]); exact rfl)) (fun hg => ?_) (fun hg => (sched_loopErr_1_ok N _ _ (p8 hg e2))) ?_ ?_ ?_ ?_
 simp only [go_sem, simprocAttr]
 rfl
 exact d8 rfl
 exact .inl rfl
 (simp only [go_sem, Nat.reduceLT])
 refine FW.run ?_
 simp only [go_sem, simprocAttr, sw0]
 repeat (refine And.intro (by omega) ?_)
 refine v4 4 rfl rfl ?_ (fun hg => by first | rfl | (simp only [go_sem, ↓reduceIte]; rfl)) (fun hg => by ((simp only [go_sem, List.toList_toArray, simprocAttr]); exact rfl)) (fun hg => ?_) (fun hg => (sched_loopErr_2_ok N _ _ (p8 hg e3))) ?_ ?_ ?_ ?_
 simp only [go_sem, simprocAttr]
 rfl
 exact d8 rfl
 exact .inl rfl
 (simp only [go_sem, Nat.reduceLT])
 refine FW.run ?_
 simp only [go_sem, simprocAttr, sw0]
 repeat (refine And.intro (by omega) ?_)
 refine v4 4 rfl rfl ?_ (fun hg => by first | rfl | (simp only [go_sem, ↓reduceIte]; rfl)) (fun hg => by ((simp only [go_sem, List.toList_toArray, simprocAttr]); exact rfl)) (fun hg => ?_) (fun hg => (sched_loopErr_2_ok N _ _ (p8 hg e4))) ?_ ?_ ?_ ?_
 simp only [go_sem, simprocAttr]
 rfl
 exact d8 rfl
 exact .inl rfl
 (simp only [go_sem, Nat.reduceLT])
 refine FW.run ?_
 simp only [go_sem, simprocAttr, sw0]
 refine l0 4 rfl rfl rfl (by ((simp only [go_sem, List.toList_toArray, simprocAttr]); exact rfl)) ?_ (f5 N _ _ _ e5) ?_ ?_ ?_ ?_
 rfl
 exact d8 rfl
 exact .inl rfl
 (simp only [go_sem, Nat.reduceLT])
 refine FW.run ?_
 simp only [go_sem, simprocAttr, sw0]
 repeat (refine And.intro (by omega) ?_)
 refine l0 4 rfl rfl rfl (by ((simp only [go_sem, List.toList_toArray, simprocAttr]); exact rfl)) ?_ (f5 N _ _ _ e6) ?_ ?_ ?_ ?_
 rfl
 exact d8 rfl
 exact .inl rfl
 (simp only [go_sem, Nat.reduceLT])
 refine FW.run ?_
 simp only [go_sem, simprocAttr, sw0]
 repeat (refine And.intro (by omega) ?_)
 refine FW.nil ?_
 change OW _ _ _ _ _ _
 refine OW.run [2] ?_
 simp only [go_sem, simprocAttr, sw0]
 refine d5 4 rfl rfl rfl (by ((simp only [go_sem, List.toList_toArray, simprocAttr]); exact rfl)) ?_ (f7 N _ _ _ _ e7) ?_ ?_ ?_ ?_
 rfl
 exact d8 rfl
 exact .inl rfl
 (simp only [go_sem, Nat.reduceLT])
 refine OW.run [2] ?_
 simp only [go_sem, simprocAttr, sw0]
 refine d5 4 rfl rfl rfl (by ((simp only [go_sem, List.toList_toArray, simprocAttr]); exact rfl)) ?_ (f5 N _ _ _ e8) ?_ ?_ ?_ ?_
 rfl
 exact d8 rfl
 exact .inl rfl
 (simp only [go_sem, Nat.reduceLT])
 refine OW.run [2] ?_
 simp only [go_sem, simprocAttr, sw0]
 refine d5 4 rfl rfl rfl (by ((simp only [go_sem, List.toList_toArray, simprocAttr]); exact rfl)) ?_ (j9 N _ _ e9) ?_ ?_ ?_ ?_
 rfl
 · (refine a7 ?_; (simp only [go_sem, sw2, List.length_set, List.length_replicate, and_true, true_and, Nat.le_refl, simprocAttr]; simp only [seg, go_sem, sw2, List.length_set, List.length_replicate, and_true, true_and, Nat.le_refl, simprocAttr]; done))
 exact .inr ⟨rfl, rfl⟩
 (simp only [go_sem, Nat.reduceLT])
 refine OW.run [2] ?_
 simp only [go_sem, simprocAttr, sw0]
 refine OW.nil (hK _ ?_)
 refine f4 ?_
 change PW.Ends _ _ _ _ _ _
 refine PW.Ends.intro (.inr rfl) ?_
 simp only [go_sem, simprocAttr, sw0]
 obtain rfl := Option.some.inj H
 refine a6 4 (by exact trivial) ?_
 rfl

theorem sched_LoopAfter_ok (N : Nat) (Zh : Int) (Zi : Int) (Ze : Int) (Zg : Int) (Zf : Int) (acks : List Bool) (r : Int × Int × Int × Int × Int × Int) (H : sched_LoopAfter N Zh Zi Ze Zg Zf acks = some r) : CallOK Try.prog 56 [(.agg [(I Zh), (I Zi), (I Ze), (I Zg), (I Zf)]), (.list acks.length (acks.map Bo))] (.d (.tup [(.agg [(I r.1), (I r.2.1), (I r.2.2.1), (I r.2.2.2.1), (I r.2.2.2.2.1)]), (I r.2.2.2.2.2)])) [] := by
 refine d3 Try.func56 rfl (by rw [Try.results56]) Try.ntmps56 Try.call56 ?_
 change PW _ _ _ _ _
 try simp only [go_sem, simprocAttr]
 unfold sched_LoopAfter at H
 refine a5 ?_
 refine a0 fun K hK => OW.run [1, 2, 4] ?_
 simp only [go_sem, simprocAttr, sw0]
 refine OW.nil (hK _ ?_)
 refine a5 ?_
 refine a5 ?_
 obtain ⟨x1, e1, H⟩ := a8 H
 obtain ⟨x2, e2, H⟩ := a8 H
 obtain ⟨x3, e3, H⟩ := a8 H
 refine a0 fun K hK => OW.run [1, 2, 4, 6] ?_
 simp only [go_sem, simprocAttr, sw0]
 refine d5 4 rfl rfl rfl (by ((simp only [go_sem, List.toList_toArray, simprocAttr]); exact rfl)) ?_ (sched_loopErr_ok N _ _ _ _ _ _ e1) ?_ ?_ ?_ ?_
 rfl
 · (refine a7 ?_; (simp only [go_sem, sw2, List.length_set, List.length_replicate, and_true, true_and, Nat.le_refl, simprocAttr]; done))
 exact .inl rfl
 (simp only [go_sem, Nat.reduceLT])
 refine OW.run [1, 2, 4, 6] ?_
 simp only [go_sem, simprocAttr, sw0]
 refine d5 4 rfl rfl rfl (by ((simp only [go_sem, List.toList_toArray, simprocAttr]); exact rfl)) ?_ (f5 N _ _ _ e2) ?_ ?_ ?_ ?_
 rfl
 exact d8 rfl
 exact .inl rfl
 (simp only [go_sem, Nat.reduceLT])
 refine OW.run [1, 2, 4, 6] ?_
 simp only [go_sem, simprocAttr, sw0]
 refine d5 4 rfl rfl rfl (by ((simp only [go_sem, List.toList_toArray, simprocAttr]); exact rfl)) ?_ (j9 N _ _ e3) ?_ ?_ ?_ ?_
 rfl
 · (refine a7 ?_; (simp only [go_sem, sw2, List.length_set, List.length_replicate, and_true, true_and, Nat.le_refl, simprocAttr]; simp only [seg, go_sem, sw2, List.length_set, List.length_replicate, and_true, true_and, Nat.le_refl, simprocAttr]; done))
 exact .inr ⟨rfl, rfl⟩
 (simp only [go_sem, Nat.reduceLT])
 refine OW.run [1, 2, 4, 6] ?_
 simp only [go_sem, simprocAttr, sw0]
 refine OW.nil (hK _ ?_)
 refine a5 ?_
 refine a0 fun K hK => OW.run [1, 2, 4, 6, 18] ?_
 simp only [go_sem, simprocAttr, sw0]
 refine OW.nil (hK _ ?_)
 refine d9 rfl (fun h1 => ?_) (fun h1 => ?_)
 replace H := k7 h1 H
 refine a5 ?_
 refine a0 fun K hK => OW.run [4, 5] ?_
 simp only [go_sem, simprocAttr, sw0]
 refine OW.nil (hK _ ?_)
 refine f4 ?_
 change PW.Ends _ _ _ _ _ _
 refine PW.Ends.intro (.inr rfl) ?_
 simp only [go_sem, simprocAttr, sw0]
 obtain rfl := Option.some.inj H
 refine a6 4 (by (refine a7 ?_; (simp only [go_sem, sw2, List.length_set, List.length_replicate, and_true, true_and, Nat.le_refl, simprocAttr]; done))) ?_
 rfl
 replace H := k8 h1 H
 refine f0 ?_
 refine i4 (τ := Int) [2, 4] 2 (fun b0 => []) (fun b0 => [{ cells := [.d (I b0), .d (I Zi), .d (I Ze), .d (I Zg), .d (I Zf)], e := 96 }, { cells := [.d (I (0 : Int)), .d (I (0 : Int)), .d (I (0 : Int)), .d (I (0 : Int)), .d (I (0 : Int))], e := 96 }]) _ _ r (by exact Nat.zero_le _) H ?_ ?_
 intro K_ H N2 hN2
 refine a5 ?_
 refine a0 fun K hK => OW.run [2, 4, 21, 22, 23] ?_
 simp only [go_sem, simprocAttr, sw0]
 refine OW.nil (hK _ ?_)
 refine PW.block ?_
 refine i8 (σ := Int × Int) [2, 4, 21, 22, 23] 3 (fun (t23, b01) => [(23, .d (I t23))]) (fun (t23, b01) => [{ cells := [.d (I b01), .d (I Zi), .d (I Ze), .d (I Zg), .d (I Zf)], e := 96 }, { cells := [.d (I (0 : Int)), .d (I (0 : Int)), .d (I (0 : Int)), .d (I (0 : Int)), .d (I (0 : Int))], e := 96 }, { cells := [.d (I x1), .d (I x2)], e := 33 }]) (sched_LoopAfter.b1 N Zi Ze Zg Zf acks K_) r N ((0 : Int), Zh) (by exact Nat.zero_le _) H (by (simp only [sw1, go_sem, simprocAttr]; done)) ?_
 rintro n ⟨t23, b01⟩ H N3 hN3
 unfold sched_LoopAfter.b1 at H
 try simp only [go_sem, simprocAttr]
 refine a5 ?_
 refine a0 fun K hK => OW.run [2, 4, 21, 22, 23, 24] ?_
 simp only [go_sem, simprocAttr, sw0]
 refine OW.nil (hK _ ?_)
 refine a5 ?_
 refine d9 rfl (fun h4 => ?_) (fun h4 => ?_)
 replace H := k7 h4 H
 refine f0 ?_
 refine a5 ?_
 refine PW.block ?_
 refine a5 ?_
 obtain ⟨c5, H⟩ := d7 H
 refine a0 fun K hK => OW.run [2, 4, 8, 21, 22, 23] ?_
 (simp only [go_sem, simprocAttr, sw0, j1 Bo acks t23.toNat default (by omega)])
 repeat (refine And.intro (by omega) ?_)
 refine OW.nil (hK _ ?_)
 refine a5 ?_
 refine a0 fun K hK => OW.run [2, 4, 21, 22, 23, 27] ?_
 simp only [go_sem, simprocAttr, sw0]
 refine OW.nil (hK _ ?_)
 refine d9 rfl (fun h6 => ?_) (fun h6 => ?_)
 replace H := k7 h6 H
 refine a0 fun K hK => OW.run [2, 4, 21, 22, 23] ?_
 simp only [go_sem, simprocAttr, sw0]
 repeat (refine And.intro (by omega) ?_)
 refine OW.nil (hK _ ?_)
 refine a0 fun K hK => OW.run [2, 4, 21, 22, 23] ?_
 simp only [go_sem, simprocAttr, sw0]
 refine OW.nil (hK _ ?_)
 refine hN3 [] (w64 (t23 + (1 : Int)), (if Zf < w64 (b01 + Zi) then Zf else w64 (b01 + Zi))) _ H (by exact trivial) ?_
 simp only [sw1, go_sem, simprocAttr]
 replace H := k8 h6 H
 refine a0 fun K hK => OW.run [2, 4, 21, 22, 23] ?_
 simp only [go_sem, simprocAttr, sw0]
 repeat (refine And.intro (by omega) ?_)
 refine OW.nil (hK _ ?_)
 refine a0 fun K hK => OW.run [2, 4, 21, 22, 23] ?_
 simp only [go_sem, simprocAttr, sw0]
 refine OW.nil (hK _ ?_)
 refine hN3 [] (w64 (t23 + (1 : Int)), (if w64 (b01 - Ze) < Zg then Zg else w64 (b01 - Ze))) _ H (by exact trivial) ?_
 simp only [sw1, go_sem, simprocAttr]
 replace H := k8 h4 H
 refine j3 ?_
 refine hN2 [] b01 _ H (by exact trivial) ?_
 simp only [sw1, go_sem, simprocAttr]
 rintro b0 H
 try simp only [go_sem, simprocAttr]
 refine a5 ?_
 refine a0 fun K hK => OW.run [4, 5] ?_
 simp only [go_sem, simprocAttr, sw0]
 refine OW.nil (hK _ ?_)
 refine f4 ?_
 change PW.Ends _ _ _ _ _ _
 refine PW.Ends.intro (.inr rfl) ?_
 simp only [go_sem, simprocAttr, sw0]
 obtain rfl := Option.some.inj H
 refine a6 4 (by (refine a7 ?_; (simp only [go_sem, sw2, List.length_set, List.length_replicate, and_true, true_and, Nat.le_refl, simprocAttr]; done))) ?_
 rfl

end Go.Proofs.Ytabojpkmfkjjkaa
