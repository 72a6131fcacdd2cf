import Derived.Test.YtabojpkmfkjjkaaSsBase
import Derived.Test.YtabojpkmfkjjkaaSsW4
import Derived.Test.YtabojpkmfkjjkaaSsW9
import Derived.Test.YtabojpkmfkjjkaaSsW10
set_option linter.all false
namespace Go.Proofs.Ytabojpkmfkjjkaa
open Go.PW Go.Sh

set_option maxRecDepth 20000
set_option maxHeartbeats 8000000
theorem law06_SchedLoops_ok (N : Nat) (Zh : Int) (Zi : Int) (Ze : Int) (Zg : Int) (Zf : Int) (acks : List Bool) (r : Bool) (H : law06_SchedLoops N Zh Zi Ze Zg Zf acks = some r) : CallOK Try.prog 10 [(.agg [(I Zh), (I Zi), (I Ze), (I Zg), (I Zf)]), (.list acks.length (acks.map Bo))] (.d (Bo r)) [] := by
 refine d4 Try.func10 rfl (by rw [Try.results10]) Try.ntmps10 Try.call10 ?_
 change PW _ _ _ _ _
 try simp only [go_sem, simprocAttr]
 unfold law06_SchedLoops at H
 refine a5 ?_
 refine a0 fun K hK => OW.run [1, 2] ?_
 simp only [go_sem, simprocAttr, sw0]
 refine OW.nil (hK _ ?_)
 refine a5 ?_
 refine a5 ?_
 obtain ⟨x1, e1, H⟩ := a8 H
 refine a0 fun K hK => OW.run [1, 2, 14] ?_
 simp only [go_sem, simprocAttr, sw0]
 refine d7 4 rfl rfl rfl (by ((simp only [go_sem, List.toList_toArray, simprocAttr]); exact rfl)) ?_ (law06_awake_ok N  _ e1) ?_ ?_ ?_ ?_
 rfl
 exact d6 rfl
 exact .inl rfl
 (simp only [go_sem, Nat.reduceLT])
 refine OW.run [1, 2, 14] ?_
 simp only [go_sem, simprocAttr, sw0]
 refine OW.nil (hK _ ?_)
 refine d8 rfl (fun h1 => ?_) (fun h1 => ?_)
 replace H := l4 h1 H
 refine a5 ?_
 refine a0 fun K hK => OW.run [4] ?_
 simp only [go_sem, simprocAttr, sw0]
 refine OW.nil (hK _ ?_)
 refine f0 ?_
 change PW.Ends _ _ _ _ _ _
 refine PW.Ends.intro (.inr rfl) ?_
 simp only [go_sem, simprocAttr, sw0]
 obtain rfl := Option.some.inj H
 refine a7 4 (by exact trivial) ?_
 rfl
 replace H := l5 h1 H
 refine d9 ?_
 refine a5 ?_
 refine a5 ?_
 obtain ⟨x2, e2, H⟩ := a8 H
 refine a0 fun K hK => OW.run [1, 2, 22] ?_
 simp only [go_sem, simprocAttr, sw0]
 refine l8 4 rfl rfl ?_ (fun hg => by first | rfl | (simp only [go_sem, ↓reduceIte]; rfl)) (fun hg => by ((simp only [go_sem, List.toList_toArray, simprocAttr]); exact rfl)) (fun hg => ?_) (fun hg => (ref06_LoopErr_ok N _ _ _ _ _ _ (p9 hg e2))) ?_ ?_ ?_ ?_
 simp only [go_sem, simprocAttr]
 rfl
 · (refine a6 ?_; (simp only [go_sem, sw2, List.length_set, List.length_replicate, and_true, true_and, Nat.le_refl, simprocAttr]; done))
 exact .inl rfl
 (simp only [go_sem, Nat.reduceLT])
 refine OW.run [1, 2, 22] ?_
 simp only [go_sem, simprocAttr, sw0]
 refine OW.nil (hK _ ?_)
 refine d8 rfl (fun h2 => ?_) (fun h2 => ?_)
 replace H := l4 h2 H
 refine a5 ?_
 refine a0 fun K hK => OW.run [4] ?_
 simp only [go_sem, simprocAttr, sw0]
 refine OW.nil (hK _ ?_)
 refine f0 ?_
 change PW.Ends _ _ _ _ _ _
 refine PW.Ends.intro (.inr rfl) ?_
 simp only [go_sem, simprocAttr, sw0]
 obtain rfl := Option.some.inj H
 refine a7 4 (by exact trivial) ?_
 rfl
 replace H := l5 h2 H
 refine d9 ?_
 refine a5 ?_
 obtain ⟨c3, H⟩ := d5 H
 obtain ⟨⟨x3, x31, x32, x33, x34, x35⟩, e3, H⟩ := a8 H
 refine PW.drawO 10 [8] [96] o9 (by kernel_rfl) (by decide) rfl fun K hK => ?_
 refine FWO.run ?_
 (simp only [go_sem, simprocAttr, sw0, allOne_mapF Bo (fun _ => rfl)])
 repeat (refine And.intro (by omega) ?_)
 refine FWO.call' 4 (by decide) rfl rfl rfl (by ((simp only [go_sem, List.toList_toArray, simprocAttr]); exact rfl)) ?_ (sched_LoopAfter_ok N _ _ _ _ _ _ _ e3) ?_ ?_ ?_ ?_
 rfl
 · (refine a6 ?_; (simp only [go_sem, sw2, List.length_set, List.length_replicate, and_true, true_and, Nat.le_refl, simprocAttr]; done))
 exact .inl rfl
 (simp only [go_sem, Nat.reduceLT])
 refine FWO.run ?_
 (simp only [go_sem, simprocAttr, sw0, allOne_mapF Bo (fun _ => rfl)])
 repeat (refine And.intro (by rfl) ?_)
 first | refine FWO.nil ?_ | skip
 change OW _ _ _ _ _ _
 refine OW.run [1, 2, 5, 6] ?_
 (simp only [go_sem, simprocAttr, sw0, allOne_mapF Bo (fun _ => rfl)])
 refine OW.nil (hK _ ?_)
 refine a5 ?_
 refine a5 ?_
 obtain ⟨x4, e4, H⟩ := a8 H
 refine a0 fun K hK => OW.run [1, 2, 5, 65] ?_
 simp only [go_sem, simprocAttr, sw0]
 repeat (refine And.intro (by omega) ?_)
 refine l8 4 rfl rfl ?_ (fun hg => by first | rfl | (simp only [go_sem, ↓reduceIte]; rfl)) (fun hg => by ((simp only [go_sem, List.toList_toArray, simprocAttr]); exact rfl)) (fun hg => ?_) (fun hg => (q5 N _ _ _ _ (p9 hg e4))) ?_ ?_ ?_ ?_
 simp only [go_sem, simprocAttr]
 rfl
 exact d6 rfl
 exact .inl rfl
 (simp only [go_sem, Nat.reduceLT])
 refine OW.run [1, 2, 5, 65] ?_
 simp only [go_sem, simprocAttr, sw0]
 repeat (refine And.intro (by omega) ?_)
 refine OW.nil (hK _ ?_)
 refine d8 rfl (fun h4 => ?_) (fun h4 => ?_)
 replace H := l4 h4 H
 refine a5 ?_
 refine a0 fun K hK => OW.run [4] ?_
 simp only [go_sem, simprocAttr, sw0]
 refine OW.nil (hK _ ?_)
 refine f0 ?_
 change PW.Ends _ _ _ _ _ _
 refine PW.Ends.intro (.inr rfl) ?_
 simp only [go_sem, simprocAttr, sw0]
 obtain rfl := Option.some.inj H
 refine a7 4 (by exact trivial) ?_
 rfl
 replace H := l5 h4 H
 refine d9 ?_
 refine a5 ?_
 refine a0 fun K hK => OW.run [1, 2, 5, 7] ?_
 simp only [go_sem, simprocAttr, sw0]
 refine OW.nil (hK _ ?_)
 refine a5 ?_
 refine a0 fun K hK => OW.run [1, 2, 5, 7, 8] ?_
 simp only [go_sem, simprocAttr, sw0]
 refine OW.nil (hK _ ?_)
 refine i6 (τ := Int × List Bool) [1, 2, 5, 7, 8] 3 (fun (yes, b2) => [(7, .d (I yes)), (8, .own 2 0 b2.length 1)]) (fun (yes, b2) => [{ cells := [.d (I Zh), .d (I Zi), .d (I Ze), .d (I Zg), .d (I Zf)], e := 96 }, { cells := [.d (I x3), .d (I x31), .d (I x32), .d (I x33), .d (I x34)], e := 96 }, { cells := (b2.map Bo).map .d, e := 4 }]) _ _ r (by exact Nat.zero_le _) H ?_ ?_
 intro K_ H N5 hN5
 refine a5 ?_
 refine a0 fun K hK => OW.run [1, 2, 5, 7, 8, 9] ?_
 simp only [go_sem, simprocAttr, sw0]
 refine OW.nil (hK _ ?_)
 refine PW.block ?_
 refine PW.virt 8 4 1 rfl ?_
 try simp only [go_sem, simprocAttr]
 refine i7 (σ := Int × Int × List Bool) [1, 2, 5, 7, 8, 9] 3 (fun (yes1, i, b21) => [(7, .d (I yes1)), (8, .own 2 0 b21.length 1), (9, .d (I i))]) (fun (yes1, i, b21) => [{ cells := [.d (I Zh), .d (I Zi), .d (I Ze), .d (I Zg), .d (I Zf)], e := 96 }, { cells := [.d (I x3), .d (I x31), .d (I x32), .d (I x33), .d (I x34)], e := 96 }, { cells := (b21.map Bo).map .d, e := 4 }]) (law06_SchedLoops.b1 N acks K_) r N ((0 : Int), w64 ((acks.length : Int) - (1 : Int)), ([] : List Bool)) (by exact Nat.zero_le _) H (by (simp only [sw1, go_sem, simprocAttr]; done)) ?_
 rintro n ⟨yes1, i, b21⟩ H N6 hN6
 unfold law06_SchedLoops.b1 at H
 try simp only [go_sem, simprocAttr]
 refine a5 ?_
 refine a5 ?_
 refine a0 fun K hK => OW.run [1, 2, 5, 7, 8, 9, 70] ?_
 simp only [go_sem, simprocAttr, sw0]
 refine OW.nil (hK _ ?_)
 refine d8 rfl (fun h7 => ?_) (fun h7 => ?_)
 replace H := l4 h7 H
 refine d9 ?_
 refine a5 ?_
 refine PW.block ?_
 refine a5 ?_
 obtain ⟨c8, H⟩ := d5 H
 obtain ⟨c9, H⟩ := d5 H
 refine a0 fun K hK => OW.run [1, 2, 5, 7, 8, 9] ?_
 (simp only [go_sem, simprocAttr, sw0, i9 Bo acks i.toNat default (by omega)])
 repeat (refine And.intro (by omega) ?_)
 refine OW.nil (hK _ ?_)
 refine a5 ?_
 obtain ⟨c10, H⟩ := d5 H
 refine a0 fun K hK => OW.run [1, 2, 5, 7, 8, 9, 83] ?_
 (simp only [go_sem, simprocAttr, sw0, i9 Bo acks i.toNat default (by omega)])
 repeat (refine And.intro (by omega) ?_)
 refine OW.nil (hK _ ?_)
 refine d8 rfl (fun h11 => ?_) (fun h11 => ?_)
 replace H := l4 h11 H
 refine a0 fun K hK => OW.run [1, 2, 5, 7, 8, 9] ?_
 simp only [go_sem, simprocAttr, sw0]
 refine OW.nil (hK _ ?_)
 refine a0 fun K hK => OW.run [1, 2, 5, 7, 8, 9] ?_
 simp only [go_sem, simprocAttr, sw0]
 refine OW.nil (hK _ ?_)
 refine hN6 [] (w64 (yes1 + (1 : Int)), w64 (i - (1 : Int)), (b21 ++ ([(acks.getD i.toNat default)] : List Bool))) _ H (by exact trivial) ?_
 simp only [sw1, go_sem, simprocAttr]
 replace H := l5 h11 H
 refine d9 ?_
 refine a0 fun K hK => OW.run [1, 2, 5, 7, 8, 9] ?_
 simp only [go_sem, simprocAttr, sw0]
 refine OW.nil (hK _ ?_)
 refine hN6 [] (yes1, w64 (i - (1 : Int)), (b21 ++ ([(acks.getD i.toNat default)] : List Bool))) _ H (by exact trivial) ?_
 simp only [sw1, go_sem, simprocAttr]
 replace H := l5 h7 H
 refine j2 ?_
 refine hN5 [] (yes1, b21) _ H (by exact trivial) ?_
 simp only [sw1, go_sem, simprocAttr]
 rintro ⟨yes, b2⟩ H
 try simp only [go_sem, simprocAttr]
 refine a5 ?_
 refine a0 fun K hK => OW.run [2, 5, 7, 8, 10] ?_
 simp only [go_sem, simprocAttr, sw0]
 refine OW.nil (hK _ ?_)
 refine a5 ?_
 refine a5 ?_
 refine a0 fun K hK => OW.run [2, 5, 7, 8, 10, 113] ?_
 simp only [go_sem, simprocAttr, sw0]
 repeat (refine And.intro (by omega) ?_)
 refine OW.nil (hK _ ?_)
 refine d8 rfl (fun h12 => ?_) (fun h12 => ?_)
 replace H := l4 h12 H
 refine a5 ?_
 refine a0 fun K hK => OW.run [4] ?_
 simp only [go_sem, simprocAttr, sw0]
 refine OW.nil (hK _ ?_)
 refine f0 ?_
 change PW.Ends _ _ _ _ _ _
 refine PW.Ends.intro (.inr rfl) ?_
 simp only [go_sem, simprocAttr, sw0]
 obtain rfl := Option.some.inj H
 refine a7 4 (by exact trivial) ?_
 rfl
 replace H := l5 h12 H
 refine d9 ?_
 refine a5 ?_
 obtain ⟨⟨x5, x51, x52, x53, x54, x55⟩, e5, H⟩ := a8 H
 refine a0 fun K hK => OW.run [2, 5, 7, 10, 11, 12] ?_
 simp only [go_sem, simprocAttr, sw0]
 refine d7 4 rfl rfl rfl (by ((simp only [go_sem, List.toList_toArray, simprocAttr]); exact rfl)) ?_ (sched_LoopAfter_ok N _ _ _ _ _ _ _ e5) ?_ ?_ ?_ ?_
 · (((simp only [go_sem, sw1, simprocAttr]; try simp only [seg, go_sem, simprocAttr])); done)
 · (refine a6 ?_; (simp only [go_sem, sw2, List.length_set, List.length_replicate, and_true, true_and, Nat.le_refl, simprocAttr]; done))
 exact .inr ⟨rfl, rfl⟩
 (simp only [go_sem, Nat.reduceLT])
 refine OW.run [2, 5, 7, 10, 11, 12] ?_
 simp only [go_sem, simprocAttr, sw0]
 refine OW.nil (hK _ ?_)
 refine a5 ?_
 refine a0 fun K hK => OW.run [4] ?_
 simp only [go_sem, simprocAttr, sw0]
 repeat (refine And.intro (by omega) ?_)
 refine OW.nil (hK _ ?_)
 refine f0 ?_
 change PW.Ends _ _ _ _ _ _
 refine PW.Ends.intro (.inr rfl) ?_
 simp only [go_sem, simprocAttr, sw0]
 obtain rfl := Option.some.inj H
 refine a7 4 (by exact trivial) ?_
 rfl
end Go.Proofs.Ytabojpkmfkjjkaa
