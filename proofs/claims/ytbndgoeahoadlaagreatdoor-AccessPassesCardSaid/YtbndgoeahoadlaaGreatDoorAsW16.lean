import Derived.Test.YtbndgoeahoadlaaGreatDoorAsK
import Derived.Test.YtbndgoeahoadlaaGreatDoorAsS5
import Derived.Test.YtbndgoeahoadlaaGreatDoorAsW1
import Derived.Test.YtbndgoeahoadlaaGreatDoorAsW2
import Derived.Test.YtbndgoeahoadlaaGreatDoorAsW3
import Derived.Test.YtbndgoeahoadlaaGreatDoorAsW5
import Derived.Test.YtbndgoeahoadlaaGreatDoorAsW4
import Derived.Test.YtbndgoeahoadlaaGreatDoorAsW12
import Derived.Test.YtbndgoeahoadlaaGreatDoorAsW13
set_option linter.all false
namespace Go.Proofs.YtbndgoeahoadlaaGreatDoor
open Go.PW Go.Sh

set_option maxRecDepth 20000
set_option maxHeartbeats 8000000
def zf0W16a := m8 7 (fun (x : Int × Int × Int × Int × Int × Int × Int) => [(I x.1), (I x.2.1), (I x.2.2.1), (I x.2.2.2.1), (I x.2.2.2.2.1), (I x.2.2.2.2.2.1), (I x.2.2.2.2.2.2)]) (fun _ => rfl)
def zf1W16a := sub_el 7 (fun (x : Int × Int × Int × Int × Int × Int × Int) => [(I x.1), (I x.2.1), (I x.2.2.1), (I x.2.2.2.1), (I x.2.2.2.2.1), (I x.2.2.2.2.2.1), (I x.2.2.2.2.2.2)]) (fun _ => rfl)
theorem law07_AccessPasses_ok (N : Nat) (Z15 : Int) (Z11 : Int) (Z18 : Int) (Z17 : Int) (Z16 : Int) (Z10 : Int) (Z13 : Int) (Z1k : Int) (Z1o : List (Int × Int × Int × Int × Int × Int × Int)) (Z1x : Int) (Z1v : Int) (Z1y : Int) (Z1z : Int) (Z20 : Int) (Z1w : Int) (Z1t : Int) (r : Bool) (H : law07_AccessPasses N Z15 Z11 Z18 Z17 Z16 Z10 Z13 Z1k Z1o Z1x Z1v Z1y Z1z Z20 Z1w Z1t = some r) : CallOK Tryz.prog 8 [(.agg [(I Z15), (I Z11), (I Z18), (I Z17), (I Z16), (I Z10), (I Z13)]), (.agg [(I Z1k), (.list Z1o.length (Z1o.flatMap (fun (x : Int × Int × Int × Int × Int × Int × Int) => [(I x.1), (I x.2.1), (I x.2.2.1), (I x.2.2.2.1), (I x.2.2.2.2.1), (I x.2.2.2.2.2.1), (I x.2.2.2.2.2.2)])))]), (.agg [(I Z1x), (I Z1v), (I Z1y), (I Z1z), (I Z20), (I Z1w), (I Z1t)])] (.d (Bo r)) [] := by
 refine i7 Tryz.func8 rfl (by rw [Tryz.results8]) Tryz.ntmps8 Tryz.call8 ?_
 change PW _ _ _ _ _
 try simp only [go_sem, simprocAttr]
 unfold law07_AccessPasses at H
 refine b7 ?_
 refine c9 [3, 4, 5] ?_
 simp only [go_sem, simprocAttr, sw0]
 refine b7 ?_
 refine b7 ?_
 obtain ⟨x1, e1, H⟩ := d4 H
 refine d6 fun K hK => OW.run [3, 4, 5, 16] ?_
 simp only [go_sem, simprocAttr, sw0]
 refine g9 4 rfl rfl rfl (by first | exact rfl | ((simp only [go_sem, List.toList_toArray, simprocAttr]); exact rfl)) ?_ (law07_awake_ok N  _ e1) ?_ ?_ ?_ ?_
 rfl
 exact g8 rfl
 exact .inl rfl
 (simp only [go_sem, Nat.reduceLT])
 refine OW.run [3, 4, 5, 16] ?_
 simp only [go_sem, simprocAttr, sw0]
 refine OW.nil (hK _ ?_)
 refine d5 rfl (fun h1 => ?_) (fun h1 => ?_)
 replace H := n6 h1 H
 refine b7 ?_
 refine c9 [6] ?_
 simp only [go_sem, simprocAttr, sw0]
 refine d7 (PW.Ends.intro (.inr rfl) ?_)
 simp only [go_sem, simprocAttr, sw0]
 obtain rfl := Option.some.inj H
 refine b8 4 (by exact trivial) ?_
 rfl
 replace H := l7 h1 H
 refine d8 ?_
 refine b7 ?_
 refine b7 ?_
 obtain ⟨x2, e2, H⟩ := d4 H
 obtain ⟨x3, e3, H⟩ := d4 H
 obtain ⟨x4, e4, H⟩ := d4 H
 obtain ⟨x5, e5, H⟩ := d4 H
 refine d6 fun K hK => OW.run [3, 4, 5, 43] ?_
 simp only [go_sem, simprocAttr, sw0]
 refine g9 4 rfl rfl rfl (by first | exact rfl | ((simp only [go_sem, List.toList_toArray, simprocAttr]); exact rfl)) ?_ (law07_Few_ok N _ _ _ e2) ?_ ?_ ?_ ?_
 rfl
 · (refine d9 ?_; (simp only [go_sem, sw2, List.length_set, List.length_replicate, and_true, true_and, Nat.le_refl, simprocAttr]; done))
 exact .inl rfl
 (simp only [go_sem, Nat.reduceLT])
 refine OW.run [3, 4, 5, 43] ?_
 simp only [go_sem, simprocAttr, sw0]
 refine p9 4 rfl rfl ?_ (fun hg => by first | rfl | (simp only [go_sem, ↓reduceIte]; rfl)) (fun hg => by ((simp only [go_sem, List.toList_toArray, simprocAttr]); exact rfl)) (fun hg => ?_) (fun hg => (law07_stateErr_ok N _ _ _ _ _ _ _ _ _ _ (grd_t hg e3))) ?_ ?_ ?_ ?_
 simp only [go_sem, simprocAttr]
 rfl
 · (refine d9 ?_; (simp only [go_sem, sw2, List.length_set, List.length_replicate, and_true, true_and, Nat.le_refl, simprocAttr]; done))
 exact .inl rfl
 (simp only [go_sem, Nat.reduceLT])
 refine OW.run [3, 4, 5, 43] ?_
 simp only [go_sem, simprocAttr, sw0]
 repeat (refine And.intro (by omega) ?_)
 refine p9 4 rfl rfl ?_ (fun hg => by first | rfl | (simp only [go_sem, ↓reduceIte]; rfl)) (fun hg => by ((simp only [go_sem, List.toList_toArray, simprocAttr]); exact rfl)) (fun hg => ?_) (fun hg => (k8 N _ _ _ _ (grd_t hg e4))) ?_ ?_ ?_ ?_
 simp only [go_sem, simprocAttr]
 rfl
 exact g8 rfl
 exact .inl rfl
 (simp only [go_sem, Nat.reduceLT])
 refine OW.run [3, 4, 5, 43] ?_
 simp only [go_sem, simprocAttr, sw0]
 repeat (refine And.intro (by omega) ?_)
 refine p9 4 rfl rfl ?_ (fun hg => by first | rfl | (simp only [go_sem, ↓reduceIte]; rfl)) (fun hg => by ((simp only [go_sem, List.toList_toArray, simprocAttr]); exact rfl)) (fun hg => ?_) (fun hg => (ref07_TickErr_ok N _ _ (grd_t hg e5))) ?_ ?_ ?_ ?_
 simp only [go_sem, simprocAttr]
 rfl
 exact g8 rfl
 exact .inl rfl
 (simp only [go_sem, Nat.reduceLT])
 refine OW.run [3, 4, 5, 43] ?_
 simp only [go_sem, simprocAttr, sw0]
 refine OW.nil (hK _ ?_)
 refine d5 rfl (fun h2 => ?_) (fun h2 => ?_)
 replace H := n6 h2 H
 refine b7 ?_
 refine c9 [6] ?_
 simp only [go_sem, simprocAttr, sw0]
 refine d7 (PW.Ends.intro (.inr rfl) ?_)
 simp only [go_sem, simprocAttr, sw0]
 obtain rfl := Option.some.inj H
 refine b8 4 (by exact trivial) ?_
 rfl
 replace H := l7 h2 H
 refine d8 ?_
 refine b7 ?_
 obtain ⟨⟨x6, x61⟩, e6, H⟩ := d4 H
 obtain ⟨⟨x7, x71, x72⟩, e7, H⟩ := d4 H
 refine D6 11 [9] [30] mixed (by kernel_rfl) (by decide) rfl fun K hK => ?_
 refine FWO.run ?_
 simp only [go_sem, simprocAttr, sw0]
 refine FWO.call' 4 (by decide) rfl rfl rfl (by first | exact rfl | ((simp only [go_sem, List.toList_toArray, simprocAttr]); exact rfl)) ?_ (ref07_Copy_ok N _ _ _ e6) ?_ ?_ ?_ ?_
 rfl
 · (refine d9 ?_; (simp only [go_sem, sw2, List.length_set, List.length_replicate, and_true, true_and, Nat.le_refl, simprocAttr]; done))
 exact .inl rfl
 (simp only [go_sem, Nat.reduceLT])
 refine FWO.run ?_
 simp only [go_sem, simprocAttr, sw0]
 repeat (refine And.intro (by omega) ?_)
 refine FWO.call' 4 (by decide) rfl rfl rfl (by first | exact rfl | ((simp only [go_sem, List.toList_toArray, simprocAttr]); exact rfl)) ?_ (access_Apply_ok N _ _ _ _ _ _ _ _ _ _ _ _ _ _ _ _ e7) ?_ ?_ ?_ ?_
 rfl
 · (refine d9 ?_; (simp only [go_sem, sw2, List.length_set, List.length_replicate, and_true, true_and, Nat.le_refl, simprocAttr]; done))
 exact .inl rfl
 (simp only [go_sem, Nat.reduceLT])
 refine FWO.run ?_
 simp only [go_sem, simprocAttr, sw0]
 repeat (refine And.intro (by rfl) ?_)
 first | refine FWO.nil ?_ | skip
 change OW _ _ _ _ _ _
 refine OW.run [3, 4, 5, 7, 8] ?_
 simp only [go_sem, simprocAttr, sw0]
 refine OW.nil (hK _ ?_)
 refine b7 ?_
 obtain ⟨⟨x8, x81⟩, e8, H⟩ := d4 H
 obtain ⟨⟨x9, x91, x92⟩, e9, H⟩ := d4 H
 refine D6 12 [10] [30] mixed (by kernel_rfl) (by decide) rfl fun K hK => ?_
 refine FWO.run ?_
 simp only [go_sem, simprocAttr, sw0]
 refine FWO.call' 4 (by decide) rfl rfl rfl (by first | exact rfl | ((simp only [go_sem, List.toList_toArray, simprocAttr]); exact rfl)) ?_ (ref07_Copy_ok N _ _ _ e8) ?_ ?_ ?_ ?_
 rfl
 · (refine d9 ?_; (simp only [go_sem, sw2, List.length_set, List.length_replicate, and_true, true_and, Nat.le_refl, simprocAttr]; done))
 exact .inl rfl
 (simp only [go_sem, Nat.reduceLT])
 refine FWO.run ?_
 simp only [go_sem, simprocAttr, sw0]
 repeat (refine And.intro (by omega) ?_)
 refine FWO.call' 4 (by decide) rfl rfl rfl (by first | exact rfl | ((simp only [go_sem, List.toList_toArray, simprocAttr]); exact rfl)) ?_ (access_Apply_ok N _ _ _ _ _ _ _ _ _ _ _ _ _ _ _ _ e9) ?_ ?_ ?_ ?_
 rfl
 · (refine d9 ?_; (simp only [go_sem, sw2, List.length_set, List.length_replicate, and_true, true_and, Nat.le_refl, simprocAttr]; done))
 exact .inl rfl
 (simp only [go_sem, Nat.reduceLT])
 refine FWO.run ?_
 simp only [go_sem, simprocAttr, sw0]
 repeat (refine And.intro (by rfl) ?_)
 first | refine FWO.nil ?_ | skip
 change OW _ _ _ _ _ _
 refine OW.run [3, 4, 5, 7, 8, 9, 10] ?_
 simp only [go_sem, simprocAttr, sw0]
 refine OW.nil (hK _ ?_)
 refine b7 ?_
 refine b7 ?_
 obtain ⟨x10, e10, H⟩ := d4 H
 refine d6 fun K hK => OW.run [3, 5, 7, 8, 9, 79] ?_
 simp only [go_sem, simprocAttr, sw0]
 refine p9 4 rfl rfl ?_ (fun hg => by first | rfl | (simp only [go_sem, ↓reduceIte]; rfl)) (fun hg => by ((simp only [go_sem, List.toList_toArray, simprocAttr]); exact rfl)) (fun hg => ?_) (fun hg => (ref07_CheckState_ok N _ _ _ _ _ _ _ _ _ _ (grd_t hg e10))) ?_ ?_ ?_ ?_
 simp only [go_sem, simprocAttr]
 rfl
 · (refine d9 ?_; (simp only [go_sem, sw2, List.length_set, List.length_replicate, and_true, true_and, Nat.le_refl, simprocAttr]; done))
 exact .inl rfl
 (simp only [go_sem, Nat.reduceLT])
 refine OW.run [3, 5, 7, 8, 9, 79] ?_
 simp only [go_sem, simprocAttr, sw0]
 repeat (refine And.intro (by omega) ?_)
 refine OW.nil (hK _ ?_)
 refine d5 rfl (fun h3 => ?_) (fun h3 => ?_)
 replace H := n6 h3 H
 refine b7 ?_
 refine c9 [6] ?_
 simp only [go_sem, simprocAttr, sw0]
 refine d7 (PW.Ends.intro (.inr rfl) ?_)
 simp only [go_sem, simprocAttr, sw0]
 obtain rfl := Option.some.inj H
 refine b8 4 (by exact trivial) ?_
 rfl
 replace H := l7 h3 H
 refine d8 ?_
 refine k5 (τ := Unit) [3, 5, 7, 8, 9] 5 (fun _ => []) (fun _ => [{ cells := [.d (I Z15), .d (I Z11), .d (I Z18), .d (I Z17), .d (I Z16), .d (I Z10), .d (I Z13)], e := 23 }, { cells := [.d (I Z1k), .d (.list Z1o.length (Z1o.flatMap (fun (x : Int × Int × Int × Int × Int × Int × Int) => [(I x.1), (I x.2.1), (I x.2.2.1), (I x.2.2.2.1), (I x.2.2.2.2.1), (I x.2.2.2.2.2.1), (I x.2.2.2.2.2.2)])))], e := 30 }, { cells := [.d (I Z1x), .d (I Z1v), .d (I Z1y), .d (I Z1z), .d (I Z20), .d (I Z1w), .d (I Z1t)], e := 69 }, { cells := [.d (I x7), .d (.list x71.length (x71.flatMap (fun (x : Int × Int × Int × Int × Int × Int × Int) => [(I x.1), (I x.2.1), (I x.2.2.1), (I x.2.2.2.1), (I x.2.2.2.2.1), (I x.2.2.2.2.2.1), (I x.2.2.2.2.2.2)])))], e := 30 }, { cells := [.d (I x9), .d (.list x91.length (x91.flatMap (fun (x : Int × Int × Int × Int × Int × Int × Int) => [(I x.1), (I x.2.1), (I x.2.2.1), (I x.2.2.2.1), (I x.2.2.2.2.1), (I x.2.2.2.2.2.1), (I x.2.2.2.2.2.2)])))], e := 30 }]) _ _ r (by exact Nat.zero_le _) H ?_ ?_
 intro K_ H N4 hN4
 refine b7 ?_
 refine c9 [3, 5, 7, 8, 9, 11] ?_
 simp only [go_sem, simprocAttr, sw0]
 refine PW.block ?_
 refine C7 (σ := Int) [3, 5, 7, 8, 9, 11] 5 (fun i => [(11, .d (I i))]) (fun i => [{ cells := [.d (I Z15), .d (I Z11), .d (I Z18), .d (I Z17), .d (I Z16), .d (I Z10), .d (I Z13)], e := 23 }, { cells := [.d (I Z1k), .d (.list Z1o.length (Z1o.flatMap (fun (x : Int × Int × Int × Int × Int × Int × Int) => [(I x.1), (I x.2.1), (I x.2.2.1), (I x.2.2.2.1), (I x.2.2.2.2.1), (I x.2.2.2.2.2.1), (I x.2.2.2.2.2.2)])))], e := 30 }, { cells := [.d (I Z1x), .d (I Z1v), .d (I Z1y), .d (I Z1z), .d (I Z20), .d (I Z1w), .d (I Z1t)], e := 69 }, { cells := [.d (I x7), .d (.list x71.length (x71.flatMap (fun (x : Int × Int × Int × Int × Int × Int × Int) => [(I x.1), (I x.2.1), (I x.2.2.1), (I x.2.2.2.1), (I x.2.2.2.2.1), (I x.2.2.2.2.2.1), (I x.2.2.2.2.2.2)])))], e := 30 }, { cells := [.d (I x9), .d (.list x91.length (x91.flatMap (fun (x : Int × Int × Int × Int × Int × Int × Int) => [(I x.1), (I x.2.1), (I x.2.2.1), (I x.2.2.2.1), (I x.2.2.2.2.1), (I x.2.2.2.2.2.1), (I x.2.2.2.2.2.2)])))], e := 30 }]) (z8 N Z1t x91 K_) r N (0 : Int) (by exact Nat.zero_le _) H (by (simp only [sw1, go_sem, simprocAttr]; done)) ?_
 rintro n i H N5 hN5
 unfold z8 at H
 try simp only [go_sem, simprocAttr]
 refine b7 ?_
 refine b7 ?_
 refine c9 [3, 5, 7, 8, 9, 11, 84] ?_
 simp only [go_sem, simprocAttr, sw0]
 repeat (refine And.intro (by omega) ?_)
 refine d5 rfl (fun h6 => ?_) (fun h6 => ?_)
 replace H := n6 h6 H
 refine d8 ?_
 refine b7 ?_
 refine PW.block ?_
 refine b7 ?_
 obtain ⟨c7, H⟩ := j6 H
 refine c9 [3, 5, 7, 8, 9, 11, 12] ?_
 (simp only [go_sem, simprocAttr, sw0, zf0W16a, zf1W16a x91 i.toNat (by omega)])
 repeat (refine And.intro (by omega) ?_)
 refine b7 ?_
 refine c9 [3, 5, 7, 8, 9, 11, 106] ?_
 simp only [go_sem, simprocAttr, sw0]
 repeat (refine And.intro (by omega) ?_)
 refine d5 rfl (fun h8 => ?_) (fun h8 => ?_)
 replace H := n6 h8 H
 refine b7 ?_
 refine c9 [6] ?_
 simp only [go_sem, simprocAttr, sw0]
 refine d7 (PW.Ends.intro (.inr rfl) ?_)
 simp only [go_sem, simprocAttr, sw0]
 obtain rfl := Option.some.inj H
 refine b8 4 (by exact trivial) ?_
 rfl
 replace H := l7 h8 H
 refine d8 ?_
 refine c9 [3, 5, 7, 8, 9, 11] ?_
 simp only [go_sem, simprocAttr, sw0]
 refine hN5 [] (w64 (i + (1 : Int))) _ H (by exact trivial) ?_
 simp only [sw1, go_sem, simprocAttr]
 replace H := l7 h6 H
 refine o6 ?_
 refine hN4 [] () _ H (by exact trivial) ?_
 simp only [sw1, go_sem, simprocAttr]
 rintro _ H
 try simp only [go_sem, simprocAttr]
 refine b7 ?_
 obtain ⟨⟨x11, x111⟩, e11, H⟩ := d4 H
 obtain ⟨⟨x12, x121, x122⟩, e12, H⟩ := d4 H
 refine D6 11 [9] [30] mixed (by kernel_rfl) (by decide) rfl fun K hK => ?_
 refine FWO.run ?_
 simp only [go_sem, simprocAttr, sw0]
 refine FWO.call' 4 (by decide) rfl rfl rfl (by first | exact rfl | ((simp only [go_sem, List.toList_toArray, simprocAttr]); exact rfl)) ?_ (ref07_Copy_ok N _ _ _ e11) ?_ ?_ ?_ ?_
 rfl
 · (refine d9 ?_; (simp only [go_sem, sw2, List.length_set, List.length_replicate, and_true, true_and, Nat.le_refl, simprocAttr]; done))
 exact .inl rfl
 (simp only [go_sem, Nat.reduceLT])
 refine FWO.run ?_
 simp only [go_sem, simprocAttr, sw0]
 repeat (refine And.intro (by omega) ?_)
 refine FWO.call' 4 (by decide) rfl rfl rfl (by first | exact rfl | ((simp only [go_sem, List.toList_toArray, simprocAttr]); exact rfl)) ?_ (access_Apply_ok N _ _ _ _ _ _ _ _ _ _ _ _ _ _ _ _ e12) ?_ ?_ ?_ ?_
 rfl
 · (refine d9 ?_; (simp only [go_sem, sw2, List.length_set, List.length_replicate, and_true, true_and, Nat.le_refl, simprocAttr]; done))
 exact .inl rfl
 (simp only [go_sem, Nat.reduceLT])
 refine FWO.run ?_
 simp only [go_sem, simprocAttr, sw0]
 repeat (refine And.intro (by rfl) ?_)
 first | refine FWO.nil ?_ | skip
 change OW _ _ _ _ _ _
 refine OW.run [7, 8, 13, 14] ?_
 simp only [go_sem, simprocAttr, sw0]
 refine OW.nil (hK _ ?_)
 refine b7 ?_
 obtain ⟨x13, e13, H⟩ := d4 H
 refine d6 fun K hK => OW.run [6] ?_
 simp only [go_sem, simprocAttr, sw0]
 refine p9 4 rfl rfl ?_ (fun hg => by first | rfl | (simp only [go_sem, ↓reduceIte]; rfl)) (fun hg => by ((simp only [go_sem, List.toList_toArray, simprocAttr]); exact rfl)) (fun hg => ?_) (fun hg => (ref07_Same_ok N _ _ _ _ _ (grd_t hg e13))) ?_ ?_ ?_ ?_
 simp only [go_sem, simprocAttr]
 rfl
 · (refine d9 ?_; (simp only [go_sem, sw2, List.length_set, List.length_replicate, and_true, true_and, Nat.le_refl, simprocAttr]; done))
 exact .inl rfl
 (simp only [go_sem, Nat.reduceLT])
 refine OW.run [6] ?_
 simp only [go_sem, simprocAttr, sw0]
 refine OW.nil (hK _ ?_)
 refine d7 (PW.Ends.intro (.inr rfl) ?_)
 simp only [go_sem, simprocAttr, sw0]
 obtain rfl := Option.some.inj H
 refine b8 4 (by exact trivial) ?_
 rfl

end Go.Proofs.YtbndgoeahoadlaaGreatDoor
