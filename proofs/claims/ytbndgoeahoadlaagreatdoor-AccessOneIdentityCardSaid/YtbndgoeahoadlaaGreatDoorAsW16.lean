import Derived.Test.YtbndgoeahoadlaaGreatDoorAsK
import Derived.Test.YtbndgoeahoadlaaGreatDoorAsS5
import Derived.Test.YtbndgoeahoadlaaGreatDoorAsW1
import Derived.Test.YtbndgoeahoadlaaGreatDoorAsW2
import Derived.Test.YtbndgoeahoadlaaGreatDoorAsW3
import Derived.Test.YtbndgoeahoadlaaGreatDoorAsW5
import Derived.Test.YtbndgoeahoadlaaGreatDoorAsW7
import Derived.Test.YtbndgoeahoadlaaGreatDoorAsW4
import Derived.Test.YtbndgoeahoadlaaGreatDoorAsW12
import Derived.Test.YtbndgoeahoadlaaGreatDoorAsW13
set_option linter.all false
namespace Go.Proofs.YtbndgoeahoadlaaGreatDoor
open Go.PW Go.Sh

set_option maxRecDepth 20000
set_option maxHeartbeats 8000000
def zf0W16a := m7 7 (fun (x : Int × Int × Int × Int × Int × Int × Int) => [(I x.1), (I x.2.1), (I x.2.2.1), (I x.2.2.2.1), (I x.2.2.2.2.1), (I x.2.2.2.2.2.1), (I x.2.2.2.2.2.2)]) (fun _ => rfl)
def zf1W16a := sub_el 7 (fun (x : Int × Int × Int × Int × Int × Int × Int) => [(I x.1), (I x.2.1), (I x.2.2.1), (I x.2.2.2.1), (I x.2.2.2.2.1), (I x.2.2.2.2.2.1), (I x.2.2.2.2.2.2)]) (fun _ => rfl)
theorem law07_AccessOneIdentity_ok (N : Nat) (Z15 : Int) (Z11 : Int) (Z18 : Int) (Z17 : Int) (Z16 : Int) (Z10 : Int) (Z13 : Int) (Z1k : Int) (Z1o : List (Int × Int × Int × Int × Int × Int × Int)) (Z23 : Int) (Z1t : Int) (Z25 : Int) (Z2a : Int) (Z2b : Int) (Z22 : Int) (r : Bool) (H : law07_AccessOneIdentity N Z15 Z11 Z18 Z17 Z16 Z10 Z13 Z1k Z1o Z23 Z1t Z25 Z2a Z2b Z22 = some r) : CallOK Tryz.prog 9 [(.agg [(I Z15), (I Z11), (I Z18), (I Z17), (I Z16), (I Z10), (I Z13)]), (.agg [(I Z1k), (.list Z1o.length (Z1o.flatMap (fun (x : Int × Int × Int × Int × Int × Int × Int) => [(I x.1), (I x.2.1), (I x.2.2.1), (I x.2.2.2.1), (I x.2.2.2.2.1), (I x.2.2.2.2.2.1), (I x.2.2.2.2.2.2)])))]), (.agg [(I Z23), (I Z1t), (I Z25), (I Z2a), (I Z2b), (I Z22)])] (.d (Bo r)) [] := by
 refine i6 Tryz.func9 rfl (by rw [Tryz.results9]) Tryz.ntmps9 Tryz.call9 ?_
 change PW _ _ _ _ _
 try simp only [go_sem, simprocAttr]
 unfold law07_AccessOneIdentity at H
 refine b7 ?_
 refine c7 [3, 4, 5] ?_
 simp only [go_sem, simprocAttr, sw0]
 refine b7 ?_
 refine b7 ?_
 obtain ⟨x1, e1, H⟩ := d4 H
 refine d6 fun K hK => OW.run [3, 4, 5, 16] ?_
 simp only [go_sem, simprocAttr, sw0]
 refine g8 4 rfl rfl rfl (by first | exact rfl | ((simp only [go_sem, List.toList_toArray, simprocAttr]); exact rfl)) ?_ (law07_awake_ok N  _ e1) ?_ ?_ ?_ ?_
 rfl
 exact g9 rfl
 exact .inl rfl
 (simp only [go_sem, Nat.reduceLT])
 refine OW.run [3, 4, 5, 16] ?_
 simp only [go_sem, simprocAttr, sw0]
 refine OW.nil (hK _ ?_)
 refine d5 rfl (fun h1 => ?_) (fun h1 => ?_)
 replace H := n3 h1 H
 refine b7 ?_
 refine c7 [6] ?_
 simp only [go_sem, simprocAttr, sw0]
 refine d7 (PW.Ends.intro (.inr rfl) ?_)
 simp only [go_sem, simprocAttr, sw0]
 obtain rfl := Option.some.inj H
 refine b8 4 (by exact trivial) ?_
 rfl
 replace H := l5 h1 H
 refine d8 ?_
 refine b7 ?_
 refine b7 ?_
 obtain ⟨x2, e2, H⟩ := d4 H
 obtain ⟨x3, e3, H⟩ := d4 H
 refine d6 fun K hK => OW.run [3, 4, 5, 25] ?_
 simp only [go_sem, simprocAttr, sw0]
 refine g8 4 rfl rfl rfl (by first | exact rfl | ((simp only [go_sem, List.toList_toArray, simprocAttr]); exact rfl)) ?_ (law07_Few_ok N _ _ _ e2) ?_ ?_ ?_ ?_
 rfl
 · (refine d9 ?_; (simp only [go_sem, sw2, List.length_set, List.length_replicate, and_true, true_and, Nat.le_refl, simprocAttr]; done))
 exact .inl rfl
 (simp only [go_sem, Nat.reduceLT])
 refine OW.run [3, 4, 5, 25] ?_
 simp only [go_sem, simprocAttr, sw0]
 refine A2 4 rfl rfl ?_ (fun hg => by first | rfl | (simp only [go_sem, ↓reduceIte]; rfl)) (fun hg => by ((simp only [go_sem, List.toList_toArray, simprocAttr]); exact rfl)) (fun hg => ?_) (fun hg => (law07_stateErr_ok N _ _ _ _ _ _ _ _ _ _ (grd_t hg e3))) ?_ ?_ ?_ ?_
 simp only [go_sem, simprocAttr]
 rfl
 · (refine d9 ?_; (simp only [go_sem, sw2, List.length_set, List.length_replicate, and_true, true_and, Nat.le_refl, simprocAttr]; done))
 exact .inl rfl
 (simp only [go_sem, Nat.reduceLT])
 refine OW.run [3, 4, 5, 25] ?_
 simp only [go_sem, simprocAttr, sw0]
 refine OW.nil (hK _ ?_)
 refine d5 rfl (fun h2 => ?_) (fun h2 => ?_)
 replace H := n3 h2 H
 refine b7 ?_
 refine c7 [6] ?_
 simp only [go_sem, simprocAttr, sw0]
 refine d7 (PW.Ends.intro (.inr rfl) ?_)
 simp only [go_sem, simprocAttr, sw0]
 obtain rfl := Option.some.inj H
 refine b8 4 (by exact trivial) ?_
 rfl
 replace H := l5 h2 H
 refine d8 ?_
 refine b7 ?_
 obtain ⟨⟨x4, x41⟩, e4, H⟩ := d4 H
 obtain ⟨⟨x5, x51, x52⟩, e5, H⟩ := d4 H
 refine D1 10 [8] [30] mixed (by kernel_rfl) (by decide) rfl fun K hK => ?_
 refine FWO.run ?_
 simp only [go_sem, simprocAttr, sw0]
 refine FWO.call' 4 (by decide) rfl rfl rfl (by first | exact rfl | ((simp only [go_sem, List.toList_toArray, simprocAttr]); exact rfl)) ?_ (ref07_Copy_ok N _ _ _ e4) ?_ ?_ ?_ ?_
 rfl
 · (refine d9 ?_; (simp only [go_sem, sw2, List.length_set, List.length_replicate, and_true, true_and, Nat.le_refl, simprocAttr]; done))
 exact .inl rfl
 (simp only [go_sem, Nat.reduceLT])
 refine FWO.run ?_
 simp only [go_sem, simprocAttr, sw0]
 refine FWO.call' 4 (by decide) rfl rfl rfl (by first | exact rfl | ((simp only [go_sem, List.toList_toArray, simprocAttr]); exact rfl)) ?_ (access_Apply_ok N _ _ _ _ _ _ _ _ _ _ _ _ _ _ _ _ e5) ?_ ?_ ?_ ?_
 rfl
 · (refine d9 ?_; (simp only [go_sem, sw2, List.length_set, List.length_replicate, and_true, true_and, Nat.le_refl, simprocAttr]; done))
 exact .inl rfl
 (simp only [go_sem, Nat.reduceLT])
 refine FWO.run ?_
 simp only [go_sem, simprocAttr, sw0]
 repeat (refine And.intro (by rfl) ?_)
 first | refine FWO.nil ?_ | skip
 change OW _ _ _ _ _ _
 refine OW.run [3, 4, 5, 7, 8] ?_
 simp only [go_sem, simprocAttr, sw0]
 refine OW.nil (hK _ ?_)
 refine b7 ?_
 refine b7 ?_
 refine c7 [3, 4, 5, 7, 35] ?_
 simp only [go_sem, simprocAttr, sw0]
 refine d5 rfl (fun h3 => ?_) (fun h3 => ?_)
 replace H := n3 h3 H
 refine b7 ?_
 obtain ⟨x6, e6, H⟩ := d4 H
 refine d6 fun K hK => OW.run [6] ?_
 simp only [go_sem, simprocAttr, sw0]
 refine g8 4 rfl rfl rfl (by first | exact rfl | ((simp only [go_sem, List.toList_toArray, simprocAttr]); exact rfl)) ?_ (ref07_Same_ok N _ _ _ _ _ e6) ?_ ?_ ?_ ?_
 rfl
 · (refine d9 ?_; (simp only [go_sem, sw2, List.length_set, List.length_replicate, and_true, true_and, Nat.le_refl, simprocAttr]; done))
 exact .inl rfl
 (simp only [go_sem, Nat.reduceLT])
 refine OW.run [6] ?_
 simp only [go_sem, simprocAttr, sw0]
 refine OW.nil (hK _ ?_)
 refine d7 (PW.Ends.intro (.inr rfl) ?_)
 simp only [go_sem, simprocAttr, sw0]
 obtain rfl := Option.some.inj H
 refine b8 4 (by exact trivial) ?_
 rfl
 replace H := l5 h3 H
 refine d8 ?_
 refine b7 ?_
 refine b7 ?_
 obtain ⟨⟨x7, x71⟩, e7, H⟩ := d4 H
 obtain ⟨x8, e8, H⟩ := d4 H
 obtain ⟨x9, e9, H⟩ := d4 H
 refine j4 25 mixed (by kernel_rfl) fun K hK => ?_
 change FW _ _ _ _ _
 refine FW.run ?_
 simp only [go_sem, simprocAttr, sw0]
 refine n1 4 rfl rfl rfl (by first | exact rfl | ((simp only [go_sem, List.toList_toArray, simprocAttr]); exact rfl)) ?_ (ref07_Copy_ok N _ _ _ e7) ?_ ?_ ?_ ?_
 rfl
 · (refine d9 ?_; (simp only [go_sem, sw2, List.length_set, List.length_replicate, and_true, true_and, Nat.le_refl, simprocAttr]; done))
 exact .inl rfl
 (simp only [go_sem, Nat.reduceLT])
 refine FW.run ?_
 simp only [go_sem, simprocAttr, sw0]
 refine n1 4 rfl rfl rfl (by first | exact rfl | ((simp only [go_sem, List.toList_toArray, simprocAttr]); exact rfl)) ?_ (access_CheckState_ok N _ _ _ _ _ _ _ _ _ _ e8) ?_ ?_ ?_ ?_
 rfl
 · (refine d9 ?_; (simp only [go_sem, sw2, List.length_set, List.length_replicate, and_true, true_and, Nat.le_refl, simprocAttr]; done))
 exact .inl rfl
 (simp only [go_sem, Nat.reduceLT])
 refine FW.run ?_
 simp only [go_sem, simprocAttr, sw0]
 refine H8 4 rfl rfl ?_ (fun hg => by first | rfl | (simp only [go_sem, ↓reduceIte]; rfl)) (fun hg => by ((simp only [go_sem, List.toList_toArray, simprocAttr]); exact rfl)) (fun hg => ?_) (fun hg => (ref07_CheckState_ok N _ _ _ _ _ _ _ _ _ _ (grd_t hg e9))) ?_ ?_ ?_ ?_
 simp only [go_sem, simprocAttr]
 rfl
 · (refine d9 ?_; (simp only [go_sem, sw2, List.length_set, List.length_replicate, and_true, true_and, Nat.le_refl, simprocAttr]; done))
 exact .inl rfl
 (simp only [go_sem, Nat.reduceLT])
 refine FW.run ?_
 simp only [go_sem, simprocAttr, sw0]
 repeat (refine And.intro (by omega) ?_)
 refine FW.nil ?_
 change OW _ _ _ _ _ _
 refine OW.run [3, 4, 7, 65] ?_
 simp only [go_sem, simprocAttr, sw0]
 refine OW.nil (hK _ ?_)
 refine d5 rfl (fun h4 => ?_) (fun h4 => ?_)
 replace H := n3 h4 H
 refine b7 ?_
 refine c7 [6] ?_
 simp only [go_sem, simprocAttr, sw0]
 refine d7 (PW.Ends.intro (.inr rfl) ?_)
 simp only [go_sem, simprocAttr, sw0]
 obtain rfl := Option.some.inj H
 refine b8 4 (by exact trivial) ?_
 rfl
 replace H := l5 h4 H
 refine d8 ?_
 refine j8 (τ := Unit) [] 0 (fun _ => []) (fun _ => []) _ _ r (by exact Nat.le_refl _) H ?_ ?_
 intro K_ H N5 hN5
 refine b7 ?_
 refine c7 [3, 4, 7, 9] ?_
 simp only [go_sem, simprocAttr, sw0]
 refine PW.block ?_
 refine A8 (σ := Int) [3, 4, 7, 9] 4 (fun i => [(9, .d (I i))]) (fun i => [{ cells := [.d (I Z15), .d (I Z11), .d (I Z18), .d (I Z17), .d (I Z16), .d (I Z10), .d (I Z13)], e := 23 }, { cells := [.d (I Z1k), .d (.list Z1o.length (Z1o.flatMap (fun (x : Int × Int × Int × Int × Int × Int × Int) => [(I x.1), (I x.2.1), (I x.2.2.1), (I x.2.2.2.1), (I x.2.2.2.2.1), (I x.2.2.2.2.2.1), (I x.2.2.2.2.2.2)])))], e := 30 }, { cells := [.d (I Z23), .d (I Z1t), .d (I Z25), .d (I Z2a), .d (I Z2b), .d (I Z22)], e := 48 }, { cells := [.d (I x5), .d (.list x51.length (x51.flatMap (fun (x : Int × Int × Int × Int × Int × Int × Int) => [(I x.1), (I x.2.1), (I x.2.2.1), (I x.2.2.2.1), (I x.2.2.2.2.1), (I x.2.2.2.2.2.1), (I x.2.2.2.2.2.2)])))], e := 30 }]) (p9 N Z16 Z1o x51 K_) r N (0 : Int) (by exact Nat.zero_le _) H (by (simp only [sw1, go_sem, simprocAttr]; done)) ?_
 rintro n i H N6 hN6
 unfold p9 at H
 try simp only [go_sem, simprocAttr]
 refine b7 ?_
 refine b7 ?_
 refine c7 [3, 4, 7, 9, 70] ?_
 simp only [go_sem, simprocAttr, sw0]
 repeat (refine And.intro (by omega) ?_)
 refine d5 rfl (fun h7 => ?_) (fun h7 => ?_)
 replace H := n3 h7 H
 refine d8 ?_
 refine j8 (τ := Unit) [3, 4, 7, 9] 4 (fun _ => []) (fun _ => [{ cells := [.d (I Z15), .d (I Z11), .d (I Z18), .d (I Z17), .d (I Z16), .d (I Z10), .d (I Z13)], e := 23 }, { cells := [.d (I Z1k), .d (.list Z1o.length (Z1o.flatMap (fun (x : Int × Int × Int × Int × Int × Int × Int) => [(I x.1), (I x.2.1), (I x.2.2.1), (I x.2.2.2.1), (I x.2.2.2.2.1), (I x.2.2.2.2.2.1), (I x.2.2.2.2.2.2)])))], e := 30 }, { cells := [.d (I Z23), .d (I Z1t), .d (I Z25), .d (I Z2a), .d (I Z2b), .d (I Z22)], e := 48 }, { cells := [.d (I x5), .d (.list x51.length (x51.flatMap (fun (x : Int × Int × Int × Int × Int × Int × Int) => [(I x.1), (I x.2.1), (I x.2.2.1), (I x.2.2.2.1), (I x.2.2.2.2.1), (I x.2.2.2.2.2.1), (I x.2.2.2.2.2.2)])))], e := 30 }]) _ _ r (by exact Nat.zero_le _) H ?_ ?_
 intro K_1 H N8 hN8
 refine PW.block ?_
 refine b7 ?_
 obtain ⟨c9, H⟩ := j6 H
 obtain ⟨c10, H⟩ := j6 H
 refine D1 13 [10, 11] [71, 71] mixed (by kernel_rfl) (by decide) rfl fun K hK => ?_
 refine FWO.run ?_
 (simp only [go_sem, simprocAttr, sw0, zf0W16a, zf1W16a x51 i.toNat (by omega), zf1W16a Z1o i.toNat (by omega)])
 repeat (refine And.intro (by first | omega | rfl) ?_)
 first | refine FWO.nil ?_ | skip
 change OW _ _ _ _ _ _
 refine OW.run [3, 4, 7, 9, 10, 11] ?_
 (simp only [go_sem, simprocAttr, sw0, zf0W16a, zf1W16a x51 i.toNat (by omega), zf1W16a Z1o i.toNat (by omega)])
 refine OW.nil (hK _ ?_)
 refine b7 ?_
 refine b7 ?_
 obtain ⟨x10, e10, H⟩ := d4 H
 refine d6 fun K hK => OW.run [3, 4, 7, 9, 10, 11, 88] ?_
 simp only [go_sem, simprocAttr, sw0]
 repeat (refine And.intro (by omega) ?_)
 refine g8 4 rfl rfl rfl (by first | exact rfl | ((simp only [go_sem, List.toList_toArray, simprocAttr]); exact rfl)) ?_ (l0 N _ _ _ _ e10) ?_ ?_ ?_ ?_
 rfl
 exact g9 rfl
 exact .inl rfl
 (simp only [go_sem, Nat.reduceLT])
 refine OW.run [3, 4, 7, 9, 10, 11, 88] ?_
 simp only [go_sem, simprocAttr, sw0]
 refine OW.nil (hK _ ?_)
 refine d5 rfl (fun h11 => ?_) (fun h11 => ?_)
 replace H := n3 h11 H
 refine b7 ?_
 refine c7 [6] ?_
 simp only [go_sem, simprocAttr, sw0]
 refine d7 (PW.Ends.intro (.inr rfl) ?_)
 simp only [go_sem, simprocAttr, sw0]
 obtain rfl := Option.some.inj H
 refine b8 4 (by exact trivial) ?_
 rfl
 replace H := l5 h11 H
 refine d8 ?_
 refine b7 ?_
 refine c7 [3, 4, 7, 9, 10, 11, 12] ?_
 simp only [go_sem, simprocAttr, sw0]
 refine PW.block ?_
 refine A8 (σ := Int) [3, 4, 7, 9, 10, 11, 12] 6 (fun k => [(12, .d (I k))]) (fun k => [{ cells := [.d (I Z15), .d (I Z11), .d (I Z18), .d (I Z17), .d (I Z16), .d (I Z10), .d (I Z13)], e := 23 }, { cells := [.d (I Z1k), .d (.list Z1o.length (Z1o.flatMap (fun (x : Int × Int × Int × Int × Int × Int × Int) => [(I x.1), (I x.2.1), (I x.2.2.1), (I x.2.2.2.1), (I x.2.2.2.2.1), (I x.2.2.2.2.2.1), (I x.2.2.2.2.2.2)])))], e := 30 }, { cells := [.d (I Z23), .d (I Z1t), .d (I Z25), .d (I Z2a), .d (I Z2b), .d (I Z22)], e := 48 }, { cells := [.d (I x5), .d (.list x51.length (x51.flatMap (fun (x : Int × Int × Int × Int × Int × Int × Int) => [(I x.1), (I x.2.1), (I x.2.2.1), (I x.2.2.2.1), (I x.2.2.2.2.1), (I x.2.2.2.2.2.1), (I x.2.2.2.2.2.2)])))], e := 30 }, { cells := [.d (I ((x51.getD i.toNat default).1)), .d (I ((x51.getD i.toNat default).2.1)), .d (I ((x51.getD i.toNat default).2.2.1)), .d (I ((x51.getD i.toNat default).2.2.2.1)), .d (I ((x51.getD i.toNat default).2.2.2.2.1)), .d (I ((x51.getD i.toNat default).2.2.2.2.2.1)), .d (I ((x51.getD i.toNat default).2.2.2.2.2.2))], e := 71 }, { cells := [.d (I ((Z1o.getD i.toNat default).1)), .d (I ((Z1o.getD i.toNat default).2.1)), .d (I ((Z1o.getD i.toNat default).2.2.1)), .d (I ((Z1o.getD i.toNat default).2.2.2.1)), .d (I ((Z1o.getD i.toNat default).2.2.2.2.1)), .d (I ((Z1o.getD i.toNat default).2.2.2.2.2.1)), .d (I ((Z1o.getD i.toNat default).2.2.2.2.2.2))], e := 71 }]) (p8 N Z1o x51 i K_1) r N (0 : Int) (by exact Nat.zero_le _) H (by (simp only [sw1, go_sem, simprocAttr]; done)) ?_
 rintro n k H N12 hN12
 unfold p8 at H
 try simp only [go_sem, simprocAttr]
 refine b7 ?_
 refine b7 ?_
 refine c7 [3, 4, 7, 9, 10, 11, 12, 91] ?_
 simp only [go_sem, simprocAttr, sw0]
 refine d5 rfl (fun h13 => ?_) (fun h13 => ?_)
 replace H := n3 h13 H
 refine d8 ?_
 refine b7 ?_
 refine PW.block ?_
 refine b7 ?_
 obtain ⟨c14, H⟩ := j6 H
 obtain ⟨c15, H⟩ := j6 H
 refine D1 13 [10, 11] [71, 71] mixed (by kernel_rfl) (by decide) rfl fun K hK => ?_
 refine FWO.run ?_
 (simp only [go_sem, simprocAttr, sw0, zf0W16a, zf1W16a x51 k.toNat (by omega), zf1W16a Z1o k.toNat (by omega)])
 repeat (refine And.intro (by first | omega | rfl) ?_)
 first | refine FWO.nil ?_ | skip
 change OW _ _ _ _ _ _
 refine OW.run [3, 4, 7, 9, 10, 11, 12, 13, 14] ?_
 (simp only [go_sem, simprocAttr, sw0, zf0W16a, zf1W16a x51 k.toNat (by omega), zf1W16a Z1o k.toNat (by omega)])
 refine OW.nil (hK _ ?_)
 refine b7 ?_
 refine b7 ?_
 refine d6 fun K hK => ?_
 refine OW.toS [(3, .ptr 0 0), (4, .ptr 1 0), (7, .ptr 3 0), (9, .d (I i)), (10, .ptr 4 0), (11, .ptr 5 0), (12, .d (I k)), (13, .ptr 6 0), (135, .d (Bo ((((x51.getD i.toNat default).1 == (4 : Int)) && ((x51.getD k.toNat default).1 == (4 : Int))) && (((x51.getD i.toNat default).2.2.2.1 == (x51.getD k.toNat default).2.2.2.1) || ((((Z1o.getD i.toNat default).1 == (2 : Int)) && ((Z1o.getD k.toNat default).1 == (2 : Int))) && ((Z1o.getD i.toNat default).2.2.2.1 == (Z1o.getD k.toNat default).2.2.2.1))))))] [{ cells := [.d (I Z15), .d (I Z11), .d (I Z18), .d (I Z17), .d (I Z16), .d (I Z10), .d (I Z13)], e := 23 }, { cells := [.d (I Z1k), .d (.list Z1o.length (Z1o.flatMap (fun (x : Int × Int × Int × Int × Int × Int × Int) => [(I x.1), (I x.2.1), (I x.2.2.1), (I x.2.2.2.1), (I x.2.2.2.2.1), (I x.2.2.2.2.2.1), (I x.2.2.2.2.2.2)])))], e := 30 }, { cells := [.d (I Z23), .d (I Z1t), .d (I Z25), .d (I Z2a), .d (I Z2b), .d (I Z22)], e := 48 }, { cells := [.d (I x5), .d (.list x51.length (x51.flatMap (fun (x : Int × Int × Int × Int × Int × Int × Int) => [(I x.1), (I x.2.1), (I x.2.2.1), (I x.2.2.2.1), (I x.2.2.2.2.1), (I x.2.2.2.2.2.1), (I x.2.2.2.2.2.2)])))], e := 30 }, { cells := [.d (I ((x51.getD i.toNat default).1)), .d (I ((x51.getD i.toNat default).2.1)), .d (I ((x51.getD i.toNat default).2.2.1)), .d (I ((x51.getD i.toNat default).2.2.2.1)), .d (I ((x51.getD i.toNat default).2.2.2.2.1)), .d (I ((x51.getD i.toNat default).2.2.2.2.2.1)), .d (I ((x51.getD i.toNat default).2.2.2.2.2.2))], e := 71 }, { cells := [.d (I ((Z1o.getD i.toNat default).1)), .d (I ((Z1o.getD i.toNat default).2.1)), .d (I ((Z1o.getD i.toNat default).2.2.1)), .d (I ((Z1o.getD i.toNat default).2.2.2.1)), .d (I ((Z1o.getD i.toNat default).2.2.2.2.1)), .d (I ((Z1o.getD i.toNat default).2.2.2.2.2.1)), .d (I ((Z1o.getD i.toNat default).2.2.2.2.2.2))], e := 71 }, { cells := [.d (I ((x51.getD k.toNat default).1)), .d (I ((x51.getD k.toNat default).2.1)), .d (I ((x51.getD k.toNat default).2.2.1)), .d (I ((x51.getD k.toNat default).2.2.2.1)), .d (I ((x51.getD k.toNat default).2.2.2.2.1)), .d (I ((x51.getD k.toNat default).2.2.2.2.2.1)), .d (I ((x51.getD k.toNat default).2.2.2.2.2.2))], e := 71 }, { cells := [.d (I ((Z1o.getD k.toNat default).1)), .d (I ((Z1o.getD k.toNat default).2.1)), .d (I ((Z1o.getD k.toNat default).2.2.1)), .d (I ((Z1o.getD k.toNat default).2.2.2.1)), .d (I ((Z1o.getD k.toNat default).2.2.2.2.1)), .d (I ((Z1o.getD k.toNat default).2.2.2.2.2.1)), .d (I ((Z1o.getD k.toNat default).2.2.2.2.2.2))], e := 71 }] ?_ (hK _ ?_)
 intro K hKE
 rcases Bool.eq_false_or_eq_true (((x51.getD i.toNat default).1 == (4 : Int))) with ha0 | ha0
 rcases Bool.eq_false_or_eq_true (((x51.getD k.toNat default).1 == (4 : Int))) with ha1 | ha1
 rcases Bool.eq_false_or_eq_true (((x51.getD i.toNat default).2.2.2.1 == (x51.getD k.toNat default).2.2.2.1)) with ha2 | ha2
 refine OW.run [3, 4, 7, 9, 10, 11, 12, 13, 135] ?_
 (simp only [go_sem, simprocAttr, sw0, ha0, ha1, ha2])
 repeat (refine And.intro (by omega) ?_)
 refine OW.nil ((congrArg K ?_).mpr hKE)
 · (first | rfl | (simp only [go_sem, simprocAttr, ha0, ha1, ha2]; done) | (simp only [go_sem, simprocAttr, ha0, ha1, ha2]; rfl))
 rcases Bool.eq_false_or_eq_true (((Z1o.getD i.toNat default).1 == (2 : Int))) with ha3 | ha3
 rcases Bool.eq_false_or_eq_true (((Z1o.getD k.toNat default).1 == (2 : Int))) with ha4 | ha4
 refine OW.run [3, 4, 7, 9, 10, 11, 12, 13, 135] ?_
 (simp only [go_sem, simprocAttr, sw0, ha0, ha1, ha2, ha3, ha4])
 repeat (refine And.intro (by omega) ?_)
 refine OW.nil ((congrArg K ?_).mpr hKE)
 · (first | rfl | (simp only [go_sem, simprocAttr, ha0, ha1, ha2, ha3, ha4]; done) | (simp only [go_sem, simprocAttr, ha0, ha1, ha2, ha3, ha4]; rfl))
 refine OW.run [3, 4, 7, 9, 10, 11, 12, 13, 135] ?_
 (simp only [go_sem, simprocAttr, sw0, ha0, ha1, ha2, ha3, ha4])
 repeat (refine And.intro (by omega) ?_)
 refine OW.nil ((congrArg K ?_).mpr hKE)
 · (first | rfl | (simp only [go_sem, simprocAttr, ha0, ha1, ha2, ha3, ha4]; done) | (simp only [go_sem, simprocAttr, ha0, ha1, ha2, ha3, ha4]; rfl))
 refine OW.run [3, 4, 7, 9, 10, 11, 12, 13, 135] ?_
 (simp only [go_sem, simprocAttr, sw0, ha0, ha1, ha2, ha3])
 repeat (refine And.intro (by omega) ?_)
 refine OW.nil ((congrArg K ?_).mpr hKE)
 · (first | rfl | (simp only [go_sem, simprocAttr, ha0, ha1, ha2, ha3]; done) | (simp only [go_sem, simprocAttr, ha0, ha1, ha2, ha3]; rfl))
 refine OW.run [3, 4, 7, 9, 10, 11, 12, 13, 135] ?_
 (simp only [go_sem, simprocAttr, sw0, ha0, ha1])
 repeat (refine And.intro (by omega) ?_)
 refine OW.nil ((congrArg K ?_).mpr hKE)
 · (first | rfl | (simp only [go_sem, simprocAttr, ha0, ha1]; done) | (simp only [go_sem, simprocAttr, ha0, ha1]; rfl))
 refine OW.run [3, 4, 7, 9, 10, 11, 12, 13, 135] ?_
 (simp only [go_sem, simprocAttr, sw0, ha0])
 repeat (refine And.intro (by omega) ?_)
 refine OW.nil ((congrArg K ?_).mpr hKE)
 · (first | rfl | (simp only [go_sem, simprocAttr, ha0]; done) | (simp only [go_sem, simprocAttr, ha0]; rfl))
 clear hK K
 refine d5 rfl (fun h16 => ?_) (fun h16 => ?_)
 replace H := n3 h16 H
 refine b7 ?_
 refine c7 [6] ?_
 simp only [go_sem, simprocAttr, sw0]
 refine d7 (PW.Ends.intro (.inr rfl) ?_)
 simp only [go_sem, simprocAttr, sw0]
 obtain rfl := Option.some.inj H
 refine b8 4 (by exact trivial) ?_
 rfl
 replace H := l5 h16 H
 refine d8 ?_
 refine b7 ?_
 refine d6 fun K hK => ?_
 refine OW.toS [(3, .ptr 0 0), (4, .ptr 1 0), (7, .ptr 3 0), (9, .d (I i)), (10, .ptr 4 0), (11, .ptr 5 0), (12, .d (I k)), (155, .d (Bo ((((x51.getD i.toNat default).2.2.2.1 == (x51.getD k.toNat default).2.2.2.1) && ((x51.getD i.toNat default).2.2.2.1 != (-1 : Int))) && (((x51.getD i.toNat default).1 == (4 : Int)) || ((x51.getD k.toNat default).1 == (4 : Int))))))] [{ cells := [.d (I Z15), .d (I Z11), .d (I Z18), .d (I Z17), .d (I Z16), .d (I Z10), .d (I Z13)], e := 23 }, { cells := [.d (I Z1k), .d (.list Z1o.length (Z1o.flatMap (fun (x : Int × Int × Int × Int × Int × Int × Int) => [(I x.1), (I x.2.1), (I x.2.2.1), (I x.2.2.2.1), (I x.2.2.2.2.1), (I x.2.2.2.2.2.1), (I x.2.2.2.2.2.2)])))], e := 30 }, { cells := [.d (I Z23), .d (I Z1t), .d (I Z25), .d (I Z2a), .d (I Z2b), .d (I Z22)], e := 48 }, { cells := [.d (I x5), .d (.list x51.length (x51.flatMap (fun (x : Int × Int × Int × Int × Int × Int × Int) => [(I x.1), (I x.2.1), (I x.2.2.1), (I x.2.2.2.1), (I x.2.2.2.2.1), (I x.2.2.2.2.2.1), (I x.2.2.2.2.2.2)])))], e := 30 }, { cells := [.d (I ((x51.getD i.toNat default).1)), .d (I ((x51.getD i.toNat default).2.1)), .d (I ((x51.getD i.toNat default).2.2.1)), .d (I ((x51.getD i.toNat default).2.2.2.1)), .d (I ((x51.getD i.toNat default).2.2.2.2.1)), .d (I ((x51.getD i.toNat default).2.2.2.2.2.1)), .d (I ((x51.getD i.toNat default).2.2.2.2.2.2))], e := 71 }, { cells := [.d (I ((Z1o.getD i.toNat default).1)), .d (I ((Z1o.getD i.toNat default).2.1)), .d (I ((Z1o.getD i.toNat default).2.2.1)), .d (I ((Z1o.getD i.toNat default).2.2.2.1)), .d (I ((Z1o.getD i.toNat default).2.2.2.2.1)), .d (I ((Z1o.getD i.toNat default).2.2.2.2.2.1)), .d (I ((Z1o.getD i.toNat default).2.2.2.2.2.2))], e := 71 }, { cells := [.d (I ((x51.getD k.toNat default).1)), .d (I ((x51.getD k.toNat default).2.1)), .d (I ((x51.getD k.toNat default).2.2.1)), .d (I ((x51.getD k.toNat default).2.2.2.1)), .d (I ((x51.getD k.toNat default).2.2.2.2.1)), .d (I ((x51.getD k.toNat default).2.2.2.2.2.1)), .d (I ((x51.getD k.toNat default).2.2.2.2.2.2))], e := 71 }, { cells := [.d (I ((Z1o.getD k.toNat default).1)), .d (I ((Z1o.getD k.toNat default).2.1)), .d (I ((Z1o.getD k.toNat default).2.2.1)), .d (I ((Z1o.getD k.toNat default).2.2.2.1)), .d (I ((Z1o.getD k.toNat default).2.2.2.2.1)), .d (I ((Z1o.getD k.toNat default).2.2.2.2.2.1)), .d (I ((Z1o.getD k.toNat default).2.2.2.2.2.2))], e := 71 }] ?_ (hK _ ?_)
 intro K hKE
 rcases Bool.eq_false_or_eq_true (((x51.getD i.toNat default).2.2.2.1 == (x51.getD k.toNat default).2.2.2.1)) with ha0 | ha0
 rcases Bool.eq_false_or_eq_true (((x51.getD i.toNat default).2.2.2.1 != (-1 : Int))) with ha1 | ha1
 rcases Bool.eq_false_or_eq_true (((x51.getD i.toNat default).1 == (4 : Int))) with ha2 | ha2
 refine OW.run [3, 4, 7, 9, 10, 11, 12, 155] ?_
 (simp only [go_sem, simprocAttr, sw0, ha0, ha1, ha2])
 repeat (refine And.intro (by omega) ?_)
 refine OW.nil ((congrArg K ?_).mpr hKE)
 · (first | rfl | (simp only [go_sem, simprocAttr, ha0, ha1, ha2]; done) | (simp only [go_sem, simprocAttr, ha0, ha1, ha2]; rfl))
 refine OW.run [3, 4, 7, 9, 10, 11, 12, 155] ?_
 (simp only [go_sem, simprocAttr, sw0, ha0, ha1, ha2])
 repeat (refine And.intro (by omega) ?_)
 refine OW.nil ((congrArg K ?_).mpr hKE)
 · (first | rfl | (simp only [go_sem, simprocAttr, ha0, ha1, ha2]; done) | (simp only [go_sem, simprocAttr, ha0, ha1, ha2]; rfl))
 refine OW.run [3, 4, 7, 9, 10, 11, 12, 155] ?_
 (simp only [go_sem, simprocAttr, sw0, ha0, ha1])
 repeat (refine And.intro (by omega) ?_)
 refine OW.nil ((congrArg K ?_).mpr hKE)
 · (first | rfl | (simp only [go_sem, simprocAttr, ha0, ha1]; done) | (simp only [go_sem, simprocAttr, ha0, ha1]; rfl))
 refine OW.run [3, 4, 7, 9, 10, 11, 12, 155] ?_
 (simp only [go_sem, simprocAttr, sw0, ha0])
 repeat (refine And.intro (by omega) ?_)
 refine OW.nil ((congrArg K ?_).mpr hKE)
 · (first | rfl | (simp only [go_sem, simprocAttr, ha0]; done) | (simp only [go_sem, simprocAttr, ha0]; rfl))
 clear hK K
 refine d5 rfl (fun h17 => ?_) (fun h17 => ?_)
 replace H := n3 h17 H
 refine b7 ?_
 refine c7 [6] ?_
 simp only [go_sem, simprocAttr, sw0]
 refine d7 (PW.Ends.intro (.inr rfl) ?_)
 simp only [go_sem, simprocAttr, sw0]
 obtain rfl := Option.some.inj H
 refine b8 4 (by exact trivial) ?_
 rfl
 replace H := l5 h17 H
 refine d8 ?_
 refine c7 [3, 4, 7, 9, 10, 11, 12] ?_
 simp only [go_sem, simprocAttr, sw0]
 refine hN12 [] (w64 (k + (1 : Int))) _ H (by exact trivial) ?_
 simp only [sw1, go_sem, simprocAttr]
 replace H := l5 h13 H
 refine o3 ?_
 refine hN8 [] () _ H (by exact trivial) ?_
 simp only [sw1, go_sem, simprocAttr]
 rintro _ H
 try simp only [go_sem, simprocAttr]
 refine c7 [3, 4, 7, 9] ?_
 simp only [go_sem, simprocAttr, sw0]
 refine hN6 [] (w64 (i + (1 : Int))) _ H (by exact trivial) ?_
 simp only [sw1, go_sem, simprocAttr]
 replace H := l5 h7 H
 refine o3 ?_
 refine hN5 [] () _ H (by exact trivial) ?_
 simp only [sw1, go_sem, simprocAttr]
 rintro _ H
 try simp only [go_sem, simprocAttr]
 refine b7 ?_
 refine c7 [6] ?_
 simp only [go_sem, simprocAttr, sw0]
 refine d7 (PW.Ends.intro (.inr rfl) ?_)
 simp only [go_sem, simprocAttr, sw0]
 obtain rfl := Option.some.inj H
 refine b8 4 (by exact trivial) ?_
 rfl
end Go.Proofs.YtbndgoeahoadlaaGreatDoor
