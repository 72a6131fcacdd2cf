import Derived.Test.YtbndgoeahoadlaaGreatDoorAsK
import Derived.Test.YtbndgoeahoadlaaGreatDoorAsS3
import Derived.Test.YtbndgoeahoadlaaGreatDoorAsW1
import Derived.Test.YtbndgoeahoadlaaGreatDoorAsW2
import Derived.Test.YtbndgoeahoadlaaGreatDoorAsW3
import Derived.Test.YtbndgoeahoadlaaGreatDoorAsW4
import Derived.Test.YtbndgoeahoadlaaGreatDoorAsW8
import Derived.Test.YtbndgoeahoadlaaGreatDoorAsW11
set_option linter.all false
namespace Go.Proofs.YtbndgoeahoadlaaGreatDoor
open Go.PW Go.Sh

set_option maxRecDepth 20000
set_option maxHeartbeats 8000000
def zf0W12a := F1 (f := (fun (x : Int × Int × Int × Int × Int × Int × Int) => [(I x.1), (I x.2.1), (I x.2.2.1), (I x.2.2.2.1), (I x.2.2.2.2.1), (I x.2.2.2.2.2.1), (I x.2.2.2.2.2.2)])) (fun _ => rfl)
def zf1W12a := takeFlat (fun (x : Int × Int × Int × Int × Int × Int × Int) => [(I x.1), (I x.2.1), (I x.2.2.1), (I x.2.2.2.1), (I x.2.2.2.2.1), (I x.2.2.2.2.2.1), (I x.2.2.2.2.2.2)]) 7 (fun _ => rfl)
def zf2W12a := takeFlat1 (fun (x : Int × Int × Int × Int × Int × Int × Int) => [(I x.1), (I x.2.1), (I x.2.2.1), (I x.2.2.2.1), (I x.2.2.2.2.1), (I x.2.2.2.2.2.1), (I x.2.2.2.2.2.2)]) 7 (fun _ => rfl)
def zf3W12a := takeFlatS (fun (x : Int × Int × Int × Int × Int × Int × Int) => [(I x.1), (I x.2.1), (I x.2.2.1), (I x.2.2.2.1), (I x.2.2.2.2.1), (I x.2.2.2.2.2.1), (I x.2.2.2.2.2.2)]) 7 (fun _ => rfl)
def zf4W12a := allValFlat (fun (x : Int × Int × Int × Int × Int × Int × Int) => [(I x.1), (I x.2.1), (I x.2.2.1), (I x.2.2.2.1), (I x.2.2.2.2.1), (I x.2.2.2.2.2.1), (I x.2.2.2.2.2.2)]) (fun _ => rfl)
def j8 := m8 7 (fun (x : Int × Int × Int × Int × Int × Int × Int) => [(I x.1), (I x.2.1), (I x.2.2.1), (I x.2.2.2.1), (I x.2.2.2.2.1), (I x.2.2.2.2.2.1), (I x.2.2.2.2.2.2)]) (fun _ => rfl)
def zf6W12a := segFlatSnoc (fun (x : Int × Int × Int × Int × Int × Int × Int) => [(I x.1), (I x.2.1), (I x.2.2.1), (I x.2.2.2.1), (I x.2.2.2.2.1), (I x.2.2.2.2.2.1), (I x.2.2.2.2.2.2)]) 7 (fun _ => rfl)
def zf7W12a := subV_el 7 (fun (x : Int × Int × Int × Int × Int × Int × Int) => [(I x.1), (I x.2.1), (I x.2.2.1), (I x.2.2.2.1), (I x.2.2.2.2.1), (I x.2.2.2.2.2.1), (I x.2.2.2.2.2.2)]) (fun _ => rfl)
def zf8W12a := getD_elV0 7 (fun (x : Int × Int × Int × Int × Int × Int × Int) => [(I x.1), (I x.2.1), (I x.2.2.1), (I x.2.2.2.1), (I x.2.2.2.2.1), (I x.2.2.2.2.2.1), (I x.2.2.2.2.2.2)]) (fun _ => rfl)
def o3 := getD_elV 7 (fun (x : Int × Int × Int × Int × Int × Int × Int) => [(I x.1), (I x.2.1), (I x.2.2.1), (I x.2.2.2.1), (I x.2.2.2.2.1), (I x.2.2.2.2.2.1), (I x.2.2.2.2.2.2)]) (fun _ => rfl)
def s7 := setMany_el 7 (fun (x : Int × Int × Int × Int × Int × Int × Int) => [(I x.1), (I x.2.1), (I x.2.2.1), (I x.2.2.2.1), (I x.2.2.2.2.1), (I x.2.2.2.2.2.1), (I x.2.2.2.2.2.2)]) (fun _ => rfl)
def n3 := And.intro zf0W12a <| And.intro zf1W12a <| And.intro zf2W12a <| And.intro zf3W12a <| And.intro zf4W12a j8
def n2 (t : List (Int × Int × Int × Int × Int × Int × Int)) (k : Nat) (h : k < t.length) := And.intro (zf7W12a t k h) <| And.intro (zf8W12a t k h (by decide)) <| And.intro (o3 t k h 1 (by decide)) <| And.intro (o3 t k h 2 (by decide)) <| And.intro (o3 t k h 3 (by decide)) <| And.intro (o3 t k h 4 (by decide)) <| And.intro (o3 t k h 5 (by decide)) <| o3 t k h 6 (by decide)
theorem access_Apply_ok (N : Nat) (Z15 : Int) (Z11 : Int) (Z18 : Int) (Z17 : Int) (Z16 : Int) (Z10 : Int) (Z13 : Int) (Z1t : Int) (Z26 : List (Int × Int × Int × Int × Int × Int × Int)) (Zl : Int) (Zj : Int) (Zm : Int) (Zn : Int) (Zo : Int) (Zk : Int) (r : Int × (List (Int × Int × Int × Int × Int × Int × Int)) × Int) (H : access_Apply N Z15 Z11 Z18 Z17 Z16 Z10 Z13 Z1t Z26 Zl Zj Zm Zn Zo Zk = some r) : CallOK Tryz.prog 34 [(.agg [(I Z15), (I Z11), (I Z18), (I Z17), (I Z16), (I Z10), (I Z13)]), (.agg [(I Z1t), (.list Z26.length (Z26.flatMap (fun (x : Int × Int × Int × Int × Int × Int × Int) => [(I x.1), (I x.2.1), (I x.2.2.1), (I x.2.2.2.1), (I x.2.2.2.2.1), (I x.2.2.2.2.2.1), (I x.2.2.2.2.2.2)])))]), (.agg [(I Zl), (I Zj), (I Zm), (I Zn), (I Zo), (I Zk)])] (.d (.tup [(.agg [(I r.1), (.list r.2.1.length (r.2.1.flatMap (fun (x : Int × Int × Int × Int × Int × Int × Int) => [(I x.1), (I x.2.1), (I x.2.2.1), (I x.2.2.2.1), (I x.2.2.2.2.1), (I x.2.2.2.2.2.1), (I x.2.2.2.2.2.2)])))]), (I r.2.2)])) [] := by
 refine i7 Tryz.func34 rfl (by rw [Tryz.results34]) Tryz.ntmps34 Tryz.call34 ?_
 change PW _ _ _ _ _
 try simp only [go_sem, simprocAttr]
 unfold access_Apply at H
 refine b7 ?_
 refine c9 [3, 4, 5, 6] ?_
 simp only [go_sem, simprocAttr, sw0]
 refine b7 ?_
 refine d6 fun K hK => OW.run [5, 6, 8, 9] ?_
 simp only [go_sem, simprocAttr, sw0]
 refine k6 rfl rfl rfl (by first | exact rfl | ((simp only [go_sem, List.toList_toArray, simprocAttr]); exact rfl)) Tryz.func86 rfl (by rw [Tryz.results86]) Tryz.ntmps86 Tryz.call86 (by (simp only [go_sem, Nat.reduceLT])) ?_
 intro p G
 change PW _ _ _ _ _
 try simp only [go_sem, simprocAttr]
 refine b7 ?_
 refine c9 [2, 3] ?_
 simp only [go_sem, simprocAttr, sw0]
 refine b7 ?_
 refine b7 ?_
 obtain ⟨x1, e1, H⟩ := d4 H
 obtain ⟨x2, e2, H⟩ := d4 H
 obtain ⟨x3, e3, H⟩ := d4 H
 obtain ⟨x4, e4, H⟩ := d4 H
 refine j4 8 mixed (by kernel_rfl) fun K hK => ?_
 change FW _ _ _ _ _
 refine FW.run ?_
 simp only [go_sem, simprocAttr, sw0]
 refine o2 4 rfl rfl rfl (by first | exact rfl | ((simp only [go_sem, List.toList_toArray, simprocAttr]); exact rfl)) ?_ (access_CheckRules_ok N _ _ _ _ _ _ _ _ e1) ?_ ?_ ?_ ?_
 rfl
 · (refine d9 ?_; (simp only [go_sem, sw2, List.length_set, List.length_replicate, and_true, true_and, Nat.le_refl, simprocAttr]; done))
 exact .inl rfl
 (simp only [go_sem, Nat.reduceLT])
 refine FW.run ?_
 simp only [go_sem, simprocAttr, sw0]
 repeat (refine And.intro (by omega) ?_)
 refine o2 4 rfl rfl rfl (by first | exact rfl | ((simp only [go_sem, List.toList_toArray, simprocAttr]); exact rfl)) ?_ (access_tickErr_ok N _ _ e2) ?_ ?_ ?_ ?_
 rfl
 exact g8 rfl
 exact .inl rfl
 (simp only [go_sem, Nat.reduceLT])
 refine FW.run ?_
 simp only [go_sem, simprocAttr, sw0]
 repeat (refine And.intro (by omega) ?_)
 refine FW.nil ?_
 change OW _ _ _ _ _ _
 refine OW.run [2, 3, 6] ?_
 simp only [go_sem, simprocAttr, sw0]
 refine g9 4 rfl rfl rfl (by first | exact rfl | ((simp only [go_sem, List.toList_toArray, simprocAttr]); exact rfl)) ?_ (access_phonesErr_ok N _ _ e3) ?_ ?_ ?_ ?_
 rfl
 exact g8 rfl
 exact .inl rfl
 (simp only [go_sem, Nat.reduceLT])
 refine OW.run [2, 3, 6] ?_
 simp only [go_sem, simprocAttr, sw0]
 refine g9 4 rfl rfl rfl (by first | exact rfl | ((simp only [go_sem, List.toList_toArray, simprocAttr]); exact rfl)) ?_ (m7 N _ _ e4) ?_ ?_ ?_ ?_
 rfl
 · (refine d9 ?_; (simp only [go_sem, sw2, List.length_set, List.length_replicate, and_true, true_and, Nat.le_refl, simprocAttr]; simp only [seg, go_sem, sw2, List.length_set, List.length_replicate, and_true, true_and, Nat.le_refl, simprocAttr]; done))
 exact .inr ⟨rfl, rfl⟩
 (simp only [go_sem, Nat.reduceLT])
 refine OW.run [2, 3, 6] ?_
 simp only [go_sem, simprocAttr, sw0]
 refine OW.nil (hK _ ?_); clear hK K
 refine b7 ?_
 refine c9 [2, 3, 6, 22] ?_
 simp only [go_sem, simprocAttr, sw0]
 refine d5 rfl (fun h1 => ?_) (fun h1 => ?_)
 replace H := n6 h1 H
 refine b7 ?_
 refine c9 [4, 5] ?_
 simp only [go_sem, simprocAttr, sw0]
 refine d7 ?_
 refine ⟨.inr rfl, rfl, rfl, ?_⟩
 simp only [go_sem, simprocAttr, sw0]
 change OW _ _ _ _ _ _
 refine OW.run [5, 6, 8, 9] ?_
 simp only [go_sem, simprocAttr, sw0]
 refine OW.nil (hK _ ?_); clear hK K
 refine b7 ?_
 refine b7 ?_
 refine c9 [5, 6, 8, 9, 17] ?_
 simp only [go_sem, simprocAttr, sw0]
 refine d5 rfl (fun h2 => ?_) (fun h2 => ?_)
 refine b7 ?_
 refine c9 [6, 7] ?_
 simp only [go_sem, simprocAttr, sw0]
 refine d7 (PW.Ends.intro (.inr rfl) ?_)
 simp only [go_sem, simprocAttr, sw0]
 obtain rfl := Option.some.inj H
 refine b8 4 (by (refine d9 ?_; (simp only [go_sem, sw2, List.length_set, List.length_replicate, and_true, true_and, Nat.le_refl, simprocAttr]; done))) ?_
 rfl
 exact absurd (h2.symm.trans h1) (by decide)
 replace H := l7 h1 H
 refine d8 ?_
 refine b7 ?_
 obtain ⟨x5, e5, H⟩ := d4 H
 refine D6 6 [5] [71] mixed (by kernel_rfl) (by decide) rfl fun K hK => ?_
 refine FWO.run ?_
 simp only [go_sem, simprocAttr, sw0]
 repeat (refine And.intro (by omega) ?_)
 refine FWO.callO 4 rfl ?_ (by exact Nat.le_refl _) rfl rfl rfl (by first | exact rfl | ((simp only [go_sem, List.toList_toArray, simprocAttr]); exact rfl)) ?_ (G4 N _ _ e5) ?_ ?_ ?_ ?_
 rfl
 rfl
 exact g8 rfl
 exact .inl rfl
 (simp only [go_sem, Nat.reduceLT])
 refine FWO.run ?_
 simp only [go_sem, simprocAttr, sw0]
 repeat (refine And.intro (by rfl) ?_)
 first | refine FWO.nil ?_ | skip
 change OW _ _ _ _ _ _
 refine OW.run [7] ?_
 simp only [go_sem, simprocAttr, sw0]
 refine OW.nil (hK _ ?_); clear hK K
 refine k5 (τ := Unit) [7] 9 (fun _ => []) (fun _ => [{ cells := [.d (I Z15), .d (I Z11), .d (I Z18), .d (I Z17), .d (I Z16), .d (I Z10), .d (I Z13)], e := 23 }, { cells := [.d (I Z1t), .d (.list Z26.length (Z26.flatMap (fun (x : Int × Int × Int × Int × Int × Int × Int) => [(I x.1), (I x.2.1), (I x.2.2.1), (I x.2.2.2.1), (I x.2.2.2.2.1), (I x.2.2.2.2.2.1), (I x.2.2.2.2.2.2)])))], e := 30 }, { cells := [.d (I Zl), .d (I Zj), .d (I Zm), .d (I Zn), .d (I Zo), .d (I Zk)], e := 48 }, { cells := [.d (I (0 : Int)), .d (.val (.slice none 0 0))], e := 30 }, { cells := [.d (I Z15), .d (I Z11), .d (I Z18), .d (I Z17), .d (I Z16), .d (I Z10), .d (I Z13)], e := 23 }, { cells := [.d (I Z1t), .d (.list Z26.length (Z26.flatMap (fun (x : Int × Int × Int × Int × Int × Int × Int) => [(I x.1), (I x.2.1), (I x.2.2.1), (I x.2.2.2.1), (I x.2.2.2.2.1), (I x.2.2.2.2.2.1), (I x.2.2.2.2.2.2)])))], e := 30 }, { cells := [.d (I x1), .d (I x2), .d (I x3)], e := 26 }, { cells := (x5.flatMap (fun (x : Int × Int × Int × Int × Int × Int × Int) => [(I x.1), (I x.2.1), (I x.2.2.1), (I x.2.2.2.1), (I x.2.2.2.2.1), (I x.2.2.2.2.2.1), (I x.2.2.2.2.2.2)])).map .d, e := 71 }, { cells := [.d (I Z15), .d (I Z11), .d (I Z18), .d (I Z17), .d (I Z16), .d (I Z10), .d (I Z13), .d (I Z1t), .own 7 0 x5.length 7], e := 142 }]) _ _ r (by (simp only [go_sem]; omega)) H ?_ ?_
 intro K_ H N3 hN3
 refine b7 ?_
 refine c9 [7, 36, 37] ?_
 simp only [go_sem, simprocAttr, sw0]
 repeat (refine And.intro (by omega) ?_)
 refine PW.block ?_
 refine C7 (σ := Int) [7, 36, 37] 9 (fun t37 => [(37, .d (I t37))]) (fun t37 => [{ cells := [.d (I Z15), .d (I Z11), .d (I Z18), .d (I Z17), .d (I Z16), .d (I Z10), .d (I Z13)], e := 23 }, { cells := [.d (I Z1t), .d (.list Z26.length (Z26.flatMap (fun (x : Int × Int × Int × Int × Int × Int × Int) => [(I x.1), (I x.2.1), (I x.2.2.1), (I x.2.2.2.1), (I x.2.2.2.2.1), (I x.2.2.2.2.2.1), (I x.2.2.2.2.2.2)])))], e := 30 }, { cells := [.d (I Zl), .d (I Zj), .d (I Zm), .d (I Zn), .d (I Zo), .d (I Zk)], e := 48 }, { cells := [.d (I (0 : Int)), .d (.val (.slice none 0 0))], e := 30 }, { cells := [.d (I Z15), .d (I Z11), .d (I Z18), .d (I Z17), .d (I Z16), .d (I Z10), .d (I Z13)], e := 23 }, { cells := [.d (I Z1t), .d (.list Z26.length (Z26.flatMap (fun (x : Int × Int × Int × Int × Int × Int × Int) => [(I x.1), (I x.2.1), (I x.2.2.1), (I x.2.2.2.1), (I x.2.2.2.2.1), (I x.2.2.2.2.2.1), (I x.2.2.2.2.2.2)])))], e := 30 }, { cells := [.d (I x1), .d (I x2), .d (I x3)], e := 26 }, { cells := (x5.flatMap (fun (x : Int × Int × Int × Int × Int × Int × Int) => [(I x.1), (I x.2.1), (I x.2.2.1), (I x.2.2.2.1), (I x.2.2.2.2.1), (I x.2.2.2.2.2.1), (I x.2.2.2.2.2.2)])).map .d, e := 71 }, { cells := [.d (I Z15), .d (I Z11), .d (I Z18), .d (I Z17), .d (I Z16), .d (I Z10), .d (I Z13), .d (I Z1t), .own 7 0 x5.length 7], e := 142 }]) (D2 N Z15 Z11 Z18 Z17 Z16 Z10 Z13 Z1t x5 K_) r N (0 : Int) (by (simp only [go_sem]; omega)) H (by (simp only [sw1, go_sem, simprocAttr]; done)) ?_
 rintro n t37 H N4 hN4
 unfold D2 at H
 try simp only [go_sem, simprocAttr]
 refine b7 ?_
 refine c9 [7, 36, 37, 38] ?_
 simp only [go_sem, simprocAttr, sw0]
 refine b7 ?_
 refine d5 rfl (fun h5 => ?_) (fun h5 => ?_)
 replace H := n6 h5 H
 refine d8 ?_
 refine b7 ?_
 refine PW.block ?_
 refine b7 ?_
 refine c9 [7, 8, 36, 37] ?_
 simp only [go_sem, simprocAttr, sw0]
 refine b7 ?_
 obtain ⟨x6, e6, H⟩ := d4 H
 refine d6 fun K hK => OW.run [7, 9, 36, 37] ?_
 simp only [go_sem, simprocAttr, sw0]
 refine g9 4 rfl rfl rfl (by first | exact rfl | ((simp only [go_sem, List.toList_toArray, simprocAttr]); exact rfl)) ?_ (access_site_phoneErr_ok N _ _ _ _ _ _ _ _ _ _ _ e6) ?_ ?_ ?_ ?_
 · first | rfl | (simp only [go_sem, sw1, simprocAttr, j3, n3]; first | done | rfl | exact zf6W12a _ _ _ rfl | (simp only [seg, asD, go_sem, sw1, simprocAttr, j3, n3]; first | done | rfl | exact zf6W12a _ _ _ rfl))
 · (first | exact trivial | exact g8 rfl | (refine d9 ?_; simp only [go_sem, sw2, List.length_set, List.length_replicate, and_true, true_and, Nat.le_refl, simprocAttr, j3, n3]; done) | (refine d9 ?_; simp only [go_sem, sw2, List.length_set, List.length_replicate, and_true, true_and, Nat.le_refl, simprocAttr, j3, n3]; omega))
 · first | (exact .inr ⟨rfl, rfl⟩; done) | (simp only [cleanV, go_sem, j3, n3]; done) | (left; (simp only [go_sem, simprocAttr, sw0, j3, n3]); done) | (right; (simp only [go_sem, simprocAttr, sw0, j3, n3]); done)
 (simp only [go_sem, Nat.reduceLT])
 refine OW.run [7, 9, 36, 37] ?_
 simp only [go_sem, simprocAttr, sw0]
 refine OW.nil (hK _ ?_); clear hK K
 refine b7 ?_
 refine c9 [7, 9, 36, 37, 44] ?_
 simp only [go_sem, simprocAttr, sw0]
 refine d5 rfl (fun h6 => ?_) (fun h6 => ?_)
 replace H := n6 h6 H
 refine b7 ?_
 refine c9 [4, 5] ?_
 simp only [go_sem, simprocAttr, sw0]
 refine d7 ?_
 refine ⟨.inr rfl, rfl, rfl, ?_⟩
 simp only [go_sem, simprocAttr, sw0]
 change OW _ _ _ _ _ _
 refine OW.run [5, 6, 8, 9] ?_
 simp only [go_sem, simprocAttr, sw0]
 refine OW.nil (hK _ ?_); clear hK K
 refine b7 ?_
 refine b7 ?_
 refine c9 [5, 6, 8, 9, 17] ?_
 simp only [go_sem, simprocAttr, sw0]
 refine d5 rfl (fun h7 => ?_) (fun h7 => ?_)
 refine b7 ?_
 refine c9 [6, 7] ?_
 simp only [go_sem, simprocAttr, sw0]
 refine d7 (PW.Ends.intro (.inr rfl) ?_)
 simp only [go_sem, simprocAttr, sw0]
 obtain rfl := Option.some.inj H
 refine b8 4 (by (refine d9 ?_; (simp only [go_sem, sw2, List.length_set, List.length_replicate, and_true, true_and, Nat.le_refl, simprocAttr]; done))) ?_
 rfl
 exact absurd (h7.symm.trans h6) (by decide)
 replace H := l7 h6 H
 refine d8 ?_
 refine c9 [7, 36, 37] ?_
 simp only [go_sem, simprocAttr, sw0]
 refine hN4 [] (w64 (t37 + (1 : Int))) _ H (by exact trivial) ?_
 simp only [sw1, go_sem, simprocAttr]
 replace H := l7 h5 H
 refine o6 ?_
 refine hN3 [] () _ H (by exact trivial) ?_
 simp only [sw1, go_sem, simprocAttr]
 rintro _ H
 try simp only [go_sem, simprocAttr]
 refine b7 ?_
 refine c9 [4, 5] ?_
 simp only [go_sem, simprocAttr, sw0]
 refine d7 ?_
 refine ⟨.inr rfl, rfl, rfl, ?_⟩
 simp only [go_sem, simprocAttr, sw0]
 change OW _ _ _ _ _ _
 refine OW.run [5, 6, 8, 9] ?_
 simp only [go_sem, simprocAttr, sw0]
 refine OW.nil (hK _ ?_); clear hK K
 refine b7 ?_
 refine b7 ?_
 refine c9 [5, 6, 8, 9, 17] ?_
 simp only [go_sem, simprocAttr, sw0]
 refine d5 rfl (fun h8 => ?_) (fun h8 => ?_)
 exact absurd h8 (by decide)
 refine d8 ?_
 refine b7 ?_
 refine b7 ?_
 refine d6 fun K hK => OW.run [6, 8, 9] ?_
 simp only [go_sem, simprocAttr, sw0]
 refine k6 rfl rfl rfl (by first | exact rfl | ((simp only [go_sem, List.toList_toArray, simprocAttr]); exact rfl)) Tryz.func84 rfl (by rw [Tryz.results84]) Tryz.ntmps84 Tryz.call84 (by (simp only [go_sem, Nat.reduceLT])) ?_
 intro p G
 change PW _ _ _ _ _
 try simp only [go_sem, simprocAttr]
 refine b7 ?_
 refine c9 [0, 3] ?_
 simp only [go_sem, simprocAttr, sw0]
 refine b7 ?_
 refine b7 ?_
 obtain ⟨x7, e7, H⟩ := d4 H
 obtain ⟨x8, e8, H⟩ := d4 H
 obtain ⟨x9, e9, H⟩ := d4 H
 refine j4 18 mixed (by kernel_rfl) fun K hK => ?_
 change FW _ _ _ _ _
 refine FW.run ?_
 simp only [go_sem, simprocAttr, sw0]
 repeat (refine And.intro (by omega) ?_)
 refine o2 4 rfl rfl rfl (by first | exact rfl | ((simp only [go_sem, List.toList_toArray, simprocAttr]); exact rfl)) ?_ (access_eventErr_ok N _ _ _ _ _ _ _ _ _ _ _ _ _ _ _ e7) ?_ ?_ ?_ ?_
 rfl
 · (refine d9 ?_; (simp only [go_sem, sw2, List.length_set, List.length_replicate, and_true, true_and, Nat.le_refl, simprocAttr]; done))
 exact .inl rfl
 (simp only [go_sem, Nat.reduceLT])
 refine FW.run ?_
 simp only [go_sem, simprocAttr, sw0]
 repeat (refine And.intro (by omega) ?_)
 refine FW.nil ?_
 change OW _ _ _ _ _ _
 refine OW.run [0, 3, 6] ?_
 simp only [go_sem, simprocAttr, sw0]
 refine g9 4 rfl rfl rfl (by first | exact rfl | ((simp only [go_sem, List.toList_toArray, simprocAttr]); exact rfl)) ?_ (i6 N _ _ _ e8) ?_ ?_ ?_ ?_
 rfl
 exact g8 rfl
 exact .inl rfl
 (simp only [go_sem, Nat.reduceLT])
 refine OW.run [0, 3, 6] ?_
 simp only [go_sem, simprocAttr, sw0]
 refine g9 4 rfl rfl rfl (by first | exact rfl | ((simp only [go_sem, List.toList_toArray, simprocAttr]); exact rfl)) ?_ (m7 N _ _ e9) ?_ ?_ ?_ ?_
 rfl
 · (refine d9 ?_; (simp only [go_sem, sw2, List.length_set, List.length_replicate, and_true, true_and, Nat.le_refl, simprocAttr]; simp only [seg, go_sem, sw2, List.length_set, List.length_replicate, and_true, true_and, Nat.le_refl, simprocAttr]; done))
 exact .inr ⟨rfl, rfl⟩
 (simp only [go_sem, Nat.reduceLT])
 refine OW.run [0, 3, 6] ?_
 simp only [go_sem, simprocAttr, sw0]
 refine OW.nil (hK _ ?_); clear hK K
 refine b7 ?_
 refine c9 [0, 3, 6, 31] ?_
 simp only [go_sem, simprocAttr, sw0]
 refine d5 rfl (fun h9 => ?_) (fun h9 => ?_)
 replace H := n6 h9 H
 refine b7 ?_
 refine c9 [4, 5] ?_
 simp only [go_sem, simprocAttr, sw0]
 refine d7 ?_
 refine ⟨.inr rfl, rfl, rfl, ?_⟩
 simp only [go_sem, simprocAttr, sw0]
 change OW _ _ _ _ _ _
 refine OW.run [6, 8, 9] ?_
 simp only [go_sem, simprocAttr, sw0]
 refine OW.nil (hK _ ?_); clear hK K
 refine b7 ?_
 refine c9 [6, 8, 9, 27] ?_
 simp only [go_sem, simprocAttr, sw0]
 refine d5 rfl (fun h10 => ?_) (fun h10 => ?_)
 refine b7 ?_
 refine c9 [6, 7] ?_
 simp only [go_sem, simprocAttr, sw0]
 refine d7 (PW.Ends.intro (.inr rfl) ?_)
 simp only [go_sem, simprocAttr, sw0]
 obtain rfl := Option.some.inj H
 refine b8 4 (by (refine d9 ?_; (simp only [go_sem, sw2, List.length_set, List.length_replicate, and_true, true_and, Nat.le_refl, simprocAttr]; done))) ?_
 rfl
 exact absurd (h10.symm.trans h9) (by decide)
 replace H := l7 h9 H
 refine d8 ?_
 refine b7 ?_
 obtain ⟨x10, e10, H⟩ := d4 H
 refine D6 13 [12] [71] mixed (by kernel_rfl) (by decide) rfl fun K hK => ?_
 refine FWO.run ?_
 simp only [go_sem, simprocAttr, sw0]
 repeat (refine And.intro (by omega) ?_)
 refine FWO.callO 4 rfl ?_ (by exact Nat.le_refl _) rfl rfl rfl (by first | exact rfl | ((simp only [go_sem, List.toList_toArray, simprocAttr]); exact rfl)) ?_ (G4 N _ _ e10) ?_ ?_ ?_ ?_
 rfl
 · first | rfl | (simp only [go_sem, sw1, simprocAttr, j3, n3]; first | done | rfl | exact zf6W12a _ _ _ rfl | (simp only [seg, asD, go_sem, sw1, simprocAttr, j3, n3]; first | done | rfl | exact zf6W12a _ _ _ rfl))
 · (first | exact trivial | exact g8 rfl | (refine d9 ?_; simp only [go_sem, sw2, List.length_set, List.length_replicate, and_true, true_and, Nat.le_refl, simprocAttr, j3, n3]; done) | (refine d9 ?_; simp only [go_sem, sw2, List.length_set, List.length_replicate, and_true, true_and, Nat.le_refl, simprocAttr, j3, n3]; omega))
 first | exact .inr ⟨rfl, by simp only [List.all_cons, List.all_nil, j3, n3, Bool.and_self, Bool.and_true]⟩ | (first | exact .inl rfl | exact .inr ⟨rfl, rfl⟩ | exact .inr ⟨rfl, by simp only [List.all_cons, List.all_nil, all_isValD_I, Bool.and_self]⟩)
 (simp only [go_sem, Nat.reduceLT])
 refine FWO.run ?_
 simp only [go_sem, simprocAttr, sw0]
 repeat (refine And.intro (by rfl) ?_)
 first | refine FWO.nil ?_ | skip
 change OW _ _ _ _ _ _
 refine OW.run [3, 7] ?_
 simp only [go_sem, simprocAttr, sw0]
 refine OW.nil (hK _ ?_); clear hK K
 refine b7 ?_
 refine d6 fun K hK => OW.run [3, 7] ?_
 simp only [go_sem, simprocAttr, sw0]
 repeat (refine And.intro (by omega) ?_)
 refine k6 rfl rfl rfl (by first | exact rfl | ((simp only [go_sem, List.toList_toArray, simprocAttr]); exact rfl)) Tryz.func121 rfl (by rw [Tryz.results121]) Tryz.ntmps121 Tryz.call121 (by (simp only [go_sem, Nat.reduceLT])) ?_
 intro p G
 change PW _ _ _ _ _
 try simp only [go_sem, simprocAttr]
 refine k5 (τ := (List (Int × Int × Int × Int × Int × Int × Int))) [0, 1] 13 (fun b11 => []) (fun b11 => [{ cells := [.d (I Z15), .d (I Z11), .d (I Z18), .d (I Z17), .d (I Z16), .d (I Z10), .d (I Z13)], e := 23 }, { cells := [.d (I Z1t), .d (.list Z26.length (Z26.flatMap (fun (x : Int × Int × Int × Int × Int × Int × Int) => [(I x.1), (I x.2.1), (I x.2.2.1), (I x.2.2.2.1), (I x.2.2.2.2.1), (I x.2.2.2.2.2.1), (I x.2.2.2.2.2.2)])))], e := 30 }, { cells := [.d (I Zl), .d (I Zj), .d (I Zm), .d (I Zn), .d (I Zo), .d (I Zk)], e := 48 }, { cells := [.d (I (0 : Int)), .d (.val (.slice none 0 0))], e := 30 }, { cells := [.d (I Z15), .d (I Z11), .d (I Z18), .d (I Z17), .d (I Z16), .d (I Z10), .d (I Z13)], e := 23 }, { cells := [.d (I Z1t), .d (.list Z26.length (Z26.flatMap (fun (x : Int × Int × Int × Int × Int × Int × Int) => [(I x.1), (I x.2.1), (I x.2.2.1), (I x.2.2.2.1), (I x.2.2.2.2.1), (I x.2.2.2.2.2.1), (I x.2.2.2.2.2.2)])))], e := 30 }, { cells := [.d (I x1), .d (I x2), .d (I x3)], e := 26 }, { cells := (x5.flatMap (fun (x : Int × Int × Int × Int × Int × Int × Int) => [(I x.1), (I x.2.1), (I x.2.2.1), (I x.2.2.2.1), (I x.2.2.2.2.1), (I x.2.2.2.2.2.1), (I x.2.2.2.2.2.2)])).map .d, e := 71 }, { cells := [.d (I Z15), .d (I Z11), .d (I Z18), .d (I Z17), .d (I Z16), .d (I Z10), .d (I Z13), .d (I Z1t), .own 7 0 x5.length 7], e := 142 }, { cells := [.d (I Zl), .d (I Zj), .d (I Zm), .d (I Zn), .d (I Zo), .d (I Zk)], e := 48 }, { cells := [.d (I x7), .d (I x8)], e := 26 }, { cells := (b11.flatMap (fun (x : Int × Int × Int × Int × Int × Int × Int) => [(I x.1), (I x.2.1), (I x.2.2.1), (I x.2.2.2.1), (I x.2.2.2.2.1), (I x.2.2.2.2.2.1), (I x.2.2.2.2.2.2)])).map .d, e := 71 }, { cells := [.d (I Z15), .d (I Z11), .d (I Z18), .d (I Z17), .d (I Z16), .d (I Z10), .d (I Z13), .d (I Z1t), .own 11 0 b11.length 7], e := 142 }]) _ _ r (by exact Nat.le_refl _) H ?_ ?_
 intro K_1 H N11 hN11
 refine b7 ?_
 refine c9 [0, 1, 10, 11] ?_
 simp only [go_sem, simprocAttr, sw0]
 repeat (refine And.intro (by omega) ?_)
 refine PW.block ?_
 refine C7 (σ := Int × (List (Int × Int × Int × Int × Int × Int × Int))) [0, 1, 10, 11] 13 (fun (t11, b111) => [(11, .d (I t11))]) (fun (t11, b111) => [{ cells := [.d (I Z15), .d (I Z11), .d (I Z18), .d (I Z17), .d (I Z16), .d (I Z10), .d (I Z13)], e := 23 }, { cells := [.d (I Z1t), .d (.list Z26.length (Z26.flatMap (fun (x : Int × Int × Int × Int × Int × Int × Int) => [(I x.1), (I x.2.1), (I x.2.2.1), (I x.2.2.2.1), (I x.2.2.2.2.1), (I x.2.2.2.2.2.1), (I x.2.2.2.2.2.2)])))], e := 30 }, { cells := [.d (I Zl), .d (I Zj), .d (I Zm), .d (I Zn), .d (I Zo), .d (I Zk)], e := 48 }, { cells := [.d (I (0 : Int)), .d (.val (.slice none 0 0))], e := 30 }, { cells := [.d (I Z15), .d (I Z11), .d (I Z18), .d (I Z17), .d (I Z16), .d (I Z10), .d (I Z13)], e := 23 }, { cells := [.d (I Z1t), .d (.list Z26.length (Z26.flatMap (fun (x : Int × Int × Int × Int × Int × Int × Int) => [(I x.1), (I x.2.1), (I x.2.2.1), (I x.2.2.2.1), (I x.2.2.2.2.1), (I x.2.2.2.2.2.1), (I x.2.2.2.2.2.2)])))], e := 30 }, { cells := [.d (I x1), .d (I x2), .d (I x3)], e := 26 }, { cells := (x5.flatMap (fun (x : Int × Int × Int × Int × Int × Int × Int) => [(I x.1), (I x.2.1), (I x.2.2.1), (I x.2.2.2.1), (I x.2.2.2.2.1), (I x.2.2.2.2.2.1), (I x.2.2.2.2.2.2)])).map .d, e := 71 }, { cells := [.d (I Z15), .d (I Z11), .d (I Z18), .d (I Z17), .d (I Z16), .d (I Z10), .d (I Z13), .d (I Z1t), .own 7 0 x5.length 7], e := 142 }, { cells := [.d (I Zl), .d (I Zj), .d (I Zm), .d (I Zn), .d (I Zo), .d (I Zk)], e := 48 }, { cells := [.d (I x7), .d (I x8)], e := 26 }, { cells := (b111.flatMap (fun (x : Int × Int × Int × Int × Int × Int × Int) => [(I x.1), (I x.2.1), (I x.2.2.1), (I x.2.2.2.1), (I x.2.2.2.2.1), (I x.2.2.2.2.2.1), (I x.2.2.2.2.2.2)])).map .d, e := 71 }, { cells := [.d (I Z15), .d (I Z11), .d (I Z18), .d (I Z17), .d (I Z16), .d (I Z10), .d (I Z13), .d (I Z1t), .own 11 0 b111.length 7], e := 142 }]) (B2 N Z16 Z10 Zj x10 K_1) r N ((0 : Int), x10) (by exact Nat.le_refl _) H (by (simp only [sw1, go_sem, simprocAttr]; done)) ?_
 rintro n ⟨t11, b111⟩ H N12 hN12
 unfold B2 at H
 try simp only [go_sem, simprocAttr]
 refine b7 ?_
 refine c9 [0, 1, 10, 11, 12] ?_
 simp only [go_sem, simprocAttr, sw0]
 refine b7 ?_
 refine d5 rfl (fun h13 => ?_) (fun h13 => ?_)
 replace H := n6 h13 H
 refine d8 ?_
 refine b7 ?_
 refine PW.block ?_
 refine b7 ?_
 refine c9 [0, 1, 4, 10, 11] ?_
 simp only [go_sem, simprocAttr, sw0]
 refine b7 ?_
 obtain ⟨c14, H⟩ := j6 H
 refine c9 [0, 1, 5, 10, 11] ?_
 (simp only [go_sem, simprocAttr, sw0, j8, n2 b111 t11.toNat (by omega)])
 repeat (refine And.intro (by omega) ?_)
 refine b7 ?_
 refine c9 [0, 1, 5, 10, 11, 39] ?_
 (simp only [go_sem, simprocAttr, sw0, j8, n2 b111 t11.toNat (by omega)])
 repeat (refine And.intro (by omega) ?_)
 refine d5 rfl (fun h15 => ?_) (fun h15 => ?_)
 replace H := n6 h15 H
 refine d6 fun K hK => OW.run [0, 1, 10, 11] ?_
 (simp only [go_sem, simprocAttr, sw0, j8, n2 b111 t11.toNat (by omega)])
 repeat (refine And.intro (by omega) ?_)
 refine k6 rfl rfl rfl (by first | exact rfl | ((simp only [go_sem, List.toList_toArray, simprocAttr]); exact rfl)) Tryz.func146 rfl (by rw [Tryz.results146]) Tryz.ntmps146 Tryz.call146 (by (simp only [go_sem, Nat.reduceLT])) ?_
 intro p G
 change PW _ _ _ _ _
 try simp only [go_sem, simprocAttr]
 refine b7 ?_
 refine c9 [0, 1, 2, 6] ?_
 (simp only [go_sem, simprocAttr, sw0, j8, n2 b111 t11.toNat (by omega)])
 repeat (refine And.intro (by omega) ?_)
 refine b7 ?_
 obtain ⟨⟨x11, x111, x112, x113, x114, x115, x116⟩, e11, H⟩ := d4 H
 refine d6 fun K hK => OW.run [0, 1, 2, 6] ?_
 (simp only [go_sem, simprocAttr, sw0, j8, n2 b111 t11.toNat (by omega), show (List.set (List.set (List.set (List.set (List.set (List.set (List.set ((b111.flatMap (fun (x : Int × Int × Int × Int × Int × Int × Int) => [(I x.1), (I x.2.1), (I x.2.2.1), (I x.2.2.2.1), (I x.2.2.2.2.1), (I x.2.2.2.2.2.1), (I x.2.2.2.2.2.2)])).map V.d) (t11.toNat * 7) (.d (I x11))) (t11.toNat * 7 + 1) (.d (I x111))) (t11.toNat * 7 + 1 + 1) (.d (I x112))) (t11.toNat * 7 + 1 + 1 + 1) (.d (I x113))) (t11.toNat * 7 + 1 + 1 + 1 + 1) (.d (I x114))) (t11.toNat * 7 + 1 + 1 + 1 + 1 + 1) (.d (I x115))) (t11.toNat * 7 + 1 + 1 + 1 + 1 + 1 + 1) (.d (I x116))) = (((b111).set t11.toNat (x11, x111, x112, x113, x114, x115, x116)).flatMap (fun (x : Int × Int × Int × Int × Int × Int × Int) => [(I x.1), (I x.2.1), (I x.2.2.1), (I x.2.2.2.1), (I x.2.2.2.2.1), (I x.2.2.2.2.2.1), (I x.2.2.2.2.2.2)])).map V.d from s7 b111 t11.toNat (by omega) (x11, x111, x112, x113, x114, x115, x116) 0 [(I x11), (I x111), (I x112), (I x113), (I x114), (I x115), (I x116)] (Nat.le_of_ble_eq_true rfl) rfl, l3])
 repeat (refine And.intro (by omega) ?_)
 refine g9 4 rfl rfl rfl (by first | exact rfl | ((simp only [go_sem, List.toList_toArray, simprocAttr]); exact rfl)) ?_ (access_idle_ok N _ _ e11) ?_ ?_ ?_ ?_
 rfl
 exact g8 rfl
 exact .inl rfl
 (simp only [go_sem, Nat.reduceLT])
 refine OW.run [0, 1, 2, 6] ?_
 (simp only [go_sem, simprocAttr, sw0, j8, n2 b111 t11.toNat (by omega), show (List.set (List.set (List.set (List.set (List.set (List.set (List.set ((b111.flatMap (fun (x : Int × Int × Int × Int × Int × Int × Int) => [(I x.1), (I x.2.1), (I x.2.2.1), (I x.2.2.2.1), (I x.2.2.2.2.1), (I x.2.2.2.2.2.1), (I x.2.2.2.2.2.2)])).map V.d) (t11.toNat * 7) (.d (I x11))) (t11.toNat * 7 + 1) (.d (I x111))) (t11.toNat * 7 + 1 + 1) (.d (I x112))) (t11.toNat * 7 + 1 + 1 + 1) (.d (I x113))) (t11.toNat * 7 + 1 + 1 + 1 + 1) (.d (I x114))) (t11.toNat * 7 + 1 + 1 + 1 + 1 + 1) (.d (I x115))) (t11.toNat * 7 + 1 + 1 + 1 + 1 + 1 + 1) (.d (I x116))) = (((b111).set t11.toNat (x11, x111, x112, x113, x114, x115, x116)).flatMap (fun (x : Int × Int × Int × Int × Int × Int × Int) => [(I x.1), (I x.2.1), (I x.2.2.1), (I x.2.2.2.1), (I x.2.2.2.2.1), (I x.2.2.2.2.2.1), (I x.2.2.2.2.2.2)])).map V.d from s7 b111 t11.toNat (by omega) (x11, x111, x112, x113, x114, x115, x116) 0 [(I x11), (I x111), (I x112), (I x113), (I x114), (I x115), (I x116)] (Nat.le_of_ble_eq_true rfl) rfl, l3])
 repeat (refine And.intro (by omega) ?_)
 refine OW.nil (hK _ ?_); clear hK K
 refine b7 ?_
 refine c9 [0, 1, 2, 6] ?_
 (simp only [go_sem, simprocAttr, sw0, j8, show (List.set (((b111.set t11.toNat (x11, x111, x112, x113, x114, x115, x116)).flatMap (fun (x : Int × Int × Int × Int × Int × Int × Int) => [(I x.1), (I x.2.1), (I x.2.2.1), (I x.2.2.2.1), (I x.2.2.2.2.1), (I x.2.2.2.2.2.1), (I x.2.2.2.2.2.2)])).map V.d) (t11.toNat * 7 + 5) (.d (I ((b111.getD t11.toNat default).2.2.2.2.2.1)))) = (((b111).set t11.toNat (x11, x111, x112, x113, x114, (b111.getD t11.toNat default).2.2.2.2.2.1, x116)).flatMap (fun (x : Int × Int × Int × Int × Int × Int × Int) => [(I x.1), (I x.2.1), (I x.2.2.1), (I x.2.2.2.1), (I x.2.2.2.2.1), (I x.2.2.2.2.2.1), (I x.2.2.2.2.2.2)])).map V.d from (s7 (b111.set t11.toNat (x11, x111, x112, x113, x114, x115, x116)) t11.toNat (by rw [List.length_set]; omega) (x11, x111, x112, x113, x114, (b111.getD t11.toNat default).2.2.2.2.2.1, x116) 5 [(I ((b111.getD t11.toNat default).2.2.2.2.2.1))] (Nat.le_of_ble_eq_true rfl) (by rw [p6 _ _ _ _ (by omega)]; rfl)).trans (by rw [List.set_set]), l3])
 repeat (refine And.intro (by omega) ?_)
 refine b7 ?_
 refine b7 ?_
 refine c9 [0, 1, 2, 28] ?_
 simp only [go_sem, simprocAttr, sw0]
 repeat (refine And.intro (by omega) ?_)
 refine d5 rfl (fun h16 => ?_) (fun h16 => ?_)
 replace H := n6 h16 H
 refine b7 ?_
 refine c9 [] ?_
 (simp only [go_sem, simprocAttr, sw0, j8, show (List.set (((b111.set t11.toNat (x11, x111, x112, x113, x114, (b111.getD t11.toNat default).2.2.2.2.2.1, x116)).flatMap (fun (x : Int × Int × Int × Int × Int × Int × Int) => [(I x.1), (I x.2.1), (I x.2.2.1), (I x.2.2.2.1), (I x.2.2.2.2.1), (I x.2.2.2.2.2.1), (I x.2.2.2.2.2.2)])).map V.d) (t11.toNat * 7) (.d (I (5 : Int)))) = (((b111).set t11.toNat ((5 : Int), x111, x112, x113, x114, (b111.getD t11.toNat default).2.2.2.2.2.1, x116)).flatMap (fun (x : Int × Int × Int × Int × Int × Int × Int) => [(I x.1), (I x.2.1), (I x.2.2.1), (I x.2.2.2.1), (I x.2.2.2.2.1), (I x.2.2.2.2.2.1), (I x.2.2.2.2.2.2)])).map V.d from (s7 (b111.set t11.toNat (x11, x111, x112, x113, x114, (b111.getD t11.toNat default).2.2.2.2.2.1, x116)) t11.toNat (by rw [List.length_set]; omega) ((5 : Int), x111, x112, x113, x114, (b111.getD t11.toNat default).2.2.2.2.2.1, x116) 0 [(I (5 : Int))] (Nat.le_of_ble_eq_true rfl) (by rw [p6 _ _ _ _ (by omega)]; rfl)).trans (by rw [List.set_set]), l3])
 repeat (refine And.intro (by omega) ?_)
 refine d7 ?_
 refine ⟨.inr rfl, rfl, rfl, ?_⟩
 simp only [go_sem, simprocAttr, sw0]
 change OW _ _ _ _ _ _
 refine OW.run [0, 1, 10, 11] ?_
 simp only [go_sem, simprocAttr, sw0]
 refine OW.nil (hK _ ?_); clear hK K
 refine c9 [0, 1, 10, 11] ?_
 simp only [go_sem, simprocAttr, sw0]
 refine hN12 [] (w64 (t11 + (1 : Int)), (b111.set t11.toNat ((5 : Int), x111, x112, x113, x114, (b111.getD t11.toNat default).2.2.2.2.2.1, x116))) _ H (by exact trivial) ?_
 simp only [sw1, go_sem, simprocAttr]
 replace H := l7 h16 H
 refine d8 ?_
 refine b7 ?_
 refine c9 [0, 1, 2] ?_
 (simp only [go_sem, simprocAttr, sw0, j8, show (List.set (((b111.set t11.toNat (x11, x111, x112, x113, x114, (b111.getD t11.toNat default).2.2.2.2.2.1, x116)).flatMap (fun (x : Int × Int × Int × Int × Int × Int × Int) => [(I x.1), (I x.2.1), (I x.2.2.1), (I x.2.2.2.1), (I x.2.2.2.2.1), (I x.2.2.2.2.2.1), (I x.2.2.2.2.2.2)])).map V.d) (t11.toNat * 7) (.d (I (3 : Int)))) = (((b111).set t11.toNat ((3 : Int), x111, x112, x113, x114, (b111.getD t11.toNat default).2.2.2.2.2.1, x116)).flatMap (fun (x : Int × Int × Int × Int × Int × Int × Int) => [(I x.1), (I x.2.1), (I x.2.2.1), (I x.2.2.2.1), (I x.2.2.2.2.1), (I x.2.2.2.2.2.1), (I x.2.2.2.2.2.2)])).map V.d from (s7 (b111.set t11.toNat (x11, x111, x112, x113, x114, (b111.getD t11.toNat default).2.2.2.2.2.1, x116)) t11.toNat (by rw [List.length_set]; omega) ((3 : Int), x111, x112, x113, x114, (b111.getD t11.toNat default).2.2.2.2.2.1, x116) 0 [(I (3 : Int))] (Nat.le_of_ble_eq_true rfl) (by rw [p6 _ _ _ _ (by omega)]; rfl)).trans (by rw [List.set_set]), l3])
 repeat (refine And.intro (by omega) ?_)
 refine b7 ?_
 refine c9 [0, 1, 2] ?_
 (simp only [go_sem, simprocAttr, sw0, j8, n2 (b111.set t11.toNat ((3 : Int), x111, x112, x113, x114, (b111.getD t11.toNat default).2.2.2.2.2.1, x116)) t11.toNat (by rw [List.length_set]; omega), p6 b111 t11.toNat ((3 : Int), x111, x112, x113, x114, (b111.getD t11.toNat default).2.2.2.2.2.1, x116) default (by omega), show (List.set (((b111.set t11.toNat ((3 : Int), x111, x112, x113, x114, (b111.getD t11.toNat default).2.2.2.2.2.1, x116)).flatMap (fun (x : Int × Int × Int × Int × Int × Int × Int) => [(I x.1), (I x.2.1), (I x.2.2.1), (I x.2.2.2.1), (I x.2.2.2.2.1), (I x.2.2.2.2.2.1), (I x.2.2.2.2.2.2)])).map V.d) (t11.toNat * 7 + 6) (.d (I ((w64 ((w64 ((48271 : Int) * x116)) + (1 : Int))).tmod (998244353 : Int))))) = (((b111).set t11.toNat ((3 : Int), x111, x112, x113, x114, (b111.getD t11.toNat default).2.2.2.2.2.1, (w64 ((w64 ((48271 : Int) * x116)) + (1 : Int))).tmod (998244353 : Int))).flatMap (fun (x : Int × Int × Int × Int × Int × Int × Int) => [(I x.1), (I x.2.1), (I x.2.2.1), (I x.2.2.2.1), (I x.2.2.2.2.1), (I x.2.2.2.2.2.1), (I x.2.2.2.2.2.2)])).map V.d from (s7 (b111.set t11.toNat ((3 : Int), x111, x112, x113, x114, (b111.getD t11.toNat default).2.2.2.2.2.1, x116)) t11.toNat (by rw [List.length_set]; omega) ((3 : Int), x111, x112, x113, x114, (b111.getD t11.toNat default).2.2.2.2.2.1, (w64 ((w64 ((48271 : Int) * x116)) + (1 : Int))).tmod (998244353 : Int)) 6 [(I ((w64 ((w64 ((48271 : Int) * x116)) + (1 : Int))).tmod (998244353 : Int)))] (Nat.le_of_ble_eq_true rfl) (by rw [p6 _ _ _ _ (by omega)]; rfl)).trans (by rw [List.set_set]), l3])
 repeat (refine And.intro (by omega) ?_)
 change PW _ _ _ _ _
 obtain ⟨c17, H⟩ := j6 H
 refine j4 14 mixed (by kernel_rfl) fun K hK => ?_
 change FW _ _ _ _ _
 refine FW.run ?_
 (simp only [go_sem, simprocAttr, sw0, j8, zf7W12a (b111.set t11.toNat ((3 : Int), x111, x112, x113, x114, (b111.getD t11.toNat default).2.2.2.2.2.1, (w64 ((w64 ((48271 : Int) * x116)) + (1 : Int))).tmod (998244353 : Int))) t11.toNat (by rw [List.length_set]; omega), zf8W12a (b111.set t11.toNat ((3 : Int), x111, x112, x113, x114, (b111.getD t11.toNat default).2.2.2.2.2.1, (w64 ((w64 ((48271 : Int) * x116)) + (1 : Int))).tmod (998244353 : Int))) t11.toNat (by rw [List.length_set]; omega) (by decide), o3 (b111.set t11.toNat ((3 : Int), x111, x112, x113, x114, (b111.getD t11.toNat default).2.2.2.2.2.1, (w64 ((w64 ((48271 : Int) * x116)) + (1 : Int))).tmod (998244353 : Int))) t11.toNat (by rw [List.length_set]; omega) 1 (by decide), o3 (b111.set t11.toNat ((3 : Int), x111, x112, x113, x114, (b111.getD t11.toNat default).2.2.2.2.2.1, (w64 ((w64 ((48271 : Int) * x116)) + (1 : Int))).tmod (998244353 : Int))) t11.toNat (by rw [List.length_set]; omega) 2 (by decide), o3 (b111.set t11.toNat ((3 : Int), x111, x112, x113, x114, (b111.getD t11.toNat default).2.2.2.2.2.1, (w64 ((w64 ((48271 : Int) * x116)) + (1 : Int))).tmod (998244353 : Int))) t11.toNat (by rw [List.length_set]; omega) 3 (by decide), o3 (b111.set t11.toNat ((3 : Int), x111, x112, x113, x114, (b111.getD t11.toNat default).2.2.2.2.2.1, (w64 ((w64 ((48271 : Int) * x116)) + (1 : Int))).tmod (998244353 : Int))) t11.toNat (by rw [List.length_set]; omega) 4 (by decide), o3 (b111.set t11.toNat ((3 : Int), x111, x112, x113, x114, (b111.getD t11.toNat default).2.2.2.2.2.1, (w64 ((w64 ((48271 : Int) * x116)) + (1 : Int))).tmod (998244353 : Int))) t11.toNat (by rw [List.length_set]; omega) 5 (by decide), o3 (b111.set t11.toNat ((3 : Int), x111, x112, x113, x114, (b111.getD t11.toNat default).2.2.2.2.2.1, (w64 ((w64 ((48271 : Int) * x116)) + (1 : Int))).tmod (998244353 : Int))) t11.toNat (by rw [List.length_set]; omega) 6 (by decide), p6 b111 t11.toNat ((3 : Int), x111, x112, x113, x114, (b111.getD t11.toNat default).2.2.2.2.2.1, (w64 ((w64 ((48271 : Int) * x116)) + (1 : Int))).tmod (998244353 : Int)) default (by omega), show (List.set (((b111.set t11.toNat ((3 : Int), x111, x112, x113, x114, (b111.getD t11.toNat default).2.2.2.2.2.1, (w64 ((w64 ((48271 : Int) * x116)) + (1 : Int))).tmod (998244353 : Int))).flatMap (fun (x : Int × Int × Int × Int × Int × Int × Int) => [(I x.1), (I x.2.1), (I x.2.2.1), (I x.2.2.2.1), (I x.2.2.2.2.1), (I x.2.2.2.2.2.1), (I x.2.2.2.2.2.2)])).map V.d) (t11.toNat * 7 + 4) (.d (I (w64 ((w64 (((b111.getD t11.toNat default).2.2.2.2.1) + (1 : Int))) + (((w64 ((w64 ((48271 : Int) * x116)) + (1 : Int))).tmod (998244353 : Int)).tmod (w64 (Z10 + (1 : Int))))))))) = (((b111).set t11.toNat ((3 : Int), x111, x112, x113, w64 ((w64 (((b111.getD t11.toNat default).2.2.2.2.1) + (1 : Int))) + (((w64 ((w64 ((48271 : Int) * x116)) + (1 : Int))).tmod (998244353 : Int)).tmod (w64 (Z10 + (1 : Int))))), (b111.getD t11.toNat default).2.2.2.2.2.1, (w64 ((w64 ((48271 : Int) * x116)) + (1 : Int))).tmod (998244353 : Int))).flatMap (fun (x : Int × Int × Int × Int × Int × Int × Int) => [(I x.1), (I x.2.1), (I x.2.2.1), (I x.2.2.2.1), (I x.2.2.2.2.1), (I x.2.2.2.2.2.1), (I x.2.2.2.2.2.2)])).map V.d from (s7 (b111.set t11.toNat ((3 : Int), x111, x112, x113, x114, (b111.getD t11.toNat default).2.2.2.2.2.1, (w64 ((w64 ((48271 : Int) * x116)) + (1 : Int))).tmod (998244353 : Int))) t11.toNat (by rw [List.length_set]; omega) ((3 : Int), x111, x112, x113, w64 ((w64 (((b111.getD t11.toNat default).2.2.2.2.1) + (1 : Int))) + (((w64 ((w64 ((48271 : Int) * x116)) + (1 : Int))).tmod (998244353 : Int)).tmod (w64 (Z10 + (1 : Int))))), (b111.getD t11.toNat default).2.2.2.2.2.1, (w64 ((w64 ((48271 : Int) * x116)) + (1 : Int))).tmod (998244353 : Int)) 4 [(I (w64 ((w64 (((b111.getD t11.toNat default).2.2.2.2.1) + (1 : Int))) + (((w64 ((w64 ((48271 : Int) * x116)) + (1 : Int))).tmod (998244353 : Int)).tmod (w64 (Z10 + (1 : Int)))))))] (Nat.le_of_ble_eq_true rfl) (by rw [p6 _ _ _ _ (by omega)]; rfl)).trans (by rw [List.set_set]), l3])
 repeat (refine And.intro (by omega) ?_)
 refine FW.nil ?_
 change OW _ _ _ _ _ _
 refine OW.run [] ?_
 (simp only [go_sem, simprocAttr, sw0, j8, zf7W12a (b111.set t11.toNat ((3 : Int), x111, x112, x113, x114, (b111.getD t11.toNat default).2.2.2.2.2.1, (w64 ((w64 ((48271 : Int) * x116)) + (1 : Int))).tmod (998244353 : Int))) t11.toNat (by rw [List.length_set]; omega), zf8W12a (b111.set t11.toNat ((3 : Int), x111, x112, x113, x114, (b111.getD t11.toNat default).2.2.2.2.2.1, (w64 ((w64 ((48271 : Int) * x116)) + (1 : Int))).tmod (998244353 : Int))) t11.toNat (by rw [List.length_set]; omega) (by decide), o3 (b111.set t11.toNat ((3 : Int), x111, x112, x113, x114, (b111.getD t11.toNat default).2.2.2.2.2.1, (w64 ((w64 ((48271 : Int) * x116)) + (1 : Int))).tmod (998244353 : Int))) t11.toNat (by rw [List.length_set]; omega) 1 (by decide), o3 (b111.set t11.toNat ((3 : Int), x111, x112, x113, x114, (b111.getD t11.toNat default).2.2.2.2.2.1, (w64 ((w64 ((48271 : Int) * x116)) + (1 : Int))).tmod (998244353 : Int))) t11.toNat (by rw [List.length_set]; omega) 2 (by decide), o3 (b111.set t11.toNat ((3 : Int), x111, x112, x113, x114, (b111.getD t11.toNat default).2.2.2.2.2.1, (w64 ((w64 ((48271 : Int) * x116)) + (1 : Int))).tmod (998244353 : Int))) t11.toNat (by rw [List.length_set]; omega) 3 (by decide), o3 (b111.set t11.toNat ((3 : Int), x111, x112, x113, x114, (b111.getD t11.toNat default).2.2.2.2.2.1, (w64 ((w64 ((48271 : Int) * x116)) + (1 : Int))).tmod (998244353 : Int))) t11.toNat (by rw [List.length_set]; omega) 4 (by decide), o3 (b111.set t11.toNat ((3 : Int), x111, x112, x113, x114, (b111.getD t11.toNat default).2.2.2.2.2.1, (w64 ((w64 ((48271 : Int) * x116)) + (1 : Int))).tmod (998244353 : Int))) t11.toNat (by rw [List.length_set]; omega) 5 (by decide), o3 (b111.set t11.toNat ((3 : Int), x111, x112, x113, x114, (b111.getD t11.toNat default).2.2.2.2.2.1, (w64 ((w64 ((48271 : Int) * x116)) + (1 : Int))).tmod (998244353 : Int))) t11.toNat (by rw [List.length_set]; omega) 6 (by decide), p6 b111 t11.toNat ((3 : Int), x111, x112, x113, x114, (b111.getD t11.toNat default).2.2.2.2.2.1, (w64 ((w64 ((48271 : Int) * x116)) + (1 : Int))).tmod (998244353 : Int)) default (by omega), show (List.set (((b111.set t11.toNat ((3 : Int), x111, x112, x113, x114, (b111.getD t11.toNat default).2.2.2.2.2.1, (w64 ((w64 ((48271 : Int) * x116)) + (1 : Int))).tmod (998244353 : Int))).flatMap (fun (x : Int × Int × Int × Int × Int × Int × Int) => [(I x.1), (I x.2.1), (I x.2.2.1), (I x.2.2.2.1), (I x.2.2.2.2.1), (I x.2.2.2.2.2.1), (I x.2.2.2.2.2.2)])).map V.d) (t11.toNat * 7 + 4) (.d (I (w64 ((w64 (((b111.getD t11.toNat default).2.2.2.2.1) + (1 : Int))) + (((w64 ((w64 ((48271 : Int) * x116)) + (1 : Int))).tmod (998244353 : Int)).tmod (w64 (Z10 + (1 : Int))))))))) = (((b111).set t11.toNat ((3 : Int), x111, x112, x113, w64 ((w64 (((b111.getD t11.toNat default).2.2.2.2.1) + (1 : Int))) + (((w64 ((w64 ((48271 : Int) * x116)) + (1 : Int))).tmod (998244353 : Int)).tmod (w64 (Z10 + (1 : Int))))), (b111.getD t11.toNat default).2.2.2.2.2.1, (w64 ((w64 ((48271 : Int) * x116)) + (1 : Int))).tmod (998244353 : Int))).flatMap (fun (x : Int × Int × Int × Int × Int × Int × Int) => [(I x.1), (I x.2.1), (I x.2.2.1), (I x.2.2.2.1), (I x.2.2.2.2.1), (I x.2.2.2.2.2.1), (I x.2.2.2.2.2.2)])).map V.d from (s7 (b111.set t11.toNat ((3 : Int), x111, x112, x113, x114, (b111.getD t11.toNat default).2.2.2.2.2.1, (w64 ((w64 ((48271 : Int) * x116)) + (1 : Int))).tmod (998244353 : Int))) t11.toNat (by rw [List.length_set]; omega) ((3 : Int), x111, x112, x113, w64 ((w64 (((b111.getD t11.toNat default).2.2.2.2.1) + (1 : Int))) + (((w64 ((w64 ((48271 : Int) * x116)) + (1 : Int))).tmod (998244353 : Int)).tmod (w64 (Z10 + (1 : Int))))), (b111.getD t11.toNat default).2.2.2.2.2.1, (w64 ((w64 ((48271 : Int) * x116)) + (1 : Int))).tmod (998244353 : Int)) 4 [(I (w64 ((w64 (((b111.getD t11.toNat default).2.2.2.2.1) + (1 : Int))) + (((w64 ((w64 ((48271 : Int) * x116)) + (1 : Int))).tmod (998244353 : Int)).tmod (w64 (Z10 + (1 : Int)))))))] (Nat.le_of_ble_eq_true rfl) (by rw [p6 _ _ _ _ (by omega)]; rfl)).trans (by rw [List.set_set]), l3])
 repeat (refine And.intro (by omega) ?_)
 refine OW.nil (hK _ ?_); clear hK K
 refine ⟨.inl rfl, rfl, rfl, ?_⟩
 simp only [go_sem, simprocAttr, sw0]
 change OW _ _ _ _ _ _
 refine OW.run [0, 1, 10, 11] ?_
 simp only [go_sem, simprocAttr, sw0]
 refine OW.nil (hK _ ?_); clear hK K
 refine c9 [0, 1, 10, 11] ?_
 simp only [go_sem, simprocAttr, sw0]
 refine hN12 [] (w64 (t11 + (1 : Int)), (b111.set t11.toNat ((3 : Int), x111, x112, x113, w64 ((w64 (((b111.getD t11.toNat default).2.2.2.2.1) + (1 : Int))) + (((w64 ((w64 ((48271 : Int) * x116)) + (1 : Int))).tmod (998244353 : Int)).tmod (w64 (Z10 + (1 : Int))))), (b111.getD t11.toNat default).2.2.2.2.2.1, (w64 ((w64 ((48271 : Int) * x116)) + (1 : Int))).tmod (998244353 : Int)))) _ H (by exact trivial) ?_
 simp only [sw1, go_sem, simprocAttr]
 replace H := l7 h15 H
 refine d8 ?_
 refine c9 [0, 1, 10, 11] ?_
 simp only [go_sem, simprocAttr, sw0]
 refine hN12 [] (w64 (t11 + (1 : Int)), b111) _ H (by exact trivial) ?_
 simp only [sw1, go_sem, simprocAttr]
 replace H := l7 h13 H
 refine o6 ?_
 refine hN11 [] b111 _ H (by exact trivial) ?_
 simp only [sw1, go_sem, simprocAttr]
 rintro b11 H
 try simp only [go_sem, simprocAttr]
 refine d6 fun K hK => OW.run [] ?_
 simp only [go_sem, simprocAttr, sw0]
 repeat (refine And.intro (by omega) ?_)
 refine OW.nil (hK _ ?_); clear hK K
 refine ⟨.inl rfl, rfl, rfl, ?_⟩
 simp only [go_sem, simprocAttr, sw0]
 change OW _ _ _ _ _ _
 refine OW.run [3, 7] ?_
 simp only [go_sem, simprocAttr, sw0]
 refine OW.nil (hK _ ?_); clear hK K
 refine b7 ?_
 refine b7 ?_
 obtain ⟨hsp, H⟩ := j6 H
 have hsp2 : Zl = 0 ∨ Zl = 1 ∨ Zl = 2 ∨ Zl = 3 ∨ Zl = 4 := by omega
 clear hsp
 rcases hsp2 with rfl | rfl | rfl | rfl | rfl
 replace H := n6 (by decide) H
 obtain ⟨⟨t4, b112⟩, e12, H⟩ := d4 H
 refine j4 6 mixed (by kernel_rfl) fun K hK => ?_
 change FW _ _ _ _ _
 refine FW.run ?_
 simp only [go_sem, simprocAttr, sw0]
 repeat (refine And.intro (by omega) ?_)
 refine o2 4 rfl rfl rfl (by first | exact rfl | ((simp only [go_sem, List.toList_toArray, simprocAttr]); exact rfl)) ?_ kindOf_0 ?_ ?_ ?_ ?_
 rfl
 exact g8 rfl
 exact .inl rfl
 (simp only [go_sem, Nat.reduceLT])
 refine FW.run ?_
 simp only [go_sem, simprocAttr, sw0]
 refine FW.nil ?_
 change OW _ _ _ _ _ _
 refine OW.run [7, 8] ?_
 simp only [go_sem, simprocAttr, sw0]
 refine OW.callM (r := (.d (I t4))) (objs' := [{ cells := [.d (I Z15), .d (I Z11), .d (I Z18), .d (I Z17), .d (I Z16), .d (I Z10), .d (I Z13)], e := 23 }, { cells := [.d (I Z1t), .d (.list Z26.length (Z26.flatMap (fun (x : Int × Int × Int × Int × Int × Int × Int) => [(I x.1), (I x.2.1), (I x.2.2.1), (I x.2.2.2.1), (I x.2.2.2.2.1), (I x.2.2.2.2.2.1), (I x.2.2.2.2.2.2)])))], e := 30 }, { cells := [.d (I (0 : Int)), .d (I Zj), .d (I Zm), .d (I Zn), .d (I Zo), .d (I Zk)], e := 48 }, { cells := [.d (I (0 : Int)), .d (.val (.slice none 0 0))], e := 30 }, { cells := [.d (I Z15), .d (I Z11), .d (I Z18), .d (I Z17), .d (I Z16), .d (I Z10), .d (I Z13)], e := 23 }, { cells := [.d (I Z1t), .d (.list Z26.length (Z26.flatMap (fun (x : Int × Int × Int × Int × Int × Int × Int) => [(I x.1), (I x.2.1), (I x.2.2.1), (I x.2.2.2.1), (I x.2.2.2.2.1), (I x.2.2.2.2.2.1), (I x.2.2.2.2.2.2)])))], e := 30 }, { cells := [.d (I x1), .d (I x2), .d (I x3)], e := 26 }, { cells := (x5.flatMap (fun (x : Int × Int × Int × Int × Int × Int × Int) => [(I x.1), (I x.2.1), (I x.2.2.1), (I x.2.2.2.1), (I x.2.2.2.2.1), (I x.2.2.2.2.2.1), (I x.2.2.2.2.2.2)])).map .d, e := 71 }, { cells := [.d (I Z15), .d (I Z11), .d (I Z18), .d (I Z17), .d (I Z16), .d (I Z10), .d (I Z13), .d (I Z1t), .own 7 0 x5.length 7], e := 142 }, { cells := [.d (I (0 : Int)), .d (I Zj), .d (I Zm), .d (I Zn), .d (I Zo), .d (I Zk)], e := 48 }, { cells := [.d (I x7), .d (I x8)], e := 26 }, { cells := (b112.flatMap (fun (x : Int × Int × Int × Int × Int × Int × Int) => [(I x.1), (I x.2.1), (I x.2.2.1), (I x.2.2.2.1), (I x.2.2.2.2.1), (I x.2.2.2.2.2.1), (I x.2.2.2.2.2.2)])).map .d, e := 71 }, { cells := [.d (I Z15), .d (I Z11), .d (I Z18), .d (I Z17), .d (I Z16), .d (I Z10), .d (I Z13), .d (I Zj), .own 11 0 b112.length 7], e := 142 }]) (ks := []) rfl rfl rfl (CallM.of_PW0 Tryz.func147 rfl (by rw [Tryz.results147]) Tryz.ntmps147 Tryz.call147 ?_) (by exact Nat.le_refl _) (by (simp only [go_sem, Nat.reduceLT])) ?_
 intro gs p
 have H := e12
 unfold H3 at H
 change PW _ _ _ _ _
 try simp only [go_sem, simprocAttr]
 refine b7 ?_
 refine c9 [0, 3] ?_
 simp only [go_sem, simprocAttr, sw0]
 refine b7 ?_
 obtain ⟨c18, H⟩ := j6 H
 refine j4 6 mixed (by kernel_rfl) fun K hK => ?_
 change FW _ _ _ _ _
 refine FW.run ?_
 (simp only [go_sem, simprocAttr, sw0, j8, n2 b11 Zm.toNat (by omega)])
 repeat (refine And.intro (by omega) ?_)
 refine FW.nil ?_
 change OW _ _ _ _ _ _
 refine OW.run [0, 3, 5] ?_
 (simp only [go_sem, simprocAttr, sw0, j8, n2 b11 Zm.toNat (by omega)])
 repeat (refine And.intro (by omega) ?_)
 refine OW.nil (hK _ ?_); clear hK K
 refine b7 ?_
 refine c9 [0, 3, 5, 6] ?_
 (simp only [go_sem, simprocAttr, sw0, j8, n2 b11 Zm.toNat (by omega)])
 repeat (refine And.intro (by omega) ?_)
 refine b7 ?_
 refine b7 ?_
 obtain ⟨x13, e13, H⟩ := d4 H
 obtain ⟨x14, e14, H⟩ := d4 H
 obtain ⟨x15, e15, H⟩ := d4 H
 obtain ⟨x16, e16, H⟩ := d4 H
 obtain ⟨x17, e17, H⟩ := d4 H
 refine j4 24 mixed (by kernel_rfl) fun K hK => ?_
 change FW _ _ _ _ _
 refine FW.run ?_
 (simp only [go_sem, simprocAttr, sw0, j8, n2 b11 Zm.toNat (by omega)])
 repeat (refine And.intro (by omega) ?_)
 refine o2 4 rfl rfl rfl (by first | exact rfl | ((simp only [go_sem, List.toList_toArray, simprocAttr]); exact rfl)) ?_ (i6 N _ _ _ e13) ?_ ?_ ?_ ?_
 rfl
 exact g8 rfl
 exact .inl rfl
 (simp only [go_sem, Nat.reduceLT])
 refine FW.run ?_
 (simp only [go_sem, simprocAttr, sw0, j8, n2 b11 Zm.toNat (by omega)])
 repeat (refine And.intro (by omega) ?_)
 refine o2 4 rfl rfl rfl (by first | exact rfl | ((simp only [go_sem, List.toList_toArray, simprocAttr]); exact rfl)) ?_ (i6 N _ _ _ e14) ?_ ?_ ?_ ?_
 rfl
 exact g8 rfl
 exact .inl rfl
 (simp only [go_sem, Nat.reduceLT])
 refine FW.run ?_
 (simp only [go_sem, simprocAttr, sw0, j8, n2 b11 Zm.toNat (by omega)])
 repeat (refine And.intro (by omega) ?_)
 refine FW.nil ?_
 change OW _ _ _ _ _ _
 refine OW.run [0, 3, 5, 7] ?_
 (simp only [go_sem, simprocAttr, sw0, j8, n2 b11 Zm.toNat (by omega)])
 refine g9 4 rfl rfl rfl (by first | exact rfl | ((simp only [go_sem, List.toList_toArray, simprocAttr]); exact rfl)) ?_ (G8 N _ _ _ _ _ _ _ _ _ _ _ e15) ?_ ?_ ?_ ?_
 · first | rfl | (simp only [go_sem, sw1, simprocAttr, j3, n3]; first | done | rfl | exact zf6W12a _ _ _ rfl | (simp only [seg, asD, go_sem, sw1, simprocAttr, j3, n3]; first | done | rfl | exact zf6W12a _ _ _ rfl))
 · (first | exact trivial | exact g8 rfl | (refine d9 ?_; simp only [go_sem, sw2, List.length_set, List.length_replicate, and_true, true_and, Nat.le_refl, simprocAttr, j3, n3]; done) | (refine d9 ?_; simp only [go_sem, sw2, List.length_set, List.length_replicate, and_true, true_and, Nat.le_refl, simprocAttr, j3, n3]; omega))
 · first | (exact .inr ⟨rfl, rfl⟩; done) | (simp only [cleanV, go_sem, j3, n3]; done) | (left; (simp only [go_sem, simprocAttr, sw0, j3, n3]); done) | (right; (simp only [go_sem, simprocAttr, sw0, j3, n3]); done)
 (simp only [go_sem, Nat.reduceLT])
 refine OW.run [0, 3, 5, 7] ?_
 (simp only [go_sem, simprocAttr, sw0, j8, n2 b11 Zm.toNat (by omega)])
 refine g9 4 rfl rfl rfl (by first | exact rfl | ((simp only [go_sem, List.toList_toArray, simprocAttr]); exact rfl)) ?_ (i6 N _ _ _ e16) ?_ ?_ ?_ ?_
 rfl
 exact g8 rfl
 exact .inl rfl
 (simp only [go_sem, Nat.reduceLT])
 refine OW.run [0, 3, 5, 7] ?_
 (simp only [go_sem, simprocAttr, sw0, j8, n2 b11 Zm.toNat (by omega)])
 refine g9 4 rfl rfl rfl (by first | exact rfl | ((simp only [go_sem, List.toList_toArray, simprocAttr]); exact rfl)) ?_ (m7 N _ _ e17) ?_ ?_ ?_ ?_
 rfl
 · (refine d9 ?_; (simp only [go_sem, sw2, List.length_set, List.length_replicate, and_true, true_and, Nat.le_refl, simprocAttr]; simp only [seg, go_sem, sw2, List.length_set, List.length_replicate, and_true, true_and, Nat.le_refl, simprocAttr]; done))
 exact .inr ⟨rfl, rfl⟩
 (simp only [go_sem, Nat.reduceLT])
 refine OW.run [0, 3, 5, 7] ?_
 (simp only [go_sem, simprocAttr, sw0, j8, n2 b11 Zm.toNat (by omega)])
 refine OW.nil (hK _ ?_); clear hK K
 refine b7 ?_
 refine c9 [0, 3, 5, 7, 49] ?_
 simp only [go_sem, simprocAttr, sw0]
 refine d5 rfl (fun h19 => ?_) (fun h19 => ?_)
 replace H := n6 h19 H
 refine b7 ?_
 refine c9 [4] ?_
 simp only [go_sem, simprocAttr, sw0]
 refine PW.fit [4] 13 (by exact Nat.le_refl _) ?_
 try simp only [go_sem, simprocAttr]
 refine d7 ?_
 change PW.EndsM _ _ _ _ _ _ _ _
 refine PW.EndsM.intro (.inr rfl) ?_
 try simp only [go_sem, simprocAttr]
 simp only [Option.some.injEq, Prod.mk.injEq] at H
 obtain ⟨rfl, rfl⟩ := H
 · repeat' (first | trivial | rfl | (simp only [segMap]; rfl) | (simp only [List.length_set]; done) | refine And.intro ?_ ?_)
 replace H := l7 h19 H
 refine d8 ?_
 refine b7 ?_
 refine j4 23 mixed (by kernel_rfl) fun K hK => ?_
 change FW _ _ _ _ _
 refine FW.run ?_
 (simp only [go_sem, simprocAttr, sw0, j8, n2 b11 Zm.toNat (by omega), show (List.set (List.set (List.set (List.set (List.set (List.set (List.set ((b11.flatMap (fun (x : Int × Int × Int × Int × Int × Int × Int) => [(I x.1), (I x.2.1), (I x.2.2.1), (I x.2.2.2.1), (I x.2.2.2.2.1), (I x.2.2.2.2.2.1), (I x.2.2.2.2.2.2)])).map V.d) (Zm.toNat * 7) (.d (I (1 : Int)))) (Zm.toNat * 7 + 1) (.d (I Zn))) (Zm.toNat * 7 + 1 + 1) (.d (I Zj))) (Zm.toNat * 7 + 1 + 1 + 1) (.d (I (-1 : Int)))) (Zm.toNat * 7 + 1 + 1 + 1 + 1) (.d (I (w64 (Zj + Z18))))) (Zm.toNat * 7 + 1 + 1 + 1 + 1 + 1) (.d (I (w64 (((b11.getD Zm.toNat default).2.2.2.2.2.1) + (1 : Int)))))) (Zm.toNat * 7 + 1 + 1 + 1 + 1 + 1 + 1) (.d (I ((b11.getD Zm.toNat default).2.2.2.2.2.2)))) = (((b11).set Zm.toNat ((1 : Int), Zn, Zj, (-1 : Int), w64 (Zj + Z18), w64 (((b11.getD Zm.toNat default).2.2.2.2.2.1) + (1 : Int)), (b11.getD Zm.toNat default).2.2.2.2.2.2)).flatMap (fun (x : Int × Int × Int × Int × Int × Int × Int) => [(I x.1), (I x.2.1), (I x.2.2.1), (I x.2.2.2.1), (I x.2.2.2.2.1), (I x.2.2.2.2.2.1), (I x.2.2.2.2.2.2)])).map V.d from s7 b11 Zm.toNat (by omega) ((1 : Int), Zn, Zj, (-1 : Int), w64 (Zj + Z18), w64 (((b11.getD Zm.toNat default).2.2.2.2.2.1) + (1 : Int)), (b11.getD Zm.toNat default).2.2.2.2.2.2) 0 [(I (1 : Int)), (I Zn), (I Zj), (I (-1 : Int)), (I (w64 (Zj + Z18))), (I (w64 (((b11.getD Zm.toNat default).2.2.2.2.2.1) + (1 : Int)))), (I ((b11.getD Zm.toNat default).2.2.2.2.2.2))] (Nat.le_of_ble_eq_true rfl) rfl, l3])
 repeat (refine And.intro (by omega) ?_)
 refine FW.nil ?_
 change OW _ _ _ _ _ _
 refine OW.run [] ?_
 (simp only [go_sem, simprocAttr, sw0, j8, n2 b11 Zm.toNat (by omega), show (List.set (List.set (List.set (List.set (List.set (List.set (List.set ((b11.flatMap (fun (x : Int × Int × Int × Int × Int × Int × Int) => [(I x.1), (I x.2.1), (I x.2.2.1), (I x.2.2.2.1), (I x.2.2.2.2.1), (I x.2.2.2.2.2.1), (I x.2.2.2.2.2.2)])).map V.d) (Zm.toNat * 7) (.d (I (1 : Int)))) (Zm.toNat * 7 + 1) (.d (I Zn))) (Zm.toNat * 7 + 1 + 1) (.d (I Zj))) (Zm.toNat * 7 + 1 + 1 + 1) (.d (I (-1 : Int)))) (Zm.toNat * 7 + 1 + 1 + 1 + 1) (.d (I (w64 (Zj + Z18))))) (Zm.toNat * 7 + 1 + 1 + 1 + 1 + 1) (.d (I (w64 (((b11.getD Zm.toNat default).2.2.2.2.2.1) + (1 : Int)))))) (Zm.toNat * 7 + 1 + 1 + 1 + 1 + 1 + 1) (.d (I ((b11.getD Zm.toNat default).2.2.2.2.2.2)))) = (((b11).set Zm.toNat ((1 : Int), Zn, Zj, (-1 : Int), w64 (Zj + Z18), w64 (((b11.getD Zm.toNat default).2.2.2.2.2.1) + (1 : Int)), (b11.getD Zm.toNat default).2.2.2.2.2.2)).flatMap (fun (x : Int × Int × Int × Int × Int × Int × Int) => [(I x.1), (I x.2.1), (I x.2.2.1), (I x.2.2.2.1), (I x.2.2.2.2.1), (I x.2.2.2.2.2.1), (I x.2.2.2.2.2.2)])).map V.d from s7 b11 Zm.toNat (by omega) ((1 : Int), Zn, Zj, (-1 : Int), w64 (Zj + Z18), w64 (((b11.getD Zm.toNat default).2.2.2.2.2.1) + (1 : Int)), (b11.getD Zm.toNat default).2.2.2.2.2.2) 0 [(I (1 : Int)), (I Zn), (I Zj), (I (-1 : Int)), (I (w64 (Zj + Z18))), (I (w64 (((b11.getD Zm.toNat default).2.2.2.2.2.1) + (1 : Int)))), (I ((b11.getD Zm.toNat default).2.2.2.2.2.2))] (Nat.le_of_ble_eq_true rfl) rfl, l3])
 repeat (refine And.intro (by omega) ?_)
 refine OW.nil (hK _ ?_); clear hK K
 refine b7 ?_
 refine c9 [4] ?_
 simp only [go_sem, simprocAttr, sw0]
 refine PW.fit [4] 13 (by exact Nat.le_refl _) ?_
 try simp only [go_sem, simprocAttr]
 refine d7 ?_
 change PW.EndsM _ _ _ _ _ _ _ _
 refine PW.EndsM.intro (.inr rfl) ?_
 try simp only [go_sem, simprocAttr]
 simp only [Option.some.injEq, Prod.mk.injEq] at H
 obtain ⟨rfl, rfl⟩ := H
 · repeat' (first | trivial | rfl | (simp only [segMap]; rfl) | (simp only [List.length_set]; done) | refine And.intro ?_ ?_)
 try simp only [go_sem, simprocAttr]
 change OW _ _ _ _ _ _
 refine OW.run [7, 8] ?_
 simp only [go_sem, simprocAttr, sw0]
 refine OW.nil (hK _ ?_); clear hK K
 refine b7 ?_
 refine c9 [7, 8, 60] ?_
 simp only [go_sem, simprocAttr, sw0]
 refine d5 rfl (fun h20 => ?_) (fun h20 => ?_)
 replace H := n6 h20 H
 refine b7 ?_
 refine c9 [4, 5] ?_
 simp only [go_sem, simprocAttr, sw0]
 refine d7 ?_
 refine ⟨.inr rfl, rfl, rfl, ?_⟩
 simp only [go_sem, simprocAttr, sw0]
 change OW _ _ _ _ _ _
 refine OW.run [6, 8, 9] ?_
 simp only [go_sem, simprocAttr, sw0]
 refine OW.nil (hK _ ?_); clear hK K
 refine b7 ?_
 refine c9 [6, 8, 9, 27] ?_
 simp only [go_sem, simprocAttr, sw0]
 refine d5 rfl (fun h21 => ?_) (fun h21 => ?_)
 refine b7 ?_
 refine c9 [6, 7] ?_
 simp only [go_sem, simprocAttr, sw0]
 refine d7 (PW.Ends.intro (.inr rfl) ?_)
 simp only [go_sem, simprocAttr, sw0]
 obtain rfl := Option.some.inj H
 refine b8 4 (by (refine d9 ?_; (simp only [go_sem, sw2, List.length_set, List.length_replicate, and_true, true_and, Nat.le_refl, simprocAttr]; done))) ?_
 rfl
 exact absurd (h21.symm.trans h20) (by decide)
 replace H := l7 h20 H
 refine d8 ?_
 refine b7 ?_
 refine c9 [4, 5] ?_
 simp only [go_sem, simprocAttr, sw0]
 refine d7 ?_
 refine ⟨.inr rfl, rfl, rfl, ?_⟩
 simp only [go_sem, simprocAttr, sw0]
 change OW _ _ _ _ _ _
 refine OW.run [6, 8, 9] ?_
 simp only [go_sem, simprocAttr, sw0]
 refine OW.nil (hK _ ?_); clear hK K
 refine b7 ?_
 refine c9 [6, 8, 9, 27] ?_
 simp only [go_sem, simprocAttr, sw0]
 refine d5 rfl (fun h22 => ?_) (fun h22 => ?_)
 exact absurd h22 (by decide)
 ·
  refine d8 ?_
  refine b7 ?_
  refine d6 fun K hK => OW.run [6, 7] ?_
  simp only [go_sem, simprocAttr, sw0]
  refine k6 rfl rfl rfl (by first | exact rfl | ((simp only [go_sem, List.toList_toArray, simprocAttr]); exact rfl)) Tryz.func85 rfl (by rw [Tryz.results85]) Tryz.ntmps85 Tryz.call85 (by (simp only [go_sem, Nat.reduceLT])) ?_
  intro p G
  change PW _ _ _ _ _
  try simp only [go_sem, simprocAttr]
  refine b7 ?_
  refine c9 [0, 2] ?_
  simp only [go_sem, simprocAttr, sw0]
  refine b7 ?_
  refine j4 8 mixed (by kernel_rfl) fun K hK => ?_
  change FW _ _ _ _ _
  refine FW.run ?_
  simp only [go_sem, simprocAttr, sw0]
  repeat (refine And.intro (by omega) ?_)
  refine FW.nil ?_
  change OW _ _ _ _ _ _
  refine OW.run [2] ?_
  simp only [go_sem, simprocAttr, sw0]
  refine OW.nil (hK _ ?_); clear hK K
  refine d7 ?_
  refine ⟨.inr rfl, rfl, rfl, ?_⟩
  simp only [go_sem, simprocAttr, sw0]
  change OW _ _ _ _ _ _
  refine OW.run [6, 7] ?_
  simp only [go_sem, simprocAttr, sw0]
  refine OW.nil (hK _ ?_); clear hK K
  refine d7 (PW.Ends.intro (.inr rfl) ?_)
  simp only [go_sem, simprocAttr, sw0]
  obtain rfl := Option.some.inj H
  have hl0 := j8 b112
  have hn0 : (b112.flatMap (fun (x : Int × Int × Int × Int × Int × Int × Int) => [(I x.1), (I x.2.1), (I x.2.2.1), (I x.2.2.2.1), (I x.2.2.2.2.1), (I x.2.2.2.2.2.1), (I x.2.2.2.2.2.2)])).map nz = b112.flatMap (fun (x : Int × Int × Int × Int × Int × Int × Int) => [(I x.1), (I x.2.1), (I x.2.2.1), (I x.2.2.2.1), (I x.2.2.2.2.1), (I x.2.2.2.2.2.1), (I x.2.2.2.2.2.2)]) := F1 (fun _ => rfl) _
  have ht0 : (b112.flatMap (fun (x : Int × Int × Int × Int × Int × Int × Int) => [(I x.1), (I x.2.1), (I x.2.2.1), (I x.2.2.2.1), (I x.2.2.2.2.1), (I x.2.2.2.2.2.1), (I x.2.2.2.2.2.2)])).take (b112.length * 7) = b112.flatMap (fun (x : Int × Int × Int × Int × Int × Int × Int) => [(I x.1), (I x.2.1), (I x.2.2.1), (I x.2.2.2.1), (I x.2.2.2.2.1), (I x.2.2.2.2.2.1), (I x.2.2.2.2.2.2)]) := take_flat _ (fun _ => rfl) rfl
  refine b8 4 (by (refine d9 ?_; (simp only [go_sem, sw2, List.length_set, List.length_replicate, and_true, true_and, Nat.le_refl, simprocAttr]; omega))) ?_
  (((simp only [go_sem, sw1, simprocAttr]; try simp only [seg, go_sem, simprocAttr])); (repeat' (first | rfl | (refine list_congr ?_; simp only [List.length_take, List.length_drop, List.length_set, List.length_replicate] <;> omega) | (refine congr (congrArg List.cons ?_) ?_) | (refine congrArg D.agg ?_) | (refine congrArg D.tup ?_) | (refine congrArg D.ref ?_) | (refine congrArg (D.list _) ?_) | (refine congrArg (D.clo _) ?_))))
  all_goals (first | rw [ht0, hn0] | simp only [ht0, hn0])
 replace H := l7 (by decide) H
 replace H := n6 (by decide) H
 obtain ⟨⟨t41, b113⟩, e18, H⟩ := d4 H
 refine j4 6 mixed (by kernel_rfl) fun K hK => ?_
 change FW _ _ _ _ _
 refine FW.run ?_
 simp only [go_sem, simprocAttr, sw0]
 repeat (refine And.intro (by omega) ?_)
 refine o2 4 rfl rfl rfl (by first | exact rfl | ((simp only [go_sem, List.toList_toArray, simprocAttr]); exact rfl)) ?_ kindOf_1 ?_ ?_ ?_ ?_
 rfl
 exact g8 rfl
 exact .inl rfl
 (simp only [go_sem, Nat.reduceLT])
 refine FW.run ?_
 simp only [go_sem, simprocAttr, sw0]
 refine FW.nil ?_
 change OW _ _ _ _ _ _
 refine OW.run [7, 8] ?_
 simp only [go_sem, simprocAttr, sw0]
 refine OW.callM (r := (.d (I t41))) (objs' := [{ cells := [.d (I Z15), .d (I Z11), .d (I Z18), .d (I Z17), .d (I Z16), .d (I Z10), .d (I Z13)], e := 23 }, { cells := [.d (I Z1t), .d (.list Z26.length (Z26.flatMap (fun (x : Int × Int × Int × Int × Int × Int × Int) => [(I x.1), (I x.2.1), (I x.2.2.1), (I x.2.2.2.1), (I x.2.2.2.2.1), (I x.2.2.2.2.2.1), (I x.2.2.2.2.2.2)])))], e := 30 }, { cells := [.d (I (1 : Int)), .d (I Zj), .d (I Zm), .d (I Zn), .d (I Zo), .d (I Zk)], e := 48 }, { cells := [.d (I (0 : Int)), .d (.val (.slice none 0 0))], e := 30 }, { cells := [.d (I Z15), .d (I Z11), .d (I Z18), .d (I Z17), .d (I Z16), .d (I Z10), .d (I Z13)], e := 23 }, { cells := [.d (I Z1t), .d (.list Z26.length (Z26.flatMap (fun (x : Int × Int × Int × Int × Int × Int × Int) => [(I x.1), (I x.2.1), (I x.2.2.1), (I x.2.2.2.1), (I x.2.2.2.2.1), (I x.2.2.2.2.2.1), (I x.2.2.2.2.2.2)])))], e := 30 }, { cells := [.d (I x1), .d (I x2), .d (I x3)], e := 26 }, { cells := (x5.flatMap (fun (x : Int × Int × Int × Int × Int × Int × Int) => [(I x.1), (I x.2.1), (I x.2.2.1), (I x.2.2.2.1), (I x.2.2.2.2.1), (I x.2.2.2.2.2.1), (I x.2.2.2.2.2.2)])).map .d, e := 71 }, { cells := [.d (I Z15), .d (I Z11), .d (I Z18), .d (I Z17), .d (I Z16), .d (I Z10), .d (I Z13), .d (I Z1t), .own 7 0 x5.length 7], e := 142 }, { cells := [.d (I (1 : Int)), .d (I Zj), .d (I Zm), .d (I Zn), .d (I Zo), .d (I Zk)], e := 48 }, { cells := [.d (I x7), .d (I x8)], e := 26 }, { cells := (b113.flatMap (fun (x : Int × Int × Int × Int × Int × Int × Int) => [(I x.1), (I x.2.1), (I x.2.2.1), (I x.2.2.2.1), (I x.2.2.2.2.1), (I x.2.2.2.2.2.1), (I x.2.2.2.2.2.2)])).map .d, e := 71 }, { cells := [.d (I Z15), .d (I Z11), .d (I Z18), .d (I Z17), .d (I Z16), .d (I Z10), .d (I Z13), .d (I Zj), .own 11 0 b113.length 7], e := 142 }]) (ks := []) rfl rfl rfl (CallM.of_PW0 Tryz.func148 rfl (by rw [Tryz.results148]) Tryz.ntmps148 Tryz.call148 ?_) (by exact Nat.le_refl _) (by (simp only [go_sem, Nat.reduceLT])) ?_
 intro gs p
 have H := e18
 unfold H2 at H
 change PW _ _ _ _ _
 try simp only [go_sem, simprocAttr]
 refine b7 ?_
 refine c9 [0, 3] ?_
 simp only [go_sem, simprocAttr, sw0]
 refine b7 ?_
 obtain ⟨⟨x19, x191⟩, e19, H⟩ := d4 H
 refine d6 fun K hK => OW.run [0, 3, 5, 6] ?_
 simp only [go_sem, simprocAttr, sw0]
 refine g9 4 rfl rfl rfl (by first | exact rfl | ((simp only [go_sem, List.toList_toArray, simprocAttr]); exact rfl)) ?_ (access_site_free_ok N _ _ _ _ _ _ _ _ _ _ e19) ?_ ?_ ?_ ?_
 · first | rfl | (simp only [go_sem, sw1, simprocAttr, j3, n3]; first | done | rfl | exact zf6W12a _ _ _ rfl | (simp only [seg, asD, go_sem, sw1, simprocAttr, j3, n3]; first | done | rfl | exact zf6W12a _ _ _ rfl))
 · (first | exact trivial | exact g8 rfl | (refine d9 ?_; simp only [go_sem, sw2, List.length_set, List.length_replicate, and_true, true_and, Nat.le_refl, simprocAttr, j3, n3]; done) | (refine d9 ?_; simp only [go_sem, sw2, List.length_set, List.length_replicate, and_true, true_and, Nat.le_refl, simprocAttr, j3, n3]; omega))
 · first | (exact .inr ⟨rfl, rfl⟩; done) | (simp only [cleanV, go_sem, j3, n3]; done) | (left; (simp only [go_sem, simprocAttr, sw0, j3, n3]); done) | (right; (simp only [go_sem, simprocAttr, sw0, j3, n3]); done)
 (simp only [go_sem, Nat.reduceLT])
 refine OW.run [0, 3, 5, 6] ?_
 simp only [go_sem, simprocAttr, sw0]
 refine OW.nil (hK _ ?_); clear hK K
 refine b7 ?_
 refine c9 [0, 3, 5, 6, 7] ?_
 simp only [go_sem, simprocAttr, sw0]
 refine k5 (τ := Int × (List (Int × Int × Int × Int × Int × Int × Int))) [6, 7] 13 (fun (count, b114) => [(7, .d (I count))]) (fun (count, b114) => [{ cells := [.d (I Z15), .d (I Z11), .d (I Z18), .d (I Z17), .d (I Z16), .d (I Z10), .d (I Z13)], e := 23 }, { cells := [.d (I Z1t), .d (.list Z26.length (Z26.flatMap (fun (x : Int × Int × Int × Int × Int × Int × Int) => [(I x.1), (I x.2.1), (I x.2.2.1), (I x.2.2.2.1), (I x.2.2.2.2.1), (I x.2.2.2.2.2.1), (I x.2.2.2.2.2.2)])))], e := 30 }, { cells := [.d (I (1 : Int)), .d (I Zj), .d (I Zm), .d (I Zn), .d (I Zo), .d (I Zk)], e := 48 }, { cells := [.d (I (0 : Int)), .d (.val (.slice none 0 0))], e := 30 }, { cells := [.d (I Z15), .d (I Z11), .d (I Z18), .d (I Z17), .d (I Z16), .d (I Z10), .d (I Z13)], e := 23 }, { cells := [.d (I Z1t), .d (.list Z26.length (Z26.flatMap (fun (x : Int × Int × Int × Int × Int × Int × Int) => [(I x.1), (I x.2.1), (I x.2.2.1), (I x.2.2.2.1), (I x.2.2.2.2.1), (I x.2.2.2.2.2.1), (I x.2.2.2.2.2.2)])))], e := 30 }, { cells := [.d (I x1), .d (I x2), .d (I x3)], e := 26 }, { cells := (x5.flatMap (fun (x : Int × Int × Int × Int × Int × Int × Int) => [(I x.1), (I x.2.1), (I x.2.2.1), (I x.2.2.2.1), (I x.2.2.2.2.1), (I x.2.2.2.2.2.1), (I x.2.2.2.2.2.2)])).map .d, e := 71 }, { cells := [.d (I Z15), .d (I Z11), .d (I Z18), .d (I Z17), .d (I Z16), .d (I Z10), .d (I Z13), .d (I Z1t), .own 7 0 x5.length 7], e := 142 }, { cells := [.d (I (1 : Int)), .d (I Zj), .d (I Zm), .d (I Zn), .d (I Zo), .d (I Zk)], e := 48 }, { cells := [.d (I x7), .d (I x8)], e := 26 }, { cells := (b114.flatMap (fun (x : Int × Int × Int × Int × Int × Int × Int) => [(I x.1), (I x.2.1), (I x.2.2.1), (I x.2.2.2.1), (I x.2.2.2.2.1), (I x.2.2.2.2.2.1), (I x.2.2.2.2.2.2)])).map .d, e := 71 }, { cells := [.d (I Z15), .d (I Z11), .d (I Z18), .d (I Z17), .d (I Z16), .d (I Z10), .d (I Z13), .d (I Zj), .own 11 0 b114.length 7], e := 142 }]) _ _ (t41, b113) (by exact Nat.le_refl _) H ?_ ?_
 intro K_2 H N23 hN23
 refine b7 ?_
 refine c9 [0, 3, 5, 6, 7, 18, 19, 20] ?_
 simp only [go_sem, simprocAttr, sw0]
 repeat (refine And.intro (by omega) ?_)
 refine PW.block ?_
 refine C7 (σ := Int × Int × (List (Int × Int × Int × Int × Int × Int × Int))) [0, 3, 5, 6, 7, 18, 19, 20] 14 (fun (count1, t20, b115) => [(7, .d (I count1)), (18, .own 11 0 b115.length 7), (20, .d (I t20))]) (fun (count1, t20, b115) => [{ cells := [.d (I Z15), .d (I Z11), .d (I Z18), .d (I Z17), .d (I Z16), .d (I Z10), .d (I Z13)], e := 23 }, { cells := [.d (I Z1t), .d (.list Z26.length (Z26.flatMap (fun (x : Int × Int × Int × Int × Int × Int × Int) => [(I x.1), (I x.2.1), (I x.2.2.1), (I x.2.2.2.1), (I x.2.2.2.2.1), (I x.2.2.2.2.2.1), (I x.2.2.2.2.2.2)])))], e := 30 }, { cells := [.d (I (1 : Int)), .d (I Zj), .d (I Zm), .d (I Zn), .d (I Zo), .d (I Zk)], e := 48 }, { cells := [.d (I (0 : Int)), .d (.val (.slice none 0 0))], e := 30 }, { cells := [.d (I Z15), .d (I Z11), .d (I Z18), .d (I Z17), .d (I Z16), .d (I Z10), .d (I Z13)], e := 23 }, { cells := [.d (I Z1t), .d (.list Z26.length (Z26.flatMap (fun (x : Int × Int × Int × Int × Int × Int × Int) => [(I x.1), (I x.2.1), (I x.2.2.1), (I x.2.2.2.1), (I x.2.2.2.2.1), (I x.2.2.2.2.2.1), (I x.2.2.2.2.2.2)])))], e := 30 }, { cells := [.d (I x1), .d (I x2), .d (I x3)], e := 26 }, { cells := (x5.flatMap (fun (x : Int × Int × Int × Int × Int × Int × Int) => [(I x.1), (I x.2.1), (I x.2.2.1), (I x.2.2.2.1), (I x.2.2.2.2.1), (I x.2.2.2.2.2.1), (I x.2.2.2.2.2.2)])).map .d, e := 71 }, { cells := [.d (I Z15), .d (I Z11), .d (I Z18), .d (I Z17), .d (I Z16), .d (I Z10), .d (I Z13), .d (I Z1t), .own 7 0 x5.length 7], e := 142 }, { cells := [.d (I (1 : Int)), .d (I Zj), .d (I Zm), .d (I Zn), .d (I Zo), .d (I Zk)], e := 48 }, { cells := [.d (I x7), .d (I x8)], e := 26 }, { cells := (b115.flatMap (fun (x : Int × Int × Int × Int × Int × Int × Int) => [(I x.1), (I x.2.1), (I x.2.2.1), (I x.2.2.2.1), (I x.2.2.2.2.1), (I x.2.2.2.2.2.1), (I x.2.2.2.2.2.2)])).map .d, e := 71 }, { cells := [.d (I Z15), .d (I Z11), .d (I Z18), .d (I Z17), .d (I Z16), .d (I Z10), .d (I Z13), .d (I Zj), .own 11 0 b115.length 7], e := 142 }, { cells := [.d (I (1 : Int)), .d (I Zj), .d (I Zm), .d (I Zn), .d (I Zo), .d (I Zk)], e := 48 }]) (B1 N Z17 Zj Zn Zo b11 x19 K_2) (t41, b113) N ((0 : Int), (0 : Int), b11) (by (simp only [go_sem]; omega)) H (by (simp only [sw1, go_sem, simprocAttr]; done)) ?_
 rintro n ⟨count1, t20, b115⟩ H N24 hN24
 unfold B1 at H
 try simp only [go_sem, simprocAttr]
 refine b7 ?_
 refine c9 [0, 3, 5, 6, 7, 18, 19, 20, 21] ?_
 simp only [go_sem, simprocAttr, sw0]
 refine b7 ?_
 refine d5 rfl (fun h25 => ?_) (fun h25 => ?_)
 replace H := n6 h25 H
 refine d8 ?_
 refine b7 ?_
 refine PW.block ?_
 refine b7 ?_
 obtain ⟨c26, H⟩ := j6 H
 refine c9 [0, 3, 5, 6, 7, 8, 9, 18, 19, 20] ?_
 (simp only [go_sem, simprocAttr, sw0, j8, n2 b115 t20.toNat (by omega)])
 repeat (refine And.intro (by omega) ?_)
 refine b7 ?_
 refine b7 ?_
 refine c9 [0, 3, 5, 6, 7, 8, 9, 18, 19, 20, 41] ?_
 simp only [go_sem, simprocAttr, sw0]
 repeat (refine And.intro (by omega) ?_)
 refine d5 rfl (fun h27 => ?_) (fun h27 => ?_)
 replace H := n6 h27 H
 refine o6 ?_
 refine c9 [0, 3, 5, 6, 7, 18, 19, 20] ?_
 simp only [go_sem, simprocAttr, sw0]
 refine hN24 [] (count1, w64 (t20 + (1 : Int)), b115) _ H (by exact trivial) ?_
 simp only [sw1, go_sem, simprocAttr]
 replace H := l7 h27 H
 refine d8 ?_
 refine b7 ?_
 refine c9 [0, 3, 5, 6, 7, 8, 9, 18, 19, 20] ?_
 simp only [go_sem, simprocAttr, sw0]
 change PW _ _ _ _ _
 obtain ⟨c28, H⟩ := j6 H
 refine j4 19 mixed (by kernel_rfl) fun K hK => ?_
 change FW _ _ _ _ _
 refine FW.run ?_
 (simp only [go_sem, simprocAttr, sw0, j8, n2 b115 t20.toNat (by omega), show (List.set (List.set (List.set (List.set (List.set (List.set (List.set ((b115.flatMap (fun (x : Int × Int × Int × Int × Int × Int × Int) => [(I x.1), (I x.2.1), (I x.2.2.1), (I x.2.2.2.1), (I x.2.2.2.2.1), (I x.2.2.2.2.2.1), (I x.2.2.2.2.2.2)])).map V.d) (t20.toNat * 7) (.d (I (2 : Int)))) (t20.toNat * 7 + 1) (.d (I (-1 : Int)))) (t20.toNat * 7 + 1 + 1) (.d (I (0 : Int)))) (t20.toNat * 7 + 1 + 1 + 1) (.d (I x19))) (t20.toNat * 7 + 1 + 1 + 1 + 1) (.d (I (w64 (Zj + Z17))))) (t20.toNat * 7 + 1 + 1 + 1 + 1 + 1) (.d (I ((b115.getD t20.toNat default).2.2.2.2.2.1)))) (t20.toNat * 7 + 1 + 1 + 1 + 1 + 1 + 1) (.d (I ((b115.getD t20.toNat default).2.2.2.2.2.2)))) = (((b115).set t20.toNat ((2 : Int), (-1 : Int), (0 : Int), x19, w64 (Zj + Z17), (b115.getD t20.toNat default).2.2.2.2.2.1, (b115.getD t20.toNat default).2.2.2.2.2.2)).flatMap (fun (x : Int × Int × Int × Int × Int × Int × Int) => [(I x.1), (I x.2.1), (I x.2.2.1), (I x.2.2.2.1), (I x.2.2.2.2.1), (I x.2.2.2.2.2.1), (I x.2.2.2.2.2.2)])).map V.d from s7 b115 t20.toNat (by omega) ((2 : Int), (-1 : Int), (0 : Int), x19, w64 (Zj + Z17), (b115.getD t20.toNat default).2.2.2.2.2.1, (b115.getD t20.toNat default).2.2.2.2.2.2) 0 [(I (2 : Int)), (I (-1 : Int)), (I (0 : Int)), (I x19), (I (w64 (Zj + Z17))), (I ((b115.getD t20.toNat default).2.2.2.2.2.1)), (I ((b115.getD t20.toNat default).2.2.2.2.2.2))] (Nat.le_of_ble_eq_true rfl) rfl, l3])
 repeat (refine And.intro (by omega) ?_)
 refine FW.nil ?_
 change OW _ _ _ _ _ _
 refine OW.run [0, 3, 5, 6, 7, 18, 19, 20] ?_
 (simp only [go_sem, simprocAttr, sw0, j8, n2 b115 t20.toNat (by omega), show (List.set (List.set (List.set (List.set (List.set (List.set (List.set ((b115.flatMap (fun (x : Int × Int × Int × Int × Int × Int × Int) => [(I x.1), (I x.2.1), (I x.2.2.1), (I x.2.2.2.1), (I x.2.2.2.2.1), (I x.2.2.2.2.2.1), (I x.2.2.2.2.2.2)])).map V.d) (t20.toNat * 7) (.d (I (2 : Int)))) (t20.toNat * 7 + 1) (.d (I (-1 : Int)))) (t20.toNat * 7 + 1 + 1) (.d (I (0 : Int)))) (t20.toNat * 7 + 1 + 1 + 1) (.d (I x19))) (t20.toNat * 7 + 1 + 1 + 1 + 1) (.d (I (w64 (Zj + Z17))))) (t20.toNat * 7 + 1 + 1 + 1 + 1 + 1) (.d (I ((b115.getD t20.toNat default).2.2.2.2.2.1)))) (t20.toNat * 7 + 1 + 1 + 1 + 1 + 1 + 1) (.d (I ((b115.getD t20.toNat default).2.2.2.2.2.2)))) = (((b115).set t20.toNat ((2 : Int), (-1 : Int), (0 : Int), x19, w64 (Zj + Z17), (b115.getD t20.toNat default).2.2.2.2.2.1, (b115.getD t20.toNat default).2.2.2.2.2.2)).flatMap (fun (x : Int × Int × Int × Int × Int × Int × Int) => [(I x.1), (I x.2.1), (I x.2.2.1), (I x.2.2.2.1), (I x.2.2.2.2.1), (I x.2.2.2.2.2.1), (I x.2.2.2.2.2.2)])).map V.d from s7 b115 t20.toNat (by omega) ((2 : Int), (-1 : Int), (0 : Int), x19, w64 (Zj + Z17), (b115.getD t20.toNat default).2.2.2.2.2.1, (b115.getD t20.toNat default).2.2.2.2.2.2) 0 [(I (2 : Int)), (I (-1 : Int)), (I (0 : Int)), (I x19), (I (w64 (Zj + Z17))), (I ((b115.getD t20.toNat default).2.2.2.2.2.1)), (I ((b115.getD t20.toNat default).2.2.2.2.2.2))] (Nat.le_of_ble_eq_true rfl) rfl, l3])
 repeat (refine And.intro (by omega) ?_)
 refine OW.nil (hK _ ?_); clear hK K
 refine c9 [0, 3, 5, 6, 7, 18, 19, 20] ?_
 simp only [go_sem, simprocAttr, sw0]
 refine hN24 [] (w64 (count1 + (1 : Int)), w64 (t20 + (1 : Int)), (b115.set t20.toNat ((2 : Int), (-1 : Int), (0 : Int), x19, w64 (Zj + Z17), (b115.getD t20.toNat default).2.2.2.2.2.1, (b115.getD t20.toNat default).2.2.2.2.2.2))) _ H (by exact trivial) ?_
 simp only [sw1, go_sem, simprocAttr]
 replace H := l7 h25 H
 refine o6 ?_
 refine hN23 [] (count1, b115) _ H (by exact trivial) ?_
 simp only [sw1, go_sem, simprocAttr]
 rintro ⟨count, b114⟩ H
 try simp only [go_sem, simprocAttr]
 refine b7 ?_
 obtain ⟨x20, e20, H⟩ := d4 H
 obtain ⟨x21, e21, H⟩ := d4 H
 obtain ⟨x22, e22, H⟩ := d4 H
 refine d6 fun K hK => OW.run [4] ?_
 simp only [go_sem, simprocAttr, sw0]
 refine g9 4 rfl rfl rfl (by first | exact rfl | ((simp only [go_sem, List.toList_toArray, simprocAttr]); exact rfl)) ?_ (i6 N _ _ _ e20) ?_ ?_ ?_ ?_
 rfl
 exact g8 rfl
 exact .inl rfl
 (simp only [go_sem, Nat.reduceLT])
 refine OW.run [4] ?_
 simp only [go_sem, simprocAttr, sw0]
 refine g9 4 rfl rfl rfl (by first | exact rfl | ((simp only [go_sem, List.toList_toArray, simprocAttr]); exact rfl)) ?_ (i6 N _ _ _ e21) ?_ ?_ ?_ ?_
 rfl
 exact g8 rfl
 exact .inl rfl
 (simp only [go_sem, Nat.reduceLT])
 refine OW.run [4] ?_
 simp only [go_sem, simprocAttr, sw0]
 refine g9 4 rfl rfl rfl (by first | exact rfl | ((simp only [go_sem, List.toList_toArray, simprocAttr]); exact rfl)) ?_ (m7 N _ _ e22) ?_ ?_ ?_ ?_
 rfl
 · (refine d9 ?_; (simp only [go_sem, sw2, List.length_set, List.length_replicate, and_true, true_and, Nat.le_refl, simprocAttr]; simp only [seg, go_sem, sw2, List.length_set, List.length_replicate, and_true, true_and, Nat.le_refl, simprocAttr]; done))
 exact .inr ⟨rfl, rfl⟩
 (simp only [go_sem, Nat.reduceLT])
 refine OW.run [4] ?_
 simp only [go_sem, simprocAttr, sw0]
 refine OW.nil (hK _ ?_); clear hK K
 refine PW.fit [4] 13 (by exact Nat.le_refl _) ?_
 try simp only [go_sem, simprocAttr]
 refine d7 ?_
 change PW.EndsM _ _ _ _ _ _ _ _
 refine PW.EndsM.intro (.inr rfl) ?_
 try simp only [go_sem, simprocAttr]
 simp only [Option.some.injEq, Prod.mk.injEq] at H
 obtain ⟨rfl, rfl⟩ := H
 · repeat' (first | trivial | rfl | (simp only [segMap]; rfl) | (simp only [List.length_set]; done) | refine And.intro ?_ ?_)
 try simp only [go_sem, simprocAttr]
 change OW _ _ _ _ _ _
 refine OW.run [7, 8] ?_
 simp only [go_sem, simprocAttr, sw0]
 refine OW.nil (hK _ ?_); clear hK K
 refine b7 ?_
 refine c9 [7, 8, 60] ?_
 simp only [go_sem, simprocAttr, sw0]
 refine d5 rfl (fun h29 => ?_) (fun h29 => ?_)
 replace H := n6 h29 H
 refine b7 ?_
 refine c9 [4, 5] ?_
 simp only [go_sem, simprocAttr, sw0]
 refine d7 ?_
 refine ⟨.inr rfl, rfl, rfl, ?_⟩
 simp only [go_sem, simprocAttr, sw0]
 change OW _ _ _ _ _ _
 refine OW.run [6, 8, 9] ?_
 simp only [go_sem, simprocAttr, sw0]
 refine OW.nil (hK _ ?_); clear hK K
 refine b7 ?_
 refine c9 [6, 8, 9, 27] ?_
 simp only [go_sem, simprocAttr, sw0]
 refine d5 rfl (fun h30 => ?_) (fun h30 => ?_)
 refine b7 ?_
 refine c9 [6, 7] ?_
 simp only [go_sem, simprocAttr, sw0]
 refine d7 (PW.Ends.intro (.inr rfl) ?_)
 simp only [go_sem, simprocAttr, sw0]
 obtain rfl := Option.some.inj H
 refine b8 4 (by (refine d9 ?_; (simp only [go_sem, sw2, List.length_set, List.length_replicate, and_true, true_and, Nat.le_refl, simprocAttr]; done))) ?_
 rfl
 exact absurd (h30.symm.trans h29) (by decide)
 replace H := l7 h29 H
 refine d8 ?_
 refine b7 ?_
 refine c9 [4, 5] ?_
 simp only [go_sem, simprocAttr, sw0]
 refine d7 ?_
 refine ⟨.inr rfl, rfl, rfl, ?_⟩
 simp only [go_sem, simprocAttr, sw0]
 change OW _ _ _ _ _ _
 refine OW.run [6, 8, 9] ?_
 simp only [go_sem, simprocAttr, sw0]
 refine OW.nil (hK _ ?_); clear hK K
 refine b7 ?_
 refine c9 [6, 8, 9, 27] ?_
 simp only [go_sem, simprocAttr, sw0]
 refine d5 rfl (fun h31 => ?_) (fun h31 => ?_)
 exact absurd h31 (by decide)
 ·
  refine d8 ?_
  refine b7 ?_
  refine d6 fun K hK => OW.run [6, 7] ?_
  simp only [go_sem, simprocAttr, sw0]
  refine k6 rfl rfl rfl (by first | exact rfl | ((simp only [go_sem, List.toList_toArray, simprocAttr]); exact rfl)) Tryz.func85 rfl (by rw [Tryz.results85]) Tryz.ntmps85 Tryz.call85 (by (simp only [go_sem, Nat.reduceLT])) ?_
  intro p G
  change PW _ _ _ _ _
  try simp only [go_sem, simprocAttr]
  refine b7 ?_
  refine c9 [0, 2] ?_
  simp only [go_sem, simprocAttr, sw0]
  refine b7 ?_
  refine j4 8 mixed (by kernel_rfl) fun K hK => ?_
  change FW _ _ _ _ _
  refine FW.run ?_
  simp only [go_sem, simprocAttr, sw0]
  repeat (refine And.intro (by omega) ?_)
  refine FW.nil ?_
  change OW _ _ _ _ _ _
  refine OW.run [2] ?_
  simp only [go_sem, simprocAttr, sw0]
  refine OW.nil (hK _ ?_); clear hK K
  refine d7 ?_
  refine ⟨.inr rfl, rfl, rfl, ?_⟩
  simp only [go_sem, simprocAttr, sw0]
  change OW _ _ _ _ _ _
  refine OW.run [6, 7] ?_
  simp only [go_sem, simprocAttr, sw0]
  refine OW.nil (hK _ ?_); clear hK K
  refine d7 (PW.Ends.intro (.inr rfl) ?_)
  simp only [go_sem, simprocAttr, sw0]
  obtain rfl := Option.some.inj H
  have hl0 := j8 b113
  have hn0 : (b113.flatMap (fun (x : Int × Int × Int × Int × Int × Int × Int) => [(I x.1), (I x.2.1), (I x.2.2.1), (I x.2.2.2.1), (I x.2.2.2.2.1), (I x.2.2.2.2.2.1), (I x.2.2.2.2.2.2)])).map nz = b113.flatMap (fun (x : Int × Int × Int × Int × Int × Int × Int) => [(I x.1), (I x.2.1), (I x.2.2.1), (I x.2.2.2.1), (I x.2.2.2.2.1), (I x.2.2.2.2.2.1), (I x.2.2.2.2.2.2)]) := F1 (fun _ => rfl) _
  have ht0 : (b113.flatMap (fun (x : Int × Int × Int × Int × Int × Int × Int) => [(I x.1), (I x.2.1), (I x.2.2.1), (I x.2.2.2.1), (I x.2.2.2.2.1), (I x.2.2.2.2.2.1), (I x.2.2.2.2.2.2)])).take (b113.length * 7) = b113.flatMap (fun (x : Int × Int × Int × Int × Int × Int × Int) => [(I x.1), (I x.2.1), (I x.2.2.1), (I x.2.2.2.1), (I x.2.2.2.2.1), (I x.2.2.2.2.2.1), (I x.2.2.2.2.2.2)]) := take_flat _ (fun _ => rfl) rfl
  refine b8 4 (by (refine d9 ?_; (simp only [go_sem, sw2, List.length_set, List.length_replicate, and_true, true_and, Nat.le_refl, simprocAttr]; omega))) ?_
  (((simp only [go_sem, sw1, simprocAttr]; try simp only [seg, go_sem, simprocAttr])); (repeat' (first | rfl | (refine list_congr ?_; simp only [List.length_take, List.length_drop, List.length_set, List.length_replicate] <;> omega) | (refine congr (congrArg List.cons ?_) ?_) | (refine congrArg D.agg ?_) | (refine congrArg D.tup ?_) | (refine congrArg D.ref ?_) | (refine congrArg (D.list _) ?_) | (refine congrArg (D.clo _) ?_))))
  all_goals (first | rw [ht0, hn0] | simp only [ht0, hn0])
 replace H := l7 (by decide) H
 replace H := l7 (by decide) H
 replace H := n6 (by decide) H
 obtain ⟨⟨t42, b116⟩, e23, H⟩ := d4 H
 refine j4 6 mixed (by kernel_rfl) fun K hK => ?_
 change FW _ _ _ _ _
 refine FW.run ?_
 simp only [go_sem, simprocAttr, sw0]
 repeat (refine And.intro (by omega) ?_)
 refine o2 4 rfl rfl rfl (by first | exact rfl | ((simp only [go_sem, List.toList_toArray, simprocAttr]); exact rfl)) ?_ kindOf_2 ?_ ?_ ?_ ?_
 rfl
 exact g8 rfl
 exact .inl rfl
 (simp only [go_sem, Nat.reduceLT])
 refine FW.run ?_
 simp only [go_sem, simprocAttr, sw0]
 refine FW.nil ?_
 change OW _ _ _ _ _ _
 refine OW.run [7, 8] ?_
 simp only [go_sem, simprocAttr, sw0]
 refine OW.callM (r := (.d (I t42))) (objs' := [{ cells := [.d (I Z15), .d (I Z11), .d (I Z18), .d (I Z17), .d (I Z16), .d (I Z10), .d (I Z13)], e := 23 }, { cells := [.d (I Z1t), .d (.list Z26.length (Z26.flatMap (fun (x : Int × Int × Int × Int × Int × Int × Int) => [(I x.1), (I x.2.1), (I x.2.2.1), (I x.2.2.2.1), (I x.2.2.2.2.1), (I x.2.2.2.2.2.1), (I x.2.2.2.2.2.2)])))], e := 30 }, { cells := [.d (I (2 : Int)), .d (I Zj), .d (I Zm), .d (I Zn), .d (I Zo), .d (I Zk)], e := 48 }, { cells := [.d (I (0 : Int)), .d (.val (.slice none 0 0))], e := 30 }, { cells := [.d (I Z15), .d (I Z11), .d (I Z18), .d (I Z17), .d (I Z16), .d (I Z10), .d (I Z13)], e := 23 }, { cells := [.d (I Z1t), .d (.list Z26.length (Z26.flatMap (fun (x : Int × Int × Int × Int × Int × Int × Int) => [(I x.1), (I x.2.1), (I x.2.2.1), (I x.2.2.2.1), (I x.2.2.2.2.1), (I x.2.2.2.2.2.1), (I x.2.2.2.2.2.2)])))], e := 30 }, { cells := [.d (I x1), .d (I x2), .d (I x3)], e := 26 }, { cells := (x5.flatMap (fun (x : Int × Int × Int × Int × Int × Int × Int) => [(I x.1), (I x.2.1), (I x.2.2.1), (I x.2.2.2.1), (I x.2.2.2.2.1), (I x.2.2.2.2.2.1), (I x.2.2.2.2.2.2)])).map .d, e := 71 }, { cells := [.d (I Z15), .d (I Z11), .d (I Z18), .d (I Z17), .d (I Z16), .d (I Z10), .d (I Z13), .d (I Z1t), .own 7 0 x5.length 7], e := 142 }, { cells := [.d (I (2 : Int)), .d (I Zj), .d (I Zm), .d (I Zn), .d (I Zo), .d (I Zk)], e := 48 }, { cells := [.d (I x7), .d (I x8)], e := 26 }, { cells := (b116.flatMap (fun (x : Int × Int × Int × Int × Int × Int × Int) => [(I x.1), (I x.2.1), (I x.2.2.1), (I x.2.2.2.1), (I x.2.2.2.2.1), (I x.2.2.2.2.2.1), (I x.2.2.2.2.2.2)])).map .d, e := 71 }, { cells := [.d (I Z15), .d (I Z11), .d (I Z18), .d (I Z17), .d (I Z16), .d (I Z10), .d (I Z13), .d (I Zj), .own 11 0 b116.length 7], e := 142 }]) (ks := []) rfl rfl rfl (CallM.of_PW0 Tryz.func149 rfl (by rw [Tryz.results149]) Tryz.ntmps149 Tryz.call149 ?_) (by exact Nat.le_refl _) (by (simp only [go_sem, Nat.reduceLT])) ?_
 intro gs p
 have H := e23
 unfold H1 at H
 change PW _ _ _ _ _
 try simp only [go_sem, simprocAttr]
 refine b7 ?_
 refine c9 [0, 3] ?_
 simp only [go_sem, simprocAttr, sw0]
 refine b7 ?_
 obtain ⟨x24, e24, H⟩ := d4 H
 refine d6 fun K hK => OW.run [0, 3, 5] ?_
 simp only [go_sem, simprocAttr, sw0]
 repeat (refine And.intro (by omega) ?_)
 refine OW.callF' 4 rfl rfl rfl (by first | exact rfl | ((simp only [go_sem, List.toList_toArray, simprocAttr]); exact rfl)) ?_ (access_site_asking_okf N _ _ _ _ _ _ _ _ _ _ _ e24) ?_ ?_ ?_
 · first | rfl | (simp only [go_sem, sw1, simprocAttr, j3, n3]; first | done | rfl | exact zf6W12a _ _ _ rfl | (simp only [seg, asD, go_sem, sw1, simprocAttr, j3, n3]; first | done | rfl | exact zf6W12a _ _ _ rfl))
 · (first | exact trivial | exact g8 rfl | (refine d9 ?_; simp only [go_sem, sw2, List.length_set, List.length_replicate, and_true, true_and, Nat.le_refl, simprocAttr, j3, n3]; done) | (refine d9 ?_; simp only [go_sem, sw2, List.length_set, List.length_replicate, and_true, true_and, Nat.le_refl, simprocAttr, j3, n3]; omega))
 (simp only [go_sem, Nat.reduceLT])
 refine OW.run [0, 3, 5] ?_
 simp only [go_sem, simprocAttr, sw0]
 refine OW.nil (hK _ ?_); clear hK K
 refine b7 ?_
 refine b7 ?_
 obtain ⟨x25, e25, H⟩ := d4 H
 obtain ⟨x26, e26, H⟩ := d4 H
 obtain ⟨x27, e27, H⟩ := d4 H
 obtain ⟨x28, e28, H⟩ := d4 H
 refine j4 7 mixed (by kernel_rfl) fun K hK => ?_
 change FW _ _ _ _ _
 refine FW.run ?_
 simp only [go_sem, simprocAttr, sw0]
 refine o2 4 rfl rfl rfl (by first | exact rfl | ((simp only [go_sem, List.toList_toArray, simprocAttr]); exact rfl)) ?_ (i6 N _ _ _ e25) ?_ ?_ ?_ ?_
 rfl
 exact g8 rfl
 exact .inl rfl
 (simp only [go_sem, Nat.reduceLT])
 refine FW.run ?_
 simp only [go_sem, simprocAttr, sw0]
 repeat (refine And.intro (by omega) ?_)
 refine FW.nil ?_
 change OW _ _ _ _ _ _
 refine OW.run [0, 3, 5, 6] ?_
 simp only [go_sem, simprocAttr, sw0]
 refine g9 4 rfl rfl rfl (by first | exact rfl | ((simp only [go_sem, List.toList_toArray, simprocAttr]); exact rfl)) ?_ (slices_Contains_ii_ok N _ _ _ e26) ?_ ?_ ?_ ?_
 rfl
 exact g8 rfl
 exact .inl rfl
 (simp only [go_sem, Nat.reduceLT])
 refine OW.run [0, 3, 5, 6] ?_
 simp only [go_sem, simprocAttr, sw0]
 refine g9 4 rfl rfl rfl (by first | exact rfl | ((simp only [go_sem, List.toList_toArray, simprocAttr]); exact rfl)) ?_ (i6 N _ _ _ e27) ?_ ?_ ?_ ?_
 rfl
 exact g8 rfl
 exact .inl rfl
 (simp only [go_sem, Nat.reduceLT])
 refine OW.run [0, 3, 5, 6] ?_
 simp only [go_sem, simprocAttr, sw0]
 refine g9 4 rfl rfl rfl (by first | exact rfl | ((simp only [go_sem, List.toList_toArray, simprocAttr]); exact rfl)) ?_ (m7 N _ _ e28) ?_ ?_ ?_ ?_
 rfl
 · (refine d9 ?_; (simp only [go_sem, sw2, List.length_set, List.length_replicate, and_true, true_and, Nat.le_refl, simprocAttr]; simp only [seg, go_sem, sw2, List.length_set, List.length_replicate, and_true, true_and, Nat.le_refl, simprocAttr]; done))
 exact .inr ⟨rfl, rfl⟩
 (simp only [go_sem, Nat.reduceLT])
 refine OW.run [0, 3, 5, 6] ?_
 simp only [go_sem, simprocAttr, sw0]
 refine OW.nil (hK _ ?_); clear hK K
 refine b7 ?_
 refine c9 [0, 3, 5, 6, 26] ?_
 simp only [go_sem, simprocAttr, sw0]
 refine d5 rfl (fun h32 => ?_) (fun h32 => ?_)
 replace H := n6 h32 H
 refine b7 ?_
 refine c9 [4] ?_
 simp only [go_sem, simprocAttr, sw0]
 refine PW.fit [4] 13 (by exact Nat.le_refl _) ?_
 try simp only [go_sem, simprocAttr]
 refine d7 ?_
 change PW.EndsM _ _ _ _ _ _ _ _
 refine PW.EndsM.intro (.inr rfl) ?_
 try simp only [go_sem, simprocAttr]
 simp only [Option.some.injEq, Prod.mk.injEq] at H
 obtain ⟨rfl, rfl⟩ := H
 · repeat' (first | trivial | rfl | (simp only [segMap]; rfl) | (simp only [List.length_set]; done) | refine And.intro ?_ ?_)
 replace H := l7 h32 H
 refine d8 ?_
 refine k5 (τ := (List (Int × Int × Int × Int × Int × Int × Int))) [] 13 (fun b117 => []) (fun b117 => [{ cells := [.d (I Z15), .d (I Z11), .d (I Z18), .d (I Z17), .d (I Z16), .d (I Z10), .d (I Z13)], e := 23 }, { cells := [.d (I Z1t), .d (.list Z26.length (Z26.flatMap (fun (x : Int × Int × Int × Int × Int × Int × Int) => [(I x.1), (I x.2.1), (I x.2.2.1), (I x.2.2.2.1), (I x.2.2.2.2.1), (I x.2.2.2.2.2.1), (I x.2.2.2.2.2.2)])))], e := 30 }, { cells := [.d (I (2 : Int)), .d (I Zj), .d (I Zm), .d (I Zn), .d (I Zo), .d (I Zk)], e := 48 }, { cells := [.d (I (0 : Int)), .d (.val (.slice none 0 0))], e := 30 }, { cells := [.d (I Z15), .d (I Z11), .d (I Z18), .d (I Z17), .d (I Z16), .d (I Z10), .d (I Z13)], e := 23 }, { cells := [.d (I Z1t), .d (.list Z26.length (Z26.flatMap (fun (x : Int × Int × Int × Int × Int × Int × Int) => [(I x.1), (I x.2.1), (I x.2.2.1), (I x.2.2.2.1), (I x.2.2.2.2.1), (I x.2.2.2.2.2.1), (I x.2.2.2.2.2.2)])))], e := 30 }, { cells := [.d (I x1), .d (I x2), .d (I x3)], e := 26 }, { cells := (x5.flatMap (fun (x : Int × Int × Int × Int × Int × Int × Int) => [(I x.1), (I x.2.1), (I x.2.2.1), (I x.2.2.2.1), (I x.2.2.2.2.1), (I x.2.2.2.2.2.1), (I x.2.2.2.2.2.2)])).map .d, e := 71 }, { cells := [.d (I Z15), .d (I Z11), .d (I Z18), .d (I Z17), .d (I Z16), .d (I Z10), .d (I Z13), .d (I Z1t), .own 7 0 x5.length 7], e := 142 }, { cells := [.d (I (2 : Int)), .d (I Zj), .d (I Zm), .d (I Zn), .d (I Zo), .d (I Zk)], e := 48 }, { cells := [.d (I x7), .d (I x8)], e := 26 }, { cells := (b117.flatMap (fun (x : Int × Int × Int × Int × Int × Int × Int) => [(I x.1), (I x.2.1), (I x.2.2.1), (I x.2.2.2.1), (I x.2.2.2.2.1), (I x.2.2.2.2.2.1), (I x.2.2.2.2.2.2)])).map .d, e := 71 }, { cells := [.d (I Z15), .d (I Z11), .d (I Z18), .d (I Z17), .d (I Z16), .d (I Z10), .d (I Z13), .d (I Zj), .own 11 0 b117.length 7], e := 142 }]) _ _ (t42, b116) (by exact Nat.le_refl _) H ?_ ?_
 intro K_3 H N33 hN33
 refine b7 ?_
 refine c9 [0, 3, 28, 29, 30] ?_
 simp only [go_sem, simprocAttr, sw0]
 refine PW.block ?_
 refine C7 (σ := Int × (List (Int × Int × Int × Int × Int × Int × Int))) [0, 3, 28, 29, 30] 15 (fun (t30, b118) => [(30, .d (I t30))]) (fun (t30, b118) => [{ cells := [.d (I Z15), .d (I Z11), .d (I Z18), .d (I Z17), .d (I Z16), .d (I Z10), .d (I Z13)], e := 23 }, { cells := [.d (I Z1t), .d (.list Z26.length (Z26.flatMap (fun (x : Int × Int × Int × Int × Int × Int × Int) => [(I x.1), (I x.2.1), (I x.2.2.1), (I x.2.2.2.1), (I x.2.2.2.2.1), (I x.2.2.2.2.2.1), (I x.2.2.2.2.2.2)])))], e := 30 }, { cells := [.d (I (2 : Int)), .d (I Zj), .d (I Zm), .d (I Zn), .d (I Zo), .d (I Zk)], e := 48 }, { cells := [.d (I (0 : Int)), .d (.val (.slice none 0 0))], e := 30 }, { cells := [.d (I Z15), .d (I Z11), .d (I Z18), .d (I Z17), .d (I Z16), .d (I Z10), .d (I Z13)], e := 23 }, { cells := [.d (I Z1t), .d (.list Z26.length (Z26.flatMap (fun (x : Int × Int × Int × Int × Int × Int × Int) => [(I x.1), (I x.2.1), (I x.2.2.1), (I x.2.2.2.1), (I x.2.2.2.2.1), (I x.2.2.2.2.2.1), (I x.2.2.2.2.2.2)])))], e := 30 }, { cells := [.d (I x1), .d (I x2), .d (I x3)], e := 26 }, { cells := (x5.flatMap (fun (x : Int × Int × Int × Int × Int × Int × Int) => [(I x.1), (I x.2.1), (I x.2.2.1), (I x.2.2.2.1), (I x.2.2.2.2.1), (I x.2.2.2.2.2.1), (I x.2.2.2.2.2.2)])).map .d, e := 71 }, { cells := [.d (I Z15), .d (I Z11), .d (I Z18), .d (I Z17), .d (I Z16), .d (I Z10), .d (I Z13), .d (I Z1t), .own 7 0 x5.length 7], e := 142 }, { cells := [.d (I (2 : Int)), .d (I Zj), .d (I Zm), .d (I Zn), .d (I Zo), .d (I Zk)], e := 48 }, { cells := [.d (I x7), .d (I x8)], e := 26 }, { cells := (b118.flatMap (fun (x : Int × Int × Int × Int × Int × Int × Int) => [(I x.1), (I x.2.1), (I x.2.2.1), (I x.2.2.2.1), (I x.2.2.2.2.1), (I x.2.2.2.2.2.1), (I x.2.2.2.2.2.2)])).map .d, e := 71 }, { cells := [.d (I Z15), .d (I Z11), .d (I Z18), .d (I Z17), .d (I Z16), .d (I Z10), .d (I Z13), .d (I Zj), .own 11 0 b118.length 7], e := 142 }, { cells := [.d (I (2 : Int)), .d (I Zj), .d (I Zm), .d (I Zn), .d (I Zo), .d (I Zk)], e := 48 }, { cells := [.d (I x25), .d (I x27)], e := 26 }]) (B0 N Z16 Z10 Zj Zm Zk x24 K_3) (t42, b116) N ((0 : Int), b11) (by (simp only [go_sem]; omega)) H (by (simp only [sw1, go_sem, simprocAttr]; done)) ?_
 rintro n ⟨t30, b118⟩ H N34 hN34
 unfold B0 at H
 try simp only [go_sem, simprocAttr]
 refine b7 ?_
 refine c9 [0, 3, 28, 29, 30, 31] ?_
 simp only [go_sem, simprocAttr, sw0]
 refine b7 ?_
 refine d5 rfl (fun h35 => ?_) (fun h35 => ?_)
 replace H := n6 h35 H
 refine d8 ?_
 refine b7 ?_
 refine PW.block ?_
 refine b7 ?_
 obtain ⟨c36, H⟩ := j6 H
 refine c9 [0, 3, 8, 28, 29, 30] ?_
 simp only [go_sem, simprocAttr, sw0]
 repeat (refine And.intro (by omega) ?_)
 refine b7 ?_
 refine b7 ?_
 refine c9 [0, 3, 8, 28, 29, 30, 37] ?_
 simp only [go_sem, simprocAttr, sw0]
 repeat (refine And.intro (by omega) ?_)
 refine d5 rfl (fun h37 => ?_) (fun h37 => ?_)
 replace H := n6 h37 H
 refine b7 ?_
 obtain ⟨c38, H⟩ := j6 H
 refine j4 9 mixed (by kernel_rfl) fun K hK => ?_
 change FW _ _ _ _ _
 refine FW.run ?_
 (simp only [go_sem, simprocAttr, sw0, j8, n2 b118 ((x24.getD t30.toNat 0).toNat) (by omega)])
 repeat (refine And.intro (by omega) ?_)
 refine FW.nil ?_
 change OW _ _ _ _ _ _
 refine OW.run [0, 3, 28, 29, 30] ?_
 (simp only [go_sem, simprocAttr, sw0, j8, n2 b118 ((x24.getD t30.toNat 0).toNat) (by omega)])
 refine k6 rfl rfl rfl (by first | exact rfl | ((simp only [go_sem, List.toList_toArray, simprocAttr]); exact rfl)) Tryz.func146 rfl (by rw [Tryz.results146]) Tryz.ntmps146 Tryz.call146 (by (simp only [go_sem, Nat.reduceLT])) ?_
 intro p G
 change PW _ _ _ _ _
 try simp only [go_sem, simprocAttr]
 refine b7 ?_
 refine c9 [0, 1, 2, 6] ?_
 (simp only [go_sem, simprocAttr, sw0, j8, n2 b118 ((x24.getD t30.toNat 0).toNat) (by omega)])
 repeat (refine And.intro (by omega) ?_)
 refine b7 ?_
 obtain ⟨⟨x29, x291, x292, x293, x294, x295, x296⟩, e29, H⟩ := d4 H
 refine d6 fun K hK => OW.run [0, 1, 2, 6] ?_
 (simp only [go_sem, simprocAttr, sw0, j8, n2 b118 ((x24.getD t30.toNat 0).toNat) (by omega), show (List.set (List.set (List.set (List.set (List.set (List.set (List.set ((b118.flatMap (fun (x : Int × Int × Int × Int × Int × Int × Int) => [(I x.1), (I x.2.1), (I x.2.2.1), (I x.2.2.2.1), (I x.2.2.2.2.1), (I x.2.2.2.2.2.1), (I x.2.2.2.2.2.2)])).map V.d) (((x24.getD t30.toNat 0).toNat) * 7) (.d (I x29))) (((x24.getD t30.toNat 0).toNat) * 7 + 1) (.d (I x291))) (((x24.getD t30.toNat 0).toNat) * 7 + 1 + 1) (.d (I x292))) (((x24.getD t30.toNat 0).toNat) * 7 + 1 + 1 + 1) (.d (I x293))) (((x24.getD t30.toNat 0).toNat) * 7 + 1 + 1 + 1 + 1) (.d (I x294))) (((x24.getD t30.toNat 0).toNat) * 7 + 1 + 1 + 1 + 1 + 1) (.d (I x295))) (((x24.getD t30.toNat 0).toNat) * 7 + 1 + 1 + 1 + 1 + 1 + 1) (.d (I x296))) = (((b118).set ((x24.getD t30.toNat 0).toNat) (x29, x291, x292, x293, x294, x295, x296)).flatMap (fun (x : Int × Int × Int × Int × Int × Int × Int) => [(I x.1), (I x.2.1), (I x.2.2.1), (I x.2.2.2.1), (I x.2.2.2.2.1), (I x.2.2.2.2.2.1), (I x.2.2.2.2.2.2)])).map V.d from s7 b118 ((x24.getD t30.toNat 0).toNat) (by omega) (x29, x291, x292, x293, x294, x295, x296) 0 [(I x29), (I x291), (I x292), (I x293), (I x294), (I x295), (I x296)] (Nat.le_of_ble_eq_true rfl) rfl, l3])
 repeat (refine And.intro (by omega) ?_)
 refine g9 4 rfl rfl rfl (by first | exact rfl | ((simp only [go_sem, List.toList_toArray, simprocAttr]); exact rfl)) ?_ (access_idle_ok N _ _ e29) ?_ ?_ ?_ ?_
 rfl
 exact g8 rfl
 exact .inl rfl
 (simp only [go_sem, Nat.reduceLT])
 refine OW.run [0, 1, 2, 6] ?_
 (simp only [go_sem, simprocAttr, sw0, j8, n2 b118 ((x24.getD t30.toNat 0).toNat) (by omega), show (List.set (List.set (List.set (List.set (List.set (List.set (List.set ((b118.flatMap (fun (x : Int × Int × Int × Int × Int × Int × Int) => [(I x.1), (I x.2.1), (I x.2.2.1), (I x.2.2.2.1), (I x.2.2.2.2.1), (I x.2.2.2.2.2.1), (I x.2.2.2.2.2.2)])).map V.d) (((x24.getD t30.toNat 0).toNat) * 7) (.d (I x29))) (((x24.getD t30.toNat 0).toNat) * 7 + 1) (.d (I x291))) (((x24.getD t30.toNat 0).toNat) * 7 + 1 + 1) (.d (I x292))) (((x24.getD t30.toNat 0).toNat) * 7 + 1 + 1 + 1) (.d (I x293))) (((x24.getD t30.toNat 0).toNat) * 7 + 1 + 1 + 1 + 1) (.d (I x294))) (((x24.getD t30.toNat 0).toNat) * 7 + 1 + 1 + 1 + 1 + 1) (.d (I x295))) (((x24.getD t30.toNat 0).toNat) * 7 + 1 + 1 + 1 + 1 + 1 + 1) (.d (I x296))) = (((b118).set ((x24.getD t30.toNat 0).toNat) (x29, x291, x292, x293, x294, x295, x296)).flatMap (fun (x : Int × Int × Int × Int × Int × Int × Int) => [(I x.1), (I x.2.1), (I x.2.2.1), (I x.2.2.2.1), (I x.2.2.2.2.1), (I x.2.2.2.2.2.1), (I x.2.2.2.2.2.2)])).map V.d from s7 b118 ((x24.getD t30.toNat 0).toNat) (by omega) (x29, x291, x292, x293, x294, x295, x296) 0 [(I x29), (I x291), (I x292), (I x293), (I x294), (I x295), (I x296)] (Nat.le_of_ble_eq_true rfl) rfl, l3])
 repeat (refine And.intro (by omega) ?_)
 refine OW.nil (hK _ ?_); clear hK K
 refine b7 ?_
 refine c9 [0, 1, 2, 6] ?_
 (simp only [go_sem, simprocAttr, sw0, j8, show (List.set (((b118.set ((x24.getD t30.toNat 0).toNat) (x29, x291, x292, x293, x294, x295, x296)).flatMap (fun (x : Int × Int × Int × Int × Int × Int × Int) => [(I x.1), (I x.2.1), (I x.2.2.1), (I x.2.2.2.1), (I x.2.2.2.2.1), (I x.2.2.2.2.2.1), (I x.2.2.2.2.2.2)])).map V.d) (((x24.getD t30.toNat 0).toNat) * 7 + 5) (.d (I ((b118.getD ((x24.getD t30.toNat 0).toNat) default).2.2.2.2.2.1)))) = (((b118).set ((x24.getD t30.toNat 0).toNat) (x29, x291, x292, x293, x294, (b118.getD ((x24.getD t30.toNat 0).toNat) default).2.2.2.2.2.1, x296)).flatMap (fun (x : Int × Int × Int × Int × Int × Int × Int) => [(I x.1), (I x.2.1), (I x.2.2.1), (I x.2.2.2.1), (I x.2.2.2.2.1), (I x.2.2.2.2.2.1), (I x.2.2.2.2.2.2)])).map V.d from (s7 (b118.set ((x24.getD t30.toNat 0).toNat) (x29, x291, x292, x293, x294, x295, x296)) ((x24.getD t30.toNat 0).toNat) (by rw [List.length_set]; omega) (x29, x291, x292, x293, x294, (b118.getD ((x24.getD t30.toNat 0).toNat) default).2.2.2.2.2.1, x296) 5 [(I ((b118.getD ((x24.getD t30.toNat 0).toNat) default).2.2.2.2.2.1))] (Nat.le_of_ble_eq_true rfl) (by rw [p6 _ _ _ _ (by omega)]; rfl)).trans (by rw [List.set_set]), l3])
 repeat (refine And.intro (by omega) ?_)
 refine b7 ?_
 refine b7 ?_
 refine c9 [0, 1, 2, 28] ?_
 simp only [go_sem, simprocAttr, sw0]
 repeat (refine And.intro (by omega) ?_)
 refine d5 rfl (fun h39 => ?_) (fun h39 => ?_)
 replace H := n6 h39 H
 refine b7 ?_
 refine c9 [] ?_
 (simp only [go_sem, simprocAttr, sw0, j8, show (List.set (((b118.set ((x24.getD t30.toNat 0).toNat) (x29, x291, x292, x293, x294, (b118.getD ((x24.getD t30.toNat 0).toNat) default).2.2.2.2.2.1, x296)).flatMap (fun (x : Int × Int × Int × Int × Int × Int × Int) => [(I x.1), (I x.2.1), (I x.2.2.1), (I x.2.2.2.1), (I x.2.2.2.2.1), (I x.2.2.2.2.2.1), (I x.2.2.2.2.2.2)])).map V.d) (((x24.getD t30.toNat 0).toNat) * 7) (.d (I (5 : Int)))) = (((b118).set ((x24.getD t30.toNat 0).toNat) ((5 : Int), x291, x292, x293, x294, (b118.getD ((x24.getD t30.toNat 0).toNat) default).2.2.2.2.2.1, x296)).flatMap (fun (x : Int × Int × Int × Int × Int × Int × Int) => [(I x.1), (I x.2.1), (I x.2.2.1), (I x.2.2.2.1), (I x.2.2.2.2.1), (I x.2.2.2.2.2.1), (I x.2.2.2.2.2.2)])).map V.d from (s7 (b118.set ((x24.getD t30.toNat 0).toNat) (x29, x291, x292, x293, x294, (b118.getD ((x24.getD t30.toNat 0).toNat) default).2.2.2.2.2.1, x296)) ((x24.getD t30.toNat 0).toNat) (by rw [List.length_set]; omega) ((5 : Int), x291, x292, x293, x294, (b118.getD ((x24.getD t30.toNat 0).toNat) default).2.2.2.2.2.1, x296) 0 [(I (5 : Int))] (Nat.le_of_ble_eq_true rfl) (by rw [p6 _ _ _ _ (by omega)]; rfl)).trans (by rw [List.set_set]), l3])
 repeat (refine And.intro (by omega) ?_)
 refine d7 ?_
 refine ⟨.inr rfl, rfl, rfl, ?_⟩
 simp only [go_sem, simprocAttr, sw0]
 change OW _ _ _ _ _ _
 refine OW.run [0, 3, 28, 29, 30] ?_
 simp only [go_sem, simprocAttr, sw0]
 refine OW.nil (hK _ ?_); clear hK K
 refine o6 ?_
 refine c9 [0, 3, 28, 29, 30] ?_
 simp only [go_sem, simprocAttr, sw0]
 refine hN34 [] (w64 (t30 + (1 : Int)), (b118.set ((x24.getD t30.toNat 0).toNat) ((5 : Int), x291, x292, x293, x294, (b118.getD ((x24.getD t30.toNat 0).toNat) default).2.2.2.2.2.1, x296))) _ H (by exact trivial) ?_
 simp only [sw1, go_sem, simprocAttr]
 replace H := l7 h39 H
 refine d8 ?_
 refine b7 ?_
 refine c9 [0, 1, 2] ?_
 (simp only [go_sem, simprocAttr, sw0, j8, show (List.set (((b118.set ((x24.getD t30.toNat 0).toNat) (x29, x291, x292, x293, x294, (b118.getD ((x24.getD t30.toNat 0).toNat) default).2.2.2.2.2.1, x296)).flatMap (fun (x : Int × Int × Int × Int × Int × Int × Int) => [(I x.1), (I x.2.1), (I x.2.2.1), (I x.2.2.2.1), (I x.2.2.2.2.1), (I x.2.2.2.2.2.1), (I x.2.2.2.2.2.2)])).map V.d) (((x24.getD t30.toNat 0).toNat) * 7) (.d (I (3 : Int)))) = (((b118).set ((x24.getD t30.toNat 0).toNat) ((3 : Int), x291, x292, x293, x294, (b118.getD ((x24.getD t30.toNat 0).toNat) default).2.2.2.2.2.1, x296)).flatMap (fun (x : Int × Int × Int × Int × Int × Int × Int) => [(I x.1), (I x.2.1), (I x.2.2.1), (I x.2.2.2.1), (I x.2.2.2.2.1), (I x.2.2.2.2.2.1), (I x.2.2.2.2.2.2)])).map V.d from (s7 (b118.set ((x24.getD t30.toNat 0).toNat) (x29, x291, x292, x293, x294, (b118.getD ((x24.getD t30.toNat 0).toNat) default).2.2.2.2.2.1, x296)) ((x24.getD t30.toNat 0).toNat) (by rw [List.length_set]; omega) ((3 : Int), x291, x292, x293, x294, (b118.getD ((x24.getD t30.toNat 0).toNat) default).2.2.2.2.2.1, x296) 0 [(I (3 : Int))] (Nat.le_of_ble_eq_true rfl) (by rw [p6 _ _ _ _ (by omega)]; rfl)).trans (by rw [List.set_set]), l3])
 repeat (refine And.intro (by omega) ?_)
 refine b7 ?_
 refine c9 [0, 1, 2] ?_
 (simp only [go_sem, simprocAttr, sw0, j8, n2 (b118.set ((x24.getD t30.toNat 0).toNat) ((3 : Int), x291, x292, x293, x294, (b118.getD ((x24.getD t30.toNat 0).toNat) default).2.2.2.2.2.1, x296)) ((x24.getD t30.toNat 0).toNat) (by rw [List.length_set]; omega), p6 b118 ((x24.getD t30.toNat 0).toNat) ((3 : Int), x291, x292, x293, x294, (b118.getD ((x24.getD t30.toNat 0).toNat) default).2.2.2.2.2.1, x296) default (by omega), show (List.set (((b118.set ((x24.getD t30.toNat 0).toNat) ((3 : Int), x291, x292, x293, x294, (b118.getD ((x24.getD t30.toNat 0).toNat) default).2.2.2.2.2.1, x296)).flatMap (fun (x : Int × Int × Int × Int × Int × Int × Int) => [(I x.1), (I x.2.1), (I x.2.2.1), (I x.2.2.2.1), (I x.2.2.2.2.1), (I x.2.2.2.2.2.1), (I x.2.2.2.2.2.2)])).map V.d) (((x24.getD t30.toNat 0).toNat) * 7 + 6) (.d (I ((w64 ((w64 ((48271 : Int) * x296)) + (1 : Int))).tmod (998244353 : Int))))) = (((b118).set ((x24.getD t30.toNat 0).toNat) ((3 : Int), x291, x292, x293, x294, (b118.getD ((x24.getD t30.toNat 0).toNat) default).2.2.2.2.2.1, (w64 ((w64 ((48271 : Int) * x296)) + (1 : Int))).tmod (998244353 : Int))).flatMap (fun (x : Int × Int × Int × Int × Int × Int × Int) => [(I x.1), (I x.2.1), (I x.2.2.1), (I x.2.2.2.1), (I x.2.2.2.2.1), (I x.2.2.2.2.2.1), (I x.2.2.2.2.2.2)])).map V.d from (s7 (b118.set ((x24.getD t30.toNat 0).toNat) ((3 : Int), x291, x292, x293, x294, (b118.getD ((x24.getD t30.toNat 0).toNat) default).2.2.2.2.2.1, x296)) ((x24.getD t30.toNat 0).toNat) (by rw [List.length_set]; omega) ((3 : Int), x291, x292, x293, x294, (b118.getD ((x24.getD t30.toNat 0).toNat) default).2.2.2.2.2.1, (w64 ((w64 ((48271 : Int) * x296)) + (1 : Int))).tmod (998244353 : Int)) 6 [(I ((w64 ((w64 ((48271 : Int) * x296)) + (1 : Int))).tmod (998244353 : Int)))] (Nat.le_of_ble_eq_true rfl) (by rw [p6 _ _ _ _ (by omega)]; rfl)).trans (by rw [List.set_set]), l3])
 repeat (refine And.intro (by omega) ?_)
 change PW _ _ _ _ _
 obtain ⟨c40, H⟩ := j6 H
 refine j4 14 mixed (by kernel_rfl) fun K hK => ?_
 change FW _ _ _ _ _
 refine FW.run ?_
 (simp only [go_sem, simprocAttr, sw0, j8, zf7W12a (b118.set ((x24.getD t30.toNat 0).toNat) ((3 : Int), x291, x292, x293, x294, (b118.getD ((x24.getD t30.toNat 0).toNat) default).2.2.2.2.2.1, (w64 ((w64 ((48271 : Int) * x296)) + (1 : Int))).tmod (998244353 : Int))) ((x24.getD t30.toNat 0).toNat) (by rw [List.length_set]; omega), zf8W12a (b118.set ((x24.getD t30.toNat 0).toNat) ((3 : Int), x291, x292, x293, x294, (b118.getD ((x24.getD t30.toNat 0).toNat) default).2.2.2.2.2.1, (w64 ((w64 ((48271 : Int) * x296)) + (1 : Int))).tmod (998244353 : Int))) ((x24.getD t30.toNat 0).toNat) (by rw [List.length_set]; omega) (by decide), o3 (b118.set ((x24.getD t30.toNat 0).toNat) ((3 : Int), x291, x292, x293, x294, (b118.getD ((x24.getD t30.toNat 0).toNat) default).2.2.2.2.2.1, (w64 ((w64 ((48271 : Int) * x296)) + (1 : Int))).tmod (998244353 : Int))) ((x24.getD t30.toNat 0).toNat) (by rw [List.length_set]; omega) 1 (by decide), o3 (b118.set ((x24.getD t30.toNat 0).toNat) ((3 : Int), x291, x292, x293, x294, (b118.getD ((x24.getD t30.toNat 0).toNat) default).2.2.2.2.2.1, (w64 ((w64 ((48271 : Int) * x296)) + (1 : Int))).tmod (998244353 : Int))) ((x24.getD t30.toNat 0).toNat) (by rw [List.length_set]; omega) 2 (by decide), o3 (b118.set ((x24.getD t30.toNat 0).toNat) ((3 : Int), x291, x292, x293, x294, (b118.getD ((x24.getD t30.toNat 0).toNat) default).2.2.2.2.2.1, (w64 ((w64 ((48271 : Int) * x296)) + (1 : Int))).tmod (998244353 : Int))) ((x24.getD t30.toNat 0).toNat) (by rw [List.length_set]; omega) 3 (by decide), o3 (b118.set ((x24.getD t30.toNat 0).toNat) ((3 : Int), x291, x292, x293, x294, (b118.getD ((x24.getD t30.toNat 0).toNat) default).2.2.2.2.2.1, (w64 ((w64 ((48271 : Int) * x296)) + (1 : Int))).tmod (998244353 : Int))) ((x24.getD t30.toNat 0).toNat) (by rw [List.length_set]; omega) 4 (by decide), o3 (b118.set ((x24.getD t30.toNat 0).toNat) ((3 : Int), x291, x292, x293, x294, (b118.getD ((x24.getD t30.toNat 0).toNat) default).2.2.2.2.2.1, (w64 ((w64 ((48271 : Int) * x296)) + (1 : Int))).tmod (998244353 : Int))) ((x24.getD t30.toNat 0).toNat) (by rw [List.length_set]; omega) 5 (by decide), o3 (b118.set ((x24.getD t30.toNat 0).toNat) ((3 : Int), x291, x292, x293, x294, (b118.getD ((x24.getD t30.toNat 0).toNat) default).2.2.2.2.2.1, (w64 ((w64 ((48271 : Int) * x296)) + (1 : Int))).tmod (998244353 : Int))) ((x24.getD t30.toNat 0).toNat) (by rw [List.length_set]; omega) 6 (by decide), p6 b118 ((x24.getD t30.toNat 0).toNat) ((3 : Int), x291, x292, x293, x294, (b118.getD ((x24.getD t30.toNat 0).toNat) default).2.2.2.2.2.1, (w64 ((w64 ((48271 : Int) * x296)) + (1 : Int))).tmod (998244353 : Int)) default (by omega), show (List.set (((b118.set ((x24.getD t30.toNat 0).toNat) ((3 : Int), x291, x292, x293, x294, (b118.getD ((x24.getD t30.toNat 0).toNat) default).2.2.2.2.2.1, (w64 ((w64 ((48271 : Int) * x296)) + (1 : Int))).tmod (998244353 : Int))).flatMap (fun (x : Int × Int × Int × Int × Int × Int × Int) => [(I x.1), (I x.2.1), (I x.2.2.1), (I x.2.2.2.1), (I x.2.2.2.2.1), (I x.2.2.2.2.2.1), (I x.2.2.2.2.2.2)])).map V.d) (((x24.getD t30.toNat 0).toNat) * 7 + 4) (.d (I (w64 (Zj + (((w64 ((w64 ((48271 : Int) * x296)) + (1 : Int))).tmod (998244353 : Int)).tmod (w64 (Z10 + (1 : Int))))))))) = (((b118).set ((x24.getD t30.toNat 0).toNat) ((3 : Int), x291, x292, x293, w64 (Zj + (((w64 ((w64 ((48271 : Int) * x296)) + (1 : Int))).tmod (998244353 : Int)).tmod (w64 (Z10 + (1 : Int))))), (b118.getD ((x24.getD t30.toNat 0).toNat) default).2.2.2.2.2.1, (w64 ((w64 ((48271 : Int) * x296)) + (1 : Int))).tmod (998244353 : Int))).flatMap (fun (x : Int × Int × Int × Int × Int × Int × Int) => [(I x.1), (I x.2.1), (I x.2.2.1), (I x.2.2.2.1), (I x.2.2.2.2.1), (I x.2.2.2.2.2.1), (I x.2.2.2.2.2.2)])).map V.d from (s7 (b118.set ((x24.getD t30.toNat 0).toNat) ((3 : Int), x291, x292, x293, x294, (b118.getD ((x24.getD t30.toNat 0).toNat) default).2.2.2.2.2.1, (w64 ((w64 ((48271 : Int) * x296)) + (1 : Int))).tmod (998244353 : Int))) ((x24.getD t30.toNat 0).toNat) (by rw [List.length_set]; omega) ((3 : Int), x291, x292, x293, w64 (Zj + (((w64 ((w64 ((48271 : Int) * x296)) + (1 : Int))).tmod (998244353 : Int)).tmod (w64 (Z10 + (1 : Int))))), (b118.getD ((x24.getD t30.toNat 0).toNat) default).2.2.2.2.2.1, (w64 ((w64 ((48271 : Int) * x296)) + (1 : Int))).tmod (998244353 : Int)) 4 [(I (w64 (Zj + (((w64 ((w64 ((48271 : Int) * x296)) + (1 : Int))).tmod (998244353 : Int)).tmod (w64 (Z10 + (1 : Int)))))))] (Nat.le_of_ble_eq_true rfl) (by rw [p6 _ _ _ _ (by omega)]; rfl)).trans (by rw [List.set_set]), l3])
 repeat (refine And.intro (by omega) ?_)
 refine FW.nil ?_
 change OW _ _ _ _ _ _
 refine OW.run [] ?_
 (simp only [go_sem, simprocAttr, sw0, j8, zf7W12a (b118.set ((x24.getD t30.toNat 0).toNat) ((3 : Int), x291, x292, x293, x294, (b118.getD ((x24.getD t30.toNat 0).toNat) default).2.2.2.2.2.1, (w64 ((w64 ((48271 : Int) * x296)) + (1 : Int))).tmod (998244353 : Int))) ((x24.getD t30.toNat 0).toNat) (by rw [List.length_set]; omega), zf8W12a (b118.set ((x24.getD t30.toNat 0).toNat) ((3 : Int), x291, x292, x293, x294, (b118.getD ((x24.getD t30.toNat 0).toNat) default).2.2.2.2.2.1, (w64 ((w64 ((48271 : Int) * x296)) + (1 : Int))).tmod (998244353 : Int))) ((x24.getD t30.toNat 0).toNat) (by rw [List.length_set]; omega) (by decide), o3 (b118.set ((x24.getD t30.toNat 0).toNat) ((3 : Int), x291, x292, x293, x294, (b118.getD ((x24.getD t30.toNat 0).toNat) default).2.2.2.2.2.1, (w64 ((w64 ((48271 : Int) * x296)) + (1 : Int))).tmod (998244353 : Int))) ((x24.getD t30.toNat 0).toNat) (by rw [List.length_set]; omega) 1 (by decide), o3 (b118.set ((x24.getD t30.toNat 0).toNat) ((3 : Int), x291, x292, x293, x294, (b118.getD ((x24.getD t30.toNat 0).toNat) default).2.2.2.2.2.1, (w64 ((w64 ((48271 : Int) * x296)) + (1 : Int))).tmod (998244353 : Int))) ((x24.getD t30.toNat 0).toNat) (by rw [List.length_set]; omega) 2 (by decide), o3 (b118.set ((x24.getD t30.toNat 0).toNat) ((3 : Int), x291, x292, x293, x294, (b118.getD ((x24.getD t30.toNat 0).toNat) default).2.2.2.2.2.1, (w64 ((w64 ((48271 : Int) * x296)) + (1 : Int))).tmod (998244353 : Int))) ((x24.getD t30.toNat 0).toNat) (by rw [List.length_set]; omega) 3 (by decide), o3 (b118.set ((x24.getD t30.toNat 0).toNat) ((3 : Int), x291, x292, x293, x294, (b118.getD ((x24.getD t30.toNat 0).toNat) default).2.2.2.2.2.1, (w64 ((w64 ((48271 : Int) * x296)) + (1 : Int))).tmod (998244353 : Int))) ((x24.getD t30.toNat 0).toNat) (by rw [List.length_set]; omega) 4 (by decide), o3 (b118.set ((x24.getD t30.toNat 0).toNat) ((3 : Int), x291, x292, x293, x294, (b118.getD ((x24.getD t30.toNat 0).toNat) default).2.2.2.2.2.1, (w64 ((w64 ((48271 : Int) * x296)) + (1 : Int))).tmod (998244353 : Int))) ((x24.getD t30.toNat 0).toNat) (by rw [List.length_set]; omega) 5 (by decide), o3 (b118.set ((x24.getD t30.toNat 0).toNat) ((3 : Int), x291, x292, x293, x294, (b118.getD ((x24.getD t30.toNat 0).toNat) default).2.2.2.2.2.1, (w64 ((w64 ((48271 : Int) * x296)) + (1 : Int))).tmod (998244353 : Int))) ((x24.getD t30.toNat 0).toNat) (by rw [List.length_set]; omega) 6 (by decide), p6 b118 ((x24.getD t30.toNat 0).toNat) ((3 : Int), x291, x292, x293, x294, (b118.getD ((x24.getD t30.toNat 0).toNat) default).2.2.2.2.2.1, (w64 ((w64 ((48271 : Int) * x296)) + (1 : Int))).tmod (998244353 : Int)) default (by omega), show (List.set (((b118.set ((x24.getD t30.toNat 0).toNat) ((3 : Int), x291, x292, x293, x294, (b118.getD ((x24.getD t30.toNat 0).toNat) default).2.2.2.2.2.1, (w64 ((w64 ((48271 : Int) * x296)) + (1 : Int))).tmod (998244353 : Int))).flatMap (fun (x : Int × Int × Int × Int × Int × Int × Int) => [(I x.1), (I x.2.1), (I x.2.2.1), (I x.2.2.2.1), (I x.2.2.2.2.1), (I x.2.2.2.2.2.1), (I x.2.2.2.2.2.2)])).map V.d) (((x24.getD t30.toNat 0).toNat) * 7 + 4) (.d (I (w64 (Zj + (((w64 ((w64 ((48271 : Int) * x296)) + (1 : Int))).tmod (998244353 : Int)).tmod (w64 (Z10 + (1 : Int))))))))) = (((b118).set ((x24.getD t30.toNat 0).toNat) ((3 : Int), x291, x292, x293, w64 (Zj + (((w64 ((w64 ((48271 : Int) * x296)) + (1 : Int))).tmod (998244353 : Int)).tmod (w64 (Z10 + (1 : Int))))), (b118.getD ((x24.getD t30.toNat 0).toNat) default).2.2.2.2.2.1, (w64 ((w64 ((48271 : Int) * x296)) + (1 : Int))).tmod (998244353 : Int))).flatMap (fun (x : Int × Int × Int × Int × Int × Int × Int) => [(I x.1), (I x.2.1), (I x.2.2.1), (I x.2.2.2.1), (I x.2.2.2.2.1), (I x.2.2.2.2.2.1), (I x.2.2.2.2.2.2)])).map V.d from (s7 (b118.set ((x24.getD t30.toNat 0).toNat) ((3 : Int), x291, x292, x293, x294, (b118.getD ((x24.getD t30.toNat 0).toNat) default).2.2.2.2.2.1, (w64 ((w64 ((48271 : Int) * x296)) + (1 : Int))).tmod (998244353 : Int))) ((x24.getD t30.toNat 0).toNat) (by rw [List.length_set]; omega) ((3 : Int), x291, x292, x293, w64 (Zj + (((w64 ((w64 ((48271 : Int) * x296)) + (1 : Int))).tmod (998244353 : Int)).tmod (w64 (Z10 + (1 : Int))))), (b118.getD ((x24.getD t30.toNat 0).toNat) default).2.2.2.2.2.1, (w64 ((w64 ((48271 : Int) * x296)) + (1 : Int))).tmod (998244353 : Int)) 4 [(I (w64 (Zj + (((w64 ((w64 ((48271 : Int) * x296)) + (1 : Int))).tmod (998244353 : Int)).tmod (w64 (Z10 + (1 : Int)))))))] (Nat.le_of_ble_eq_true rfl) (by rw [p6 _ _ _ _ (by omega)]; rfl)).trans (by rw [List.set_set]), l3])
 repeat (refine And.intro (by omega) ?_)
 refine OW.nil (hK _ ?_); clear hK K
 refine ⟨.inl rfl, rfl, rfl, ?_⟩
 simp only [go_sem, simprocAttr, sw0]
 change OW _ _ _ _ _ _
 refine OW.run [0, 3, 28, 29, 30] ?_
 simp only [go_sem, simprocAttr, sw0]
 refine OW.nil (hK _ ?_); clear hK K
 refine o6 ?_
 refine c9 [0, 3, 28, 29, 30] ?_
 simp only [go_sem, simprocAttr, sw0]
 refine hN34 [] (w64 (t30 + (1 : Int)), (b118.set ((x24.getD t30.toNat 0).toNat) ((3 : Int), x291, x292, x293, w64 (Zj + (((w64 ((w64 ((48271 : Int) * x296)) + (1 : Int))).tmod (998244353 : Int)).tmod (w64 (Z10 + (1 : Int))))), (b118.getD ((x24.getD t30.toNat 0).toNat) default).2.2.2.2.2.1, (w64 ((w64 ((48271 : Int) * x296)) + (1 : Int))).tmod (998244353 : Int)))) _ H (by exact trivial) ?_
 simp only [sw1, go_sem, simprocAttr]
 ·
  replace H := l7 h37 H
  refine d8 ?_
  refine b7 ?_
  obtain ⟨c41, H⟩ := j6 H
  obtain ⟨⟨x30, x301, x302, x303, x304, x305, x306⟩, e30, H⟩ := d4 H
  refine d6 fun K hK => OW.run [0, 3, 8, 9, 28, 29, 30] ?_
  (simp only [go_sem, simprocAttr, sw0, j8, n2 b118 ((x24.getD t30.toNat 0).toNat) (by omega)])
  repeat (refine And.intro (by omega) ?_)
  refine g9 4 rfl rfl rfl (by first | exact rfl | ((simp only [go_sem, List.toList_toArray, simprocAttr]); exact rfl)) ?_ (access_idle_ok N _ _ e30) ?_ ?_ ?_ ?_
  rfl
  exact g8 rfl
  exact .inl rfl
  (simp only [go_sem, Nat.reduceLT])
  refine OW.run [0, 3, 8, 9, 28, 29, 30] ?_
  (simp only [go_sem, simprocAttr, sw0, j8, n2 b118 ((x24.getD t30.toNat 0).toNat) (by omega)])
  refine OW.nil (hK _ ?_); clear hK K
  refine b7 ?_
  refine PW.drawX 4 [3] (fun j => List.getD [[{ cells := [.d (I Z15), .d (I Z11), .d (I Z18), .d (I Z17), .d (I Z16), .d (I Z10), .d (I Z13)], e := 23 }, { cells := [.d (I Z1t), .d (.list Z26.length (Z26.flatMap (fun (x : Int × Int × Int × Int × Int × Int × Int) => [(I x.1), (I x.2.1), (I x.2.2.1), (I x.2.2.2.1), (I x.2.2.2.2.1), (I x.2.2.2.2.2.1), (I x.2.2.2.2.2.2)])))], e := 30 }, { cells := [.d (I (2 : Int)), .d (I Zj), .d (I Zm), .d (I Zn), .d (I Zo), .d (I Zk)], e := 48 }, { cells := [.d (I (0 : Int)), .d (.val (.slice none 0 0))], e := 30 }, { cells := [.d (I Z15), .d (I Z11), .d (I Z18), .d (I Z17), .d (I Z16), .d (I Z10), .d (I Z13)], e := 23 }, { cells := [.d (I Z1t), .d (.list Z26.length (Z26.flatMap (fun (x : Int × Int × Int × Int × Int × Int × Int) => [(I x.1), (I x.2.1), (I x.2.2.1), (I x.2.2.2.1), (I x.2.2.2.2.1), (I x.2.2.2.2.2.1), (I x.2.2.2.2.2.2)])))], e := 30 }, { cells := [.d (I x1), .d (I x2), .d (I x3)], e := 26 }, { cells := (x5.flatMap (fun (x : Int × Int × Int × Int × Int × Int × Int) => [(I x.1), (I x.2.1), (I x.2.2.1), (I x.2.2.2.1), (I x.2.2.2.2.1), (I x.2.2.2.2.2.1), (I x.2.2.2.2.2.2)])).map .d, e := 71 }, { cells := [.d (I Z15), .d (I Z11), .d (I Z18), .d (I Z17), .d (I Z16), .d (I Z10), .d (I Z13), .d (I Z1t), .own 7 0 x5.length 7], e := 142 }, { cells := [.d (I (2 : Int)), .d (I Zj), .d (I Zm), .d (I Zn), .d (I Zo), .d (I Zk)], e := 48 }, { cells := [.d (I x7), .d (I x8)], e := 26 }, { cells := (b118.flatMap (fun (x : Int × Int × Int × Int × Int × Int × Int) => [(I x.1), (I x.2.1), (I x.2.2.1), (I x.2.2.2.1), (I x.2.2.2.2.1), (I x.2.2.2.2.2.1), (I x.2.2.2.2.2.2)])).map .d, e := 71 }, { cells := [.d (I Z15), .d (I Z11), .d (I Z18), .d (I Z17), .d (I Z16), .d (I Z10), .d (I Z13), .d (I Zj), .own 11 0 b118.length 7], e := 142 }, { cells := [.d (I (2 : Int)), .d (I Zj), .d (I Zm), .d (I Zn), .d (I Zo), .d (I Zk)], e := 48 }, { cells := [.d (I x25), .d (I x27)], e := 26 }, { cells := [.d (I x30), .d (I x301), .d (I x302), .d (I x303), .d (I x304), .d (I x305), .d (I x306)], e := 71 }], [{ cells := [.d (I Z15), .d (I Z11), .d (I Z18), .d (I Z17), .d (I Z16), .d (I Z10), .d (I Z13)], e := 23 }, { cells := [.d (I Z1t), .d (.list Z26.length (Z26.flatMap (fun (x : Int × Int × Int × Int × Int × Int × Int) => [(I x.1), (I x.2.1), (I x.2.2.1), (I x.2.2.2.1), (I x.2.2.2.2.1), (I x.2.2.2.2.2.1), (I x.2.2.2.2.2.2)])))], e := 30 }, { cells := [.d (I (2 : Int)), .d (I Zj), .d (I Zm), .d (I Zn), .d (I Zo), .d (I Zk)], e := 48 }, { cells := [.d (I (0 : Int)), .d (.val (.slice none 0 0))], e := 30 }, { cells := [.d (I Z15), .d (I Z11), .d (I Z18), .d (I Z17), .d (I Z16), .d (I Z10), .d (I Z13)], e := 23 }, { cells := [.d (I Z1t), .d (.list Z26.length (Z26.flatMap (fun (x : Int × Int × Int × Int × Int × Int × Int) => [(I x.1), (I x.2.1), (I x.2.2.1), (I x.2.2.2.1), (I x.2.2.2.2.1), (I x.2.2.2.2.2.1), (I x.2.2.2.2.2.2)])))], e := 30 }, { cells := [.d (I x1), .d (I x2), .d (I x3)], e := 26 }, { cells := (x5.flatMap (fun (x : Int × Int × Int × Int × Int × Int × Int) => [(I x.1), (I x.2.1), (I x.2.2.1), (I x.2.2.2.1), (I x.2.2.2.2.1), (I x.2.2.2.2.2.1), (I x.2.2.2.2.2.2)])).map .d, e := 71 }, { cells := [.d (I Z15), .d (I Z11), .d (I Z18), .d (I Z17), .d (I Z16), .d (I Z10), .d (I Z13), .d (I Z1t), .own 7 0 x5.length 7], e := 142 }, { cells := [.d (I (2 : Int)), .d (I Zj), .d (I Zm), .d (I Zn), .d (I Zo), .d (I Zk)], e := 48 }, { cells := [.d (I x7), .d (I x8)], e := 26 }, { cells := (b118.flatMap (fun (x : Int × Int × Int × Int × Int × Int × Int) => [(I x.1), (I x.2.1), (I x.2.2.1), (I x.2.2.2.1), (I x.2.2.2.2.1), (I x.2.2.2.2.2.1), (I x.2.2.2.2.2.2)])).map .d, e := 71 }, { cells := [.d (I Z15), .d (I Z11), .d (I Z18), .d (I Z17), .d (I Z16), .d (I Z10), .d (I Z13), .d (I Zj), .own 11 0 b118.length 7], e := 142 }, { cells := [.d (I (2 : Int)), .d (I Zj), .d (I Zm), .d (I Zn), .d (I Zo), .d (I Zk)], e := 48 }, { cells := [.d (I x25), .d (I x27)], e := 26 }, { cells := [.d (I (4 : Int)), .d (I x301), .d (I x302), .d (I x303), .d (I x304), .d (I x305), .d (I x306)], e := 71 }]] j []) (fun _ v => v) mixed (by kernel_rfl) (by decide) (by ((refine ⟨by decide, ?_⟩; intro k i i' h1 h2 o ho; match k, h1, h2 with | 0, h1, h2 => (simp at h1 h2 <;> first | (cases h2; done) | (subst h1; subst h2; simp at ho; subst ho; simp [Region.binds]; done)) | 1, h1, h2 => (simp at h1 h2 <;> first | (cases h2; done) | (subst h1; subst h2; simp at ho; subst ho; simp [Region.binds]; done)) | 2, h1, h2 => (simp at h1 h2 <;> first | (cases h2; done) | (subst h1; subst h2; simp at ho; subst ho; simp [Region.binds]; done)) | k + 3, h1, h2 => (simp at h2; done)))) (fun _ => rfl) (by decide) (freshL rfl) rfl rfl fun K hK => ?_
  change FWX _ _ _ _ _ _ _ _ _ _
  refine FWX.op (by decide) rfl (.ptr 13 5) 0 1 (.inl rfl) (.inl rfl) ?_ ?_ (by (simp only [go_sem, Nat.reduceLT])) ?_
  ·
   intro j hj1 hj2
   have hj : j = 0 ∨ j = 1 := by omega
   rcases hj with rfl | rfl
   all_goals (refine ⟨?_, ?_⟩)
   all_goals (first | rfl | trivial | (simp only [go_sem, simprocAttr, sw0]; first | done | rfl | omega | assumption | decide | (simp only [List.append_assoc, List.cons_append, List.nil_append]; done) | (simp only [List.flatMap_append, List.map_append]; first | done | rfl) | ((repeat (refine And.intro (by first | rfl | omega | assumption | decide) ?_)); first | rfl | omega | assumption | decide)))
  exact KeptX.same fun _ _ => rfl
  try simp only [go_sem, simprocAttr]
  refine FWX.op (by decide) rfl (.d (I Zk)) 0 1 (.inl rfl) (.inl rfl) ?_ ?_ (by (simp only [go_sem, Nat.reduceLT])) ?_
  ·
   intro j hj1 hj2
   have hj : j = 0 ∨ j = 1 := by omega
   rcases hj with rfl | rfl
   all_goals (refine ⟨?_, ?_⟩)
   all_goals (first | rfl | trivial | (simp only [go_sem, simprocAttr, sw0]; first | done | rfl | omega | assumption | decide | (simp only [List.append_assoc, List.cons_append, List.nil_append]; done) | (simp only [List.flatMap_append, List.map_append]; first | done | rfl) | ((repeat (refine And.intro (by first | rfl | omega | assumption | decide) ?_)); first | rfl | omega | assumption | decide)))
  exact KeptX.same fun _ _ => rfl
  try simp only [go_sem, simprocAttr]
  refine FWX.op (by decide) rfl (.ptr 15 0) 0 0 (.inl rfl) (.inr ⟨_, _, { on := 2, ground := .data }, rfl, rfl, by simp, rfl, rfl⟩) ?_ ?_ (by (simp only [go_sem, Nat.reduceLT])) ?_
  ·
   intro j hj1 hj2
   have hj : j = 0 := by omega
   subst hj
   all_goals (refine ⟨?_, ?_⟩)
   all_goals (first | rfl | trivial | (simp only [go_sem, simprocAttr, sw0]; first | done | rfl | omega | assumption | decide | (simp only [List.append_assoc, List.cons_append, List.nil_append]; done) | (simp only [List.flatMap_append, List.map_append]; first | done | rfl) | ((repeat (refine And.intro (by first | rfl | omega | assumption | decide) ?_)); first | rfl | omega | assumption | decide)))
  exact KeptX.same fun _ _ => rfl
  try simp only [go_sem, simprocAttr]
  refine FWX.store (q := 0) (by decide) rfl rfl rfl rfl (fun _ => rfl) ?_ ?_ ?_
  · first | rfl | trivial | (simp only [go_sem, simprocAttr, sw0]; first | done | rfl | omega | assumption | decide | (simp only [List.append_assoc, List.cons_append, List.nil_append]; done) | ((repeat (refine And.intro (by first | rfl | omega | assumption | decide) ?_)); first | rfl | omega | assumption | decide))
  · first | rfl | trivial | (simp only [go_sem, simprocAttr, sw0]; first | done | rfl | omega | assumption | decide | (simp only [List.append_assoc, List.cons_append, List.nil_append]; done) | ((repeat (refine And.intro (by first | rfl | omega | assumption | decide) ?_)); first | rfl | omega | assumption | decide))
  try simp only [go_sem, simprocAttr]
  refine FWX.nil ?_
  change OW _ _ _ _ _ _
  change OW _ _ _ _ _ _
  refine OW.run [0, 3, 8, 9, 28, 29, 30] ?_
  simp only [go_sem, simprocAttr, sw0]
  repeat (refine And.intro (by omega) ?_)
  refine OW.nil (hK _ ?_); clear hK K
  change PW _ _ _ _ _
  obtain ⟨c42, H⟩ := j6 H
  refine j4 6 mixed (by kernel_rfl) fun K hK => ?_
  change FW _ _ _ _ _
  refine FW.run ?_
  (simp only [go_sem, simprocAttr, sw0, j8, n2 b118 ((x24.getD t30.toNat 0).toNat) (by omega), show (List.set (List.set (List.set (List.set (List.set (List.set (List.set ((b118.flatMap (fun (x : Int × Int × Int × Int × Int × Int × Int) => [(I x.1), (I x.2.1), (I x.2.2.1), (I x.2.2.2.1), (I x.2.2.2.2.1), (I x.2.2.2.2.2.1), (I x.2.2.2.2.2.2)])).map V.d) (((x24.getD t30.toNat 0).toNat) * 7) (.d (I (4 : Int)))) (((x24.getD t30.toNat 0).toNat) * 7 + 1) (.d (I x301))) (((x24.getD t30.toNat 0).toNat) * 7 + 1 + 1) (.d (I x302))) (((x24.getD t30.toNat 0).toNat) * 7 + 1 + 1 + 1) (.d (I Zk))) (((x24.getD t30.toNat 0).toNat) * 7 + 1 + 1 + 1 + 1) (.d (I x304))) (((x24.getD t30.toNat 0).toNat) * 7 + 1 + 1 + 1 + 1 + 1) (.d (I x305))) (((x24.getD t30.toNat 0).toNat) * 7 + 1 + 1 + 1 + 1 + 1 + 1) (.d (I x306))) = (((b118).set ((x24.getD t30.toNat 0).toNat) ((4 : Int), x301, x302, Zk, x304, x305, x306)).flatMap (fun (x : Int × Int × Int × Int × Int × Int × Int) => [(I x.1), (I x.2.1), (I x.2.2.1), (I x.2.2.2.1), (I x.2.2.2.2.1), (I x.2.2.2.2.2.1), (I x.2.2.2.2.2.2)])).map V.d from s7 b118 ((x24.getD t30.toNat 0).toNat) (by omega) ((4 : Int), x301, x302, Zk, x304, x305, x306) 0 [(I (4 : Int)), (I x301), (I x302), (I Zk), (I x304), (I x305), (I x306)] (Nat.le_of_ble_eq_true rfl) rfl, l3])
  repeat (refine And.intro (by omega) ?_)
  refine FW.nil ?_
  change OW _ _ _ _ _ _
  refine OW.run [0, 3, 28, 29, 30] ?_
  (simp only [go_sem, simprocAttr, sw0, j8, n2 b118 ((x24.getD t30.toNat 0).toNat) (by omega), show (List.set (List.set (List.set (List.set (List.set (List.set (List.set ((b118.flatMap (fun (x : Int × Int × Int × Int × Int × Int × Int) => [(I x.1), (I x.2.1), (I x.2.2.1), (I x.2.2.2.1), (I x.2.2.2.2.1), (I x.2.2.2.2.2.1), (I x.2.2.2.2.2.2)])).map V.d) (((x24.getD t30.toNat 0).toNat) * 7) (.d (I (4 : Int)))) (((x24.getD t30.toNat 0).toNat) * 7 + 1) (.d (I x301))) (((x24.getD t30.toNat 0).toNat) * 7 + 1 + 1) (.d (I x302))) (((x24.getD t30.toNat 0).toNat) * 7 + 1 + 1 + 1) (.d (I Zk))) (((x24.getD t30.toNat 0).toNat) * 7 + 1 + 1 + 1 + 1) (.d (I x304))) (((x24.getD t30.toNat 0).toNat) * 7 + 1 + 1 + 1 + 1 + 1) (.d (I x305))) (((x24.getD t30.toNat 0).toNat) * 7 + 1 + 1 + 1 + 1 + 1 + 1) (.d (I x306))) = (((b118).set ((x24.getD t30.toNat 0).toNat) ((4 : Int), x301, x302, Zk, x304, x305, x306)).flatMap (fun (x : Int × Int × Int × Int × Int × Int × Int) => [(I x.1), (I x.2.1), (I x.2.2.1), (I x.2.2.2.1), (I x.2.2.2.2.1), (I x.2.2.2.2.2.1), (I x.2.2.2.2.2.2)])).map V.d from s7 b118 ((x24.getD t30.toNat 0).toNat) (by omega) ((4 : Int), x301, x302, Zk, x304, x305, x306) 0 [(I (4 : Int)), (I x301), (I x302), (I Zk), (I x304), (I x305), (I x306)] (Nat.le_of_ble_eq_true rfl) rfl, l3])
  repeat (refine And.intro (by omega) ?_)
  refine OW.nil (hK _ ?_); clear hK K
  refine c9 [0, 3, 28, 29, 30] ?_
  simp only [go_sem, simprocAttr, sw0]
  refine hN34 [] (w64 (t30 + (1 : Int)), (b118.set ((x24.getD t30.toNat 0).toNat) ((4 : Int), x301, x302, Zk, x304, x305, x306))) _ H (by exact trivial) ?_
  simp only [sw1, go_sem, simprocAttr]
 replace H := l7 h35 H
 refine o6 ?_
 refine hN33 [] b118 _ H (by exact trivial) ?_
 simp only [sw1, go_sem, simprocAttr]
 rintro b117 H
 try simp only [go_sem, simprocAttr]
 refine b7 ?_
 refine c9 [4] ?_
 simp only [go_sem, simprocAttr, sw0]
 refine PW.fit [4] 13 (by exact Nat.le_refl _) ?_
 try simp only [go_sem, simprocAttr]
 refine d7 ?_
 change PW.EndsM _ _ _ _ _ _ _ _
 refine PW.EndsM.intro (.inr rfl) ?_
 try simp only [go_sem, simprocAttr]
 simp only [Option.some.injEq, Prod.mk.injEq] at H
 obtain ⟨rfl, rfl⟩ := H
 · repeat' (first | trivial | rfl | (simp only [segMap]; rfl) | (simp only [List.length_set]; done) | refine And.intro ?_ ?_)
 try simp only [go_sem, simprocAttr]
 change OW _ _ _ _ _ _
 refine OW.run [7, 8] ?_
 simp only [go_sem, simprocAttr, sw0]
 refine OW.nil (hK _ ?_); clear hK K
 refine b7 ?_
 refine c9 [7, 8, 60] ?_
 simp only [go_sem, simprocAttr, sw0]
 refine d5 rfl (fun h43 => ?_) (fun h43 => ?_)
 replace H := n6 h43 H
 refine b7 ?_
 refine c9 [4, 5] ?_
 simp only [go_sem, simprocAttr, sw0]
 refine d7 ?_
 refine ⟨.inr rfl, rfl, rfl, ?_⟩
 simp only [go_sem, simprocAttr, sw0]
 change OW _ _ _ _ _ _
 refine OW.run [6, 8, 9] ?_
 simp only [go_sem, simprocAttr, sw0]
 refine OW.nil (hK _ ?_); clear hK K
 refine b7 ?_
 refine c9 [6, 8, 9, 27] ?_
 simp only [go_sem, simprocAttr, sw0]
 refine d5 rfl (fun h44 => ?_) (fun h44 => ?_)
 refine b7 ?_
 refine c9 [6, 7] ?_
 simp only [go_sem, simprocAttr, sw0]
 refine d7 (PW.Ends.intro (.inr rfl) ?_)
 simp only [go_sem, simprocAttr, sw0]
 obtain rfl := Option.some.inj H
 refine b8 4 (by (refine d9 ?_; (simp only [go_sem, sw2, List.length_set, List.length_replicate, and_true, true_and, Nat.le_refl, simprocAttr]; done))) ?_
 rfl
 exact absurd (h44.symm.trans h43) (by decide)
 replace H := l7 h43 H
 refine d8 ?_
 refine b7 ?_
 refine c9 [4, 5] ?_
 simp only [go_sem, simprocAttr, sw0]
 refine d7 ?_
 refine ⟨.inr rfl, rfl, rfl, ?_⟩
 simp only [go_sem, simprocAttr, sw0]
 change OW _ _ _ _ _ _
 refine OW.run [6, 8, 9] ?_
 simp only [go_sem, simprocAttr, sw0]
 refine OW.nil (hK _ ?_); clear hK K
 refine b7 ?_
 refine c9 [6, 8, 9, 27] ?_
 simp only [go_sem, simprocAttr, sw0]
 refine d5 rfl (fun h45 => ?_) (fun h45 => ?_)
 exact absurd h45 (by decide)
 ·
  refine d8 ?_
  refine b7 ?_
  refine d6 fun K hK => OW.run [6, 7] ?_
  simp only [go_sem, simprocAttr, sw0]
  refine k6 rfl rfl rfl (by first | exact rfl | ((simp only [go_sem, List.toList_toArray, simprocAttr]); exact rfl)) Tryz.func85 rfl (by rw [Tryz.results85]) Tryz.ntmps85 Tryz.call85 (by (simp only [go_sem, Nat.reduceLT])) ?_
  intro p G
  change PW _ _ _ _ _
  try simp only [go_sem, simprocAttr]
  refine b7 ?_
  refine c9 [0, 2] ?_
  simp only [go_sem, simprocAttr, sw0]
  refine b7 ?_
  refine j4 8 mixed (by kernel_rfl) fun K hK => ?_
  change FW _ _ _ _ _
  refine FW.run ?_
  simp only [go_sem, simprocAttr, sw0]
  repeat (refine And.intro (by omega) ?_)
  refine FW.nil ?_
  change OW _ _ _ _ _ _
  refine OW.run [2] ?_
  simp only [go_sem, simprocAttr, sw0]
  refine OW.nil (hK _ ?_); clear hK K
  refine d7 ?_
  refine ⟨.inr rfl, rfl, rfl, ?_⟩
  simp only [go_sem, simprocAttr, sw0]
  change OW _ _ _ _ _ _
  refine OW.run [6, 7] ?_
  simp only [go_sem, simprocAttr, sw0]
  refine OW.nil (hK _ ?_); clear hK K
  refine d7 (PW.Ends.intro (.inr rfl) ?_)
  simp only [go_sem, simprocAttr, sw0]
  obtain rfl := Option.some.inj H
  have hl0 := j8 b116
  have hn0 : (b116.flatMap (fun (x : Int × Int × Int × Int × Int × Int × Int) => [(I x.1), (I x.2.1), (I x.2.2.1), (I x.2.2.2.1), (I x.2.2.2.2.1), (I x.2.2.2.2.2.1), (I x.2.2.2.2.2.2)])).map nz = b116.flatMap (fun (x : Int × Int × Int × Int × Int × Int × Int) => [(I x.1), (I x.2.1), (I x.2.2.1), (I x.2.2.2.1), (I x.2.2.2.2.1), (I x.2.2.2.2.2.1), (I x.2.2.2.2.2.2)]) := F1 (fun _ => rfl) _
  have ht0 : (b116.flatMap (fun (x : Int × Int × Int × Int × Int × Int × Int) => [(I x.1), (I x.2.1), (I x.2.2.1), (I x.2.2.2.1), (I x.2.2.2.2.1), (I x.2.2.2.2.2.1), (I x.2.2.2.2.2.2)])).take (b116.length * 7) = b116.flatMap (fun (x : Int × Int × Int × Int × Int × Int × Int) => [(I x.1), (I x.2.1), (I x.2.2.1), (I x.2.2.2.1), (I x.2.2.2.2.1), (I x.2.2.2.2.2.1), (I x.2.2.2.2.2.2)]) := take_flat _ (fun _ => rfl) rfl
  refine b8 4 (by (refine d9 ?_; (simp only [go_sem, sw2, List.length_set, List.length_replicate, and_true, true_and, Nat.le_refl, simprocAttr]; omega))) ?_
  (((simp only [go_sem, sw1, simprocAttr]; try simp only [seg, go_sem, simprocAttr])); (repeat' (first | rfl | (refine list_congr ?_; simp only [List.length_take, List.length_drop, List.length_set, List.length_replicate] <;> omega) | (refine congr (congrArg List.cons ?_) ?_) | (refine congrArg D.agg ?_) | (refine congrArg D.tup ?_) | (refine congrArg D.ref ?_) | (refine congrArg (D.list _) ?_) | (refine congrArg (D.clo _) ?_))))
  all_goals (first | rw [ht0, hn0] | simp only [ht0, hn0])
 replace H := l7 (by decide) H
 replace H := l7 (by decide) H
 replace H := l7 (by decide) H
 replace H := n6 (by decide) H
 obtain ⟨⟨t43, b119⟩, e31, H⟩ := d4 H
 refine j4 6 mixed (by kernel_rfl) fun K hK => ?_
 change FW _ _ _ _ _
 refine FW.run ?_
 simp only [go_sem, simprocAttr, sw0]
 repeat (refine And.intro (by omega) ?_)
 refine o2 4 rfl rfl rfl (by first | exact rfl | ((simp only [go_sem, List.toList_toArray, simprocAttr]); exact rfl)) ?_ kindOf_3 ?_ ?_ ?_ ?_
 rfl
 exact g8 rfl
 exact .inl rfl
 (simp only [go_sem, Nat.reduceLT])
 refine FW.run ?_
 simp only [go_sem, simprocAttr, sw0]
 refine FW.nil ?_
 change OW _ _ _ _ _ _
 refine OW.run [7, 8] ?_
 simp only [go_sem, simprocAttr, sw0]
 refine OW.callM (r := (.d (I t43))) (objs' := [{ cells := [.d (I Z15), .d (I Z11), .d (I Z18), .d (I Z17), .d (I Z16), .d (I Z10), .d (I Z13)], e := 23 }, { cells := [.d (I Z1t), .d (.list Z26.length (Z26.flatMap (fun (x : Int × Int × Int × Int × Int × Int × Int) => [(I x.1), (I x.2.1), (I x.2.2.1), (I x.2.2.2.1), (I x.2.2.2.2.1), (I x.2.2.2.2.2.1), (I x.2.2.2.2.2.2)])))], e := 30 }, { cells := [.d (I (3 : Int)), .d (I Zj), .d (I Zm), .d (I Zn), .d (I Zo), .d (I Zk)], e := 48 }, { cells := [.d (I (0 : Int)), .d (.val (.slice none 0 0))], e := 30 }, { cells := [.d (I Z15), .d (I Z11), .d (I Z18), .d (I Z17), .d (I Z16), .d (I Z10), .d (I Z13)], e := 23 }, { cells := [.d (I Z1t), .d (.list Z26.length (Z26.flatMap (fun (x : Int × Int × Int × Int × Int × Int × Int) => [(I x.1), (I x.2.1), (I x.2.2.1), (I x.2.2.2.1), (I x.2.2.2.2.1), (I x.2.2.2.2.2.1), (I x.2.2.2.2.2.2)])))], e := 30 }, { cells := [.d (I x1), .d (I x2), .d (I x3)], e := 26 }, { cells := (x5.flatMap (fun (x : Int × Int × Int × Int × Int × Int × Int) => [(I x.1), (I x.2.1), (I x.2.2.1), (I x.2.2.2.1), (I x.2.2.2.2.1), (I x.2.2.2.2.2.1), (I x.2.2.2.2.2.2)])).map .d, e := 71 }, { cells := [.d (I Z15), .d (I Z11), .d (I Z18), .d (I Z17), .d (I Z16), .d (I Z10), .d (I Z13), .d (I Z1t), .own 7 0 x5.length 7], e := 142 }, { cells := [.d (I (3 : Int)), .d (I Zj), .d (I Zm), .d (I Zn), .d (I Zo), .d (I Zk)], e := 48 }, { cells := [.d (I x7), .d (I x8)], e := 26 }, { cells := (b119.flatMap (fun (x : Int × Int × Int × Int × Int × Int × Int) => [(I x.1), (I x.2.1), (I x.2.2.1), (I x.2.2.2.1), (I x.2.2.2.2.1), (I x.2.2.2.2.2.1), (I x.2.2.2.2.2.2)])).map .d, e := 71 }, { cells := [.d (I Z15), .d (I Z11), .d (I Z18), .d (I Z17), .d (I Z16), .d (I Z10), .d (I Z13), .d (I Zj), .own 11 0 b119.length 7], e := 142 }]) (ks := []) rfl rfl rfl (CallM.of_PW0 Tryz.func150 rfl (by rw [Tryz.results150]) Tryz.ntmps150 Tryz.call150 ?_) (by exact Nat.le_refl _) (by (simp only [go_sem, Nat.reduceLT])) ?_
 intro gs p
 have H := e31
 unfold H0 at H
 change PW _ _ _ _ _
 try simp only [go_sem, simprocAttr]
 refine b7 ?_
 refine c9 [0, 3] ?_
 simp only [go_sem, simprocAttr, sw0]
 refine b7 ?_
 obtain ⟨c46, H⟩ := j6 H
 refine j4 6 mixed (by kernel_rfl) fun K hK => ?_
 change FW _ _ _ _ _
 refine FW.run ?_
 (simp only [go_sem, simprocAttr, sw0, j8, n2 b11 Zm.toNat (by omega)])
 repeat (refine And.intro (by omega) ?_)
 refine FW.nil ?_
 change OW _ _ _ _ _ _
 refine OW.run [5] ?_
 (simp only [go_sem, simprocAttr, sw0, j8, n2 b11 Zm.toNat (by omega)])
 repeat (refine And.intro (by omega) ?_)
 refine OW.nil (hK _ ?_); clear hK K
 refine b7 ?_
 refine b7 ?_
 refine c9 [5, 24] ?_
 (simp only [go_sem, simprocAttr, sw0, j8, n2 b11 Zm.toNat (by omega)])
 repeat (refine And.intro (by omega) ?_)
 refine d5 rfl (fun h47 => ?_) (fun h47 => ?_)
 replace H := n6 h47 H
 refine b7 ?_
 refine c9 [4] ?_
 simp only [go_sem, simprocAttr, sw0]
 refine PW.fit [4] 13 (by exact Nat.le_refl _) ?_
 try simp only [go_sem, simprocAttr]
 refine d7 ?_
 change PW.EndsM _ _ _ _ _ _ _ _
 refine PW.EndsM.intro (.inr rfl) ?_
 try simp only [go_sem, simprocAttr]
 simp only [Option.some.injEq, Prod.mk.injEq] at H
 obtain ⟨rfl, rfl⟩ := H
 · repeat' (first | trivial | rfl | (simp only [segMap]; rfl) | (simp only [List.length_set]; done) | refine And.intro ?_ ?_)
 replace H := l7 h47 H
 refine d8 ?_
 refine b7 ?_
 obtain ⟨⟨x32, x321, x322, x323, x324, x325, x326⟩, e32, H⟩ := d4 H
 refine d6 fun K hK => OW.run [] ?_
 (simp only [go_sem, simprocAttr, sw0, j8, n2 b11 Zm.toNat (by omega), show (List.set (List.set (List.set (List.set (List.set (List.set (List.set ((b11.flatMap (fun (x : Int × Int × Int × Int × Int × Int × Int) => [(I x.1), (I x.2.1), (I x.2.2.1), (I x.2.2.2.1), (I x.2.2.2.2.1), (I x.2.2.2.2.2.1), (I x.2.2.2.2.2.2)])).map V.d) (Zm.toNat * 7) (.d (I x32))) (Zm.toNat * 7 + 1) (.d (I x321))) (Zm.toNat * 7 + 1 + 1) (.d (I x322))) (Zm.toNat * 7 + 1 + 1 + 1) (.d (I x323))) (Zm.toNat * 7 + 1 + 1 + 1 + 1) (.d (I x324))) (Zm.toNat * 7 + 1 + 1 + 1 + 1 + 1) (.d (I x325))) (Zm.toNat * 7 + 1 + 1 + 1 + 1 + 1 + 1) (.d (I x326))) = (((b11).set Zm.toNat (x32, x321, x322, x323, x324, x325, x326)).flatMap (fun (x : Int × Int × Int × Int × Int × Int × Int) => [(I x.1), (I x.2.1), (I x.2.2.1), (I x.2.2.2.1), (I x.2.2.2.2.1), (I x.2.2.2.2.2.1), (I x.2.2.2.2.2.2)])).map V.d from s7 b11 Zm.toNat (by omega) (x32, x321, x322, x323, x324, x325, x326) 0 [(I x32), (I x321), (I x322), (I x323), (I x324), (I x325), (I x326)] (Nat.le_of_ble_eq_true rfl) rfl, l3])
 repeat (refine And.intro (by omega) ?_)
 refine g9 4 rfl rfl rfl (by first | exact rfl | ((simp only [go_sem, List.toList_toArray, simprocAttr]); exact rfl)) ?_ (access_idle_ok N _ _ e32) ?_ ?_ ?_ ?_
 rfl
 exact g8 rfl
 exact .inl rfl
 (simp only [go_sem, Nat.reduceLT])
 refine OW.run [] ?_
 (simp only [go_sem, simprocAttr, sw0, j8, n2 b11 Zm.toNat (by omega), show (List.set (List.set (List.set (List.set (List.set (List.set (List.set ((b11.flatMap (fun (x : Int × Int × Int × Int × Int × Int × Int) => [(I x.1), (I x.2.1), (I x.2.2.1), (I x.2.2.2.1), (I x.2.2.2.2.1), (I x.2.2.2.2.2.1), (I x.2.2.2.2.2.2)])).map V.d) (Zm.toNat * 7) (.d (I x32))) (Zm.toNat * 7 + 1) (.d (I x321))) (Zm.toNat * 7 + 1 + 1) (.d (I x322))) (Zm.toNat * 7 + 1 + 1 + 1) (.d (I x323))) (Zm.toNat * 7 + 1 + 1 + 1 + 1) (.d (I x324))) (Zm.toNat * 7 + 1 + 1 + 1 + 1 + 1) (.d (I x325))) (Zm.toNat * 7 + 1 + 1 + 1 + 1 + 1 + 1) (.d (I x326))) = (((b11).set Zm.toNat (x32, x321, x322, x323, x324, x325, x326)).flatMap (fun (x : Int × Int × Int × Int × Int × Int × Int) => [(I x.1), (I x.2.1), (I x.2.2.1), (I x.2.2.2.1), (I x.2.2.2.2.1), (I x.2.2.2.2.2.1), (I x.2.2.2.2.2.2)])).map V.d from s7 b11 Zm.toNat (by omega) (x32, x321, x322, x323, x324, x325, x326) 0 [(I x32), (I x321), (I x322), (I x323), (I x324), (I x325), (I x326)] (Nat.le_of_ble_eq_true rfl) rfl, l3])
 repeat (refine And.intro (by omega) ?_)
 refine OW.nil (hK _ ?_); clear hK K
 refine b7 ?_
 refine c9 [4] ?_
 simp only [go_sem, simprocAttr, sw0]
 refine PW.fit [4] 13 (by exact Nat.le_refl _) ?_
 try simp only [go_sem, simprocAttr]
 refine d7 ?_
 change PW.EndsM _ _ _ _ _ _ _ _
 refine PW.EndsM.intro (.inr rfl) ?_
 try simp only [go_sem, simprocAttr]
 simp only [Option.some.injEq, Prod.mk.injEq] at H
 obtain ⟨rfl, rfl⟩ := H
 · repeat' (first | trivial | rfl | (simp only [segMap]; rfl) | (simp only [List.length_set]; done) | refine And.intro ?_ ?_)
 try simp only [go_sem, simprocAttr]
 change OW _ _ _ _ _ _
 refine OW.run [7, 8] ?_
 simp only [go_sem, simprocAttr, sw0]
 refine OW.nil (hK _ ?_); clear hK K
 refine b7 ?_
 refine c9 [7, 8, 60] ?_
 simp only [go_sem, simprocAttr, sw0]
 refine d5 rfl (fun h48 => ?_) (fun h48 => ?_)
 replace H := n6 h48 H
 refine b7 ?_
 refine c9 [4, 5] ?_
 simp only [go_sem, simprocAttr, sw0]
 refine d7 ?_
 refine ⟨.inr rfl, rfl, rfl, ?_⟩
 simp only [go_sem, simprocAttr, sw0]
 change OW _ _ _ _ _ _
 refine OW.run [6, 8, 9] ?_
 simp only [go_sem, simprocAttr, sw0]
 refine OW.nil (hK _ ?_); clear hK K
 refine b7 ?_
 refine c9 [6, 8, 9, 27] ?_
 simp only [go_sem, simprocAttr, sw0]
 refine d5 rfl (fun h49 => ?_) (fun h49 => ?_)
 refine b7 ?_
 refine c9 [6, 7] ?_
 simp only [go_sem, simprocAttr, sw0]
 refine d7 (PW.Ends.intro (.inr rfl) ?_)
 simp only [go_sem, simprocAttr, sw0]
 obtain rfl := Option.some.inj H
 refine b8 4 (by (refine d9 ?_; (simp only [go_sem, sw2, List.length_set, List.length_replicate, and_true, true_and, Nat.le_refl, simprocAttr]; done))) ?_
 rfl
 exact absurd (h49.symm.trans h48) (by decide)
 replace H := l7 h48 H
 refine d8 ?_
 refine b7 ?_
 refine c9 [4, 5] ?_
 simp only [go_sem, simprocAttr, sw0]
 refine d7 ?_
 refine ⟨.inr rfl, rfl, rfl, ?_⟩
 simp only [go_sem, simprocAttr, sw0]
 change OW _ _ _ _ _ _
 refine OW.run [6, 8, 9] ?_
 simp only [go_sem, simprocAttr, sw0]
 refine OW.nil (hK _ ?_); clear hK K
 refine b7 ?_
 refine c9 [6, 8, 9, 27] ?_
 simp only [go_sem, simprocAttr, sw0]
 refine d5 rfl (fun h50 => ?_) (fun h50 => ?_)
 exact absurd h50 (by decide)
 ·
  refine d8 ?_
  refine b7 ?_
  refine d6 fun K hK => OW.run [6, 7] ?_
  simp only [go_sem, simprocAttr, sw0]
  refine k6 rfl rfl rfl (by first | exact rfl | ((simp only [go_sem, List.toList_toArray, simprocAttr]); exact rfl)) Tryz.func85 rfl (by rw [Tryz.results85]) Tryz.ntmps85 Tryz.call85 (by (simp only [go_sem, Nat.reduceLT])) ?_
  intro p G
  change PW _ _ _ _ _
  try simp only [go_sem, simprocAttr]
  refine b7 ?_
  refine c9 [0, 2] ?_
  simp only [go_sem, simprocAttr, sw0]
  refine b7 ?_
  refine j4 8 mixed (by kernel_rfl) fun K hK => ?_
  change FW _ _ _ _ _
  refine FW.run ?_
  simp only [go_sem, simprocAttr, sw0]
  repeat (refine And.intro (by omega) ?_)
  refine FW.nil ?_
  change OW _ _ _ _ _ _
  refine OW.run [2] ?_
  simp only [go_sem, simprocAttr, sw0]
  refine OW.nil (hK _ ?_); clear hK K
  refine d7 ?_
  refine ⟨.inr rfl, rfl, rfl, ?_⟩
  simp only [go_sem, simprocAttr, sw0]
  change OW _ _ _ _ _ _
  refine OW.run [6, 7] ?_
  simp only [go_sem, simprocAttr, sw0]
  refine OW.nil (hK _ ?_); clear hK K
  refine d7 (PW.Ends.intro (.inr rfl) ?_)
  simp only [go_sem, simprocAttr, sw0]
  obtain rfl := Option.some.inj H
  have hl0 := j8 b119
  have hn0 : (b119.flatMap (fun (x : Int × Int × Int × Int × Int × Int × Int) => [(I x.1), (I x.2.1), (I x.2.2.1), (I x.2.2.2.1), (I x.2.2.2.2.1), (I x.2.2.2.2.2.1), (I x.2.2.2.2.2.2)])).map nz = b119.flatMap (fun (x : Int × Int × Int × Int × Int × Int × Int) => [(I x.1), (I x.2.1), (I x.2.2.1), (I x.2.2.2.1), (I x.2.2.2.2.1), (I x.2.2.2.2.2.1), (I x.2.2.2.2.2.2)]) := F1 (fun _ => rfl) _
  have ht0 : (b119.flatMap (fun (x : Int × Int × Int × Int × Int × Int × Int) => [(I x.1), (I x.2.1), (I x.2.2.1), (I x.2.2.2.1), (I x.2.2.2.2.1), (I x.2.2.2.2.2.1), (I x.2.2.2.2.2.2)])).take (b119.length * 7) = b119.flatMap (fun (x : Int × Int × Int × Int × Int × Int × Int) => [(I x.1), (I x.2.1), (I x.2.2.1), (I x.2.2.2.1), (I x.2.2.2.2.1), (I x.2.2.2.2.2.1), (I x.2.2.2.2.2.2)]) := take_flat _ (fun _ => rfl) rfl
  refine b8 4 (by (refine d9 ?_; (simp only [go_sem, sw2, List.length_set, List.length_replicate, and_true, true_and, Nat.le_refl, simprocAttr]; omega))) ?_
  (((simp only [go_sem, sw1, simprocAttr]; try simp only [seg, go_sem, simprocAttr])); (repeat' (first | rfl | (refine list_congr ?_; simp only [List.length_take, List.length_drop, List.length_set, List.length_replicate] <;> omega) | (refine congr (congrArg List.cons ?_) ?_) | (refine congrArg D.agg ?_) | (refine congrArg D.tup ?_) | (refine congrArg D.ref ?_) | (refine congrArg (D.list _) ?_) | (refine congrArg (D.clo _) ?_))))
  all_goals (first | rw [ht0, hn0] | simp only [ht0, hn0])
 replace H := l7 (by decide) H
 replace H := l7 (by decide) H
 replace H := l7 (by decide) H
 replace H := l7 (by decide) H
 replace H := n6 (by decide) H
 obtain ⟨x33, e33, H⟩ := d4 H
 refine j4 6 mixed (by kernel_rfl) fun K hK => ?_
 change FW _ _ _ _ _
 refine FW.run ?_
 simp only [go_sem, simprocAttr, sw0]
 repeat (refine And.intro (by omega) ?_)
 refine o2 4 rfl rfl rfl (by first | exact rfl | ((simp only [go_sem, List.toList_toArray, simprocAttr]); exact rfl)) ?_ kindOf_4 ?_ ?_ ?_ ?_
 rfl
 exact g8 rfl
 exact .inl rfl
 (simp only [go_sem, Nat.reduceLT])
 refine FW.run ?_
 simp only [go_sem, simprocAttr, sw0]
 refine FW.nil ?_
 change OW _ _ _ _ _ _
 refine OW.run [7, 8] ?_
 simp only [go_sem, simprocAttr, sw0]
 refine g9 4 rfl rfl rfl (by first | exact rfl | ((simp only [go_sem, List.toList_toArray, simprocAttr]); exact rfl)) ?_ (access_kindOf_1_ok N _ _ _ _ _ _ _ _ _ _ _ _ _ _ _ _ e33) ?_ ?_ ?_ ?_
 · first | rfl | (simp only [go_sem, sw1, simprocAttr, j3, n3]; first | done | rfl | exact zf6W12a _ _ _ rfl | (simp only [seg, asD, go_sem, sw1, simprocAttr, j3, n3]; first | done | rfl | exact zf6W12a _ _ _ rfl))
 · (first | exact trivial | exact g8 rfl | (refine d9 ?_; simp only [go_sem, sw2, List.length_set, List.length_replicate, and_true, true_and, Nat.le_refl, simprocAttr, j3, n3]; done) | (refine d9 ?_; simp only [go_sem, sw2, List.length_set, List.length_replicate, and_true, true_and, Nat.le_refl, simprocAttr, j3, n3]; omega))
 · first | (exact .inr ⟨rfl, rfl⟩; done) | (simp only [cleanV, go_sem, j3, n3]; done) | (left; (simp only [go_sem, simprocAttr, sw0, j3, n3]); done) | (right; (simp only [go_sem, simprocAttr, sw0, j3, n3]); done)
 (simp only [go_sem, Nat.reduceLT])
 refine OW.run [7, 8] ?_
 simp only [go_sem, simprocAttr, sw0]
 refine OW.nil (hK _ ?_); clear hK K
 refine b7 ?_
 refine c9 [7, 8, 60] ?_
 simp only [go_sem, simprocAttr, sw0]
 refine d5 rfl (fun h51 => ?_) (fun h51 => ?_)
 replace H := n6 h51 H
 refine b7 ?_
 refine c9 [4, 5] ?_
 simp only [go_sem, simprocAttr, sw0]
 refine d7 ?_
 refine ⟨.inr rfl, rfl, rfl, ?_⟩
 simp only [go_sem, simprocAttr, sw0]
 change OW _ _ _ _ _ _
 refine OW.run [6, 8, 9] ?_
 simp only [go_sem, simprocAttr, sw0]
 refine OW.nil (hK _ ?_); clear hK K
 refine b7 ?_
 refine c9 [6, 8, 9, 27] ?_
 simp only [go_sem, simprocAttr, sw0]
 refine d5 rfl (fun h52 => ?_) (fun h52 => ?_)
 refine b7 ?_
 refine c9 [6, 7] ?_
 simp only [go_sem, simprocAttr, sw0]
 refine d7 (PW.Ends.intro (.inr rfl) ?_)
 simp only [go_sem, simprocAttr, sw0]
 obtain rfl := Option.some.inj H
 refine b8 4 (by (refine d9 ?_; (simp only [go_sem, sw2, List.length_set, List.length_replicate, and_true, true_and, Nat.le_refl, simprocAttr]; done))) ?_
 rfl
 exact absurd (h52.symm.trans h51) (by decide)
 replace H := l7 h51 H
 refine d8 ?_
 refine b7 ?_
 refine c9 [4, 5] ?_
 simp only [go_sem, simprocAttr, sw0]
 refine d7 ?_
 refine ⟨.inr rfl, rfl, rfl, ?_⟩
 simp only [go_sem, simprocAttr, sw0]
 change OW _ _ _ _ _ _
 refine OW.run [6, 8, 9] ?_
 simp only [go_sem, simprocAttr, sw0]
 refine OW.nil (hK _ ?_); clear hK K
 refine b7 ?_
 refine c9 [6, 8, 9, 27] ?_
 simp only [go_sem, simprocAttr, sw0]
 refine d5 rfl (fun h53 => ?_) (fun h53 => ?_)
 exact absurd h53 (by decide)
 ·
  refine d8 ?_
  refine b7 ?_
  refine d6 fun K hK => OW.run [6, 7] ?_
  simp only [go_sem, simprocAttr, sw0]
  refine k6 rfl rfl rfl (by first | exact rfl | ((simp only [go_sem, List.toList_toArray, simprocAttr]); exact rfl)) Tryz.func85 rfl (by rw [Tryz.results85]) Tryz.ntmps85 Tryz.call85 (by (simp only [go_sem, Nat.reduceLT])) ?_
  intro p G
  change PW _ _ _ _ _
  try simp only [go_sem, simprocAttr]
  refine b7 ?_
  refine c9 [0, 2] ?_
  simp only [go_sem, simprocAttr, sw0]
  refine b7 ?_
  refine j4 8 mixed (by kernel_rfl) fun K hK => ?_
  change FW _ _ _ _ _
  refine FW.run ?_
  simp only [go_sem, simprocAttr, sw0]
  repeat (refine And.intro (by omega) ?_)
  refine FW.nil ?_
  change OW _ _ _ _ _ _
  refine OW.run [2] ?_
  simp only [go_sem, simprocAttr, sw0]
  refine OW.nil (hK _ ?_); clear hK K
  refine d7 ?_
  refine ⟨.inr rfl, rfl, rfl, ?_⟩
  simp only [go_sem, simprocAttr, sw0]
  change OW _ _ _ _ _ _
  refine OW.run [6, 7] ?_
  simp only [go_sem, simprocAttr, sw0]
  refine OW.nil (hK _ ?_); clear hK K
  refine d7 (PW.Ends.intro (.inr rfl) ?_)
  simp only [go_sem, simprocAttr, sw0]
  obtain rfl := Option.some.inj H
  have hl0 := j8 b11
  have hn0 : (b11.flatMap (fun (x : Int × Int × Int × Int × Int × Int × Int) => [(I x.1), (I x.2.1), (I x.2.2.1), (I x.2.2.2.1), (I x.2.2.2.2.1), (I x.2.2.2.2.2.1), (I x.2.2.2.2.2.2)])).map nz = b11.flatMap (fun (x : Int × Int × Int × Int × Int × Int × Int) => [(I x.1), (I x.2.1), (I x.2.2.1), (I x.2.2.2.1), (I x.2.2.2.2.1), (I x.2.2.2.2.2.1), (I x.2.2.2.2.2.2)]) := F1 (fun _ => rfl) _
  have ht0 : (b11.flatMap (fun (x : Int × Int × Int × Int × Int × Int × Int) => [(I x.1), (I x.2.1), (I x.2.2.1), (I x.2.2.2.1), (I x.2.2.2.2.1), (I x.2.2.2.2.2.1), (I x.2.2.2.2.2.2)])).take (b11.length * 7) = b11.flatMap (fun (x : Int × Int × Int × Int × Int × Int × Int) => [(I x.1), (I x.2.1), (I x.2.2.1), (I x.2.2.2.1), (I x.2.2.2.2.1), (I x.2.2.2.2.2.1), (I x.2.2.2.2.2.2)]) := take_flat _ (fun _ => rfl) rfl
  refine b8 4 (by (refine d9 ?_; (simp only [go_sem, sw2, List.length_set, List.length_replicate, and_true, true_and, Nat.le_refl, simprocAttr]; omega))) ?_
  (((simp only [go_sem, sw1, simprocAttr]; try simp only [seg, go_sem, simprocAttr])); (repeat' (first | rfl | (refine list_congr ?_; simp only [List.length_take, List.length_drop, List.length_set, List.length_replicate] <;> omega) | (refine congr (congrArg List.cons ?_) ?_) | (refine congrArg D.agg ?_) | (refine congrArg D.tup ?_) | (refine congrArg D.ref ?_) | (refine congrArg (D.list _) ?_) | (refine congrArg (D.clo _) ?_))))
  all_goals (first | rw [ht0, hn0] | simp only [ht0, hn0])
end Go.Proofs.YtbndgoeahoadlaaGreatDoor
