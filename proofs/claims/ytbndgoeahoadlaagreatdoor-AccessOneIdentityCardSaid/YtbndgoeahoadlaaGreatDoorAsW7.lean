import Derived.Test.YtbndgoeahoadlaaGreatDoorAsK
import Derived.Test.YtbndgoeahoadlaaGreatDoorAsS2
import Derived.Test.YtbndgoeahoadlaaGreatDoorAsW1
import Derived.Test.YtbndgoeahoadlaaGreatDoorAsW2
import Derived.Test.YtbndgoeahoadlaaGreatDoorAsW3
set_option linter.all false
namespace Go.Proofs.YtbndgoeahoadlaaGreatDoor
open Go.PW Go.Sh

set_option maxRecDepth 20000
set_option maxHeartbeats 8000000
def zf0W7a := D2 (f := (fun (x : Int × Int × Int × Int × Int × Int × Int) => [(I x.1), (I x.2.1), (I x.2.2.1), (I x.2.2.2.1), (I x.2.2.2.2.1), (I x.2.2.2.2.2.1), (I x.2.2.2.2.2.2)])) (fun _ => rfl)
def zf1W7a := takeFlat (fun (x : Int × Int × Int × Int × Int × Int × Int) => [(I x.1), (I x.2.1), (I x.2.2.1), (I x.2.2.2.1), (I x.2.2.2.2.1), (I x.2.2.2.2.2.1), (I x.2.2.2.2.2.2)]) 7 (fun _ => rfl)
def zf2W7a := takeFlat1 (fun (x : Int × Int × Int × Int × Int × Int × Int) => [(I x.1), (I x.2.1), (I x.2.2.1), (I x.2.2.2.1), (I x.2.2.2.2.1), (I x.2.2.2.2.2.1), (I x.2.2.2.2.2.2)]) 7 (fun _ => rfl)
def zf3W7a := takeFlatS (fun (x : Int × Int × Int × Int × Int × Int × Int) => [(I x.1), (I x.2.1), (I x.2.2.1), (I x.2.2.2.1), (I x.2.2.2.2.1), (I x.2.2.2.2.2.1), (I x.2.2.2.2.2.2)]) 7 (fun _ => rfl)
def zf4W7a := allValFlat (fun (x : Int × Int × Int × Int × Int × Int × Int) => [(I x.1), (I x.2.1), (I x.2.2.1), (I x.2.2.2.1), (I x.2.2.2.2.1), (I x.2.2.2.2.2.1), (I x.2.2.2.2.2.2)]) (fun _ => rfl)
def zf5W7a := m7 7 (fun (x : Int × Int × Int × Int × Int × Int × Int) => [(I x.1), (I x.2.1), (I x.2.2.1), (I x.2.2.2.1), (I x.2.2.2.2.1), (I x.2.2.2.2.2.1), (I x.2.2.2.2.2.2)]) (fun _ => rfl)
def zf6W7a := segFlatSnoc (fun (x : Int × Int × Int × Int × Int × Int × Int) => [(I x.1), (I x.2.1), (I x.2.2.1), (I x.2.2.2.1), (I x.2.2.2.2.1), (I x.2.2.2.2.2.1), (I x.2.2.2.2.2.2)]) 7 (fun _ => rfl)
def zb0W7a := And.intro zf0W7a <| And.intro zf1W7a <| And.intro zf2W7a <| And.intro zf3W7a <| And.intro zf4W7a zf5W7a
theorem access_CheckState_ok (N : Nat) (Z15 : Int) (Z11 : Int) (Z18 : Int) (Z17 : Int) (Z16 : Int) (Z10 : Int) (Z13 : Int) (Z1k : Int) (Z1o : List (Int × Int × Int × Int × Int × Int × Int)) (r : Int) (H : access_CheckState N Z15 Z11 Z18 Z17 Z16 Z10 Z13 Z1k Z1o = some r) : CallOK Tryz.prog 28 [(.agg [(I Z15), (I Z11), (I Z18), (I Z17), (I Z16), (I Z10), (I Z13)]), (.agg [(I Z1k), (.list Z1o.length (Z1o.flatMap (fun (x : Int × Int × Int × Int × Int × Int × Int) => [(I x.1), (I x.2.1), (I x.2.2.1), (I x.2.2.2.1), (I x.2.2.2.2.1), (I x.2.2.2.2.2.1), (I x.2.2.2.2.2.2)])))])] (.d (I r)) [] := by
 refine i6 Tryz.func28 rfl (by rw [Tryz.results28]) Tryz.ntmps28 Tryz.call28 ?_
 change PW _ _ _ _ _
 try simp only [go_sem, simprocAttr]
 unfold access_CheckState at H
 refine b7 ?_
 refine c7 [2, 3] ?_
 simp only [go_sem, simprocAttr, sw0]
 refine b7 ?_
 refine d6 fun K hK => OW.run [6] ?_
 simp only [go_sem, simprocAttr, sw0]
 refine k4 rfl rfl rfl (by first | exact rfl | ((simp only [go_sem, List.toList_toArray, simprocAttr]); exact rfl)) Tryz.func86 rfl (by rw [Tryz.results86]) Tryz.ntmps86 Tryz.call86 (by (simp only [go_sem, Nat.reduceLT])) ?_
 intro p G
 change PW _ _ _ _ _
 try simp only [go_sem, simprocAttr]
 refine b7 ?_
 refine c7 [2, 3] ?_
 simp only [go_sem, simprocAttr, sw0]
 refine b7 ?_
 refine b7 ?_
 obtain ⟨x1, e1, H⟩ := d4 H
 obtain ⟨x2, e2, H⟩ := d4 H
 obtain ⟨x3, e3, H⟩ := d4 H
 obtain ⟨x4, e4, H⟩ := d4 H
 refine j4 8 mixed (by kernel_rfl) fun K hK => ?_
 change FW _ _ _ _ _
 refine FW.run ?_
 simp only [go_sem, simprocAttr, sw0]
 refine n1 4 rfl rfl rfl (by first | exact rfl | ((simp only [go_sem, List.toList_toArray, simprocAttr]); exact rfl)) ?_ (access_CheckRules_ok N _ _ _ _ _ _ _ _ e1) ?_ ?_ ?_ ?_
 rfl
 · (refine d9 ?_; (simp only [go_sem, sw2, List.length_set, List.length_replicate, and_true, true_and, Nat.le_refl, simprocAttr]; done))
 exact .inl rfl
 (simp only [go_sem, Nat.reduceLT])
 refine FW.run ?_
 simp only [go_sem, simprocAttr, sw0]
 repeat (refine And.intro (by omega) ?_)
 refine n1 4 rfl rfl rfl (by first | exact rfl | ((simp only [go_sem, List.toList_toArray, simprocAttr]); exact rfl)) ?_ (access_tickErr_ok N _ _ e2) ?_ ?_ ?_ ?_
 rfl
 exact g9 rfl
 exact .inl rfl
 (simp only [go_sem, Nat.reduceLT])
 refine FW.run ?_
 simp only [go_sem, simprocAttr, sw0]
 repeat (refine And.intro (by omega) ?_)
 refine FW.nil ?_
 change OW _ _ _ _ _ _
 refine OW.run [2, 3, 6] ?_
 simp only [go_sem, simprocAttr, sw0]
 refine g8 4 rfl rfl rfl (by first | exact rfl | ((simp only [go_sem, List.toList_toArray, simprocAttr]); exact rfl)) ?_ (access_phonesErr_ok N _ _ e3) ?_ ?_ ?_ ?_
 rfl
 exact g9 rfl
 exact .inl rfl
 (simp only [go_sem, Nat.reduceLT])
 refine OW.run [2, 3, 6] ?_
 simp only [go_sem, simprocAttr, sw0]
 refine g8 4 rfl rfl rfl (by first | exact rfl | ((simp only [go_sem, List.toList_toArray, simprocAttr]); exact rfl)) ?_ (m6 N _ _ e4) ?_ ?_ ?_ ?_
 rfl
 · (refine d9 ?_; (simp only [go_sem, sw2, List.length_set, List.length_replicate, and_true, true_and, Nat.le_refl, simprocAttr]; simp only [seg, go_sem, sw2, List.length_set, List.length_replicate, and_true, true_and, Nat.le_refl, simprocAttr]; done))
 exact .inr ⟨rfl, rfl⟩
 (simp only [go_sem, Nat.reduceLT])
 refine OW.run [2, 3, 6] ?_
 simp only [go_sem, simprocAttr, sw0]
 refine OW.nil (hK _ ?_); clear hK K
 refine b7 ?_
 refine c7 [2, 3, 6, 22] ?_
 simp only [go_sem, simprocAttr, sw0]
 refine d5 rfl (fun h1 => ?_) (fun h1 => ?_)
 replace H := n3 h1 H
 refine b7 ?_
 refine c7 [4, 5] ?_
 simp only [go_sem, simprocAttr, sw0]
 refine d7 ?_
 refine ⟨.inr rfl, rfl, rfl, ?_⟩
 simp only [go_sem, simprocAttr, sw0]
 change OW _ _ _ _ _ _
 refine OW.run [6] ?_
 simp only [go_sem, simprocAttr, sw0]
 refine OW.nil (hK _ ?_); clear hK K
 refine b7 ?_
 refine c7 [4] ?_
 simp only [go_sem, simprocAttr, sw0]
 refine d7 (PW.Ends.intro (.inr rfl) ?_)
 simp only [go_sem, simprocAttr, sw0]
 obtain rfl := Option.some.inj H
 refine b8 4 (by exact trivial) ?_
 rfl
 replace H := l5 h1 H
 refine d8 ?_
 refine b7 ?_
 obtain ⟨x5, e5, H⟩ := d4 H
 refine D1 6 [5] [71] mixed (by kernel_rfl) (by decide) rfl fun K hK => ?_
 refine FWO.run ?_
 simp only [go_sem, simprocAttr, sw0]
 repeat (refine And.intro (by omega) ?_)
 refine FWO.callO 4 rfl ?_ (by exact Nat.le_refl _) rfl rfl rfl (by first | exact rfl | ((simp only [go_sem, List.toList_toArray, simprocAttr]); exact rfl)) ?_ (C8 N _ _ e5) ?_ ?_ ?_ ?_
 rfl
 rfl
 exact g9 rfl
 exact .inl rfl
 (simp only [go_sem, Nat.reduceLT])
 refine FWO.run ?_
 simp only [go_sem, simprocAttr, sw0]
 repeat (refine And.intro (by rfl) ?_)
 first | refine FWO.nil ?_ | skip
 change OW _ _ _ _ _ _
 refine OW.run [7] ?_
 simp only [go_sem, simprocAttr, sw0]
 refine OW.nil (hK _ ?_); clear hK K
 refine j8 (τ := Unit) [7] 7 (fun _ => []) (fun _ => [{ cells := [.d (I Z15), .d (I Z11), .d (I Z18), .d (I Z17), .d (I Z16), .d (I Z10), .d (I Z13)], e := 23 }, { cells := [.d (I Z1k), .d (.list Z1o.length (Z1o.flatMap (fun (x : Int × Int × Int × Int × Int × Int × Int) => [(I x.1), (I x.2.1), (I x.2.2.1), (I x.2.2.2.1), (I x.2.2.2.2.1), (I x.2.2.2.2.2.1), (I x.2.2.2.2.2.2)])))], e := 30 }, { cells := [.d (I Z15), .d (I Z11), .d (I Z18), .d (I Z17), .d (I Z16), .d (I Z10), .d (I Z13)], e := 23 }, { cells := [.d (I Z1k), .d (.list Z1o.length (Z1o.flatMap (fun (x : Int × Int × Int × Int × Int × Int × Int) => [(I x.1), (I x.2.1), (I x.2.2.1), (I x.2.2.2.1), (I x.2.2.2.2.1), (I x.2.2.2.2.2.1), (I x.2.2.2.2.2.2)])))], e := 30 }, { cells := [.d (I x1), .d (I x2), .d (I x3)], e := 26 }, { cells := (x5.flatMap (fun (x : Int × Int × Int × Int × Int × Int × Int) => [(I x.1), (I x.2.1), (I x.2.2.1), (I x.2.2.2.1), (I x.2.2.2.2.1), (I x.2.2.2.2.2.1), (I x.2.2.2.2.2.2)])).map .d, e := 71 }, { cells := [.d (I Z15), .d (I Z11), .d (I Z18), .d (I Z17), .d (I Z16), .d (I Z10), .d (I Z13), .d (I Z1k), .own 5 0 x5.length 7], e := 142 }]) _ _ r (by (simp only [go_sem]; omega)) H ?_ ?_
 intro K_ H N2 hN2
 refine b7 ?_
 refine c7 [7, 36, 37] ?_
 simp only [go_sem, simprocAttr, sw0]
 repeat (refine And.intro (by omega) ?_)
 refine PW.block ?_
 refine A8 (σ := Int) [7, 36, 37] 7 (fun t37 => [(37, .d (I t37))]) (fun t37 => [{ cells := [.d (I Z15), .d (I Z11), .d (I Z18), .d (I Z17), .d (I Z16), .d (I Z10), .d (I Z13)], e := 23 }, { cells := [.d (I Z1k), .d (.list Z1o.length (Z1o.flatMap (fun (x : Int × Int × Int × Int × Int × Int × Int) => [(I x.1), (I x.2.1), (I x.2.2.1), (I x.2.2.2.1), (I x.2.2.2.2.1), (I x.2.2.2.2.2.1), (I x.2.2.2.2.2.2)])))], e := 30 }, { cells := [.d (I Z15), .d (I Z11), .d (I Z18), .d (I Z17), .d (I Z16), .d (I Z10), .d (I Z13)], e := 23 }, { cells := [.d (I Z1k), .d (.list Z1o.length (Z1o.flatMap (fun (x : Int × Int × Int × Int × Int × Int × Int) => [(I x.1), (I x.2.1), (I x.2.2.1), (I x.2.2.2.1), (I x.2.2.2.2.1), (I x.2.2.2.2.2.1), (I x.2.2.2.2.2.2)])))], e := 30 }, { cells := [.d (I x1), .d (I x2), .d (I x3)], e := 26 }, { cells := (x5.flatMap (fun (x : Int × Int × Int × Int × Int × Int × Int) => [(I x.1), (I x.2.1), (I x.2.2.1), (I x.2.2.2.1), (I x.2.2.2.2.1), (I x.2.2.2.2.2.1), (I x.2.2.2.2.2.2)])).map .d, e := 71 }, { cells := [.d (I Z15), .d (I Z11), .d (I Z18), .d (I Z17), .d (I Z16), .d (I Z10), .d (I Z13), .d (I Z1k), .own 5 0 x5.length 7], e := 142 }]) (u3 N Z15 Z11 Z18 Z17 Z16 Z10 Z13 Z1k x5 K_) r N (0 : Int) (by (simp only [go_sem]; omega)) H (by (simp only [sw1, go_sem, simprocAttr]; done)) ?_
 rintro n t37 H N3 hN3
 unfold u3 at H
 try simp only [go_sem, simprocAttr]
 refine b7 ?_
 refine c7 [7, 36, 37, 38] ?_
 simp only [go_sem, simprocAttr, sw0]
 refine b7 ?_
 refine d5 rfl (fun h4 => ?_) (fun h4 => ?_)
 replace H := n3 h4 H
 refine d8 ?_
 refine b7 ?_
 refine PW.block ?_
 refine b7 ?_
 refine c7 [7, 8, 36, 37] ?_
 simp only [go_sem, simprocAttr, sw0]
 refine b7 ?_
 obtain ⟨x6, e6, H⟩ := d4 H
 refine d6 fun K hK => OW.run [7, 9, 36, 37] ?_
 simp only [go_sem, simprocAttr, sw0]
 refine g8 4 rfl rfl rfl (by first | exact rfl | ((simp only [go_sem, List.toList_toArray, simprocAttr]); exact rfl)) ?_ (H0 N _ _ _ _ _ _ _ _ _ _ _ e6) ?_ ?_ ?_ ?_
 · first | rfl | (simp only [go_sem, sw1, simprocAttr, j0, zb0W7a]; first | done | rfl | exact zf6W7a _ _ _ rfl | (simp only [seg, asD, go_sem, sw1, simprocAttr, j0, zb0W7a]; first | done | rfl | exact zf6W7a _ _ _ rfl))
 · (first | exact trivial | exact g9 rfl | (refine d9 ?_; simp only [go_sem, sw2, List.length_set, List.length_replicate, and_true, true_and, Nat.le_refl, simprocAttr, j0, zb0W7a]; done) | (refine d9 ?_; simp only [go_sem, sw2, List.length_set, List.length_replicate, and_true, true_and, Nat.le_refl, simprocAttr, j0, zb0W7a]; omega))
 · first | (exact .inr ⟨rfl, rfl⟩; done) | (simp only [cleanV, go_sem, j0, zb0W7a]; done) | (left; (simp only [go_sem, simprocAttr, sw0, j0, zb0W7a]); done) | (right; (simp only [go_sem, simprocAttr, sw0, j0, zb0W7a]); done)
 (simp only [go_sem, Nat.reduceLT])
 refine OW.run [7, 9, 36, 37] ?_
 simp only [go_sem, simprocAttr, sw0]
 refine OW.nil (hK _ ?_); clear hK K
 refine b7 ?_
 refine c7 [7, 9, 36, 37, 44] ?_
 simp only [go_sem, simprocAttr, sw0]
 refine d5 rfl (fun h5 => ?_) (fun h5 => ?_)
 replace H := n3 h5 H
 refine b7 ?_
 refine c7 [4, 5] ?_
 simp only [go_sem, simprocAttr, sw0]
 refine d7 ?_
 refine ⟨.inr rfl, rfl, rfl, ?_⟩
 simp only [go_sem, simprocAttr, sw0]
 change OW _ _ _ _ _ _
 refine OW.run [6] ?_
 simp only [go_sem, simprocAttr, sw0]
 refine OW.nil (hK _ ?_); clear hK K
 refine b7 ?_
 refine c7 [4] ?_
 simp only [go_sem, simprocAttr, sw0]
 refine d7 (PW.Ends.intro (.inr rfl) ?_)
 simp only [go_sem, simprocAttr, sw0]
 obtain rfl := Option.some.inj H
 refine b8 4 (by exact trivial) ?_
 rfl
 replace H := l5 h5 H
 refine d8 ?_
 refine c7 [7, 36, 37] ?_
 simp only [go_sem, simprocAttr, sw0]
 refine hN3 [] (w64 (t37 + (1 : Int))) _ H (by exact trivial) ?_
 simp only [sw1, go_sem, simprocAttr]
 replace H := l5 h4 H
 refine o3 ?_
 refine hN2 [] () _ H (by exact trivial) ?_
 simp only [sw1, go_sem, simprocAttr]
 rintro _ H
 try simp only [go_sem, simprocAttr]
 refine b7 ?_
 refine c7 [4, 5] ?_
 simp only [go_sem, simprocAttr, sw0]
 refine d7 ?_
 refine ⟨.inr rfl, rfl, rfl, ?_⟩
 simp only [go_sem, simprocAttr, sw0]
 change OW _ _ _ _ _ _
 refine OW.run [6] ?_
 simp only [go_sem, simprocAttr, sw0]
 refine OW.nil (hK _ ?_); clear hK K
 refine b7 ?_
 refine c7 [4] ?_
 simp only [go_sem, simprocAttr, sw0]
 refine d7 (PW.Ends.intro (.inr rfl) ?_)
 simp only [go_sem, simprocAttr, sw0]
 obtain rfl := Option.some.inj H
 refine b8 4 (by exact trivial) ?_
 rfl

theorem access_isKind_ok (N : Nat) (n : Int) (r : Bool) (H : access_isKind N n = some r) : CallOK Tryz.prog 124 [(I n)] (.d (Bo r)) [] := by
 refine i6 Tryz.func124 rfl (by rw [Tryz.results124]) Tryz.ntmps124 Tryz.call124 ?_
 change PW _ _ _ _ _
 try simp only [go_sem, simprocAttr]
 unfold access_isKind at H
 refine b7 ?_
 refine c7 [0] ?_
 simp only [go_sem, simprocAttr, sw0]
 refine b7 ?_
 obtain ⟨x1, e1, H⟩ := d4 H
 refine d6 fun K hK => OW.run [2] ?_
 simp only [go_sem, simprocAttr, sw0]
 refine g8 4 rfl rfl rfl (by first | exact rfl | ((simp only [go_sem, List.toList_toArray, simprocAttr]); exact rfl)) ?_ (i8 N _ _ _ _ e1) ?_ ?_ ?_ ?_
 rfl
 exact g9 rfl
 exact .inl rfl
 (simp only [go_sem, Nat.reduceLT])
 refine OW.run [2] ?_
 simp only [go_sem, simprocAttr, sw0]
 refine OW.nil (hK _ ?_)
 refine d7 (PW.Ends.intro (.inr rfl) ?_)
 simp only [go_sem, simprocAttr, sw0]
 obtain rfl := Option.some.inj H
 refine b8 4 (by exact trivial) ?_
 rfl

theorem s9 (N : Nat) (u : Int) (Zl : Int) (Zj : Int) (Zm : Int) (Zn : Int) (Zo : Int) (Zk : Int) (r : Int) (H : l3 N u Zl Zj Zm Zn Zo Zk = some r) : CallOK Tryz.prog 125 [(I u), (.ref [(I Zl), (I Zj), (I Zm), (I Zn), (I Zo), (I Zk)])] (.d (.ref [(I r)])) [] := by
 refine i6 Tryz.func125 rfl (by rw [Tryz.results125]) Tryz.ntmps125 Tryz.call125 ?_
 change PW _ _ _ _ _
 try simp only [go_sem, simprocAttr]
 unfold l3 at H
 obtain ⟨hsp, H⟩ := j6 H
 have hsp2 : u = 0 ∨ u = 1 ∨ u = 2 ∨ u = 3 := by omega
 clear hsp
 rcases hsp2 with rfl | rfl | rfl | rfl
 replace H := n3 (by decide) H
 refine b7 ?_
 refine c7 [0, 1] ?_
 simp only [go_sem, simprocAttr, sw0]
 refine b7 ?_
 refine j4 14 mixed (by kernel_rfl) fun K hK => ?_
 change FW _ _ _ _ _
 refine FW.run ?_
 simp only [go_sem, simprocAttr, sw0]
 repeat (refine And.intro (by omega) ?_)
 refine FW.nil ?_
 change OW _ _ _ _ _ _
 refine OW.run [4] ?_
 simp only [go_sem, simprocAttr, sw0]
 repeat (refine And.intro (by omega) ?_)
 refine OW.nil (hK _ ?_)
 refine d7 (PW.Ends.intro (.inr rfl) ?_)
 simp only [go_sem, simprocAttr, sw0]
 obtain rfl := Option.some.inj H
 refine RetOK.refCut (l := [I Zn, I Zo, I Zk]) (b8  4 (by exact trivial) ?_)
 rfl
 replace H := l5 (by decide) H
 replace H := n3 (by decide) H
 refine b7 ?_
 refine c7 [0, 1] ?_
 simp only [go_sem, simprocAttr, sw0]
 refine b7 ?_
 refine j4 14 mixed (by kernel_rfl) fun K hK => ?_
 change FW _ _ _ _ _
 refine FW.run ?_
 simp only [go_sem, simprocAttr, sw0]
 repeat (refine And.intro (by omega) ?_)
 refine FW.nil ?_
 change OW _ _ _ _ _ _
 refine OW.run [4] ?_
 simp only [go_sem, simprocAttr, sw0]
 repeat (refine And.intro (by omega) ?_)
 refine OW.nil (hK _ ?_)
 refine d7 (PW.Ends.intro (.inr rfl) ?_)
 simp only [go_sem, simprocAttr, sw0]
 obtain rfl := Option.some.inj H
 refine RetOK.refCut (l := [I Zo, I Zk]) (b8  4 (by exact trivial) ?_)
 rfl
 replace H := l5 (by decide) H
 replace H := l5 (by decide) H
 replace H := n3 (by decide) H
 refine b7 ?_
 refine c7 [0, 1] ?_
 simp only [go_sem, simprocAttr, sw0]
 refine b7 ?_
 refine j4 14 mixed (by kernel_rfl) fun K hK => ?_
 change FW _ _ _ _ _
 refine FW.run ?_
 simp only [go_sem, simprocAttr, sw0]
 repeat (refine And.intro (by omega) ?_)
 refine FW.nil ?_
 change OW _ _ _ _ _ _
 refine OW.run [4] ?_
 simp only [go_sem, simprocAttr, sw0]
 repeat (refine And.intro (by omega) ?_)
 refine OW.nil (hK _ ?_)
 refine d7 (PW.Ends.intro (.inr rfl) ?_)
 simp only [go_sem, simprocAttr, sw0]
 obtain rfl := Option.some.inj H
 refine RetOK.refCut (l := [I Zk]) (b8  4 (by exact trivial) ?_)
 rfl
 replace H := l5 (by decide) H
 replace H := l5 (by decide) H
 replace H := l5 (by decide) H
 replace H := n3 (by decide) H
 refine b7 ?_
 refine c7 [0, 1] ?_
 simp only [go_sem, simprocAttr, sw0]
 refine b7 ?_
 refine j4 14 mixed (by kernel_rfl) fun K hK => ?_
 change FW _ _ _ _ _
 refine FW.run ?_
 simp only [go_sem, simprocAttr, sw0]
 repeat (refine And.intro (by omega) ?_)
 refine FW.nil ?_
 change OW _ _ _ _ _ _
 refine OW.run [4] ?_
 simp only [go_sem, simprocAttr, sw0]
 repeat (refine And.intro (by omega) ?_)
 refine OW.nil (hK _ ?_)
 refine d7 (PW.Ends.intro (.inr rfl) ?_)
 simp only [go_sem, simprocAttr, sw0]
 obtain rfl := Option.some.inj H
 refine RetOK.refCut (l := []) (b8  4 (by exact trivial) ?_)
 rfl
end Go.Proofs.YtbndgoeahoadlaaGreatDoor
