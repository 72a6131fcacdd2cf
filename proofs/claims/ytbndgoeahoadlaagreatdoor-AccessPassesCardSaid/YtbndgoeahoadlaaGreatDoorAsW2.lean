import Derived.Test.YtbndgoeahoadlaaGreatDoorAsK
import Derived.Test.YtbndgoeahoadlaaGreatDoorAsW1
set_option linter.all false
namespace Go.Proofs.YtbndgoeahoadlaaGreatDoor
open Go.PW Go.Sh

set_option maxRecDepth 20000
set_option maxHeartbeats 8000000
def zf0W2a := m8 7 (fun (x : Int × Int × Int × Int × Int × Int × Int) => [(I x.1), (I x.2.1), (I x.2.2.1), (I x.2.2.2.1), (I x.2.2.2.2.1), (I x.2.2.2.2.2.1), (I x.2.2.2.2.2.2)]) (fun _ => rfl)
def zf1W2a := sub_el 7 (fun (x : Int × Int × Int × Int × Int × Int × Int) => [(I x.1), (I x.2.1), (I x.2.2.1), (I x.2.2.2.1), (I x.2.2.2.2.1), (I x.2.2.2.2.2.1), (I x.2.2.2.2.2.2)]) (fun _ => rfl)
theorem access_CheckRules_ok (N : Nat) (Z15 : Int) (Z11 : Int) (Z18 : Int) (Z17 : Int) (Z16 : Int) (Z10 : Int) (Z13 : Int) (r : Int) (H : q5 N Z15 Z11 Z18 Z17 Z16 Z10 Z13 = some r) : CallOK Tryz.prog 16 [(.agg [(I Z15), (I Z11), (I Z18), (I Z17), (I Z16), (I Z10), (I Z13)])] (.d (I r)) [] := by
 refine i7 Tryz.func16 rfl (by rw [Tryz.results16]) Tryz.ntmps16 Tryz.call16 ?_
 change PW _ _ _ _ _
 try simp only [go_sem, simprocAttr]
 unfold q5 at H
 refine b7 ?_
 refine c9 [1] ?_
 simp only [go_sem, simprocAttr, sw0]
 refine k5 (τ := Unit) [] 0 (fun _ => []) (fun _ => []) _ _ r (by exact Nat.le_refl _) H ?_ ?_
 intro K_ H N1 hN1
 refine b7 ?_
 refine c9 [26, 27] ?_
 simp only [go_sem, simprocAttr, sw0]
 repeat (refine And.intro (by omega) ?_)
 refine PW.block ?_
 refine H4 8 ?_
 refine b7 ?_
 refine c9 [26, 27, 28] ?_
 simp only [go_sem, simprocAttr, sw0]
 refine b7 ?_
 refine d5 rfl (fun h2 => ?_) (fun h2 => ?_)
 refine d8 ?_
 refine b7 ?_
 refine PW.block ?_
 refine b7 ?_
 refine c9 [4, 26, 27] ?_
 simp only [go_sem, simprocAttr, sw0]
 repeat (refine And.intro (by omega) ?_)
 refine b7 ?_
 obtain ⟨x1, e1, H⟩ := d4 H
 refine d6 fun K hK => OW.run [26, 27, 37] ?_
 simp only [go_sem, simprocAttr, sw0]
 repeat (refine And.intro (by omega) ?_)
 refine g9 4 rfl rfl rfl (by first | exact rfl | ((simp only [go_sem, List.toList_toArray, simprocAttr]); exact rfl)) ?_ (i8 N _ _ _ _ e1) ?_ ?_ ?_ ?_
 rfl
 exact g8 rfl
 exact .inl rfl
 (simp only [go_sem, Nat.reduceLT])
 refine OW.run [26, 27, 37] ?_
 simp only [go_sem, simprocAttr, sw0]
 refine OW.nil (hK _ ?_)
 refine d5 rfl (fun h3 => ?_) (fun h3 => ?_)
 replace H := n6 h3 H
 refine b7 ?_
 refine c9 [2] ?_
 simp only [go_sem, simprocAttr, sw0]
 refine d7 (PW.Ends.intro (.inr rfl) ?_)
 simp only [go_sem, simprocAttr, sw0]
 obtain rfl := Option.some.inj H
 refine b8 4 (by exact trivial) ?_
 rfl
 replace H := l7 h3 H
 refine d8 ?_
 refine c9 [26, 27] ?_
 simp only [go_sem, simprocAttr, sw0]
 refine b7 ?_
 refine c9 [26, 27, 28] ?_
 simp only [go_sem, simprocAttr, sw0]
 refine b7 ?_
 refine d5 rfl (fun h4 => ?_) (fun h4 => ?_)
 refine d8 ?_
 refine b7 ?_
 refine PW.block ?_
 refine b7 ?_
 refine c9 [4, 26, 27] ?_
 simp only [go_sem, simprocAttr, sw0]
 repeat (refine And.intro (by omega) ?_)
 refine b7 ?_
 obtain ⟨x2, e2, H⟩ := d4 H
 refine d6 fun K hK => OW.run [26, 27, 37] ?_
 simp only [go_sem, simprocAttr, sw0]
 repeat (refine And.intro (by omega) ?_)
 refine g9 4 rfl rfl rfl (by first | exact rfl | ((simp only [go_sem, List.toList_toArray, simprocAttr]); exact rfl)) ?_ (i8 N _ _ _ _ e2) ?_ ?_ ?_ ?_
 rfl
 exact g8 rfl
 exact .inl rfl
 (simp only [go_sem, Nat.reduceLT])
 refine OW.run [26, 27, 37] ?_
 simp only [go_sem, simprocAttr, sw0]
 refine OW.nil (hK _ ?_)
 refine d5 rfl (fun h5 => ?_) (fun h5 => ?_)
 replace H := n6 h5 H
 refine b7 ?_
 refine c9 [2] ?_
 simp only [go_sem, simprocAttr, sw0]
 refine d7 (PW.Ends.intro (.inr rfl) ?_)
 simp only [go_sem, simprocAttr, sw0]
 obtain rfl := Option.some.inj H
 refine b8 4 (by exact trivial) ?_
 rfl
 replace H := l7 h5 H
 refine d8 ?_
 refine c9 [26, 27] ?_
 simp only [go_sem, simprocAttr, sw0]
 refine b7 ?_
 refine c9 [26, 27, 28] ?_
 simp only [go_sem, simprocAttr, sw0]
 refine b7 ?_
 refine d5 rfl (fun h6 => ?_) (fun h6 => ?_)
 refine d8 ?_
 refine b7 ?_
 refine PW.block ?_
 refine b7 ?_
 refine c9 [4, 26, 27] ?_
 simp only [go_sem, simprocAttr, sw0]
 repeat (refine And.intro (by omega) ?_)
 refine b7 ?_
 obtain ⟨x3, e3, H⟩ := d4 H
 refine d6 fun K hK => OW.run [26, 27, 37] ?_
 simp only [go_sem, simprocAttr, sw0]
 repeat (refine And.intro (by omega) ?_)
 refine g9 4 rfl rfl rfl (by first | exact rfl | ((simp only [go_sem, List.toList_toArray, simprocAttr]); exact rfl)) ?_ (i8 N _ _ _ _ e3) ?_ ?_ ?_ ?_
 rfl
 exact g8 rfl
 exact .inl rfl
 (simp only [go_sem, Nat.reduceLT])
 refine OW.run [26, 27, 37] ?_
 simp only [go_sem, simprocAttr, sw0]
 refine OW.nil (hK _ ?_)
 refine d5 rfl (fun h7 => ?_) (fun h7 => ?_)
 replace H := n6 h7 H
 refine b7 ?_
 refine c9 [2] ?_
 simp only [go_sem, simprocAttr, sw0]
 refine d7 (PW.Ends.intro (.inr rfl) ?_)
 simp only [go_sem, simprocAttr, sw0]
 obtain rfl := Option.some.inj H
 refine b8 4 (by exact trivial) ?_
 rfl
 replace H := l7 h7 H
 refine d8 ?_
 refine c9 [26, 27] ?_
 simp only [go_sem, simprocAttr, sw0]
 refine b7 ?_
 refine c9 [26, 27, 28] ?_
 simp only [go_sem, simprocAttr, sw0]
 refine b7 ?_
 refine d5 rfl (fun h8 => ?_) (fun h8 => ?_)
 refine d8 ?_
 refine b7 ?_
 refine PW.block ?_
 refine b7 ?_
 refine c9 [4, 26, 27] ?_
 simp only [go_sem, simprocAttr, sw0]
 repeat (refine And.intro (by omega) ?_)
 refine b7 ?_
 obtain ⟨x4, e4, H⟩ := d4 H
 refine d6 fun K hK => OW.run [26, 27, 37] ?_
 simp only [go_sem, simprocAttr, sw0]
 repeat (refine And.intro (by omega) ?_)
 refine g9 4 rfl rfl rfl (by first | exact rfl | ((simp only [go_sem, List.toList_toArray, simprocAttr]); exact rfl)) ?_ (i8 N _ _ _ _ e4) ?_ ?_ ?_ ?_
 rfl
 exact g8 rfl
 exact .inl rfl
 (simp only [go_sem, Nat.reduceLT])
 refine OW.run [26, 27, 37] ?_
 simp only [go_sem, simprocAttr, sw0]
 refine OW.nil (hK _ ?_)
 refine d5 rfl (fun h9 => ?_) (fun h9 => ?_)
 replace H := n6 h9 H
 refine b7 ?_
 refine c9 [2] ?_
 simp only [go_sem, simprocAttr, sw0]
 refine d7 (PW.Ends.intro (.inr rfl) ?_)
 simp only [go_sem, simprocAttr, sw0]
 obtain rfl := Option.some.inj H
 refine b8 4 (by exact trivial) ?_
 rfl
 replace H := l7 h9 H
 refine d8 ?_
 refine c9 [26, 27] ?_
 simp only [go_sem, simprocAttr, sw0]
 refine b7 ?_
 refine c9 [26, 27, 28] ?_
 simp only [go_sem, simprocAttr, sw0]
 refine b7 ?_
 refine d5 rfl (fun h10 => ?_) (fun h10 => ?_)
 refine d8 ?_
 refine b7 ?_
 refine PW.block ?_
 refine b7 ?_
 refine c9 [4, 26, 27] ?_
 simp only [go_sem, simprocAttr, sw0]
 repeat (refine And.intro (by omega) ?_)
 refine b7 ?_
 obtain ⟨x5, e5, H⟩ := d4 H
 refine d6 fun K hK => OW.run [26, 27, 37] ?_
 simp only [go_sem, simprocAttr, sw0]
 repeat (refine And.intro (by omega) ?_)
 refine g9 4 rfl rfl rfl (by first | exact rfl | ((simp only [go_sem, List.toList_toArray, simprocAttr]); exact rfl)) ?_ (i8 N _ _ _ _ e5) ?_ ?_ ?_ ?_
 rfl
 exact g8 rfl
 exact .inl rfl
 (simp only [go_sem, Nat.reduceLT])
 refine OW.run [26, 27, 37] ?_
 simp only [go_sem, simprocAttr, sw0]
 refine OW.nil (hK _ ?_)
 refine d5 rfl (fun h11 => ?_) (fun h11 => ?_)
 replace H := n6 h11 H
 refine b7 ?_
 refine c9 [2] ?_
 simp only [go_sem, simprocAttr, sw0]
 refine d7 (PW.Ends.intro (.inr rfl) ?_)
 simp only [go_sem, simprocAttr, sw0]
 obtain rfl := Option.some.inj H
 refine b8 4 (by exact trivial) ?_
 rfl
 replace H := l7 h11 H
 refine d8 ?_
 refine c9 [26, 27] ?_
 simp only [go_sem, simprocAttr, sw0]
 refine b7 ?_
 refine c9 [26, 27, 28] ?_
 simp only [go_sem, simprocAttr, sw0]
 refine b7 ?_
 refine d5 rfl (fun h12 => ?_) (fun h12 => ?_)
 refine d8 ?_
 refine b7 ?_
 refine PW.block ?_
 refine b7 ?_
 refine c9 [4, 26, 27] ?_
 simp only [go_sem, simprocAttr, sw0]
 repeat (refine And.intro (by omega) ?_)
 refine b7 ?_
 obtain ⟨x6, e6, H⟩ := d4 H
 refine d6 fun K hK => OW.run [26, 27, 37] ?_
 simp only [go_sem, simprocAttr, sw0]
 repeat (refine And.intro (by omega) ?_)
 refine g9 4 rfl rfl rfl (by first | exact rfl | ((simp only [go_sem, List.toList_toArray, simprocAttr]); exact rfl)) ?_ (i8 N _ _ _ _ e6) ?_ ?_ ?_ ?_
 rfl
 exact g8 rfl
 exact .inl rfl
 (simp only [go_sem, Nat.reduceLT])
 refine OW.run [26, 27, 37] ?_
 simp only [go_sem, simprocAttr, sw0]
 refine OW.nil (hK _ ?_)
 refine d5 rfl (fun h13 => ?_) (fun h13 => ?_)
 replace H := n6 h13 H
 refine b7 ?_
 refine c9 [2] ?_
 simp only [go_sem, simprocAttr, sw0]
 refine d7 (PW.Ends.intro (.inr rfl) ?_)
 simp only [go_sem, simprocAttr, sw0]
 obtain rfl := Option.some.inj H
 refine b8 4 (by exact trivial) ?_
 rfl
 replace H := l7 h13 H
 refine d8 ?_
 refine c9 [26, 27] ?_
 simp only [go_sem, simprocAttr, sw0]
 refine b7 ?_
 refine c9 [26, 27, 28] ?_
 simp only [go_sem, simprocAttr, sw0]
 refine b7 ?_
 refine d5 rfl (fun h14 => ?_) (fun h14 => ?_)
 refine d8 ?_
 refine b7 ?_
 refine PW.block ?_
 refine b7 ?_
 refine c9 [4, 26, 27] ?_
 simp only [go_sem, simprocAttr, sw0]
 repeat (refine And.intro (by omega) ?_)
 refine b7 ?_
 obtain ⟨x7, e7, H⟩ := d4 H
 refine d6 fun K hK => OW.run [26, 27, 37] ?_
 simp only [go_sem, simprocAttr, sw0]
 repeat (refine And.intro (by omega) ?_)
 refine g9 4 rfl rfl rfl (by first | exact rfl | ((simp only [go_sem, List.toList_toArray, simprocAttr]); exact rfl)) ?_ (i8 N _ _ _ _ e7) ?_ ?_ ?_ ?_
 rfl
 exact g8 rfl
 exact .inl rfl
 (simp only [go_sem, Nat.reduceLT])
 refine OW.run [26, 27, 37] ?_
 simp only [go_sem, simprocAttr, sw0]
 refine OW.nil (hK _ ?_)
 refine d5 rfl (fun h15 => ?_) (fun h15 => ?_)
 replace H := n6 h15 H
 refine b7 ?_
 refine c9 [2] ?_
 simp only [go_sem, simprocAttr, sw0]
 refine d7 (PW.Ends.intro (.inr rfl) ?_)
 simp only [go_sem, simprocAttr, sw0]
 obtain rfl := Option.some.inj H
 refine b8 4 (by exact trivial) ?_
 rfl
 replace H := l7 h15 H
 refine d8 ?_
 refine c9 [26, 27] ?_
 simp only [go_sem, simprocAttr, sw0]
 refine b7 ?_
 refine c9 [26, 27, 28] ?_
 simp only [go_sem, simprocAttr, sw0]
 refine b7 ?_
 refine d5 rfl (fun h16 => ?_) (fun h16 => ?_)
 exact absurd h16 (by decide)
 refine o6 ?_
 refine hN1 [] () _ H (by exact trivial) ?_
 simp only [sw1, go_sem, simprocAttr]
 exact absurd h14 (by decide)
 exact absurd h12 (by decide)
 exact absurd h10 (by decide)
 exact absurd h8 (by decide)
 exact absurd h6 (by decide)
 exact absurd h4 (by decide)
 exact absurd h2 (by decide)
 rintro _ H
 try simp only [go_sem, simprocAttr]
 refine b7 ?_
 refine c9 [2] ?_
 simp only [go_sem, simprocAttr, sw0]
 refine d7 (PW.Ends.intro (.inr rfl) ?_)
 simp only [go_sem, simprocAttr, sw0]
 obtain rfl := Option.some.inj H
 refine b8 4 (by exact trivial) ?_
 rfl

theorem access_phonesErr_ok (N : Nat) (n : Int) (r : Int) (H : w9 N n = some r) : CallOK Tryz.prog 78 [(I n)] (.d (I r)) [] := by
 refine i7 Tryz.func78 rfl (by rw [Tryz.results78]) Tryz.ntmps78 Tryz.call78 ?_
 change PW _ _ _ _ _
 try simp only [go_sem, simprocAttr]
 unfold w9 at H
 refine b7 ?_
 refine c9 [0] ?_
 simp only [go_sem, simprocAttr, sw0]
 refine b7 ?_
 obtain ⟨x1, e1, H⟩ := d4 H
 obtain ⟨x2, e2, H⟩ := d4 H
 obtain ⟨x3, e3, H⟩ := d4 H
 refine d6 fun K hK => OW.run [2] ?_
 simp only [go_sem, simprocAttr, sw0]
 refine g9 4 rfl rfl rfl (by first | exact rfl | ((simp only [go_sem, List.toList_toArray, simprocAttr]); exact rfl)) ?_ (i6 N _ _ _ e1) ?_ ?_ ?_ ?_
 rfl
 exact g8 rfl
 exact .inl rfl
 (simp only [go_sem, Nat.reduceLT])
 refine OW.run [2] ?_
 simp only [go_sem, simprocAttr, sw0]
 refine g9 4 rfl rfl rfl (by first | exact rfl | ((simp only [go_sem, List.toList_toArray, simprocAttr]); exact rfl)) ?_ (i6 N _ _ _ e2) ?_ ?_ ?_ ?_
 rfl
 exact g8 rfl
 exact .inl rfl
 (simp only [go_sem, Nat.reduceLT])
 refine OW.run [2] ?_
 simp only [go_sem, simprocAttr, sw0]
 refine g9 4 rfl rfl rfl (by first | exact rfl | ((simp only [go_sem, List.toList_toArray, simprocAttr]); exact rfl)) ?_ (m7 N _ _ e3) ?_ ?_ ?_ ?_
 rfl
 · (refine d9 ?_; (simp only [go_sem, sw2, List.length_set, List.length_replicate, and_true, true_and, Nat.le_refl, simprocAttr]; simp only [seg, go_sem, sw2, List.length_set, List.length_replicate, and_true, true_and, Nat.le_refl, simprocAttr]; done))
 exact .inr ⟨rfl, rfl⟩
 (simp only [go_sem, Nat.reduceLT])
 refine OW.run [2] ?_
 simp only [go_sem, simprocAttr, sw0]
 refine OW.nil (hK _ ?_)
 refine d7 (PW.Ends.intro (.inr rfl) ?_)
 simp only [go_sem, simprocAttr, sw0]
 obtain rfl := Option.some.inj H
 refine b8 4 (by exact trivial) ?_
 rfl

theorem access_isDraw_ok (N : Nat) (n : Int) (r : Bool) (H : access_isDraw N n = some r) : CallOK Tryz.prog 119 [(I n)] (.d (Bo r)) [] := by
 refine i7 Tryz.func119 rfl (by rw [Tryz.results119]) Tryz.ntmps119 Tryz.call119 ?_
 change PW _ _ _ _ _
 try simp only [go_sem, simprocAttr]
 unfold access_isDraw at H
 refine b7 ?_
 refine c9 [0] ?_
 simp only [go_sem, simprocAttr, sw0]
 refine b7 ?_
 obtain ⟨x1, e1, H⟩ := d4 H
 refine d6 fun K hK => OW.run [2] ?_
 simp only [go_sem, simprocAttr, sw0]
 refine g9 4 rfl rfl rfl (by first | exact rfl | ((simp only [go_sem, List.toList_toArray, simprocAttr]); exact rfl)) ?_ (i8 N _ _ _ _ e1) ?_ ?_ ?_ ?_
 rfl
 exact g8 rfl
 exact .inl rfl
 (simp only [go_sem, Nat.reduceLT])
 refine OW.run [2] ?_
 simp only [go_sem, simprocAttr, sw0]
 refine OW.nil (hK _ ?_)
 refine d7 (PW.Ends.intro (.inr rfl) ?_)
 simp only [go_sem, simprocAttr, sw0]
 obtain rfl := Option.some.inj H
 refine b8 4 (by exact trivial) ?_
 rfl

theorem access_idle_ok (N : Nat) (draw : Int) (r : Int × Int × Int × Int × Int × Int × Int) (H : D0 N draw = some r) : CallOK Tryz.prog 80 [(I draw)] (.d (.agg [(I r.1), (I r.2.1), (I r.2.2.1), (I r.2.2.2.1), (I r.2.2.2.2.1), (I r.2.2.2.2.2.1), (I r.2.2.2.2.2.2)])) [] := by
 refine i7 Tryz.func80 rfl (by rw [Tryz.results80]) Tryz.ntmps80 Tryz.call80 ?_
 change PW _ _ _ _ _
 try simp only [go_sem, simprocAttr]
 unfold D0 at H
 refine b7 ?_
 refine c9 [0, 2] ?_
 simp only [go_sem, simprocAttr, sw0]
 refine b7 ?_
 refine c9 [2] ?_
 simp only [go_sem, simprocAttr, sw0]
 refine d7 (PW.Ends.intro (.inr rfl) ?_)
 simp only [go_sem, simprocAttr, sw0]
 obtain rfl := Option.some.inj H
 refine b8 4 (by exact g8 rfl) ?_
 rfl

theorem ref07_CheckRules_ok (N : Nat) (Z15 : Int) (Z11 : Int) (Z18 : Int) (Z17 : Int) (Z16 : Int) (Z10 : Int) (Z13 : Int) (r : Int) (H : w8 N Z15 Z11 Z18 Z17 Z16 Z10 Z13 = some r) : CallOK Tryz.prog 19 [(.agg [(I Z15), (I Z11), (I Z18), (I Z17), (I Z16), (I Z10), (I Z13)])] (.d (I r)) [] := by
 refine i7 Tryz.func19 rfl (by rw [Tryz.results19]) Tryz.ntmps19 Tryz.call19 ?_
 change PW _ _ _ _ _
 try simp only [go_sem, simprocAttr]
 unfold w8 at H
 refine b7 ?_
 refine c9 [1] ?_
 simp only [go_sem, simprocAttr, sw0]
 refine b7 ?_
 refine b7 ?_
 obtain ⟨x1, e1, H⟩ := d4 H
 obtain ⟨x2, e2, H⟩ := d4 H
 obtain ⟨x3, e3, H⟩ := d4 H
 obtain ⟨x4, e4, H⟩ := d4 H
 obtain ⟨x5, e5, H⟩ := d4 H
 obtain ⟨x6, e6, H⟩ := d4 H
 obtain ⟨x7, e7, H⟩ := d4 H
 refine d6 fun K hK => OW.run [42] ?_
 simp only [go_sem, simprocAttr, sw0]
 repeat (refine And.intro (by omega) ?_)
 refine g9 4 rfl rfl rfl (by first | exact rfl | ((simp only [go_sem, List.toList_toArray, simprocAttr]); exact rfl)) ?_ (k8 N _ _ _ _ e1) ?_ ?_ ?_ ?_
 rfl
 exact g8 rfl
 exact .inl rfl
 (simp only [go_sem, Nat.reduceLT])
 refine OW.run [42] ?_
 simp only [go_sem, simprocAttr, sw0]
 repeat (refine And.intro (by omega) ?_)
 refine p9 4 rfl rfl ?_ (fun hg => by first | rfl | (simp only [go_sem, ↓reduceIte]; rfl)) (fun hg => by ((simp only [go_sem, List.toList_toArray, simprocAttr]); exact rfl)) (fun hg => ?_) (fun hg => (k8 N _ _ _ _ (grd_t hg e2))) ?_ ?_ ?_ ?_
 simp only [go_sem, simprocAttr]
 rfl
 exact g8 rfl
 exact .inl rfl
 (simp only [go_sem, Nat.reduceLT])
 refine OW.run [42] ?_
 simp only [go_sem, simprocAttr, sw0]
 repeat (refine And.intro (by omega) ?_)
 refine p9 4 rfl rfl ?_ (fun hg => by first | rfl | (simp only [go_sem, ↓reduceIte]; rfl)) (fun hg => by ((simp only [go_sem, List.toList_toArray, simprocAttr]); exact rfl)) (fun hg => ?_) (fun hg => (k8 N _ _ _ _ (grd_t hg e3))) ?_ ?_ ?_ ?_
 simp only [go_sem, simprocAttr]
 rfl
 exact g8 rfl
 exact .inl rfl
 (simp only [go_sem, Nat.reduceLT])
 refine OW.run [42] ?_
 simp only [go_sem, simprocAttr, sw0]
 repeat (refine And.intro (by omega) ?_)
 refine p9 4 rfl rfl ?_ (fun hg => by first | rfl | (simp only [go_sem, ↓reduceIte]; rfl)) (fun hg => by ((simp only [go_sem, List.toList_toArray, simprocAttr]); exact rfl)) (fun hg => ?_) (fun hg => (k8 N _ _ _ _ (grd_t hg e4))) ?_ ?_ ?_ ?_
 simp only [go_sem, simprocAttr]
 rfl
 exact g8 rfl
 exact .inl rfl
 (simp only [go_sem, Nat.reduceLT])
 refine OW.run [42] ?_
 simp only [go_sem, simprocAttr, sw0]
 repeat (refine And.intro (by omega) ?_)
 refine p9 4 rfl rfl ?_ (fun hg => by first | rfl | (simp only [go_sem, ↓reduceIte]; rfl)) (fun hg => by ((simp only [go_sem, List.toList_toArray, simprocAttr]); exact rfl)) (fun hg => ?_) (fun hg => (k8 N _ _ _ _ (grd_t hg e5))) ?_ ?_ ?_ ?_
 simp only [go_sem, simprocAttr]
 rfl
 exact g8 rfl
 exact .inl rfl
 (simp only [go_sem, Nat.reduceLT])
 refine OW.run [42] ?_
 simp only [go_sem, simprocAttr, sw0]
 repeat (refine And.intro (by omega) ?_)
 refine p9 4 rfl rfl ?_ (fun hg => by first | rfl | (simp only [go_sem, ↓reduceIte]; rfl)) (fun hg => by ((simp only [go_sem, List.toList_toArray, simprocAttr]); exact rfl)) (fun hg => ?_) (fun hg => (k8 N _ _ _ _ (grd_t hg e6))) ?_ ?_ ?_ ?_
 simp only [go_sem, simprocAttr]
 rfl
 exact g8 rfl
 exact .inl rfl
 (simp only [go_sem, Nat.reduceLT])
 refine OW.run [42] ?_
 simp only [go_sem, simprocAttr, sw0]
 repeat (refine And.intro (by omega) ?_)
 refine p9 4 rfl rfl ?_ (fun hg => by first | rfl | (simp only [go_sem, ↓reduceIte]; rfl)) (fun hg => by ((simp only [go_sem, List.toList_toArray, simprocAttr]); exact rfl)) (fun hg => ?_) (fun hg => (k8 N _ _ _ _ (grd_t hg e7))) ?_ ?_ ?_ ?_
 simp only [go_sem, simprocAttr]
 rfl
 exact g8 rfl
 exact .inl rfl
 (simp only [go_sem, Nat.reduceLT])
 refine OW.run [42] ?_
 simp only [go_sem, simprocAttr, sw0]
 refine OW.nil (hK _ ?_)
 refine d5 rfl (fun h1 => ?_) (fun h1 => ?_)
 replace H := n6 h1 H
 refine b7 ?_
 refine c9 [2] ?_
 simp only [go_sem, simprocAttr, sw0]
 refine d7 (PW.Ends.intro (.inr rfl) ?_)
 simp only [go_sem, simprocAttr, sw0]
 obtain rfl := Option.some.inj H
 refine b8 4 (by exact trivial) ?_
 rfl
 replace H := l7 h1 H
 refine d8 ?_
 refine b7 ?_
 refine c9 [2] ?_
 simp only [go_sem, simprocAttr, sw0]
 refine d7 (PW.Ends.intro (.inr rfl) ?_)
 simp only [go_sem, simprocAttr, sw0]
 obtain rfl := Option.some.inj H
 refine b8 4 (by exact trivial) ?_
 rfl

theorem ref07_isDraw_ok (N : Nat) (n : Int) (r : Bool) (H : ref07_isDraw N n = some r) : CallOK Tryz.prog 81 [(I n)] (.d (Bo r)) [] := by
 refine i7 Tryz.func81 rfl (by rw [Tryz.results81]) Tryz.ntmps81 Tryz.call81 ?_
 change PW _ _ _ _ _
 try simp only [go_sem, simprocAttr]
 unfold ref07_isDraw at H
 refine b7 ?_
 refine c9 [0] ?_
 simp only [go_sem, simprocAttr, sw0]
 refine b7 ?_
 obtain ⟨x1, e1, H⟩ := d4 H
 refine d6 fun K hK => OW.run [2] ?_
 simp only [go_sem, simprocAttr, sw0]
 refine g9 4 rfl rfl rfl (by first | exact rfl | ((simp only [go_sem, List.toList_toArray, simprocAttr]); exact rfl)) ?_ (k8 N _ _ _ _ e1) ?_ ?_ ?_ ?_
 rfl
 exact g8 rfl
 exact .inl rfl
 (simp only [go_sem, Nat.reduceLT])
 refine OW.run [2] ?_
 simp only [go_sem, simprocAttr, sw0]
 refine OW.nil (hK _ ?_)
 refine d7 (PW.Ends.intro (.inr rfl) ?_)
 simp only [go_sem, simprocAttr, sw0]
 obtain rfl := Option.some.inj H
 refine b8 4 (by exact trivial) ?_
 rfl

theorem ref07_Same_ok (N : Nat) (Zd : Int) (Ze : List (Int × Int × Int × Int × Int × Int × Int)) (Zh : Int) (Zi : List (Int × Int × Int × Int × Int × Int × Int)) (r : Bool) (H : ref07_Same N Zd Ze Zh Zi = some r) : CallOK Tryz.prog 21 [(.agg [(I Zd), (.list Ze.length (Ze.flatMap (fun (x : Int × Int × Int × Int × Int × Int × Int) => [(I x.1), (I x.2.1), (I x.2.2.1), (I x.2.2.2.1), (I x.2.2.2.2.1), (I x.2.2.2.2.2.1), (I x.2.2.2.2.2.2)])))]), (.agg [(I Zh), (.list Zi.length (Zi.flatMap (fun (x : Int × Int × Int × Int × Int × Int × Int) => [(I x.1), (I x.2.1), (I x.2.2.1), (I x.2.2.2.1), (I x.2.2.2.2.1), (I x.2.2.2.2.2.1), (I x.2.2.2.2.2.2)])))])] (.d (Bo r)) [] := by
 refine i7 Tryz.func21 rfl (by rw [Tryz.results21]) Tryz.ntmps21 Tryz.call21 ?_
 change PW _ _ _ _ _
 try simp only [go_sem, simprocAttr]
 unfold ref07_Same at H
 refine b7 ?_
 refine c9 [2, 3] ?_
 simp only [go_sem, simprocAttr, sw0]
 refine b7 ?_
 refine b7 ?_
 refine c9 [2, 3, 19] ?_
 simp only [go_sem, simprocAttr, sw0]
 repeat (refine And.intro (by omega) ?_)
 refine d5 rfl (fun h1 => ?_) (fun h1 => ?_)
 replace H := n6 h1 H
 refine b7 ?_
 refine c9 [4] ?_
 simp only [go_sem, simprocAttr, sw0]
 refine d7 (PW.Ends.intro (.inr rfl) ?_)
 simp only [go_sem, simprocAttr, sw0]
 obtain rfl := Option.some.inj H
 refine b8 4 (by exact trivial) ?_
 rfl
 replace H := l7 h1 H
 refine d8 ?_
 refine k5 (τ := Unit) [] 0 (fun _ => []) (fun _ => []) _ _ r (by exact Nat.le_refl _) H ?_ ?_
 intro K_ H N2 hN2
 refine b7 ?_
 refine c9 [2, 3, 5] ?_
 simp only [go_sem, simprocAttr, sw0]
 refine PW.block ?_
 refine C7 (σ := Int) [2, 3, 5] 2 (fun i => [(5, .d (I i))]) (fun i => [{ cells := [.d (I Zd), .d (.list Ze.length (Ze.flatMap (fun (x : Int × Int × Int × Int × Int × Int × Int) => [(I x.1), (I x.2.1), (I x.2.2.1), (I x.2.2.2.1), (I x.2.2.2.2.1), (I x.2.2.2.2.2.1), (I x.2.2.2.2.2.2)])))], e := 30 }, { cells := [.d (I Zh), .d (.list Zi.length (Zi.flatMap (fun (x : Int × Int × Int × Int × Int × Int × Int) => [(I x.1), (I x.2.1), (I x.2.2.1), (I x.2.2.2.1), (I x.2.2.2.2.1), (I x.2.2.2.2.2.1), (I x.2.2.2.2.2.2)])))], e := 30 }]) (G6 N Ze Zi K_) r N (0 : Int) (by exact Nat.zero_le _) H (by (simp only [sw1, go_sem, simprocAttr]; done)) ?_
 rintro n i H N3 hN3
 unfold G6 at H
 try simp only [go_sem, simprocAttr]
 refine b7 ?_
 refine b7 ?_
 refine c9 [2, 3, 5, 24] ?_
 simp only [go_sem, simprocAttr, sw0]
 repeat (refine And.intro (by omega) ?_)
 refine d5 rfl (fun h4 => ?_) (fun h4 => ?_)
 replace H := n6 h4 H
 refine d8 ?_
 refine b7 ?_
 refine PW.block ?_
 refine b7 ?_
 obtain ⟨c5, H⟩ := j6 H
 obtain ⟨c6, H⟩ := j6 H
 refine j4 10 mixed (by kernel_rfl) fun K hK => ?_
 change FW _ _ _ _ _
 refine FW.run ?_
 (simp only [go_sem, simprocAttr, sw0, zf0W2a, zf1W2a Ze i.toNat (by omega), zf1W2a Zi i.toNat (by omega)])
 repeat (refine And.intro (by omega) ?_)
 refine FW.nil ?_
 change OW _ _ _ _ _ _
 refine OW.run [2, 3, 5, 37] ?_
 (simp only [go_sem, simprocAttr, sw0, zf0W2a, zf1W2a Ze i.toNat (by omega), zf1W2a Zi i.toNat (by omega)])
 refine OW.nil (hK _ ?_)
 refine d5 rfl (fun h7 => ?_) (fun h7 => ?_)
 replace H := n6 h7 H
 refine b7 ?_
 refine c9 [4] ?_
 simp only [go_sem, simprocAttr, sw0]
 refine d7 (PW.Ends.intro (.inr rfl) ?_)
 simp only [go_sem, simprocAttr, sw0]
 obtain rfl := Option.some.inj H
 refine b8 4 (by exact trivial) ?_
 rfl
 replace H := l7 h7 H
 refine d8 ?_
 refine c9 [2, 3, 5] ?_
 simp only [go_sem, simprocAttr, sw0]
 refine hN3 [] (w64 (i + (1 : Int))) _ H (by exact trivial) ?_
 simp only [sw1, go_sem, simprocAttr]
 replace H := l7 h4 H
 refine o6 ?_
 refine hN2 [] () _ H (by exact trivial) ?_
 simp only [sw1, go_sem, simprocAttr]
 rintro _ H
 try simp only [go_sem, simprocAttr]
 refine b7 ?_
 refine c9 [4] ?_
 simp only [go_sem, simprocAttr, sw0]
 refine d7 (PW.Ends.intro (.inr rfl) ?_)
 simp only [go_sem, simprocAttr, sw0]
 obtain rfl := Option.some.inj H
 refine b8 4 (by exact trivial) ?_
 rfl

theorem ref07_plain_ok (N : Nat) (stage : Int) (draw : Int) (r : Int × Int × Int × Int × Int × Int × Int) (H : u5 N stage draw = some r) : CallOK Tryz.prog 82 [(I stage), (I draw)] (.d (.agg [(I r.1), (I r.2.1), (I r.2.2.1), (I r.2.2.2.1), (I r.2.2.2.2.1), (I r.2.2.2.2.2.1), (I r.2.2.2.2.2.2)])) [] := by
 refine i7 Tryz.func82 rfl (by rw [Tryz.results82]) Tryz.ntmps82 Tryz.call82 ?_
 change PW _ _ _ _ _
 try simp only [go_sem, simprocAttr]
 unfold u5 at H
 refine b7 ?_
 refine c9 [0, 1, 4] ?_
 simp only [go_sem, simprocAttr, sw0]
 refine b7 ?_
 refine c9 [4] ?_
 simp only [go_sem, simprocAttr, sw0]
 refine d7 (PW.Ends.intro (.inr rfl) ?_)
 simp only [go_sem, simprocAttr, sw0]
 obtain rfl := Option.some.inj H
 refine b8 4 (by exact g8 rfl) ?_
 rfl

theorem law07_Few_ok (N : Nat) (Z1k : Int) (Z1o : List (Int × Int × Int × Int × Int × Int × Int)) (r : Bool) (H : law07_Few N Z1k Z1o = some r) : CallOK Tryz.prog 27 [(.agg [(I Z1k), (.list Z1o.length (Z1o.flatMap (fun (x : Int × Int × Int × Int × Int × Int × Int) => [(I x.1), (I x.2.1), (I x.2.2.1), (I x.2.2.2.1), (I x.2.2.2.2.1), (I x.2.2.2.2.2.1), (I x.2.2.2.2.2.2)])))])] (.d (Bo r)) [] := by
 refine i7 Tryz.func27 rfl (by rw [Tryz.results27]) Tryz.ntmps27 Tryz.call27 ?_
 change PW _ _ _ _ _
 try simp only [go_sem, simprocAttr]
 unfold law07_Few at H
 refine b7 ?_
 refine c9 [1] ?_
 simp only [go_sem, simprocAttr, sw0]
 refine b7 ?_
 refine c9 [2] ?_
 simp only [go_sem, simprocAttr, sw0]
 repeat (refine And.intro (by omega) ?_)
 refine d7 (PW.Ends.intro (.inr rfl) ?_)
 simp only [go_sem, simprocAttr, sw0]
 obtain rfl := Option.some.inj H
 refine b8 4 (by exact trivial) ?_
 rfl

end Go.Proofs.YtbndgoeahoadlaaGreatDoor
