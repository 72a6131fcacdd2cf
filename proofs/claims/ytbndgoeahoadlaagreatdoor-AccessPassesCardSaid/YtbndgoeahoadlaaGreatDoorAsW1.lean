import Derived.Test.YtbndgoeahoadlaaGreatDoorAsK
set_option linter.all false
namespace Go.Proofs.YtbndgoeahoadlaaGreatDoor
open Go.PW Go.Sh

set_option maxRecDepth 20000
set_option maxHeartbeats 8000000
theorem i8 (N : Nat) (n : Int) (lo : Int) (hi : Int) (r : Bool) (H : j1 N n lo hi = some r) : CallOK Tryz.prog 76 [(I n), (I lo), (I hi)] (.d (Bo r)) [] := by
 refine i7 Tryz.func76 rfl (by rw [Tryz.results76]) Tryz.ntmps76 Tryz.call76 ?_
 change PW _ _ _ _ _
 try simp only [go_sem, simprocAttr]
 unfold j1 at H
 refine b7 ?_
 refine c9 [0, 1, 2] ?_
 simp only [go_sem, simprocAttr, sw0]
 refine b7 ?_
 refine c9 [6] ?_
 simp only [go_sem, simprocAttr, sw0]
 refine d7 (PW.Ends.intro (.inr rfl) ?_)
 simp only [go_sem, simprocAttr, sw0]
 obtain rfl := Option.some.inj H
 refine b8 4 (by exact trivial) ?_
 rfl

theorem i6 (N : Nat) (is_ : Bool) (e : Int) (r : Int) (H : j0 N is_ e = some r) : CallOK Tryz.prog 83 [(Bo is_), (I e)] (.d (I r)) [] := by
 refine i7 Tryz.func83 rfl (by rw [Tryz.results83]) Tryz.ntmps83 Tryz.call83 ?_
 change PW _ _ _ _ _
 try simp only [go_sem, simprocAttr]
 unfold j0 at H
 refine b7 ?_
 refine c9 [0, 1] ?_
 simp only [go_sem, simprocAttr, sw0]
 refine b7 ?_
 refine b7 ?_
 refine c9 [1, 5] ?_
 simp only [go_sem, simprocAttr, sw0]
 refine d5 rfl (fun h1 => ?_) (fun h1 => ?_)
 replace H := n6 h1 H
 refine b7 ?_
 refine c9 [4] ?_
 simp only [go_sem, simprocAttr, sw0]
 refine d7 (PW.Ends.intro (.inr rfl) ?_)
 simp only [go_sem, simprocAttr, sw0]
 obtain rfl := Option.some.inj H
 refine b8 4 (by exact trivial) ?_
 rfl
 replace H := l7 h1 H
 refine d8 ?_
 refine b7 ?_
 refine c9 [4] ?_
 simp only [go_sem, simprocAttr, sw0]
 refine d7 (PW.Ends.intro (.inr rfl) ?_)
 simp only [go_sem, simprocAttr, sw0]
 obtain rfl := Option.some.inj H
 refine b8 4 (by exact trivial) ?_
 rfl

theorem access_isTick_ok (N : Nat) (n : Int) (r : Bool) (H : access_isTick N n = some r) : CallOK Tryz.prog 102 [(I n)] (.d (Bo r)) [] := by
 refine i7 Tryz.func102 rfl (by rw [Tryz.results102]) Tryz.ntmps102 Tryz.call102 ?_
 change PW _ _ _ _ _
 try simp only [go_sem, simprocAttr]
 unfold access_isTick at H
 refine b7 ?_
 refine c9 [0] ?_
 simp only [go_sem, simprocAttr, sw0]
 refine b7 ?_
 obtain ⟨x1, e1, H⟩ := d4 H
 refine d6 fun K hK => OW.run [2] ?_
 simp only [go_sem, simprocAttr, sw0]
 refine g9 4 rfl rfl rfl (by first | exact rfl | ((simp only [go_sem, List.toList_toArray, simprocAttr]); exact rfl)) ?_ (i8 N _ _ _ _ e1) ?_ ?_ ?_ ?_
 rfl
 exact g8 rfl
 exact .inl rfl
 (simp only [go_sem, Nat.reduceLT])
 refine OW.run [2] ?_
 simp only [go_sem, simprocAttr, sw0]
 refine OW.nil (hK _ ?_)
 refine d7 (PW.Ends.intro (.inr rfl) ?_)
 simp only [go_sem, simprocAttr, sw0]
 obtain rfl := Option.some.inj H
 refine b8 4 (by exact trivial) ?_
 rfl

theorem access_tickErr_ok (N : Nat) (n : Int) (r : Int) (H : A3 N n = some r) : CallOK Tryz.prog 94 [(I n)] (.d (I r)) [] := by
 refine i7 Tryz.func94 rfl (by rw [Tryz.results94]) Tryz.ntmps94 Tryz.call94 ?_
 change PW _ _ _ _ _
 try simp only [go_sem, simprocAttr]
 unfold A3 at H
 refine b7 ?_
 refine c9 [0] ?_
 simp only [go_sem, simprocAttr, sw0]
 refine b7 ?_
 obtain ⟨x1, e1, H⟩ := d4 H
 obtain ⟨x2, e2, H⟩ := d4 H
 refine d6 fun K hK => OW.run [2] ?_
 simp only [go_sem, simprocAttr, sw0]
 refine g9 4 rfl rfl rfl (by first | exact rfl | ((simp only [go_sem, List.toList_toArray, simprocAttr]); exact rfl)) ?_ (access_isTick_ok N _ _ e1) ?_ ?_ ?_ ?_
 rfl
 exact g8 rfl
 exact .inl rfl
 (simp only [go_sem, Nat.reduceLT])
 refine OW.run [2] ?_
 simp only [go_sem, simprocAttr, sw0]
 refine g9 4 rfl rfl rfl (by first | exact rfl | ((simp only [go_sem, List.toList_toArray, simprocAttr]); exact rfl)) ?_ (i6 N _ _ _ e2) ?_ ?_ ?_ ?_
 rfl
 exact g8 rfl
 exact .inl rfl
 (simp only [go_sem, Nat.reduceLT])
 refine OW.run [2] ?_
 simp only [go_sem, simprocAttr, sw0]
 refine OW.nil (hK _ ?_)
 refine d7 (PW.Ends.intro (.inr rfl) ?_)
 simp only [go_sem, simprocAttr, sw0]
 obtain rfl := Option.some.inj H
 refine b8 4 (by exact trivial) ?_
 rfl

theorem m7 (N : Nat) (l : List Int) (r : Int) (H : access_first N l = some r) : CallOK Tryz.prog 77 [(L l)] (.d (I r)) [] := by
 refine i7 Tryz.func77 rfl (by rw [Tryz.results77]) Tryz.ntmps77 Tryz.call77 ?_
 change PW _ _ _ _ _
 try simp only [go_sem, simprocAttr]
 unfold access_first at H
 refine b7 ?_
 refine c9 [0] ?_
 simp only [go_sem, simprocAttr, sw0]
 refine k5 (τ := Unit) [] 0 (fun _ => []) (fun _ => []) _ _ r (by exact Nat.le_refl _) H ?_ ?_
 intro K_ H N1 hN1
 refine b7 ?_
 refine c9 [5, 6, 7] ?_
 simp only [go_sem, simprocAttr, sw0]
 refine PW.block ?_
 refine C7 (σ := Int) [5, 6, 7] 0 (fun t7 => [(7, .d (I t7))]) (fun t7 => []) (D1 N l K_) r N (0 : Int) (by exact Nat.le_refl _) H (by (simp only [sw1, go_sem, simprocAttr]; done)) ?_
 rintro n t7 H N2 hN2
 unfold D1 at H
 try simp only [go_sem, simprocAttr]
 refine b7 ?_
 refine c9 [5, 6, 7, 8] ?_
 simp only [go_sem, simprocAttr, sw0]
 refine b7 ?_
 refine d5 rfl (fun h3 => ?_) (fun h3 => ?_)
 replace H := n6 h3 H
 refine d8 ?_
 refine b7 ?_
 refine PW.block ?_
 refine b7 ?_
 obtain ⟨c4, H⟩ := j6 H
 refine c9 [4, 5, 6, 7] ?_
 simp only [go_sem, simprocAttr, sw0]
 repeat (refine And.intro (by omega) ?_)
 refine b7 ?_
 refine c9 [4, 5, 6, 7, 12] ?_
 simp only [go_sem, simprocAttr, sw0]
 refine d5 rfl (fun h5 => ?_) (fun h5 => ?_)
 replace H := n6 h5 H
 refine b7 ?_
 refine c9 [2] ?_
 simp only [go_sem, simprocAttr, sw0]
 refine d7 (PW.Ends.intro (.inr rfl) ?_)
 simp only [go_sem, simprocAttr, sw0]
 obtain rfl := Option.some.inj H
 refine b8 4 (by exact trivial) ?_
 rfl
 replace H := l7 h5 H
 refine d8 ?_
 refine c9 [5, 6, 7] ?_
 simp only [go_sem, simprocAttr, sw0]
 refine hN2 [] (w64 (t7 + (1 : Int))) _ H (by exact trivial) ?_
 simp only [sw1, go_sem, simprocAttr]
 replace H := l7 h3 H
 refine o6 ?_
 refine hN1 [] () _ H (by exact trivial) ?_
 simp only [sw1, go_sem, simprocAttr]
 rintro _ H
 try simp only [go_sem, simprocAttr]
 refine b7 ?_
 refine c9 [2] ?_
 simp only [go_sem, simprocAttr, sw0]
 refine d7 (PW.Ends.intro (.inr rfl) ?_)
 simp only [go_sem, simprocAttr, sw0]
 obtain rfl := Option.some.inj H
 refine b8 4 (by exact trivial) ?_
 rfl

theorem k8 (N : Nat) (n : Int) (lo : Int) (hi : Int) (r : Bool) (H : k4 N n lo hi = some r) : CallOK Tryz.prog 32 [(I n), (I lo), (I hi)] (.d (Bo r)) [] := by
 refine i7 Tryz.func32 rfl (by rw [Tryz.results32]) Tryz.ntmps32 Tryz.call32 ?_
 change PW _ _ _ _ _
 try simp only [go_sem, simprocAttr]
 unfold k4 at H
 refine b7 ?_
 refine c9 [0, 1, 2] ?_
 simp only [go_sem, simprocAttr, sw0]
 refine b7 ?_
 refine c9 [6] ?_
 simp only [go_sem, simprocAttr, sw0]
 refine d7 (PW.Ends.intro (.inr rfl) ?_)
 simp only [go_sem, simprocAttr, sw0]
 obtain rfl := Option.some.inj H
 refine b8 4 (by exact trivial) ?_
 rfl

theorem ref07_TickErr_ok (N : Nat) (n : Int) (r : Int) (H : B4 N n = some r) : CallOK Tryz.prog 38 [(I n)] (.d (I r)) [] := by
 refine i7 Tryz.func38 rfl (by rw [Tryz.results38]) Tryz.ntmps38 Tryz.call38 ?_
 change PW _ _ _ _ _
 try simp only [go_sem, simprocAttr]
 unfold B4 at H
 refine b7 ?_
 refine c9 [0] ?_
 simp only [go_sem, simprocAttr, sw0]
 refine b7 ?_
 refine b7 ?_
 obtain ⟨x1, e1, H⟩ := d4 H
 refine d6 fun K hK => OW.run [5] ?_
 simp only [go_sem, simprocAttr, sw0]
 refine g9 4 rfl rfl rfl (by first | exact rfl | ((simp only [go_sem, List.toList_toArray, simprocAttr]); exact rfl)) ?_ (k8 N _ _ _ _ e1) ?_ ?_ ?_ ?_
 rfl
 exact g8 rfl
 exact .inl rfl
 (simp only [go_sem, Nat.reduceLT])
 refine OW.run [5] ?_
 simp only [go_sem, simprocAttr, sw0]
 refine OW.nil (hK _ ?_)
 refine d5 rfl (fun h1 => ?_) (fun h1 => ?_)
 replace H := n6 h1 H
 refine b7 ?_
 refine c9 [2] ?_
 simp only [go_sem, simprocAttr, sw0]
 refine d7 (PW.Ends.intro (.inr rfl) ?_)
 simp only [go_sem, simprocAttr, sw0]
 obtain rfl := Option.some.inj H
 refine b8 4 (by exact trivial) ?_
 rfl
 replace H := l7 h1 H
 refine d8 ?_
 refine b7 ?_
 refine c9 [2] ?_
 simp only [go_sem, simprocAttr, sw0]
 refine d7 (PW.Ends.intro (.inr rfl) ?_)
 simp only [go_sem, simprocAttr, sw0]
 obtain rfl := Option.some.inj H
 refine b8 4 (by exact trivial) ?_
 rfl

end Go.Proofs.YtbndgoeahoadlaaGreatDoor
namespace Go.Proofs.YtbndgoeahoadlaaGreatDoor
open Go.PW Go.Sh

end Go.Proofs.YtbndgoeahoadlaaGreatDoor
