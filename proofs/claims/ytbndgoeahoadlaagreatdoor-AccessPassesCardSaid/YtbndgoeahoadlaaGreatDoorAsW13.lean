import Derived.Test.YtbndgoeahoadlaaGreatDoorAsK
import Derived.Test.YtbndgoeahoadlaaGreatDoorAsS4
import Derived.Test.YtbndgoeahoadlaaGreatDoorAsW1
import Derived.Test.YtbndgoeahoadlaaGreatDoorAsW2
import Derived.Test.YtbndgoeahoadlaaGreatDoorAsW3
import Derived.Test.YtbndgoeahoadlaaGreatDoorAsW5
import Derived.Test.YtbndgoeahoadlaaGreatDoorAsW4
set_option linter.all false
namespace Go.Proofs.YtbndgoeahoadlaaGreatDoor
open Go.PW Go.Sh

set_option maxRecDepth 20000
set_option maxHeartbeats 8000000
theorem law07_stateErr_ok (N : Nat) (Z15 : Int) (Z11 : Int) (Z18 : Int) (Z17 : Int) (Z16 : Int) (Z10 : Int) (Z13 : Int) (Z1k : Int) (Z1o : List (Int × Int × Int × Int × Int × Int × Int)) (r : Int) (H : A2 N Z15 Z11 Z18 Z17 Z16 Z10 Z13 Z1k Z1o = some r) : CallOK Tryz.prog 35 [(.agg [(I Z15), (I Z11), (I Z18), (I Z17), (I Z16), (I Z10), (I Z13)]), (.agg [(I Z1k), (.list Z1o.length (Z1o.flatMap (fun (x : Int × Int × Int × Int × Int × Int × Int) => [(I x.1), (I x.2.1), (I x.2.2.1), (I x.2.2.2.1), (I x.2.2.2.2.1), (I x.2.2.2.2.2.1), (I x.2.2.2.2.2.2)])))])] (.d (I r)) [] := by
 refine i7 Tryz.func35 rfl (by rw [Tryz.results35]) Tryz.ntmps35 Tryz.call35 ?_
 change PW _ _ _ _ _
 try simp only [go_sem, simprocAttr]
 unfold A2 at H
 refine b7 ?_
 refine c9 [2, 3] ?_
 simp only [go_sem, simprocAttr, sw0]
 refine b7 ?_
 refine b7 ?_
 obtain ⟨x1, e1, H⟩ := d4 H
 refine d6 fun K hK => OW.run [2, 3, 5] ?_
 simp only [go_sem, simprocAttr, sw0]
 refine g9 4 rfl rfl rfl (by first | exact rfl | ((simp only [go_sem, List.toList_toArray, simprocAttr]); exact rfl)) ?_ (ref07_CheckRules_ok N _ _ _ _ _ _ _ _ e1) ?_ ?_ ?_ ?_
 rfl
 · (refine d9 ?_; (simp only [go_sem, sw2, List.length_set, List.length_replicate, and_true, true_and, Nat.le_refl, simprocAttr]; done))
 exact .inl rfl
 (simp only [go_sem, Nat.reduceLT])
 refine OW.run [2, 3, 5] ?_
 simp only [go_sem, simprocAttr, sw0]
 refine OW.nil (hK _ ?_)
 refine b7 ?_
 refine c9 [2, 3, 5, 9] ?_
 simp only [go_sem, simprocAttr, sw0]
 refine d5 rfl (fun h1 => ?_) (fun h1 => ?_)
 replace H := n6 h1 H
 refine b7 ?_
 refine c9 [4] ?_
 simp only [go_sem, simprocAttr, sw0]
 refine d7 (PW.Ends.intro (.inr rfl) ?_)
 simp only [go_sem, simprocAttr, sw0]
 obtain rfl := Option.some.inj H
 refine b8 4 (by exact trivial) ?_
 rfl
 replace H := l7 h1 H
 refine d8 ?_
 refine b7 ?_
 obtain ⟨x2, e2, H⟩ := d4 H
 refine d6 fun K hK => OW.run [4] ?_
 simp only [go_sem, simprocAttr, sw0]
 refine g9 4 rfl rfl rfl (by first | exact rfl | ((simp only [go_sem, List.toList_toArray, simprocAttr]); exact rfl)) ?_ (ref07_CheckState_ok N _ _ _ _ _ _ _ _ _ _ e2) ?_ ?_ ?_ ?_
 rfl
 · (refine d9 ?_; (simp only [go_sem, sw2, List.length_set, List.length_replicate, and_true, true_and, Nat.le_refl, simprocAttr]; done))
 exact .inl rfl
 (simp only [go_sem, Nat.reduceLT])
 refine OW.run [4] ?_
 simp only [go_sem, simprocAttr, sw0]
 refine OW.nil (hK _ ?_)
 refine d7 (PW.Ends.intro (.inr rfl) ?_)
 simp only [go_sem, simprocAttr, sw0]
 obtain rfl := Option.some.inj H
 refine b8 4 (by exact trivial) ?_
 rfl
end Go.Proofs.YtbndgoeahoadlaaGreatDoor
