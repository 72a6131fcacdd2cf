import Derived.Test.YtbndgoeahoadlaaGreatDoorAsK
import Derived.Test.YtbndgoeahoadlaaGreatDoorAsS2
import Derived.Test.YtbndgoeahoadlaaGreatDoorAsW1
import Derived.Test.YtbndgoeahoadlaaGreatDoorAsW2
import Derived.Test.YtbndgoeahoadlaaGreatDoorAsW3
import Derived.Test.YtbndgoeahoadlaaGreatDoorAsW5
set_option linter.all false
namespace Go.Proofs.YtbndgoeahoadlaaGreatDoor
open Go.PW Go.Sh

set_option maxRecDepth 20000
set_option maxHeartbeats 8000000
theorem access_isKind_ok (N : Nat) (n : Int) (r : Bool) (H : access_isKind N n = some r) : CallOK Tryz.prog 124 [(I n)] (.d (Bo r)) [] := by
 refine i7 Tryz.func124 rfl (by rw [Tryz.results124]) Tryz.ntmps124 Tryz.call124 ?_
 change PW _ _ _ _ _
 try simp only [go_sem, simprocAttr]
 unfold access_isKind at H
 refine b7 ?_
 refine c9 [0] ?_
 simp only [go_sem, simprocAttr, sw0]
 refine b7 ?_
 obtain ⟨x1, e1, H⟩ := d4 H
 refine d6 fun K hK => OW.run [2] ?_
 simp only [go_sem, simprocAttr, sw0]
 refine g9 4 rfl rfl rfl (by first | exact rfl | ((simp only [go_sem, List.toList_toArray, simprocAttr]); exact rfl)) ?_ (i8 N _ _ _ _ e1) ?_ ?_ ?_ ?_
 rfl
 exact g8 rfl
 exact .inl rfl
 (simp only [go_sem, Nat.reduceLT])
 refine OW.run [2] ?_
 simp only [go_sem, simprocAttr, sw0]
 refine OW.nil (hK _ ?_)
 refine d7 (PW.Ends.intro (.inr rfl) ?_)
 simp only [go_sem, simprocAttr, sw0]
 obtain rfl := Option.some.inj H
 refine b8 4 (by exact trivial) ?_
 rfl

theorem r9 (N : Nat) (u : Int) (Zl : Int) (Zj : Int) (Zm : Int) (Zn : Int) (Zo : Int) (Zk : Int) (r : Int) (H : l1 N u Zl Zj Zm Zn Zo Zk = some r) : CallOK Tryz.prog 125 [(I u), (.ref [(I Zl), (I Zj), (I Zm), (I Zn), (I Zo), (I Zk)])] (.d (.ref [(I r)])) [] := by
 refine i7 Tryz.func125 rfl (by rw [Tryz.results125]) Tryz.ntmps125 Tryz.call125 ?_
 change PW _ _ _ _ _
 try simp only [go_sem, simprocAttr]
 unfold l1 at H
 obtain ⟨hsp, H⟩ := j6 H
 have hsp2 : u = 0 ∨ u = 1 ∨ u = 2 ∨ u = 3 := by omega
 clear hsp
 rcases hsp2 with rfl | rfl | rfl | rfl
 replace H := n6 (by decide) H
 refine b7 ?_
 refine c9 [0, 1] ?_
 simp only [go_sem, simprocAttr, sw0]
 refine b7 ?_
 refine j4 14 mixed (by kernel_rfl) fun K hK => ?_
 change FW _ _ _ _ _
 refine FW.run ?_
 simp only [go_sem, simprocAttr, sw0]
 repeat (refine And.intro (by omega) ?_)
 refine FW.nil ?_
 change OW _ _ _ _ _ _
 refine OW.run [4] ?_
 simp only [go_sem, simprocAttr, sw0]
 repeat (refine And.intro (by omega) ?_)
 refine OW.nil (hK _ ?_)
 refine d7 (PW.Ends.intro (.inr rfl) ?_)
 simp only [go_sem, simprocAttr, sw0]
 obtain rfl := Option.some.inj H
 refine RetOK.refCut (l := [I Zn, I Zo, I Zk]) (b8  4 (by exact trivial) ?_)
 rfl
 replace H := l7 (by decide) H
 replace H := n6 (by decide) H
 refine b7 ?_
 refine c9 [0, 1] ?_
 simp only [go_sem, simprocAttr, sw0]
 refine b7 ?_
 refine j4 14 mixed (by kernel_rfl) fun K hK => ?_
 change FW _ _ _ _ _
 refine FW.run ?_
 simp only [go_sem, simprocAttr, sw0]
 repeat (refine And.intro (by omega) ?_)
 refine FW.nil ?_
 change OW _ _ _ _ _ _
 refine OW.run [4] ?_
 simp only [go_sem, simprocAttr, sw0]
 repeat (refine And.intro (by omega) ?_)
 refine OW.nil (hK _ ?_)
 refine d7 (PW.Ends.intro (.inr rfl) ?_)
 simp only [go_sem, simprocAttr, sw0]
 obtain rfl := Option.some.inj H
 refine RetOK.refCut (l := [I Zo, I Zk]) (b8  4 (by exact trivial) ?_)
 rfl
 replace H := l7 (by decide) H
 replace H := l7 (by decide) H
 replace H := n6 (by decide) H
 refine b7 ?_
 refine c9 [0, 1] ?_
 simp only [go_sem, simprocAttr, sw0]
 refine b7 ?_
 refine j4 14 mixed (by kernel_rfl) fun K hK => ?_
 change FW _ _ _ _ _
 refine FW.run ?_
 simp only [go_sem, simprocAttr, sw0]
 repeat (refine And.intro (by omega) ?_)
 refine FW.nil ?_
 change OW _ _ _ _ _ _
 refine OW.run [4] ?_
 simp only [go_sem, simprocAttr, sw0]
 repeat (refine And.intro (by omega) ?_)
 refine OW.nil (hK _ ?_)
 refine d7 (PW.Ends.intro (.inr rfl) ?_)
 simp only [go_sem, simprocAttr, sw0]
 obtain rfl := Option.some.inj H
 refine RetOK.refCut (l := [I Zk]) (b8  4 (by exact trivial) ?_)
 rfl
 replace H := l7 (by decide) H
 replace H := l7 (by decide) H
 replace H := l7 (by decide) H
 replace H := n6 (by decide) H
 refine b7 ?_
 refine c9 [0, 1] ?_
 simp only [go_sem, simprocAttr, sw0]
 refine b7 ?_
 refine j4 14 mixed (by kernel_rfl) fun K hK => ?_
 change FW _ _ _ _ _
 refine FW.run ?_
 simp only [go_sem, simprocAttr, sw0]
 repeat (refine And.intro (by omega) ?_)
 refine FW.nil ?_
 change OW _ _ _ _ _ _
 refine OW.run [4] ?_
 simp only [go_sem, simprocAttr, sw0]
 repeat (refine And.intro (by omega) ?_)
 refine OW.nil (hK _ ?_)
 refine d7 (PW.Ends.intro (.inr rfl) ?_)
 simp only [go_sem, simprocAttr, sw0]
 obtain rfl := Option.some.inj H
 refine RetOK.refCut (l := []) (b8  4 (by exact trivial) ?_)
 rfl
end Go.Proofs.YtbndgoeahoadlaaGreatDoor
namespace Go.Proofs.YtbndgoeahoadlaaGreatDoor
open Go.PW Go.Sh

end Go.Proofs.YtbndgoeahoadlaaGreatDoor
namespace Go.Proofs.YtbndgoeahoadlaaGreatDoor
open Go.PW Go.Sh

end Go.Proofs.YtbndgoeahoadlaaGreatDoor
