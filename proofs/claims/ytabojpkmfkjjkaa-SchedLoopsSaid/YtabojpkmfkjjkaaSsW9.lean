import Derived.Test.YtabojpkmfkjjkaaSsBase
import Derived.Test.YtabojpkmfkjjkaaSsW0
import Derived.Test.YtabojpkmfkjjkaaSsW3
import Derived.Test.YtabojpkmfkjjkaaSsW4
set_option linter.all false
namespace Go.Proofs.Ytabojpkmfkjjkaa
open Go.PW Go.Sh

set_option maxRecDepth 20000
set_option maxHeartbeats 8000000
theorem ref06_LoopErr_ok (N : Nat) (Zh : Int) (Zi : Int) (Ze : Int) (Zg : Int) (Zf : Int) (r : Int) (H : w9 N Zh Zi Ze Zg Zf = some r) : CallOK Try.prog 55 [(.agg [(I Zh), (I Zi), (I Ze), (I Zg), (I Zf)])] (.d (I r)) [] := by
 refine d4 Try.func55 rfl (by rw [Try.results55]) Try.ntmps55 Try.call55 ?_
 change PW _ _ _ _ _
 try simp only [go_sem, simprocAttr]
 unfold w9 at H
 refine a5 ?_
 refine a0 fun K hK => OW.run [1] ?_
 simp only [go_sem, simprocAttr, sw0]
 refine OW.nil (hK _ ?_)
 refine a5 ?_
 refine a0 fun K hK => OW.run [1, 3] ?_
 simp only [go_sem, simprocAttr, sw0]
 refine OW.nil (hK _ ?_)
 refine a5 ?_
 refine a5 ?_
 obtain ⟨x1, e1, H⟩ := a8 H
 obtain ⟨x2, e2, H⟩ := a8 H
 obtain ⟨x3, e3, H⟩ := a8 H
 obtain ⟨x4, e4, H⟩ := a8 H
 refine a0 fun K hK => OW.run [1, 35] ?_
 simp only [go_sem, simprocAttr, sw0]
 repeat (refine And.intro (by omega) ?_)
 refine d7 4 rfl rfl rfl (by ((simp only [go_sem, List.toList_toArray, simprocAttr]); exact rfl)) ?_ (q5 N _ _ _ _ e1) ?_ ?_ ?_ ?_
 rfl
 exact d6 rfl
 exact .inl rfl
 (simp only [go_sem, Nat.reduceLT])
 refine OW.run [1, 35] ?_
 simp only [go_sem, simprocAttr, sw0]
 repeat (refine And.intro (by omega) ?_)
 refine l8 4 rfl rfl ?_ (fun hg => by first | rfl | (simp only [go_sem, ↓reduceIte]; rfl)) (fun hg => by ((simp only [go_sem, List.toList_toArray, simprocAttr]); exact rfl)) (fun hg => ?_) (fun hg => (q5 N _ _ _ _ (p9 hg e2))) ?_ ?_ ?_ ?_
 simp only [go_sem, simprocAttr]
 rfl
 exact d6 rfl
 exact .inl rfl
 (simp only [go_sem, Nat.reduceLT])
 refine OW.run [1, 35] ?_
 simp only [go_sem, simprocAttr, sw0]
 repeat (refine And.intro (by omega) ?_)
 refine l8 4 rfl rfl ?_ (fun hg => by first | rfl | (simp only [go_sem, ↓reduceIte]; rfl)) (fun hg => by ((simp only [go_sem, List.toList_toArray, simprocAttr]); exact rfl)) (fun hg => ?_) (fun hg => (q5 N _ _ _ _ (p9 hg e3))) ?_ ?_ ?_ ?_
 simp only [go_sem, simprocAttr]
 rfl
 exact d6 rfl
 exact .inl rfl
 (simp only [go_sem, Nat.reduceLT])
 refine OW.run [1, 35] ?_
 simp only [go_sem, simprocAttr, sw0]
 repeat (refine And.intro (by omega) ?_)
 refine l8 4 rfl rfl ?_ (fun hg => by first | rfl | (simp only [go_sem, ↓reduceIte]; rfl)) (fun hg => by ((simp only [go_sem, List.toList_toArray, simprocAttr]); exact rfl)) (fun hg => ?_) (fun hg => (q5 N _ _ _ _ (p9 hg e4))) ?_ ?_ ?_ ?_
 simp only [go_sem, simprocAttr]
 rfl
 exact d6 rfl
 exact .inl rfl
 (simp only [go_sem, Nat.reduceLT])
 refine OW.run [1, 35] ?_
 simp only [go_sem, simprocAttr, sw0]
 refine OW.nil (hK _ ?_)
 refine d8 rfl (fun h1 => ?_) (fun h1 => ?_)
 replace H := l4 h1 H
 refine a5 ?_
 refine a0 fun K hK => OW.run [2] ?_
 simp only [go_sem, simprocAttr, sw0]
 refine OW.nil (hK _ ?_)
 refine f0 ?_
 change PW.Ends _ _ _ _ _ _
 refine PW.Ends.intro (.inr rfl) ?_
 simp only [go_sem, simprocAttr, sw0]
 obtain rfl := Option.some.inj H
 refine a7 4 (by exact trivial) ?_
 rfl
 replace H := l5 h1 H
 refine d9 ?_
 refine a5 ?_
 refine a5 ?_
 refine a0 fun K hK => OW.run [1, 42] ?_
 simp only [go_sem, simprocAttr, sw0]
 repeat (refine And.intro (by omega) ?_)
 refine OW.nil (hK _ ?_)
 refine d8 rfl (fun h2 => ?_) (fun h2 => ?_)
 replace H := l4 h2 H
 refine a5 ?_
 refine a0 fun K hK => OW.run [2] ?_
 simp only [go_sem, simprocAttr, sw0]
 refine OW.nil (hK _ ?_)
 refine f0 ?_
 change PW.Ends _ _ _ _ _ _
 refine PW.Ends.intro (.inr rfl) ?_
 simp only [go_sem, simprocAttr, sw0]
 obtain rfl := Option.some.inj H
 refine a7 4 (by exact trivial) ?_
 rfl
 replace H := l5 h2 H
 refine d9 ?_
 refine a5 ?_
 refine a5 ?_
 obtain ⟨x5, e5, H⟩ := a8 H
 refine a0 fun K hK => OW.run [52] ?_
 simp only [go_sem, simprocAttr, sw0]
 repeat (refine And.intro (by omega) ?_)
 refine d7 4 rfl rfl rfl (by ((simp only [go_sem, List.toList_toArray, simprocAttr]); exact rfl)) ?_ (q5 N _ _ _ _ e5) ?_ ?_ ?_ ?_
 rfl
 exact d6 rfl
 exact .inl rfl
 (simp only [go_sem, Nat.reduceLT])
 refine OW.run [52] ?_
 simp only [go_sem, simprocAttr, sw0]
 refine OW.nil (hK _ ?_)
 refine d8 rfl (fun h3 => ?_) (fun h3 => ?_)
 replace H := l4 h3 H
 refine a5 ?_
 refine a0 fun K hK => OW.run [2] ?_
 simp only [go_sem, simprocAttr, sw0]
 refine OW.nil (hK _ ?_)
 refine f0 ?_
 change PW.Ends _ _ _ _ _ _
 refine PW.Ends.intro (.inr rfl) ?_
 simp only [go_sem, simprocAttr, sw0]
 obtain rfl := Option.some.inj H
 refine a7 4 (by exact trivial) ?_
 rfl
 replace H := l5 h3 H
 refine d9 ?_
 refine a5 ?_
 refine a0 fun K hK => OW.run [2] ?_
 simp only [go_sem, simprocAttr, sw0]
 refine OW.nil (hK _ ?_)
 refine f0 ?_
 change PW.Ends _ _ _ _ _ _
 refine PW.Ends.intro (.inr rfl) ?_
 simp only [go_sem, simprocAttr, sw0]
 obtain rfl := Option.some.inj H
 refine a7 4 (by exact trivial) ?_
 rfl

theorem sched_loopErr_1_ok (N : Nat) (n : Int) (r : Bool) (H : r8 N n = some r) : CallOK Try.prog 146 [(I n)] (.d (Bo r)) [] := by
 refine d4 Try.func146 rfl (by rw [Try.results146]) Try.ntmps146 Try.call146 ?_
 change PW _ _ _ _ _
 try simp only [go_sem, simprocAttr]
 unfold r8 at H
 refine a5 ?_
 refine a0 fun K hK => OW.run [0] ?_
 simp only [go_sem, simprocAttr, sw0]
 refine OW.nil (hK _ ?_)
 refine a5 ?_
 obtain ⟨x1, e1, H⟩ := a8 H
 refine a0 fun K hK => OW.run [2] ?_
 simp only [go_sem, simprocAttr, sw0]
 refine d7 4 rfl rfl rfl (by ((simp only [go_sem, List.toList_toArray, simprocAttr]); exact rfl)) ?_ (f6 N _ _ _ _ e1) ?_ ?_ ?_ ?_
 rfl
 exact d6 rfl
 exact .inl rfl
 (simp only [go_sem, Nat.reduceLT])
 refine OW.run [2] ?_
 simp only [go_sem, simprocAttr, sw0]
 refine OW.nil (hK _ ?_)
 refine f0 ?_
 change PW.Ends _ _ _ _ _ _
 refine PW.Ends.intro (.inr rfl) ?_
 simp only [go_sem, simprocAttr, sw0]
 obtain rfl := Option.some.inj H
 refine a7 4 (by exact trivial) ?_
 rfl

theorem sched_loopErr_2_ok (N : Nat) (n : Int) (r : Bool) (H : r7 N n = some r) : CallOK Try.prog 147 [(I n)] (.d (Bo r)) [] := by
 refine d4 Try.func147 rfl (by rw [Try.results147]) Try.ntmps147 Try.call147 ?_
 change PW _ _ _ _ _
 try simp only [go_sem, simprocAttr]
 unfold r7 at H
 refine a5 ?_
 refine a0 fun K hK => OW.run [0] ?_
 simp only [go_sem, simprocAttr, sw0]
 refine OW.nil (hK _ ?_)
 refine a5 ?_
 obtain ⟨x1, e1, H⟩ := a8 H
 refine a0 fun K hK => OW.run [2] ?_
 simp only [go_sem, simprocAttr, sw0]
 refine d7 4 rfl rfl rfl (by ((simp only [go_sem, List.toList_toArray, simprocAttr]); exact rfl)) ?_ (f6 N _ _ _ _ e1) ?_ ?_ ?_ ?_
 rfl
 exact d6 rfl
 exact .inl rfl
 (simp only [go_sem, Nat.reduceLT])
 refine OW.run [2] ?_
 simp only [go_sem, simprocAttr, sw0]
 refine OW.nil (hK _ ?_)
 refine f0 ?_
 change PW.Ends _ _ _ _ _ _
 refine PW.Ends.intro (.inr rfl) ?_
 simp only [go_sem, simprocAttr, sw0]
 obtain rfl := Option.some.inj H
 refine a7 4 (by exact trivial) ?_
 rfl
end Go.Proofs.Ytabojpkmfkjjkaa
