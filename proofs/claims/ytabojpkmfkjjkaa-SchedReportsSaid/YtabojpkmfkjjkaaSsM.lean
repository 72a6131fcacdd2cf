import Derived.Test.YtabojpkmfkjjkaaSsTy
import Derived.Test.YtabojpkmfkjjkaaPwX
import Derived.Test.YtabojpkmfkjjkaaPwF3
import Derived.Test.YtabojpkmfkjjkaaSsH
set_option linter.all false
namespace Go.Proofs.Ytabojpkmfkjjkaa
open Go.PW Go.Sh

set_option maxRecDepth 20000
set_option maxHeartbeats 8000000
set_option maxRecDepth 20000 in
theorem slices_Clone_ii_ok (N : Nat) (s : List Int) (r : List Int) (H : z3 N s = some r) : CallOK Try.prog 117 [(L s)] (.own 0 0 r.length 1) [(r.map I, 3)] := by
 refine d3 Try.func117 rfl (by rw [Try.results117]) Try.ntmps117 Try.call117 ?_
 change PW _ _ _ _ _
 try simp only [go_sem, simprocAttr]
 unfold z3 at H
 obtain ⟨c1, H⟩ := d7 H
 obtain rfl := Option.some.inj H
 refine a5 ?_
 refine a0 fun K hK => OW.run [0] ?_
 simp only [go_sem, simprocAttr, sw0]
 refine OW.nil (hK _ ?_)
 refine a5 ?_
 refine a5 ?_
 refine a0 fun K hK => ?_
 refine A8 rfl ?_
 simp only [go_sem, simprocAttr, sw0]
 refine OW.binNil rfl rfl se22 rfl rfl (by (simp only [go_sem, Nat.reduceLT])) ?_
 intro b hb
 refine OW.run [0, 4] ?_
 simp only [go_sem, simprocAttr, sw0]
 refine OW.nil (hK _ ?_)
 refine d9 rfl (fun h => ?_) (fun h => ?_)
 have hs : s = [] := by simpa using hb h
 subst hs
 refine a5 ?_
 refine a0 fun K hK => OW.run [2] ?_
 try simp only [go_sem, simprocAttr]
 refine OW.nil (hK _ ?_)
 refine f4 ?_
 change PW.Ends _ _ _ _ _ _
 refine PW.Ends.intro (.inr rfl) ?_
 try simp only [go_sem, simprocAttr]
 exact RetOK.nilOwn
 refine f0 ?_
 refine a5 ?_
 refine a0 fun K hK => OW.run [2] ?_
 try simp only [go_sem, simprocAttr]
 repeat (refine And.intro (by omega) ?_)
 refine OW.nil (hK _ ?_)
 refine f4 ?_
 change PW.Ends _ _ _ _ _ _
 refine PW.Ends.intro (.inr rfl) ?_
 try simp only [go_sem, simprocAttr]
 refine RetOK.own 0 _ _ rfl ?_
 rfl
set_option maxRecDepth 20000 in
theorem slices_Clone_bb_ok (N : Nat) (s : List TB) (r : List TB) (H : s6 N s = some r) : CallOK Try.prog 93 [.list s.length (s.flatMap (fun x : ByteArray × Int × Int × Int × Int × Int × Int × Int × Int => [Sx x.1, I x.2.1, I x.2.2.1, I x.2.2.2.1, I x.2.2.2.2.1, I x.2.2.2.2.2.1, I x.2.2.2.2.2.2.1, I x.2.2.2.2.2.2.2.1, I x.2.2.2.2.2.2.2.2]))] (.own 0 0 r.length 9) [(r.flatMap (fun x : ByteArray × Int × Int × Int × Int × Int × Int × Int × Int => [Sx x.1, I x.2.1, I x.2.2.1, I x.2.2.2.1, I x.2.2.2.2.1, I x.2.2.2.2.2.1, I x.2.2.2.2.2.2.1, I x.2.2.2.2.2.2.2.1, I x.2.2.2.2.2.2.2.2]), 27)] := by
 refine d3 Try.func93 rfl (by rw [Try.results93]) Try.ntmps93 Try.call93 ?_
 change PW _ _ _ _ _
 try simp only [go_sem, simprocAttr]
 unfold s6 at H
 obtain ⟨c1, H⟩ := d7 H
 obtain rfl := Option.some.inj H
 refine a5 ?_
 refine a0 fun K hK => OW.run [0] ?_
 simp only [go_sem, simprocAttr, sw0]
 refine OW.nil (hK _ ?_)
 refine a5 ?_
 refine a5 ?_
 refine a0 fun K hK => ?_
 refine A8 rfl ?_
 simp only [go_sem, simprocAttr, sw0]
 refine OW.binNil rfl rfl se25 rfl rfl (by (simp only [go_sem, Nat.reduceLT])) ?_
 intro b hb
 refine OW.run [0, 4] ?_
 simp only [go_sem, simprocAttr, sw0]
 refine OW.nil (hK _ ?_)
 refine d9 rfl (fun h => ?_) (fun h => ?_)
 have hs : s = [] := by
  have h0 := hb h
  cases s with
  | nil => rfl
  | cons x s => simp at h0
 subst hs
 refine a5 ?_
 refine a0 fun K hK => OW.run [2] ?_
 try simp only [go_sem, simprocAttr]
 refine OW.nil (hK _ ?_)
 refine f4 ?_
 change PW.Ends _ _ _ _ _ _
 refine PW.Ends.intro (.inr rfl) ?_
 try simp only [go_sem, simprocAttr]
 exact RetOK.nilOwn
 refine f0 ?_
 refine a5 ?_
 refine a0 fun K hK => OW.run [2] ?_
 (simp only [go_sem, simprocAttr, sw0, j5 9 (fun x : ByteArray × Int × Int × Int × Int × Int × Int × Int × Int => [Sx x.1, I x.2.1, I x.2.2.1, I x.2.2.2.1, I x.2.2.2.2.1, I x.2.2.2.2.2.1, I x.2.2.2.2.2.2.1, I x.2.2.2.2.2.2.2.1, I x.2.2.2.2.2.2.2.2]) (fun _ => rfl), allOne_flatF (fun x : ByteArray × Int × Int × Int × Int × Int × Int × Int × Int => [Sx x.1, I x.2.1, I x.2.2.1, I x.2.2.2.1, I x.2.2.2.2.1, I x.2.2.2.2.2.1, I x.2.2.2.2.2.2.1, I x.2.2.2.2.2.2.2.1, I x.2.2.2.2.2.2.2.2]) (fun _ => rfl)])
 repeat (refine And.intro (by omega) ?_)
 refine OW.nil (hK _ ?_)
 refine f4 ?_
 change PW.Ends _ _ _ _ _ _
 refine PW.Ends.intro (.inr rfl) ?_
 try simp only [go_sem, simprocAttr]
 refine RetOK.own 0 _ _ rfl ?_
 rfl
end Go.Proofs.Ytabojpkmfkjjkaa
