import Derived.Test.YtklejiafioalnaaNsBase
import Derived.Test.YtklejiafioalnaaNsW0
set_option linter.all false
namespace Go.Proofs.Ytklejiafioalnaa
open Go.PW Go.Sh
set_option maxRecDepth 20000 in
set_option maxHeartbeats 8000000 in
theorem ref09_IdentityErr_ok (N : Nat) (n : Int) (r : Int) (hrun : ref09_IdentityErr N n = some r) : CallOK Try.prog 69 [(I n)] (.d (I r)) [] := by
 refine CallOK.of_PW Try.func69 rfl (by rw [Try.results69]) Try.ntmps69 Try.call69 ?_
 change PW _ _ _ _ _
 try simp only [go_sem, ↓reduceIte, Nat.reduceEqDiff, Nat.reduceLT, Nat.reduceLeDiff, Nat.reduceAdd, Nat.reduceMul, Nat.reduceSub, Nat.reduceBEq]
 unfold ref09_IdentityErr at hrun
 refine PW.seq ?_
 refine PW.regionK fun K hK => ?_
 refine OW.run [0] ?_
 simp (config := { maxSteps := 2000000 }) only [go_sem, ↓reduceIte, Nat.reduceEqDiff, Nat.reduceLT, Nat.reduceLeDiff, Nat.reduceAdd, Nat.reduceMul, Nat.reduceSub, Nat.reduceBEq, Int.reduceToNat, and_assoc, sw0]
 refine OW.nil (hK _ ?_)
 clear hK K
 change PW _ _ _ _ _
 refine PW.seq ?_
 refine PW.seq ?_
 obtain ⟨x1, e1, hrun⟩ := bnd_some hrun
 refine PW.regionK fun K hK => ?_
 refine OW.run [5] ?_
 simp (config := { maxSteps := 2000000 }) only [go_sem, ↓reduceIte, Nat.reduceEqDiff, Nat.reduceLT, Nat.reduceLeDiff, Nat.reduceAdd, Nat.reduceMul, Nat.reduceSub, Nat.reduceBEq, Int.reduceToNat, and_assoc, sw0]
 refine OW.call' 4 rfl rfl rfl (by ((simp only [go_sem, List.toList_toArray, ↓reduceIte, Nat.reduceEqDiff, Nat.reduceLT, Nat.reduceBEq]); exact rfl)) ?_ (base_Within_ok N _ _ _ _ e1) ?_ ?_ ?_ ?_
 · rfl
 · exact okD_all rfl
 · exact .inl rfl
 · (simp only [go_sem, Nat.reduceLT])
 refine OW.run [5] ?_
 simp (config := { maxSteps := 2000000 }) only [go_sem, ↓reduceIte, Nat.reduceEqDiff, Nat.reduceLT, Nat.reduceLeDiff, Nat.reduceAdd, Nat.reduceMul, Nat.reduceSub, Nat.reduceBEq, Int.reduceToNat, and_assoc, sw0]
 refine OW.nil (hK _ ?_)
 clear hK K
 change PW _ _ _ _ _
 refine PW.cond rfl (fun h1 => ?_) (fun h1 => ?_)
 ·
  replace hrun := br_t h1 hrun
  refine PW.seq ?_
  refine PW.regionK fun K hK => ?_
  refine OW.run [2] ?_
  simp (config := { maxSteps := 2000000 }) only [go_sem, ↓reduceIte, Nat.reduceEqDiff, Nat.reduceLT, Nat.reduceLeDiff, Nat.reduceAdd, Nat.reduceMul, Nat.reduceSub, Nat.reduceBEq, Int.reduceToNat, and_assoc, sw0]
  refine OW.nil (hK _ ?_)
  clear hK K
  change PW _ _ _ _ _
  refine PW.ret ?_
  change PW.Ends _ _ _ _ _ _
  refine PW.Ends.intro (.inr rfl) ?_
  simp (config := { maxSteps := 2000000 }) only [go_sem, ↓reduceIte, Nat.reduceEqDiff, Nat.reduceLT, Nat.reduceLeDiff, Nat.reduceAdd, Nat.reduceMul, Nat.reduceSub, Nat.reduceBEq, Int.reduceToNat, and_assoc, sw0]
  obtain rfl := Option.some.inj hrun
  refine RetOK.data' 4 (by exact trivial) ?_
  rfl
 ·
  replace hrun := br_f h1 hrun
  refine PW.skip ?_
  change PW _ _ _ _ _
  refine PW.seq ?_
  refine PW.regionK fun K hK => ?_
  refine OW.run [2] ?_
  simp (config := { maxSteps := 2000000 }) only [go_sem, ↓reduceIte, Nat.reduceEqDiff, Nat.reduceLT, Nat.reduceLeDiff, Nat.reduceAdd, Nat.reduceMul, Nat.reduceSub, Nat.reduceBEq, Int.reduceToNat, and_assoc, sw0]
  refine OW.nil (hK _ ?_)
  clear hK K
  change PW _ _ _ _ _
  refine PW.ret ?_
  change PW.Ends _ _ _ _ _ _
  refine PW.Ends.intro (.inr rfl) ?_
  simp (config := { maxSteps := 2000000 }) only [go_sem, ↓reduceIte, Nat.reduceEqDiff, Nat.reduceLT, Nat.reduceLeDiff, Nat.reduceAdd, Nat.reduceMul, Nat.reduceSub, Nat.reduceBEq, Int.reduceToNat, and_assoc, sw0]
  obtain rfl := Option.some.inj hrun
  refine RetOK.data' 4 (by exact trivial) ?_
  rfl

end Go.Proofs.Ytklejiafioalnaa
