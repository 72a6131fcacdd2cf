import Derived.Test.YtikelkndldaejaaCsTy
import Derived.Test.YtikelkndldaejaaPwX
import Derived.Test.YtikelkndldaejaaCsH
set_option linter.all false
namespace Go.Proofs.Ytikelkndldaejaa
open Go.PW Go.Sh
set_option maxRecDepth 20000 in
theorem slices_Clone_ii_ok (N : Nat) (s : List Int) (r : List Int) (hrun : slices_Clone_ii N s = some r) : CallOK Try.prog 126 [(L s)] (.own 0 0 r.length 1) [(r.map I, 3)] := by
  refine CallOK.of_PW Try.func126 rfl (by rw [Try.results126]) Try.ntmps126 Try.call126 ?_
  change PW _ _ _ _ _
  try simp only [go_sem, ↓reduceIte, Nat.reduceEqDiff, Nat.reduceLT, Nat.reduceLeDiff, Nat.reduceAdd, Nat.reduceMul, Nat.reduceSub, Nat.reduceBEq]
  unfold slices_Clone_ii at hrun
  obtain ⟨c1, hrun⟩ := chk_some hrun
  obtain rfl := Option.some.inj hrun
  refine PW.seq ?_
  refine PW.regionK fun K hK => ?_
  refine OW.run [0] ?_
  simp (config := { maxSteps := 2000000 }) only [go_sem, ↓reduceIte, Nat.reduceEqDiff, Nat.reduceLT, Nat.reduceLeDiff, Nat.reduceAdd, Nat.reduceMul, Nat.reduceSub, Nat.reduceBEq, Int.reduceToNat, and_assoc, sw0]
  refine OW.nil (hK _ ?_)
  clear hK K
  change PW _ _ _ _ _
  refine PW.seq ?_
  refine PW.seq ?_
  refine PW.regionK fun K hK => ?_
  refine OW.step rfl ?_
  simp (config := { maxSteps := 2000000 }) only [go_sem, ↓reduceIte, Nat.reduceEqDiff, Nat.reduceLT, Nat.reduceLeDiff, Nat.reduceAdd, Nat.reduceMul, Nat.reduceSub, Nat.reduceBEq, Int.reduceToNat, and_assoc, sw0]
  refine OW.binNil rfl rfl se22 rfl rfl (by (simp only [go_sem, Nat.reduceLT])) ?_
  intro b hb
  refine OW.run [0, 4] ?_
  simp (config := { maxSteps := 2000000 }) only [go_sem, ↓reduceIte, Nat.reduceEqDiff, Nat.reduceLT, Nat.reduceLeDiff, Nat.reduceAdd, Nat.reduceMul, Nat.reduceSub, Nat.reduceBEq, Int.reduceToNat, and_assoc, sw0]
  refine OW.nil (hK _ ?_)
  clear hK K
  change PW _ _ _ _ _
  refine PW.cond rfl (fun h => ?_) (fun h => ?_)
  · have hs : s = [] := by simpa using hb h
    subst hs
    refine PW.seq ?_
    refine PW.regionK fun K hK => ?_
    refine OW.run [2] ?_
    try simp only [go_sem, ↓reduceIte, Nat.reduceEqDiff, Nat.reduceLT, Nat.reduceLeDiff, Nat.reduceAdd, Nat.reduceMul, Nat.reduceSub, Nat.reduceBEq]
    refine OW.nil (hK _ ?_)
    clear hK K
    change PW _ _ _ _ _
    refine PW.ret ?_
    change PW.Ends _ _ _ _ _ _
    refine PW.Ends.intro (.inr rfl) ?_
    try simp only [go_sem, ↓reduceIte, Nat.reduceEqDiff, Nat.reduceLT, Nat.reduceLeDiff, Nat.reduceAdd, Nat.reduceMul, Nat.reduceSub, Nat.reduceBEq]
    exact RetOK.nilOwn
  · refine PW.skip ?_
    change PW _ _ _ _ _
    refine PW.seq ?_
    refine PW.regionK fun K hK => ?_
    refine OW.run [2] ?_
    try simp only [go_sem, ↓reduceIte, Nat.reduceEqDiff, Nat.reduceLT, Nat.reduceLeDiff, Nat.reduceAdd, Nat.reduceMul, Nat.reduceSub, Nat.reduceBEq]
    refine And.intro (by omega) ?_
    refine OW.nil (hK _ ?_)
    clear hK K
    change PW _ _ _ _ _
    refine PW.ret ?_
    change PW.Ends _ _ _ _ _ _
    refine PW.Ends.intro (.inr rfl) ?_
    try simp only [go_sem, ↓reduceIte, Nat.reduceEqDiff, Nat.reduceLT, Nat.reduceLeDiff, Nat.reduceAdd, Nat.reduceMul, Nat.reduceSub, Nat.reduceBEq]
    refine RetOK.own 0 _ _ rfl ?_
    rfl
end Go.Proofs.Ytikelkndldaejaa
