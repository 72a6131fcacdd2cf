import Derived.Test.YtklejiafioalnaaNsBase
import Derived.Test.YtklejiafioalnaaNsW0
import Derived.Test.YtklejiafioalnaaNsW5
import Derived.Test.YtklejiafioalnaaNsW6
import Derived.Test.YtklejiafioalnaaNsW8
set_option linter.all false
namespace Go.Proofs.Ytklejiafioalnaa
open Go.PW Go.Sh

set_option maxRecDepth 20000
set_option maxHeartbeats 8000000
theorem plan_FirstRootClash_ok (N : Nat) (Zp : Int) (Zq : List (Int × Int)) (needs : List Int) (from_ : List Int) (r : Int × Int × Int) (H : plan_FirstRootClash N Zp Zq needs from_ = some r) : CallOK Try.prog 43 [(.agg [(I Zp), (.list Zq.length (Zq.flatMap (fun (x : Int × Int) => [(I x.1), (I x.2)])))]), (L needs), (L from_)] (.d (.tup [(.agg [(I r.1), (I r.2.1)]), (I r.2.2)])) [] := by
 refine CallOK.of_PW Try.func43 rfl (by rw [Try.results43]) Try.ntmps43 Try.call43 ?_
 change PW _ _ _ _ _
 try simp only [go_sem, simprocAttr]
 unfold plan_FirstRootClash at H
 refine PW.seq ?_
 refine PW.regionK fun K hK => OW.run [3, 4, 5, 6] ?_
 simp only [go_sem, simprocAttr, sw0]
 refine OW.nil (hK _ ?_); clear hK K
 refine PW.seq ?_
 refine PW.regionK fun K hK => OW.run [4, 5, 6, 8, 9] ?_
 simp only [go_sem, simprocAttr, sw0]
 refine OW.inlineA rfl rfl rfl (by first | exact rfl | ((simp only [go_sem, List.toList_toArray, simprocAttr]); exact rfl)) Try.func54 rfl (by rw [Try.results54]) Try.ntmps54 Try.call54 (by (simp only [go_sem, Nat.reduceLT])) ?_
 intro p G
 change PW _ _ _ _ _
 try simp only [go_sem, simprocAttr]
 refine PW.seq ?_
 refine PW.regionK fun K hK => OW.run [1] ?_
 simp only [go_sem, simprocAttr, sw0]
 refine OW.nil (hK _ ?_); clear hK K
 refine PW.seq ?_
 refine PW.seq ?_
 obtain ⟨⟨x1, x11⟩, e1, H⟩ := bnd_some H
 refine PW.regionK fun K hK => OW.run [1, 5] ?_
 simp only [go_sem, simprocAttr, sw0]
 refine OW.call' 4 rfl rfl rfl (by first | exact rfl | ((simp only [go_sem, List.toList_toArray, simprocAttr]); exact rfl)) ?_ (plan_CheckNet_ok N _ _ _ e1) ?_ ?_ ?_ ?_
 rfl
 · (refine okAll_intro ?_; (simp only [go_sem, sw2, List.length_set, List.length_replicate, and_true, true_and, Nat.le_refl, simprocAttr]; done))
 exact .inl rfl
 (simp only [go_sem, Nat.reduceLT])
 refine OW.run [1, 5] ?_
 simp only [go_sem, simprocAttr, sw0]
 refine OW.nil (hK _ ?_); clear hK K
 refine PW.seq ?_
 refine PW.regionK fun K hK => OW.run [1, 5, 19] ?_
 simp only [go_sem, simprocAttr, sw0]
 refine OW.nil (hK _ ?_); clear hK K
 refine PW.cond rfl (fun h1 => ?_) (fun h1 => ?_)
 replace H := br_t h1 H
 refine PW.seq ?_
 refine PW.regionK fun K hK => OW.run [2, 3] ?_
 simp only [go_sem, simprocAttr, sw0]
 refine OW.nil (hK _ ?_); clear hK K
 refine PW.ret ?_
 refine ⟨.inr rfl, rfl, rfl, ?_⟩
 simp only [go_sem, simprocAttr, sw0]
 change OW _ _ _ _ _ _
 refine OW.run [4, 5, 6, 8, 9] ?_
 simp only [go_sem, simprocAttr, sw0]
 refine OW.nil (hK _ ?_); clear hK K
 refine PW.seq ?_
 refine PW.seq ?_
 refine PW.regionK fun K hK => OW.run [4, 5, 6, 8, 9, 17] ?_
 simp only [go_sem, simprocAttr, sw0]
 refine OW.nil (hK _ ?_); clear hK K
 refine PW.cond rfl (fun h2 => ?_) (fun h2 => ?_)
 refine PW.seq ?_
 refine PW.regionK fun K hK => OW.run [6, 7] ?_
 simp only [go_sem, simprocAttr, sw0]
 refine OW.nil (hK _ ?_); clear hK K
 refine PW.ret ?_
 change PW.Ends _ _ _ _ _ _
 refine PW.Ends.intro (.inr rfl) ?_
 simp only [go_sem, simprocAttr, sw0]
 obtain rfl := Option.some.inj H
 refine RetOK.data' 4 (by (refine okAll_intro ?_; (simp only [go_sem, sw2, List.length_set, List.length_replicate, and_true, true_and, Nat.le_refl, simprocAttr]; done))) ?_
 rfl
 exact absurd (h2.symm.trans h1) (by decide)
 replace H := br_f h1 H
 refine PW.skip ?_
 refine PW.seq ?_
 refine PW.regionK fun K hK => OW.run [1, 6] ?_
 simp only [go_sem, simprocAttr, sw0]
 repeat (refine And.intro (by omega) ?_)
 refine OW.nil (hK _ ?_); clear hK K
 refine PW.seq ?_
 refine PW.regionK fun K hK => OW.run [1, 6, 7] ?_
 simp only [go_sem, simprocAttr, sw0]
 refine OW.nil (hK _ ?_); clear hK K
 refine PW.joinS (τ := List Bool) [1, 6, 7] 7 (fun b6 => []) (fun b6 => [{ cells := [.d (I Zp), .d (.list Zq.length (Zq.flatMap (fun (x : Int × Int) => [(I x.1), (I x.2)])))], e := 24 }, { cells := [.d (L needs)], e := 25 }, { cells := [.d (L from_)], e := 25 }, { cells := [.d (I (0 : Int)), .d (I (0 : Int))], e := 42 }, { cells := [.d (I Zp), .d (.list Zq.length (Zq.flatMap (fun (x : Int × Int) => [(I x.1), (I x.2)])))], e := 24 }, { cells := .d (I Zp) :: ((List.replicate 64 false).map Bo).map .d, e := 106 }, { cells := (b6.map Bo).map .d, e := 104 }]) _ _ r (by (simp only [go_sem]; omega)) H ?_ ?_
 intro K_ H N3 hN3
 refine PW.seq ?_
 refine PW.regionK fun K hK => OW.run [1, 6, 7, 26, 27, 28] ?_
 simp only [go_sem, simprocAttr, sw0]
 repeat (refine And.intro (by omega) ?_)
 refine OW.nil (hK _ ?_); clear hK K
 refine PW.block ?_
 refine PW.loopS (σ := Int × List Bool) [1, 6, 7, 26, 27, 28] 7 (fun (t28, b61) => [(28, .d (I t28))]) (fun (t28, b61) => [{ cells := [.d (I Zp), .d (.list Zq.length (Zq.flatMap (fun (x : Int × Int) => [(I x.1), (I x.2)])))], e := 24 }, { cells := [.d (L needs)], e := 25 }, { cells := [.d (L from_)], e := 25 }, { cells := [.d (I (0 : Int)), .d (I (0 : Int))], e := 42 }, { cells := [.d (I Zp), .d (.list Zq.length (Zq.flatMap (fun (x : Int × Int) => [(I x.1), (I x.2)])))], e := 24 }, { cells := .d (I Zp) :: ((List.replicate 64 false).map Bo).map .d, e := 106 }, { cells := (b61.map Bo).map .d, e := 104 }]) (plan_FirstRootClash.b1 N Zq K_) r N ((0 : Int), (List.replicate 64 false)) (by (simp only [go_sem]; omega)) H (by (simp only [sw1, go_sem, simprocAttr]; done)) ?_
 rintro n ⟨t28, b61⟩ H N4 hN4
 unfold plan_FirstRootClash.b1 at H
 try simp only [go_sem, simprocAttr]
 refine PW.seq ?_
 refine PW.regionK fun K hK => OW.run [1, 6, 7, 26, 27, 28, 29] ?_
 simp only [go_sem, simprocAttr, sw0]
 refine OW.nil (hK _ ?_); clear hK K
 refine PW.seq ?_
 refine PW.cond rfl (fun h5 => ?_) (fun h5 => ?_)
 ·
  replace H := br_t h5 H
  refine PW.skip ?_
  refine PW.seq ?_
  refine PW.block ?_
  refine PW.seq ?_
  obtain ⟨c6, H⟩ := chk_some H
  refine PW.regionK fun K hK => OW.run [1, 6, 7, 9, 26, 27, 28] ?_
  (simp only [go_sem, simprocAttr, sw0, flatMap_length 2 (fun (x : Int × Int) => [(I x.1), (I x.2)]) (fun _ => rfl), sub_el 2 (fun (x : Int × Int) => [(I x.1), (I x.2)]) (fun _ => rfl) Zq t28.toNat (by omega)])
  repeat (refine And.intro (by omega) ?_)
  refine OW.nil (hK _ ?_); clear hK K
  change PW _ _ _ _ _
  obtain ⟨c7, H⟩ := chk_some H
  obtain ⟨c8, H⟩ := chk_some H
  obtain ⟨c9, H⟩ := chk_some H
  obtain ⟨c10, H⟩ := chk_some H
  obtain ⟨c11, H⟩ := chk_some H
  obtain ⟨c12, H⟩ := chk_some H
  refine PW.drawX 12 [10] (fun j => List.getD [[{ cells := [.d (I Zp), .d (.list Zq.length (Zq.flatMap (fun (x : Int × Int) => [(I x.1), (I x.2)])))], e := 24 }, { cells := [.d (L needs)], e := 25 }, { cells := [.d (L from_)], e := 25 }, { cells := [.d (I (0 : Int)), .d (I (0 : Int))], e := 42 }, { cells := [.d (I Zp), .d (.list Zq.length (Zq.flatMap (fun (x : Int × Int) => [(I x.1), (I x.2)])))], e := 24 }, { cells := .d (I Zp) :: ((List.replicate 64 false).map Bo).map .d, e := 106 }, { cells := (b61.map Bo).map .d, e := 104 }, { cells := [.d (I ((Zq.getD t28.toNat default).1)), .d (I ((Zq.getD t28.toNat default).2))], e := 42 }], [{ cells := [.d (I Zp), .d (.list Zq.length (Zq.flatMap (fun (x : Int × Int) => [(I x.1), (I x.2)])))], e := 24 }, { cells := [.d (L needs)], e := 25 }, { cells := [.d (L from_)], e := 25 }, { cells := [.d (I (0 : Int)), .d (I (0 : Int))], e := 42 }, { cells := [.d (I Zp), .d (.list Zq.length (Zq.flatMap (fun (x : Int × Int) => [(I x.1), (I x.2)])))], e := 24 }, { cells := .d (I Zp) :: ((List.replicate 64 false).map Bo).map .d, e := 106 }, { cells := ((b61.set ((((Zq.getD t28.toNat default).1).toNat) * 8 + (((Zq.getD t28.toNat default).2).toNat)) true).map Bo).map .d, e := 104 }, { cells := [.d (I ((Zq.getD t28.toNat default).1)), .d (I ((Zq.getD t28.toNat default).2))], e := 42 }]] j []) (fun _ v => v) mixed (by kernel_rfl) (by decide) (by ((refine ⟨by decide, ?_⟩; intro k i i' h1 h2 o ho; match k, h1, h2 with | 0, h1, h2 => (simp at h1 h2 <;> first | (cases h2; done) | (subst h1; subst h2; simp at ho; subst ho; simp [Region.binds]; done)) | 1, h1, h2 => (simp at h1 h2 <;> first | (cases h2; done) | (subst h1; subst h2; simp at ho; subst ho; simp [Region.binds]; done)) | 2, h1, h2 => (simp at h1 h2 <;> first | (cases h2; done) | (subst h1; subst h2; simp at ho; subst ho; simp [Region.binds]; done)) | k + 3, h1, h2 => (simp at h2; done)))) (fun _ => rfl) (by decide) (freshL rfl) rfl rfl fun K hK => ?_
  change FWX _ _ _ _ _ _ _ _ _ _
  refine FWX.op (by decide) rfl (.ptr 7 0) 0 0 (.inl rfl) (.inr ⟨_, _, { on := 0, ground := .phase }, rfl, rfl, by simp, rfl, rfl⟩) ?_ ?_ (by (simp only [go_sem, Nat.reduceLT])) ?_
  ·
   intro j hj1 hj2
   have hj : j = 0 := by omega
   subst hj
   all_goals (refine ⟨?_, ?_⟩)
   all_goals (first | rfl | trivial | ((simp only [go_sem, simprocAttr, sw0, set_mapF Bo b61 ((((Zq.getD t28.toNat default).1).toNat) * 8 + (((Zq.getD t28.toNat default).2).toNat)), set_mapF Bo (b61.set ((((Zq.getD t28.toNat default).1).toNat) * 8 + (((Zq.getD t28.toNat default).2).toNat)) true) ((((Zq.getD t28.toNat default).2).toNat) * 8 + (((Zq.getD t28.toNat default).1).toNat))]); first | done | rfl | omega | assumption | decide | (simp only [List.append_assoc, List.cons_append, List.nil_append]; done) | ((repeat (refine And.intro (by first | rfl | omega | assumption | decide) ?_)); first | rfl | omega | assumption | decide)))
  exact KeptX.same fun _ _ => rfl
  try simp only [go_sem, simprocAttr]
  refine FWX.op (by decide) rfl (.d (I ((Zq.getD t28.toNat default).1))) 0 0 (.inl rfl) (.inr ⟨_, _, { on := 1, ground := .phase }, rfl, rfl, by simp, rfl, rfl⟩) ?_ ?_ (by (simp only [go_sem, Nat.reduceLT])) ?_
  ·
   intro j hj1 hj2
   have hj : j = 0 := by omega
   subst hj
   all_goals (refine ⟨?_, ?_⟩)
   all_goals (first | rfl | trivial | ((simp only [go_sem, simprocAttr, sw0, set_mapF Bo b61 ((((Zq.getD t28.toNat default).1).toNat) * 8 + (((Zq.getD t28.toNat default).2).toNat)), set_mapF Bo (b61.set ((((Zq.getD t28.toNat default).1).toNat) * 8 + (((Zq.getD t28.toNat default).2).toNat)) true) ((((Zq.getD t28.toNat default).2).toNat) * 8 + (((Zq.getD t28.toNat default).1).toNat))]); first | done | rfl | omega | assumption | decide | (simp only [List.append_assoc, List.cons_append, List.nil_append]; done) | ((repeat (refine And.intro (by first | rfl | omega | assumption | decide) ?_)); first | rfl | omega | assumption | decide)))
  exact KeptX.same fun _ _ => rfl
  try simp only [go_sem, simprocAttr]
  refine FWX.op (by decide) rfl (.ptr 7 1) 0 0 (.inl rfl) (.inr ⟨_, _, { on := 2, ground := .phase }, rfl, rfl, by simp, rfl, rfl⟩) ?_ ?_ (by (simp only [go_sem, Nat.reduceLT])) ?_
  ·
   intro j hj1 hj2
   have hj : j = 0 := by omega
   subst hj
   all_goals (refine ⟨?_, ?_⟩)
   all_goals (first | rfl | trivial | ((simp only [go_sem, simprocAttr, sw0, set_mapF Bo b61 ((((Zq.getD t28.toNat default).1).toNat) * 8 + (((Zq.getD t28.toNat default).2).toNat)), set_mapF Bo (b61.set ((((Zq.getD t28.toNat default).1).toNat) * 8 + (((Zq.getD t28.toNat default).2).toNat)) true) ((((Zq.getD t28.toNat default).2).toNat) * 8 + (((Zq.getD t28.toNat default).1).toNat))]); first | done | rfl | omega | assumption | decide | (simp only [List.append_assoc, List.cons_append, List.nil_append]; done) | ((repeat (refine And.intro (by first | rfl | omega | assumption | decide) ?_)); first | rfl | omega | assumption | decide)))
  exact KeptX.same fun _ _ => rfl
  try simp only [go_sem, simprocAttr]
  refine FWX.op (by decide) rfl (.d (I ((Zq.getD t28.toNat default).2))) 0 0 (.inl rfl) (.inr ⟨_, _, { on := 3, ground := .phase }, rfl, rfl, by simp, rfl, rfl⟩) ?_ ?_ (by (simp only [go_sem, Nat.reduceLT])) ?_
  ·
   intro j hj1 hj2
   have hj : j = 0 := by omega
   subst hj
   all_goals (refine ⟨?_, ?_⟩)
   all_goals (first | rfl | trivial | ((simp only [go_sem, simprocAttr, sw0, set_mapF Bo b61 ((((Zq.getD t28.toNat default).1).toNat) * 8 + (((Zq.getD t28.toNat default).2).toNat)), set_mapF Bo (b61.set ((((Zq.getD t28.toNat default).1).toNat) * 8 + (((Zq.getD t28.toNat default).2).toNat)) true) ((((Zq.getD t28.toNat default).2).toNat) * 8 + (((Zq.getD t28.toNat default).1).toNat))]); first | done | rfl | omega | assumption | decide | (simp only [List.append_assoc, List.cons_append, List.nil_append]; done) | ((repeat (refine And.intro (by first | rfl | omega | assumption | decide) ?_)); first | rfl | omega | assumption | decide)))
  exact KeptX.same fun _ _ => rfl
  try simp only [go_sem, simprocAttr]
  refine FWX.op (by decide) rfl (.ptr 7 1) 0 1 (.inl rfl) (.inl rfl) ?_ ?_ (by (simp only [go_sem, Nat.reduceLT])) ?_
  ·
   intro j hj1 hj2
   have hj : j = 0 ∨ j = 1 := by omega
   rcases hj with rfl | rfl
   all_goals (refine ⟨?_, ?_⟩)
   all_goals (first | rfl | trivial | ((simp only [go_sem, simprocAttr, sw0, set_mapF Bo b61 ((((Zq.getD t28.toNat default).1).toNat) * 8 + (((Zq.getD t28.toNat default).2).toNat)), set_mapF Bo (b61.set ((((Zq.getD t28.toNat default).1).toNat) * 8 + (((Zq.getD t28.toNat default).2).toNat)) true) ((((Zq.getD t28.toNat default).2).toNat) * 8 + (((Zq.getD t28.toNat default).1).toNat))]); first | done | rfl | omega | assumption | decide | (simp only [List.append_assoc, List.cons_append, List.nil_append]; done) | ((repeat (refine And.intro (by first | rfl | omega | assumption | decide) ?_)); first | rfl | omega | assumption | decide)))
  exact KeptX.same fun _ _ => rfl
  try simp only [go_sem, simprocAttr]
  refine FWX.op (by decide) rfl (.d (I ((Zq.getD t28.toNat default).2))) 0 1 (.inl rfl) (.inl rfl) ?_ ?_ (by (simp only [go_sem, Nat.reduceLT])) ?_
  ·
   intro j hj1 hj2
   have hj : j = 0 ∨ j = 1 := by omega
   rcases hj with rfl | rfl
   all_goals (refine ⟨?_, ?_⟩)
   all_goals (first | rfl | trivial | ((simp only [go_sem, simprocAttr, sw0, set_mapF Bo b61 ((((Zq.getD t28.toNat default).1).toNat) * 8 + (((Zq.getD t28.toNat default).2).toNat)), set_mapF Bo (b61.set ((((Zq.getD t28.toNat default).1).toNat) * 8 + (((Zq.getD t28.toNat default).2).toNat)) true) ((((Zq.getD t28.toNat default).2).toNat) * 8 + (((Zq.getD t28.toNat default).1).toNat))]); first | done | rfl | omega | assumption | decide | (simp only [List.append_assoc, List.cons_append, List.nil_append]; done) | ((repeat (refine And.intro (by first | rfl | omega | assumption | decide) ?_)); first | rfl | omega | assumption | decide)))
  exact KeptX.same fun _ _ => rfl
  try simp only [go_sem, simprocAttr]
  refine FWX.op (by decide) rfl (.ptr 7 0) 0 1 (.inl rfl) (.inl rfl) ?_ ?_ (by (simp only [go_sem, Nat.reduceLT])) ?_
  ·
   intro j hj1 hj2
   have hj : j = 0 ∨ j = 1 := by omega
   rcases hj with rfl | rfl
   all_goals (refine ⟨?_, ?_⟩)
   all_goals (first | rfl | trivial | ((simp only [go_sem, simprocAttr, sw0, set_mapF Bo b61 ((((Zq.getD t28.toNat default).1).toNat) * 8 + (((Zq.getD t28.toNat default).2).toNat)), set_mapF Bo (b61.set ((((Zq.getD t28.toNat default).1).toNat) * 8 + (((Zq.getD t28.toNat default).2).toNat)) true) ((((Zq.getD t28.toNat default).2).toNat) * 8 + (((Zq.getD t28.toNat default).1).toNat))]); first | done | rfl | omega | assumption | decide | (simp only [List.append_assoc, List.cons_append, List.nil_append]; done) | ((repeat (refine And.intro (by first | rfl | omega | assumption | decide) ?_)); first | rfl | omega | assumption | decide)))
  exact KeptX.same fun _ _ => rfl
  try simp only [go_sem, simprocAttr]
  refine FWX.op (by decide) rfl (.d (I ((Zq.getD t28.toNat default).1))) 0 1 (.inl rfl) (.inl rfl) ?_ ?_ (by (simp only [go_sem, Nat.reduceLT])) ?_
  ·
   intro j hj1 hj2
   have hj : j = 0 ∨ j = 1 := by omega
   rcases hj with rfl | rfl
   all_goals (refine ⟨?_, ?_⟩)
   all_goals (first | rfl | trivial | ((simp only [go_sem, simprocAttr, sw0, set_mapF Bo b61 ((((Zq.getD t28.toNat default).1).toNat) * 8 + (((Zq.getD t28.toNat default).2).toNat)), set_mapF Bo (b61.set ((((Zq.getD t28.toNat default).1).toNat) * 8 + (((Zq.getD t28.toNat default).2).toNat)) true) ((((Zq.getD t28.toNat default).2).toNat) * 8 + (((Zq.getD t28.toNat default).1).toNat))]); first | done | rfl | omega | assumption | decide | (simp only [List.append_assoc, List.cons_append, List.nil_append]; done) | ((repeat (refine And.intro (by first | rfl | omega | assumption | decide) ?_)); first | rfl | omega | assumption | decide)))
  exact KeptX.same fun _ _ => rfl
  try simp only [go_sem, simprocAttr]
  refine FWX.op (by decide) rfl (.ptr 6 ((((Zq.getD t28.toNat default).1).toNat) * 8)) 0 1 (.inl rfl) (.inl rfl) ?_ ?_ (by (simp only [go_sem, Nat.reduceLT])) ?_
  ·
   intro j hj1 hj2
   have hj : j = 0 ∨ j = 1 := by omega
   rcases hj with rfl | rfl
   all_goals (refine ⟨?_, ?_⟩)
   all_goals (first | rfl | trivial | ((simp only [go_sem, simprocAttr, sw0, set_mapF Bo b61 ((((Zq.getD t28.toNat default).1).toNat) * 8 + (((Zq.getD t28.toNat default).2).toNat)), set_mapF Bo (b61.set ((((Zq.getD t28.toNat default).1).toNat) * 8 + (((Zq.getD t28.toNat default).2).toNat)) true) ((((Zq.getD t28.toNat default).2).toNat) * 8 + (((Zq.getD t28.toNat default).1).toNat))]); first | done | rfl | omega | assumption | decide | (simp only [List.append_assoc, List.cons_append, List.nil_append]; done) | ((repeat (refine And.intro (by first | rfl | omega | assumption | decide) ?_)); first | rfl | omega | assumption | decide)))
  exact KeptX.same fun _ _ => rfl
  try simp only [go_sem, simprocAttr]
  refine FWX.op (by decide) rfl (.ptr 6 ((((Zq.getD t28.toNat default).1).toNat) * 8 + (((Zq.getD t28.toNat default).2).toNat))) 0 0 (.inl rfl) (.inr ⟨_, _, { on := 9, ground := .data }, rfl, rfl, by simp, rfl, rfl⟩) ?_ ?_ (by (simp only [go_sem, Nat.reduceLT])) ?_
  ·
   intro j hj1 hj2
   have hj : j = 0 := by omega
   subst hj
   all_goals (refine ⟨?_, ?_⟩)
   all_goals (first | rfl | trivial | ((simp only [go_sem, simprocAttr, sw0, set_mapF Bo b61 ((((Zq.getD t28.toNat default).1).toNat) * 8 + (((Zq.getD t28.toNat default).2).toNat)), set_mapF Bo (b61.set ((((Zq.getD t28.toNat default).1).toNat) * 8 + (((Zq.getD t28.toNat default).2).toNat)) true) ((((Zq.getD t28.toNat default).2).toNat) * 8 + (((Zq.getD t28.toNat default).1).toNat))]); first | done | rfl | omega | assumption | decide | (simp only [List.append_assoc, List.cons_append, List.nil_append]; done) | ((repeat (refine And.intro (by first | rfl | omega | assumption | decide) ?_)); first | rfl | omega | assumption | decide)))
  exact KeptX.same fun _ _ => rfl
  try simp only [go_sem, simprocAttr]
  refine FWX.store (q := 0) (by decide) rfl rfl rfl rfl (fun _ => rfl) ?_ ?_ ?_
  · first | trivial | ((simp only [go_sem, simprocAttr, sw0, set_mapF Bo b61 ((((Zq.getD t28.toNat default).1).toNat) * 8 + (((Zq.getD t28.toNat default).2).toNat)), set_mapF Bo (b61.set ((((Zq.getD t28.toNat default).1).toNat) * 8 + (((Zq.getD t28.toNat default).2).toNat)) true) ((((Zq.getD t28.toNat default).2).toNat) * 8 + (((Zq.getD t28.toNat default).1).toNat))]); done) | ((simp only [go_sem, simprocAttr, sw0, set_mapF Bo b61 ((((Zq.getD t28.toNat default).1).toNat) * 8 + (((Zq.getD t28.toNat default).2).toNat)), set_mapF Bo (b61.set ((((Zq.getD t28.toNat default).1).toNat) * 8 + (((Zq.getD t28.toNat default).2).toNat)) true) ((((Zq.getD t28.toNat default).2).toNat) * 8 + (((Zq.getD t28.toNat default).1).toNat))]); first | omega | (repeat (refine And.intro (by (first | omega | assumption | rfl | decide | (simp only [List.length_map, List.length_replicate, List.length_append, List.length_take, List.length_drop, List.length_set, List.length_cons, List.length_nil, Nat.zero_add, Int.toNat_natCast] at *; omega) | (simp only [List.length_map, List.length_replicate, List.length_append, List.length_take, List.length_drop, List.length_set, List.length_cons, List.length_nil, Nat.zero_add, Int.toNat_natCast]; done) | trivial)) ?_); (first | omega | assumption | rfl | decide | (simp only [List.length_map, List.length_replicate, List.length_append, List.length_take, List.length_drop, List.length_set, List.length_cons, List.length_nil, Nat.zero_add, Int.toNat_natCast] at *; omega) | (simp only [List.length_map, List.length_replicate, List.length_append, List.length_take, List.length_drop, List.length_set, List.length_cons, List.length_nil, Nat.zero_add, Int.toNat_natCast]; done) | trivial)))
  · first | rfl | ((simp only [go_sem, simprocAttr, sw0, set_mapF Bo b61 ((((Zq.getD t28.toNat default).1).toNat) * 8 + (((Zq.getD t28.toNat default).2).toNat)), set_mapF Bo (b61.set ((((Zq.getD t28.toNat default).1).toNat) * 8 + (((Zq.getD t28.toNat default).2).toNat)) true) ((((Zq.getD t28.toNat default).2).toNat) * 8 + (((Zq.getD t28.toNat default).1).toNat))]); done) | ((simp only [go_sem, simprocAttr, sw0, set_mapF Bo b61 ((((Zq.getD t28.toNat default).1).toNat) * 8 + (((Zq.getD t28.toNat default).2).toNat)), set_mapF Bo (b61.set ((((Zq.getD t28.toNat default).1).toNat) * 8 + (((Zq.getD t28.toNat default).2).toNat)) true) ((((Zq.getD t28.toNat default).2).toNat) * 8 + (((Zq.getD t28.toNat default).1).toNat))]); rfl) | ((simp only [go_sem, simprocAttr, sw0, set_mapF Bo b61 ((((Zq.getD t28.toNat default).1).toNat) * 8 + (((Zq.getD t28.toNat default).2).toNat)), set_mapF Bo (b61.set ((((Zq.getD t28.toNat default).1).toNat) * 8 + (((Zq.getD t28.toNat default).2).toNat)) true) ((((Zq.getD t28.toNat default).2).toNat) * 8 + (((Zq.getD t28.toNat default).1).toNat))]); simp only [List.append_assoc, List.cons_append, List.nil_append]; done)
  try simp only [go_sem, simprocAttr]
  refine FWX.op (by decide) rfl (.ptr 6 ((((Zq.getD t28.toNat default).2).toNat) * 8)) 0 1 (.inl rfl) (.inl rfl) ?_ ?_ (by (simp only [go_sem, Nat.reduceLT])) ?_
  ·
   intro j hj1 hj2
   have hj : j = 0 ∨ j = 1 := by omega
   rcases hj with rfl | rfl
   all_goals (refine ⟨?_, ?_⟩)
   all_goals (first | rfl | trivial | ((simp only [go_sem, simprocAttr, sw0, set_mapF Bo b61 ((((Zq.getD t28.toNat default).1).toNat) * 8 + (((Zq.getD t28.toNat default).2).toNat)), set_mapF Bo (b61.set ((((Zq.getD t28.toNat default).1).toNat) * 8 + (((Zq.getD t28.toNat default).2).toNat)) true) ((((Zq.getD t28.toNat default).2).toNat) * 8 + (((Zq.getD t28.toNat default).1).toNat))]); first | done | rfl | omega | assumption | decide | (simp only [List.append_assoc, List.cons_append, List.nil_append]; done) | ((repeat (refine And.intro (by first | rfl | omega | assumption | decide) ?_)); first | rfl | omega | assumption | decide)))
  exact KeptX.same fun _ _ => rfl
  try simp only [go_sem, simprocAttr]
  refine FWX.nil ?_
  change OW _ _ _ _ _ _
  change OW _ _ _ _ _ _
  refine OW.run [1, 6, 7, 26, 27, 28] ?_
  (simp only [go_sem, simprocAttr, sw0, set_mapF Bo b61 ((((Zq.getD t28.toNat default).1).toNat) * 8 + (((Zq.getD t28.toNat default).2).toNat)), set_mapF Bo (b61.set ((((Zq.getD t28.toNat default).1).toNat) * 8 + (((Zq.getD t28.toNat default).2).toNat)) true) ((((Zq.getD t28.toNat default).2).toNat) * 8 + (((Zq.getD t28.toNat default).1).toNat))])
  repeat (refine And.intro (by omega) ?_)
  refine OW.nil (hK _ ?_); clear hK K
  refine PW.regionK fun K hK => OW.run [1, 6, 7, 26, 27, 28] ?_
  simp only [go_sem, simprocAttr, sw0]
  refine OW.nil (hK _ ?_); clear hK K
  refine hN4 [] (w64 (t28 + (1 : Int)), ((b61.set ((((Zq.getD t28.toNat default).1).toNat) * 8 + (((Zq.getD t28.toNat default).2).toNat)) true).set ((((Zq.getD t28.toNat default).2).toNat) * 8 + (((Zq.getD t28.toNat default).1).toNat)) true)) _ H (by exact trivial) ?_
  simp only [sw1, go_sem, simprocAttr]
 replace H := br_f h5 H
 refine PW.exit ?_
 refine hN3 [] b61 _ H (by exact trivial) ?_
 simp only [sw1, go_sem, simprocAttr]
 rintro b6 H
 try simp only [go_sem, simprocAttr]
 refine PW.joinS (τ := List Bool) [6] 6 (fun b5 => []) (fun b5 => [{ cells := [.d (I Zp), .d (.list Zq.length (Zq.flatMap (fun (x : Int × Int) => [(I x.1), (I x.2)])))], e := 24 }, { cells := [.d (L needs)], e := 25 }, { cells := [.d (L from_)], e := 25 }, { cells := [.d (I (0 : Int)), .d (I (0 : Int))], e := 42 }, { cells := [.d (I Zp), .d (.list Zq.length (Zq.flatMap (fun (x : Int × Int) => [(I x.1), (I x.2)])))], e := 24 }, { cells := .d (I Zp) :: (b5.map Bo).map .d, e := 106 }]) _ _ r (by (simp only [go_sem]; omega)) H ?_ ?_
 intro K_1 H N13 hN13
 refine PW.seq ?_
 refine PW.regionK fun K hK => OW.run [1, 6, 7, 46, 47] ?_
 simp only [go_sem, simprocAttr, sw0]
 repeat (refine And.intro (by omega) ?_)
 refine OW.nil (hK _ ?_); clear hK K
 refine PW.block ?_
 refine PW.loopS (σ := Int × List Bool) [1, 6, 7, 46, 47] 7 (fun (t47, b51) => [(47, .d (I t47))]) (fun (t47, b51) => [{ cells := [.d (I Zp), .d (.list Zq.length (Zq.flatMap (fun (x : Int × Int) => [(I x.1), (I x.2)])))], e := 24 }, { cells := [.d (L needs)], e := 25 }, { cells := [.d (L from_)], e := 25 }, { cells := [.d (I (0 : Int)), .d (I (0 : Int))], e := 42 }, { cells := [.d (I Zp), .d (.list Zq.length (Zq.flatMap (fun (x : Int × Int) => [(I x.1), (I x.2)])))], e := 24 }, { cells := .d (I Zp) :: (b51.map Bo).map .d, e := 106 }, { cells := (b6.map Bo).map .d, e := 104 }]) (plan_FirstRootClash.b2 N Zp b6 K_1) r N ((0 : Int), (List.replicate 64 false)) (by (simp only [go_sem]; omega)) H (by (simp only [sw1, go_sem, simprocAttr]; done)) ?_
 rintro n ⟨t47, b51⟩ H N14 hN14
 unfold plan_FirstRootClash.b2 at H
 try simp only [go_sem, simprocAttr]
 refine PW.seq ?_
 refine PW.regionK fun K hK => OW.run [1, 6, 7, 46, 47, 48] ?_
 simp only [go_sem, simprocAttr, sw0]
 refine OW.nil (hK _ ?_); clear hK K
 refine PW.seq ?_
 refine PW.cond rfl (fun h15 => ?_) (fun h15 => ?_)
 replace H := br_t h15 H
 refine PW.skip ?_
 refine PW.joinS (τ := List Bool) [1, 6, 7, 46, 47] 7 (fun b52 => []) (fun b52 => [{ cells := [.d (I Zp), .d (.list Zq.length (Zq.flatMap (fun (x : Int × Int) => [(I x.1), (I x.2)])))], e := 24 }, { cells := [.d (L needs)], e := 25 }, { cells := [.d (L from_)], e := 25 }, { cells := [.d (I (0 : Int)), .d (I (0 : Int))], e := 42 }, { cells := [.d (I Zp), .d (.list Zq.length (Zq.flatMap (fun (x : Int × Int) => [(I x.1), (I x.2)])))], e := 24 }, { cells := .d (I Zp) :: (b52.map Bo).map .d, e := 106 }, { cells := (b6.map Bo).map .d, e := 104 }]) _ _ r (by (simp only [go_sem]; omega)) H ?_ ?_
 intro K_2 H N16 hN16
 refine PW.block ?_
 refine PW.seq ?_
 refine PW.regionK fun K hK => OW.run [1, 6, 7, 10, 46, 47] ?_
 simp only [go_sem, simprocAttr, sw0]
 refine OW.nil (hK _ ?_); clear hK K
 refine PW.seq ?_
 refine PW.regionK fun K hK => OW.run [1, 6, 7, 10, 46, 47, 51, 52] ?_
 simp only [go_sem, simprocAttr, sw0]
 repeat (refine And.intro (by omega) ?_)
 refine OW.nil (hK _ ?_); clear hK K
 refine PW.block ?_
 refine PW.loopS (σ := Int × List Bool) [1, 6, 7, 10, 46, 47, 51, 52] 7 (fun (t52, b53) => [(52, .d (I t52))]) (fun (t52, b53) => [{ cells := [.d (I Zp), .d (.list Zq.length (Zq.flatMap (fun (x : Int × Int) => [(I x.1), (I x.2)])))], e := 24 }, { cells := [.d (L needs)], e := 25 }, { cells := [.d (L from_)], e := 25 }, { cells := [.d (I (0 : Int)), .d (I (0 : Int))], e := 42 }, { cells := [.d (I Zp), .d (.list Zq.length (Zq.flatMap (fun (x : Int × Int) => [(I x.1), (I x.2)])))], e := 24 }, { cells := .d (I Zp) :: (b53.map Bo).map .d, e := 106 }, { cells := (b6.map Bo).map .d, e := 104 }]) (plan_FirstRootClash.b3 N Zp b6 t47 K_2) r N ((0 : Int), b51) (by (simp only [go_sem]; omega)) H (by (simp only [sw1, go_sem, simprocAttr]; done)) ?_
 rintro n ⟨t52, b53⟩ H N17 hN17
 unfold plan_FirstRootClash.b3 at H
 try simp only [go_sem, simprocAttr]
 refine PW.seq ?_
 refine PW.regionK fun K hK => OW.run [1, 6, 7, 10, 46, 47, 51, 52, 53] ?_
 simp only [go_sem, simprocAttr, sw0]
 refine OW.nil (hK _ ?_); clear hK K
 refine PW.seq ?_
 refine PW.cond rfl (fun h18 => ?_) (fun h18 => ?_)
 replace H := br_t h18 H
 refine PW.skip ?_
 refine PW.joinS (τ := List Bool) [1, 6, 7, 10, 46, 47, 51, 52] 7 (fun b54 => []) (fun b54 => [{ cells := [.d (I Zp), .d (.list Zq.length (Zq.flatMap (fun (x : Int × Int) => [(I x.1), (I x.2)])))], e := 24 }, { cells := [.d (L needs)], e := 25 }, { cells := [.d (L from_)], e := 25 }, { cells := [.d (I (0 : Int)), .d (I (0 : Int))], e := 42 }, { cells := [.d (I Zp), .d (.list Zq.length (Zq.flatMap (fun (x : Int × Int) => [(I x.1), (I x.2)])))], e := 24 }, { cells := .d (I Zp) :: (b54.map Bo).map .d, e := 106 }, { cells := (b6.map Bo).map .d, e := 104 }]) _ _ r (by (simp only [go_sem]; omega)) H ?_ ?_
 intro K_3 H N19 hN19
 refine PW.block ?_
 refine PW.seq ?_
 refine PW.regionK fun K hK => OW.run [1, 6, 7, 10, 11, 46, 47, 51, 52] ?_
 simp only [go_sem, simprocAttr, sw0]
 refine OW.nil (hK _ ?_); clear hK K
 refine PW.seq ?_
 refine PW.regionK fun K hK => OW.run [1, 6, 7, 10, 11, 46, 47, 51, 52, 56, 57] ?_
 simp only [go_sem, simprocAttr, sw0]
 repeat (refine And.intro (by omega) ?_)
 refine OW.nil (hK _ ?_); clear hK K
 refine PW.block ?_
 refine PW.loopS (σ := Int × List Bool) [1, 6, 7, 10, 11, 46, 47, 51, 52, 56, 57] 7 (fun (t57, b55) => [(57, .d (I t57))]) (fun (t57, b55) => [{ cells := [.d (I Zp), .d (.list Zq.length (Zq.flatMap (fun (x : Int × Int) => [(I x.1), (I x.2)])))], e := 24 }, { cells := [.d (L needs)], e := 25 }, { cells := [.d (L from_)], e := 25 }, { cells := [.d (I (0 : Int)), .d (I (0 : Int))], e := 42 }, { cells := [.d (I Zp), .d (.list Zq.length (Zq.flatMap (fun (x : Int × Int) => [(I x.1), (I x.2)])))], e := 24 }, { cells := .d (I Zp) :: (b55.map Bo).map .d, e := 106 }, { cells := (b6.map Bo).map .d, e := 104 }]) (plan_FirstRootClash.b4 N Zp b6 t47 t52 K_3) r N ((0 : Int), b53) (by (simp only [go_sem]; omega)) H (by (simp only [sw1, go_sem, simprocAttr]; done)) ?_
 rintro n ⟨t57, b55⟩ H N20 hN20
 unfold plan_FirstRootClash.b4 at H
 try simp only [go_sem, simprocAttr]
 refine PW.seq ?_
 refine PW.regionK fun K hK => OW.run [1, 6, 7, 10, 11, 46, 47, 51, 52, 56, 57, 58] ?_
 simp only [go_sem, simprocAttr, sw0]
 refine OW.nil (hK _ ?_); clear hK K
 refine PW.seq ?_
 refine PW.cond rfl (fun h21 => ?_) (fun h21 => ?_)
 replace H := br_t h21 H
 refine PW.skip ?_
 refine PW.seq ?_
 refine PW.block ?_
 refine PW.seq ?_
 refine PW.regionK fun K hK => OW.run [1, 6, 7, 10, 11, 12, 46, 47, 51, 52, 56, 57] ?_
 simp only [go_sem, simprocAttr, sw0]
 refine OW.nil (hK _ ?_); clear hK K
 change PW _ _ _ _ _
 obtain ⟨c22, H⟩ := chk_some H
 obtain ⟨c23, H⟩ := chk_some H
 obtain ⟨c24, H⟩ := chk_some H
 obtain ⟨c25, H⟩ := chk_some H
 obtain ⟨c26, H⟩ := chk_some H
 obtain ⟨c27, H⟩ := chk_some H
 obtain ⟨c28, H⟩ := chk_some H
 obtain ⟨c29, H⟩ := chk_some H
 obtain ⟨c30, H⟩ := chk_some H
 obtain ⟨c31, H⟩ := chk_some H
 obtain ⟨c32, H⟩ := chk_some H
 obtain ⟨c33, H⟩ := chk_some H
 refine PW.drawK 40 mixed (by kernel_rfl) fun K hK => ?_
 change FW _ _ _ _ _
 refine FW.toS [(1, .ptr 4 0), (6, .ptr 5 0), (7, .ptr 6 0), (10, .d (I t47)), (11, .d (I t52)), (46, .d (I Zp)), (47, .d (I t47)), (51, .d (I Zp)), (52, .d (I t52)), (56, .d (I Zp)), (57, .d (I t57))] [{ cells := [.d (I Zp), .d (.list Zq.length (Zq.flatMap (fun (x : Int × Int) => [(I x.1), (I x.2)])))], e := 24 }, { cells := [.d (L needs)], e := 25 }, { cells := [.d (L from_)], e := 25 }, { cells := [.d (I (0 : Int)), .d (I (0 : Int))], e := 42 }, { cells := [.d (I Zp), .d (.list Zq.length (Zq.flatMap (fun (x : Int × Int) => [(I x.1), (I x.2)])))], e := 24 }, { cells := .d (I Zp) :: ((b55.set (t47.toNat * 8 + t52.toNat) ((b55.getD (t47.toNat * 8 + t52.toNat) false) || ((t47 != t52) && ((b6.getD (t47.toNat * 8 + t52.toNat) false) || ((b6.getD (t47.toNat * 8 + t57.toNat) false) && (b6.getD (t57.toNat * 8 + t52.toNat) false)))))).map Bo).map .d, e := 106 }, { cells := (b6.map Bo).map .d, e := 104 }] ?_ (hK _ ?_)
 intro K hKE
 rcases Bool.eq_false_or_eq_true ((b55.getD (t47.toNat * 8 + t52.toNat) false)) with ha0 | ha0
 refine FW.run ?_
 (simp only [go_sem, simprocAttr, sw0, show 1 + t47.toNat * 8 + t52.toNat = (t47.toNat * 8 + t52.toNat) + 1 by omega, List.getD_cons_succ, List.set_cons_succ, getD_mapVF Bo b55 (t47.toNat * 8 + t52.toNat) false (by omega), getD_mapVF Bo b6 (t47.toNat * 8 + t52.toNat) false (by omega), getD_mapVF Bo b6 (t47.toNat * 8 + t57.toNat) false (by omega), getD_mapVF Bo b6 (t57.toNat * 8 + t52.toNat) false (by omega), set_mapF Bo b55 (t47.toNat * 8 + t52.toNat), ha0])
 repeat (refine And.intro (by omega) ?_)
 refine FW.nil ?_
 change OW _ _ _ _ _ _
 refine OW.run [1, 6, 7, 10, 11, 46, 47, 51, 52, 56, 57] ?_
 (simp only [go_sem, simprocAttr, sw0, show 1 + t47.toNat * 8 + t52.toNat = (t47.toNat * 8 + t52.toNat) + 1 by omega, List.getD_cons_succ, List.set_cons_succ, getD_mapVF Bo b55 (t47.toNat * 8 + t52.toNat) false (by omega), getD_mapVF Bo b6 (t47.toNat * 8 + t52.toNat) false (by omega), getD_mapVF Bo b6 (t47.toNat * 8 + t57.toNat) false (by omega), getD_mapVF Bo b6 (t57.toNat * 8 + t52.toNat) false (by omega), set_mapF Bo b55 (t47.toNat * 8 + t52.toNat), ha0])
 repeat (refine And.intro (by omega) ?_)
 refine OW.nil ((congrArg K ?_).mpr hKE)
 · (first | rfl | (simp only [go_sem, simprocAttr, ha0]; done) | (simp only [go_sem, simprocAttr, ha0]; rfl))
 rcases Bool.eq_false_or_eq_true ((t47 != t52)) with ha1 | ha1
 rcases Bool.eq_false_or_eq_true ((b6.getD (t47.toNat * 8 + t52.toNat) false)) with ha2 | ha2
 refine FW.run ?_
 (simp only [go_sem, simprocAttr, sw0, show 1 + t47.toNat * 8 + t52.toNat = (t47.toNat * 8 + t52.toNat) + 1 by omega, List.getD_cons_succ, List.set_cons_succ, getD_mapVF Bo b55 (t47.toNat * 8 + t52.toNat) false (by omega), getD_mapVF Bo b6 (t47.toNat * 8 + t52.toNat) false (by omega), getD_mapVF Bo b6 (t47.toNat * 8 + t57.toNat) false (by omega), getD_mapVF Bo b6 (t57.toNat * 8 + t52.toNat) false (by omega), set_mapF Bo b55 (t47.toNat * 8 + t52.toNat), ha0, ha1, ha2])
 repeat (refine And.intro (by omega) ?_)
 refine FW.nil ?_
 change OW _ _ _ _ _ _
 refine OW.run [1, 6, 7, 10, 11, 46, 47, 51, 52, 56, 57] ?_
 (simp only [go_sem, simprocAttr, sw0, show 1 + t47.toNat * 8 + t52.toNat = (t47.toNat * 8 + t52.toNat) + 1 by omega, List.getD_cons_succ, List.set_cons_succ, getD_mapVF Bo b55 (t47.toNat * 8 + t52.toNat) false (by omega), getD_mapVF Bo b6 (t47.toNat * 8 + t52.toNat) false (by omega), getD_mapVF Bo b6 (t47.toNat * 8 + t57.toNat) false (by omega), getD_mapVF Bo b6 (t57.toNat * 8 + t52.toNat) false (by omega), set_mapF Bo b55 (t47.toNat * 8 + t52.toNat), ha0, ha1, ha2])
 repeat (refine And.intro (by omega) ?_)
 refine OW.nil ((congrArg K ?_).mpr hKE)
 · (first | rfl | (simp only [go_sem, simprocAttr, ha0, ha1, ha2]; done) | (simp only [go_sem, simprocAttr, ha0, ha1, ha2]; rfl))
 rcases Bool.eq_false_or_eq_true ((b6.getD (t47.toNat * 8 + t57.toNat) false)) with ha3 | ha3
 refine FW.run ?_
 (simp only [go_sem, simprocAttr, sw0, show 1 + t47.toNat * 8 + t52.toNat = (t47.toNat * 8 + t52.toNat) + 1 by omega, List.getD_cons_succ, List.set_cons_succ, getD_mapVF Bo b55 (t47.toNat * 8 + t52.toNat) false (by omega), getD_mapVF Bo b6 (t47.toNat * 8 + t52.toNat) false (by omega), getD_mapVF Bo b6 (t47.toNat * 8 + t57.toNat) false (by omega), getD_mapVF Bo b6 (t57.toNat * 8 + t52.toNat) false (by omega), set_mapF Bo b55 (t47.toNat * 8 + t52.toNat), ha0, ha1, ha2, ha3])
 repeat (refine And.intro (by omega) ?_)
 refine FW.nil ?_
 change OW _ _ _ _ _ _
 refine OW.run [1, 6, 7, 10, 11, 46, 47, 51, 52, 56, 57] ?_
 (simp only [go_sem, simprocAttr, sw0, show 1 + t47.toNat * 8 + t52.toNat = (t47.toNat * 8 + t52.toNat) + 1 by omega, List.getD_cons_succ, List.set_cons_succ, getD_mapVF Bo b55 (t47.toNat * 8 + t52.toNat) false (by omega), getD_mapVF Bo b6 (t47.toNat * 8 + t52.toNat) false (by omega), getD_mapVF Bo b6 (t47.toNat * 8 + t57.toNat) false (by omega), getD_mapVF Bo b6 (t57.toNat * 8 + t52.toNat) false (by omega), set_mapF Bo b55 (t47.toNat * 8 + t52.toNat), ha0, ha1, ha2, ha3])
 repeat (refine And.intro (by omega) ?_)
 refine OW.nil ((congrArg K ?_).mpr hKE)
 · (first | rfl | (simp only [go_sem, simprocAttr, ha0, ha1, ha2, ha3]; done) | (simp only [go_sem, simprocAttr, ha0, ha1, ha2, ha3]; rfl))
 refine FW.run ?_
 (simp only [go_sem, simprocAttr, sw0, show 1 + t47.toNat * 8 + t52.toNat = (t47.toNat * 8 + t52.toNat) + 1 by omega, List.getD_cons_succ, List.set_cons_succ, getD_mapVF Bo b55 (t47.toNat * 8 + t52.toNat) false (by omega), getD_mapVF Bo b6 (t47.toNat * 8 + t52.toNat) false (by omega), getD_mapVF Bo b6 (t47.toNat * 8 + t57.toNat) false (by omega), getD_mapVF Bo b6 (t57.toNat * 8 + t52.toNat) false (by omega), set_mapF Bo b55 (t47.toNat * 8 + t52.toNat), ha0, ha1, ha2, ha3])
 repeat (refine And.intro (by omega) ?_)
 refine FW.nil ?_
 change OW _ _ _ _ _ _
 refine OW.run [1, 6, 7, 10, 11, 46, 47, 51, 52, 56, 57] ?_
 (simp only [go_sem, simprocAttr, sw0, show 1 + t47.toNat * 8 + t52.toNat = (t47.toNat * 8 + t52.toNat) + 1 by omega, List.getD_cons_succ, List.set_cons_succ, getD_mapVF Bo b55 (t47.toNat * 8 + t52.toNat) false (by omega), getD_mapVF Bo b6 (t47.toNat * 8 + t52.toNat) false (by omega), getD_mapVF Bo b6 (t47.toNat * 8 + t57.toNat) false (by omega), getD_mapVF Bo b6 (t57.toNat * 8 + t52.toNat) false (by omega), set_mapF Bo b55 (t47.toNat * 8 + t52.toNat), ha0, ha1, ha2, ha3])
 repeat (refine And.intro (by omega) ?_)
 refine OW.nil ((congrArg K ?_).mpr hKE)
 · (first | rfl | (simp only [go_sem, simprocAttr, ha0, ha1, ha2, ha3]; done) | (simp only [go_sem, simprocAttr, ha0, ha1, ha2, ha3]; rfl))
 refine FW.run ?_
 (simp only [go_sem, simprocAttr, sw0, show 1 + t47.toNat * 8 + t52.toNat = (t47.toNat * 8 + t52.toNat) + 1 by omega, List.getD_cons_succ, List.set_cons_succ, getD_mapVF Bo b55 (t47.toNat * 8 + t52.toNat) false (by omega), getD_mapVF Bo b6 (t47.toNat * 8 + t52.toNat) false (by omega), getD_mapVF Bo b6 (t47.toNat * 8 + t57.toNat) false (by omega), getD_mapVF Bo b6 (t57.toNat * 8 + t52.toNat) false (by omega), set_mapF Bo b55 (t47.toNat * 8 + t52.toNat), ha0, ha1])
 repeat (refine And.intro (by omega) ?_)
 refine FW.nil ?_
 change OW _ _ _ _ _ _
 refine OW.run [1, 6, 7, 10, 11, 46, 47, 51, 52, 56, 57] ?_
 (simp only [go_sem, simprocAttr, sw0, show 1 + t47.toNat * 8 + t52.toNat = (t47.toNat * 8 + t52.toNat) + 1 by omega, List.getD_cons_succ, List.set_cons_succ, getD_mapVF Bo b55 (t47.toNat * 8 + t52.toNat) false (by omega), getD_mapVF Bo b6 (t47.toNat * 8 + t52.toNat) false (by omega), getD_mapVF Bo b6 (t47.toNat * 8 + t57.toNat) false (by omega), getD_mapVF Bo b6 (t57.toNat * 8 + t52.toNat) false (by omega), set_mapF Bo b55 (t47.toNat * 8 + t52.toNat), ha0, ha1])
 repeat (refine And.intro (by omega) ?_)
 refine OW.nil ((congrArg K ?_).mpr hKE)
 · (first | rfl | (simp only [go_sem, simprocAttr, ha0, ha1]; done) | (simp only [go_sem, simprocAttr, ha0, ha1]; rfl))
 clear hK K
 refine PW.regionK fun K hK => OW.run [1, 6, 7, 10, 11, 46, 47, 51, 52, 56, 57] ?_
 simp only [go_sem, simprocAttr, sw0]
 refine OW.nil (hK _ ?_); clear hK K
 refine hN20 [] (w64 (t57 + (1 : Int)), (b55.set (t47.toNat * 8 + t52.toNat) ((b55.getD (t47.toNat * 8 + t52.toNat) false) || ((t47 != t52) && ((b6.getD (t47.toNat * 8 + t52.toNat) false) || ((b6.getD (t47.toNat * 8 + t57.toNat) false) && (b6.getD (t57.toNat * 8 + t52.toNat) false))))))) _ H (by exact trivial) ?_
 simp only [sw1, go_sem, simprocAttr]
 replace H := br_f h21 H
 refine PW.exit ?_
 refine hN19 [] b55 _ H (by exact trivial) ?_
 simp only [sw1, go_sem, simprocAttr]
 rintro b54 H
 try simp only [go_sem, simprocAttr]
 refine PW.regionK fun K hK => OW.run [1, 6, 7, 10, 46, 47, 51, 52] ?_
 simp only [go_sem, simprocAttr, sw0]
 refine OW.nil (hK _ ?_); clear hK K
 refine hN17 [] (w64 (t52 + (1 : Int)), b54) _ H (by exact trivial) ?_
 simp only [sw1, go_sem, simprocAttr]
 replace H := br_f h18 H
 refine PW.exit ?_
 refine hN16 [] b53 _ H (by exact trivial) ?_
 simp only [sw1, go_sem, simprocAttr]
 rintro b52 H
 try simp only [go_sem, simprocAttr]
 refine PW.regionK fun K hK => OW.run [1, 6, 7, 46, 47] ?_
 simp only [go_sem, simprocAttr, sw0]
 refine OW.nil (hK _ ?_); clear hK K
 refine hN14 [] (w64 (t47 + (1 : Int)), b52) _ H (by exact trivial) ?_
 simp only [sw1, go_sem, simprocAttr]
 replace H := br_f h15 H
 refine PW.exit ?_
 refine hN13 [] b51 _ H (by exact trivial) ?_
 simp only [sw1, go_sem, simprocAttr]
 rintro b5 H
 try simp only [go_sem, simprocAttr]
 refine PW.seq ?_
 refine PW.regionK fun K hK => OW.run [2, 3] ?_
 simp only [go_sem, simprocAttr, sw0]
 refine OW.nil (hK _ ?_); clear hK K
 refine PW.ret ?_
 refine ⟨.inr rfl, rfl, rfl, ?_⟩
 simp only [go_sem, simprocAttr, sw0]
 change OW _ _ _ _ _ _
 refine OW.run [4, 5, 6, 8, 9] ?_
 simp only [go_sem, simprocAttr, sw0]
 refine OW.nil (hK _ ?_); clear hK K
 refine PW.seq ?_
 refine PW.seq ?_
 refine PW.regionK fun K hK => OW.run [4, 5, 6, 8, 9, 17] ?_
 simp only [go_sem, simprocAttr, sw0]
 refine OW.nil (hK _ ?_); clear hK K
 refine PW.cond rfl (fun h34 => ?_) (fun h34 => ?_)
 exact absurd h34 (by decide)
 refine PW.skip ?_
 refine PW.seq ?_
 refine PW.seq ?_
 obtain ⟨x2, e2, H⟩ := bnd_some H
 obtain ⟨x3, e3, H⟩ := bnd_some H
 obtain ⟨x4, e4, H⟩ := bnd_some H
 refine PW.drawK 5 mixed (by kernel_rfl) fun K hK => ?_
 change FW _ _ _ _ _
 refine FW.run ?_
 simp only [go_sem, simprocAttr, sw0]
 refine FW.call' 4 rfl rfl rfl (by first | exact rfl | ((simp only [go_sem, List.toList_toArray, simprocAttr]); exact rfl)) ?_ (plan_web_listErr_ok N _ _ _ 92 [] (fun y0 => plan_isNeed N y0) (fun y0 r h => plan_isNeed_ok N y0 r h) _ e2) ?_ ?_ ?_ ?_
 · (((simp only [go_sem, sw1, simprocAttr]; try simp only [seg, go_sem, simprocAttr])); done)
 · (refine okAll_intro ?_; (simp only [go_sem, sw2, List.length_set, List.length_replicate, and_true, true_and, Nat.le_refl, simprocAttr]; done))
 exact .inr rfl
 (simp only [go_sem, Nat.reduceLT])
 refine FW.run ?_
 simp only [go_sem, simprocAttr, sw0]
 refine FW.nil ?_
 change OW _ _ _ _ _ _
 refine OW.run [4, 5, 6, 8, 10] ?_
 simp only [go_sem, simprocAttr, sw0]
 refine OW.call' 4 rfl rfl rfl (by first | exact rfl | ((simp only [go_sem, List.toList_toArray, simprocAttr]); exact rfl)) ?_ (plan_web_listErr_ok N _ _ _ 94 [] (fun y0 => plan_isRoot N y0) (fun y0 r h => plan_isRoot_ok N y0 r h) _ e3) ?_ ?_ ?_ ?_
 · (((simp only [go_sem, sw1, simprocAttr]; try simp only [seg, go_sem, simprocAttr])); done)
 · (refine okAll_intro ?_; (simp only [go_sem, sw2, List.length_set, List.length_replicate, and_true, true_and, Nat.le_refl, simprocAttr]; done))
 exact .inr ⟨rfl, rfl⟩
 (simp only [go_sem, Nat.reduceLT])
 refine OW.run [4, 5, 6, 8, 10] ?_
 simp only [go_sem, simprocAttr, sw0]
 refine OW.call' 4 rfl rfl rfl (by first | exact rfl | ((simp only [go_sem, List.toList_toArray, simprocAttr]); exact rfl)) ?_ (plan_first_ok N _ _ e4) ?_ ?_ ?_ ?_
 rfl
 · (refine okAll_intro ?_; (simp only [go_sem, sw2, List.length_set, List.length_replicate, and_true, true_and, Nat.le_refl, simprocAttr]; simp only [seg, go_sem, sw2, List.length_set, List.length_replicate, and_true, true_and, Nat.le_refl, simprocAttr]; done))
 exact .inr ⟨rfl, rfl⟩
 (simp only [go_sem, Nat.reduceLT])
 refine OW.run [4, 5, 6, 8, 10] ?_
 simp only [go_sem, simprocAttr, sw0]
 refine OW.nil (hK _ ?_); clear hK K
 refine PW.seq ?_
 refine PW.regionK fun K hK => OW.run [4, 5, 6, 8, 10, 29] ?_
 simp only [go_sem, simprocAttr, sw0]
 refine OW.nil (hK _ ?_); clear hK K
 refine PW.cond rfl (fun h35 => ?_) (fun h35 => ?_)
 replace H := br_t h35 H
 refine PW.seq ?_
 refine PW.regionK fun K hK => OW.run [6, 7] ?_
 simp only [go_sem, simprocAttr, sw0]
 refine OW.nil (hK _ ?_); clear hK K
 refine PW.ret ?_
 change PW.Ends _ _ _ _ _ _
 refine PW.Ends.intro (.inr rfl) ?_
 simp only [go_sem, simprocAttr, sw0]
 obtain rfl := Option.some.inj H
 refine RetOK.data' 4 (by (refine okAll_intro ?_; (simp only [go_sem, sw2, List.length_set, List.length_replicate, and_true, true_and, Nat.le_refl, simprocAttr]; done))) ?_
 rfl
 replace H := br_f h35 H
 refine PW.skip ?_
 refine PW.seq ?_
 obtain ⟨⟨x5, x51, x52⟩, e5, H⟩ := bnd_some H
 refine PW.regionK fun K hK => OW.run [6, 7] ?_
 simp only [go_sem, simprocAttr, sw0]
 refine OW.call' 4 rfl rfl rfl (by first | exact rfl | ((simp only [go_sem, List.toList_toArray, simprocAttr]); exact rfl)) ?_ (plan_web_firstPair_ok N _ _ 95 [(.ref [(L from_)]), (.ref [(L needs)])] (fun y0 y1 => plan_FirstRootClash_1 N y0 y1 from_ needs) (fun y0 y1 r h => plan_FirstRootClash_1_ok N y0 y1 _ _ r h) _ e5) ?_ ?_ ?_ ?_
 · (((simp only [go_sem, sw1, simprocAttr]; try simp only [seg, go_sem, simprocAttr])); done)
 · (refine okAll_intro ?_; (simp only [go_sem, sw2, List.length_set, List.length_replicate, and_true, true_and, Nat.le_refl, simprocAttr]; done))
 exact .inr ⟨rfl, rfl⟩
 (simp only [go_sem, Nat.reduceLT])
 refine OW.run [6, 7] ?_
 simp only [go_sem, simprocAttr, sw0]
 refine OW.nil (hK _ ?_); clear hK K
 refine PW.ret ?_
 change PW.Ends _ _ _ _ _ _
 refine PW.Ends.intro (.inr rfl) ?_
 simp only [go_sem, simprocAttr, sw0]
 obtain rfl := Option.some.inj H
 refine RetOK.data' 4 (by (refine okAll_intro ?_; (simp only [go_sem, sw2, List.length_set, List.length_replicate, and_true, true_and, Nat.le_refl, simprocAttr]; done))) ?_
 rfl

theorem ref09_NeedsErr_ok (N : Nat) (Zp : Int) (Zq : List (Int × Int)) (needs : List Int) (r : Int) (H : ref09_NeedsErr N Zp Zq needs = some r) : CallOK Try.prog 44 [(.agg [(I Zp), (.list Zq.length (Zq.flatMap (fun (x : Int × Int) => [(I x.1), (I x.2)])))]), (L needs)] (.d (I r)) [] := by
 refine CallOK.of_PW Try.func44 rfl (by rw [Try.results44]) Try.ntmps44 Try.call44 ?_
 change PW _ _ _ _ _
 try simp only [go_sem, simprocAttr]
 unfold ref09_NeedsErr at H
 refine PW.seq ?_
 refine PW.regionK fun K hK => OW.run [1, 2] ?_
 simp only [go_sem, simprocAttr, sw0]
 refine OW.nil (hK _ ?_)
 refine PW.seq ?_
 refine PW.seq ?_
 refine PW.regionK fun K hK => OW.run [1, 10] ?_
 simp only [go_sem, simprocAttr, sw0]
 repeat (refine And.intro (by omega) ?_)
 refine OW.nil (hK _ ?_)
 refine PW.cond rfl (fun h1 => ?_) (fun h1 => ?_)
 replace H := br_t h1 H
 refine PW.seq ?_
 refine PW.regionK fun K hK => OW.run [4] ?_
 simp only [go_sem, simprocAttr, sw0]
 refine OW.nil (hK _ ?_)
 refine PW.ret ?_
 change PW.Ends _ _ _ _ _ _
 refine PW.Ends.intro (.inr rfl) ?_
 simp only [go_sem, simprocAttr, sw0]
 obtain rfl := Option.some.inj H
 refine RetOK.data' 4 (by exact trivial) ?_
 rfl
 replace H := br_f h1 H
 refine PW.skip ?_
 refine PW.joinS (τ := Unit) [] 0 (fun _ => []) (fun _ => []) _ _ r (by exact Nat.le_refl _) H ?_ ?_
 intro K_ H N2 hN2
 refine PW.seq ?_
 refine PW.regionK fun K hK => OW.run [1, 5] ?_
 simp only [go_sem, simprocAttr, sw0]
 refine OW.nil (hK _ ?_)
 refine PW.block ?_
 refine PW.loopS (σ := Int) [1, 5] 1 (fun i => [(5, .d (I i))]) (fun i => [{ cells := [.d (I Zp), .d (.list Zq.length (Zq.flatMap (fun (x : Int × Int) => [(I x.1), (I x.2)])))], e := 24 }]) (ref09_NeedsErr.b1 N needs K_) r N (0 : Int) (by exact Nat.zero_le _) H (by (simp only [sw1, go_sem, simprocAttr]; done)) ?_
 rintro n i H N3 hN3
 unfold ref09_NeedsErr.b1 at H
 try simp only [go_sem, simprocAttr]
 refine PW.seq ?_
 refine PW.seq ?_
 refine PW.regionK fun K hK => OW.run [1, 5, 14] ?_
 simp only [go_sem, simprocAttr, sw0]
 refine OW.nil (hK _ ?_)
 refine PW.cond rfl (fun h4 => ?_) (fun h4 => ?_)
 replace H := br_t h4 H
 refine PW.skip ?_
 refine PW.seq ?_
 refine PW.block ?_
 refine PW.seq ?_
 obtain ⟨c5, H⟩ := chk_some H
 obtain ⟨x1, e1, H⟩ := bnd_some H
 refine PW.regionK fun K hK => OW.run [1, 5, 22] ?_
 simp only [go_sem, simprocAttr, sw0]
 repeat (refine And.intro (by omega) ?_)
 refine OW.call' 4 rfl rfl rfl (by first | exact rfl | ((simp only [go_sem, List.toList_toArray, simprocAttr]); exact rfl)) ?_ (base_Within_ok N _ _ _ _ e1) ?_ ?_ ?_ ?_
 rfl
 exact okD_all rfl
 exact .inl rfl
 (simp only [go_sem, Nat.reduceLT])
 refine OW.run [1, 5, 22] ?_
 simp only [go_sem, simprocAttr, sw0]
 refine OW.nil (hK _ ?_)
 refine PW.cond rfl (fun h6 => ?_) (fun h6 => ?_)
 replace H := br_t h6 H
 refine PW.seq ?_
 refine PW.regionK fun K hK => OW.run [4] ?_
 simp only [go_sem, simprocAttr, sw0]
 refine OW.nil (hK _ ?_)
 refine PW.ret ?_
 change PW.Ends _ _ _ _ _ _
 refine PW.Ends.intro (.inr rfl) ?_
 simp only [go_sem, simprocAttr, sw0]
 obtain rfl := Option.some.inj H
 refine RetOK.data' 4 (by exact trivial) ?_
 rfl
 replace H := br_f h6 H
 refine PW.skip ?_
 refine PW.regionK fun K hK => OW.run [1, 5] ?_
 simp only [go_sem, simprocAttr, sw0]
 refine OW.nil (hK _ ?_)
 refine hN3 [] (w64 (i + (1 : Int))) _ H (by exact trivial) ?_
 simp only [sw1, go_sem, simprocAttr]
 replace H := br_f h4 H
 refine PW.exit ?_
 refine hN2 [] () _ H (by exact trivial) ?_
 simp only [sw1, go_sem, simprocAttr]
 rintro _ H
 try simp only [go_sem, simprocAttr]
 refine PW.seq ?_
 refine PW.regionK fun K hK => OW.run [4] ?_
 simp only [go_sem, simprocAttr, sw0]
 refine OW.nil (hK _ ?_)
 refine PW.ret ?_
 change PW.Ends _ _ _ _ _ _
 refine PW.Ends.intro (.inr rfl) ?_
 simp only [go_sem, simprocAttr, sw0]
 obtain rfl := Option.some.inj H
 refine RetOK.data' 4 (by exact trivial) ?_
 rfl

theorem ref09_FirstsErr_ok (N : Nat) (Zp : Int) (Zq : List (Int × Int)) (first : List Int) (r : Int) (H : ref09_FirstsErr N Zp Zq first = some r) : CallOK Try.prog 45 [(.agg [(I Zp), (.list Zq.length (Zq.flatMap (fun (x : Int × Int) => [(I x.1), (I x.2)])))]), (L first)] (.d (I r)) [] := by
 refine CallOK.of_PW Try.func45 rfl (by rw [Try.results45]) Try.ntmps45 Try.call45 ?_
 change PW _ _ _ _ _
 try simp only [go_sem, simprocAttr]
 unfold ref09_FirstsErr at H
 refine PW.seq ?_
 refine PW.regionK fun K hK => OW.run [1, 2] ?_
 simp only [go_sem, simprocAttr, sw0]
 refine OW.nil (hK _ ?_)
 refine PW.seq ?_
 refine PW.seq ?_
 refine PW.regionK fun K hK => OW.run [1, 10] ?_
 simp only [go_sem, simprocAttr, sw0]
 repeat (refine And.intro (by omega) ?_)
 refine OW.nil (hK _ ?_)
 refine PW.cond rfl (fun h1 => ?_) (fun h1 => ?_)
 replace H := br_t h1 H
 refine PW.seq ?_
 refine PW.regionK fun K hK => OW.run [4] ?_
 simp only [go_sem, simprocAttr, sw0]
 refine OW.nil (hK _ ?_)
 refine PW.ret ?_
 change PW.Ends _ _ _ _ _ _
 refine PW.Ends.intro (.inr rfl) ?_
 simp only [go_sem, simprocAttr, sw0]
 obtain rfl := Option.some.inj H
 refine RetOK.data' 4 (by exact trivial) ?_
 rfl
 replace H := br_f h1 H
 refine PW.skip ?_
 refine PW.joinS (τ := Unit) [] 0 (fun _ => []) (fun _ => []) _ _ r (by exact Nat.le_refl _) H ?_ ?_
 intro K_ H N2 hN2
 refine PW.seq ?_
 refine PW.regionK fun K hK => OW.run [1, 5] ?_
 simp only [go_sem, simprocAttr, sw0]
 refine OW.nil (hK _ ?_)
 refine PW.block ?_
 refine PW.loopS (σ := Int) [1, 5] 1 (fun i => [(5, .d (I i))]) (fun i => [{ cells := [.d (I Zp), .d (.list Zq.length (Zq.flatMap (fun (x : Int × Int) => [(I x.1), (I x.2)])))], e := 24 }]) (ref09_FirstsErr.b1 N first K_) r N (0 : Int) (by exact Nat.zero_le _) H (by (simp only [sw1, go_sem, simprocAttr]; done)) ?_
 rintro n i H N3 hN3
 unfold ref09_FirstsErr.b1 at H
 try simp only [go_sem, simprocAttr]
 refine PW.seq ?_
 refine PW.seq ?_
 refine PW.regionK fun K hK => OW.run [1, 5, 14] ?_
 simp only [go_sem, simprocAttr, sw0]
 refine OW.nil (hK _ ?_)
 refine PW.cond rfl (fun h4 => ?_) (fun h4 => ?_)
 replace H := br_t h4 H
 refine PW.skip ?_
 refine PW.seq ?_
 refine PW.block ?_
 refine PW.seq ?_
 obtain ⟨c5, H⟩ := chk_some H
 obtain ⟨x1, e1, H⟩ := bnd_some H
 refine PW.regionK fun K hK => OW.run [1, 5, 22] ?_
 simp only [go_sem, simprocAttr, sw0]
 repeat (refine And.intro (by omega) ?_)
 refine OW.call' 4 rfl rfl rfl (by first | exact rfl | ((simp only [go_sem, List.toList_toArray, simprocAttr]); exact rfl)) ?_ (base_Within_ok N _ _ _ _ e1) ?_ ?_ ?_ ?_
 rfl
 exact okD_all rfl
 exact .inl rfl
 (simp only [go_sem, Nat.reduceLT])
 refine OW.run [1, 5, 22] ?_
 simp only [go_sem, simprocAttr, sw0]
 refine OW.nil (hK _ ?_)
 refine PW.cond rfl (fun h6 => ?_) (fun h6 => ?_)
 replace H := br_t h6 H
 refine PW.seq ?_
 refine PW.regionK fun K hK => OW.run [4] ?_
 simp only [go_sem, simprocAttr, sw0]
 refine OW.nil (hK _ ?_)
 refine PW.ret ?_
 change PW.Ends _ _ _ _ _ _
 refine PW.Ends.intro (.inr rfl) ?_
 simp only [go_sem, simprocAttr, sw0]
 obtain rfl := Option.some.inj H
 refine RetOK.data' 4 (by exact trivial) ?_
 rfl
 replace H := br_f h6 H
 refine PW.skip ?_
 refine PW.regionK fun K hK => OW.run [1, 5] ?_
 simp only [go_sem, simprocAttr, sw0]
 refine OW.nil (hK _ ?_)
 refine hN3 [] (w64 (i + (1 : Int))) _ H (by exact trivial) ?_
 simp only [sw1, go_sem, simprocAttr]
 replace H := br_f h4 H
 refine PW.exit ?_
 refine hN2 [] () _ H (by exact trivial) ?_
 simp only [sw1, go_sem, simprocAttr]
 rintro _ H
 try simp only [go_sem, simprocAttr]
 refine PW.seq ?_
 refine PW.regionK fun K hK => OW.run [4] ?_
 simp only [go_sem, simprocAttr, sw0]
 refine OW.nil (hK _ ?_)
 refine PW.ret ?_
 change PW.Ends _ _ _ _ _ _
 refine PW.Ends.intro (.inr rfl) ?_
 simp only [go_sem, simprocAttr, sw0]
 obtain rfl := Option.some.inj H
 refine RetOK.data' 4 (by exact trivial) ?_
 rfl

theorem ref09_FirstRootClash_ok (N : Nat) (Zp : Int) (Zq : List (Int × Int)) (needs : List Int) (first : List Int) (r : Int × Int × Bool) (H : ref09_FirstRootClash N Zp Zq needs first = some r) : CallOK Try.prog 46 [(.agg [(I Zp), (.list Zq.length (Zq.flatMap (fun (x : Int × Int) => [(I x.1), (I x.2)])))]), (L needs), (L first)] (.d (.tup [(.agg [(I r.1), (I r.2.1)]), (Bo r.2.2)])) [] := by
 refine CallOK.of_PW Try.func46 rfl (by rw [Try.results46]) Try.ntmps46 Try.call46 ?_
 change PW _ _ _ _ _
 try simp only [go_sem, simprocAttr]
 unfold ref09_FirstRootClash at H
 refine PW.seq ?_
 refine PW.regionK fun K hK => OW.run [1, 2, 3, 6] ?_
 simp only [go_sem, simprocAttr, sw0]
 refine OW.nil (hK _ ?_)
 refine PW.joinS (τ := Unit) [6] 2 (fun _ => []) (fun _ => [{ cells := [.d (I Zp), .d (.list Zq.length (Zq.flatMap (fun (x : Int × Int) => [(I x.1), (I x.2)])))], e := 24 }, { cells := [.d (I (0 : Int)), .d (I (0 : Int))], e := 42 }]) _ _ r (by exact Nat.zero_le _) H ?_ ?_
 intro K_ H N1 hN1
 refine PW.seq ?_
 refine PW.regionK fun K hK => OW.run [1, 2, 3, 6, 8] ?_
 simp only [go_sem, simprocAttr, sw0]
 refine OW.nil (hK _ ?_)
 refine PW.block ?_
 refine PW.loopS (σ := Int) [1, 2, 3, 6, 8] 2 (fun i => [(8, .d (I i))]) (fun i => [{ cells := [.d (I Zp), .d (.list Zq.length (Zq.flatMap (fun (x : Int × Int) => [(I x.1), (I x.2)])))], e := 24 }, { cells := [.d (I (0 : Int)), .d (I (0 : Int))], e := 42 }]) (ref09_FirstRootClash.b1 N Zp Zq needs first K_) r N (0 : Int) (by exact Nat.zero_le _) H (by (simp only [sw1, go_sem, simprocAttr]; done)) ?_
 rintro n i H N2 hN2
 unfold ref09_FirstRootClash.b1 at H
 try simp only [go_sem, simprocAttr]
 refine PW.seq ?_
 refine PW.seq ?_
 refine PW.regionK fun K hK => OW.run [1, 2, 3, 6, 8, 13] ?_
 simp only [go_sem, simprocAttr, sw0]
 repeat (refine And.intro (by omega) ?_)
 refine OW.nil (hK _ ?_)
 refine PW.cond rfl (fun h3 => ?_) (fun h3 => ?_)
 replace H := br_t h3 H
 refine PW.skip ?_
 refine PW.joinS (τ := Unit) [1, 2, 3, 6, 8] 2 (fun _ => []) (fun _ => [{ cells := [.d (I Zp), .d (.list Zq.length (Zq.flatMap (fun (x : Int × Int) => [(I x.1), (I x.2)])))], e := 24 }, { cells := [.d (I (0 : Int)), .d (I (0 : Int))], e := 42 }]) _ _ r (by exact Nat.zero_le _) H ?_ ?_
 intro K_1 H N4 hN4
 refine PW.block ?_
 refine PW.seq ?_
 refine PW.regionK fun K hK => OW.run [1, 2, 3, 6, 8, 9] ?_
 simp only [go_sem, simprocAttr, sw0]
 refine OW.nil (hK _ ?_)
 refine PW.block ?_
 refine PW.loopS (σ := Int) [1, 2, 3, 6, 8, 9] 2 (fun k => [(9, .d (I k))]) (fun k => [{ cells := [.d (I Zp), .d (.list Zq.length (Zq.flatMap (fun (x : Int × Int) => [(I x.1), (I x.2)])))], e := 24 }, { cells := [.d (I (0 : Int)), .d (I (0 : Int))], e := 42 }]) (ref09_FirstRootClash.b2 N Zp Zq needs first i K_1) r N (w64 (i + (1 : Int))) (by exact Nat.zero_le _) H (by (simp only [sw1, go_sem, simprocAttr]; done)) ?_
 rintro n k H N5 hN5
 unfold ref09_FirstRootClash.b2 at H
 try simp only [go_sem, simprocAttr]
 refine PW.seq ?_
 refine PW.seq ?_
 refine PW.regionK fun K hK => OW.run [1, 2, 3, 6, 8, 9, 21] ?_
 simp only [go_sem, simprocAttr, sw0]
 repeat (refine And.intro (by omega) ?_)
 refine OW.nil (hK _ ?_)
 refine PW.cond rfl (fun h6 => ?_) (fun h6 => ?_)
 ·
  replace H := br_t h6 H
  refine PW.skip ?_
  refine PW.seq ?_
  refine PW.block ?_
  refine PW.seq ?_
  obtain ⟨x1, e1, H⟩ := bnd_some H
  obtain ⟨c7, H⟩ := chk_some H
  obtain ⟨c8, H⟩ := chk_some H
  obtain ⟨c9, H⟩ := chk_some H
  obtain ⟨c10, H⟩ := chk_some H
  obtain ⟨c11, H⟩ := chk_some H
  obtain ⟨c12, H⟩ := chk_some H
  refine PW.drawK 34 mixed (by kernel_rfl) fun K hK => ?_
  change FW _ _ _ _ _
  refine FW.run ?_
  simp only [go_sem, simprocAttr, sw0]
  repeat (refine And.intro (by first | omega | (intro hg; have hq := c7 (by first | exact hg | simpa using hg); first | omega | exact hq | (simp only [List.length_map]; omega)) | (intro hg; have hq := c8 (by first | exact hg | simpa using hg); first | omega | exact hq | (simp only [List.length_map]; omega)) | (intro hg; have hq := c9 (by first | exact hg | simpa using hg); first | omega | exact hq | (simp only [List.length_map]; omega)) | (intro hg; have hq := c10 (by first | exact hg | simpa using hg); first | omega | exact hq | (simp only [List.length_map]; omega)) | (intro hg; have hq := c11 (by first | exact hg | simpa using hg); first | omega | exact hq | (simp only [List.length_map]; omega)) | (intro hg; have hq := c12 (by first | exact hg | simpa using hg); first | omega | exact hq | (simp only [List.length_map]; omega)) | (first | omega | assumption | rfl | decide | (simp only [List.length_map, List.length_replicate, List.length_append, List.length_take, List.length_drop, List.length_set, List.length_cons, List.length_nil, Nat.zero_add, Int.toNat_natCast] at *; omega) | (simp only [List.length_map, List.length_replicate, List.length_append, List.length_take, List.length_drop, List.length_set, List.length_cons, List.length_nil, Nat.zero_add, Int.toNat_natCast]; done) | trivial)) ?_)
  refine FW.call' 4 rfl rfl rfl (by first | exact rfl | ((simp only [go_sem, List.toList_toArray, simprocAttr]); exact rfl)) ?_ (ref09_IsNear_ok N _ _ _ _ _ e1) ?_ ?_ ?_ ?_
  rfl
  · (refine okAll_intro ?_; (simp only [go_sem, sw2, List.length_set, List.length_replicate, and_true, true_and, Nat.le_refl, simprocAttr]; done))
  exact .inl rfl
  (simp only [go_sem, Nat.reduceLT])
  refine FW.run ?_
  simp only [go_sem, simprocAttr, sw0]
  repeat (refine And.intro (by first | omega | (intro hg; have hq := c7 (by first | exact hg | simpa using hg); first | omega | exact hq | (simp only [List.length_map]; omega)) | (intro hg; have hq := c8 (by first | exact hg | simpa using hg); first | omega | exact hq | (simp only [List.length_map]; omega)) | (intro hg; have hq := c9 (by first | exact hg | simpa using hg); first | omega | exact hq | (simp only [List.length_map]; omega)) | (intro hg; have hq := c10 (by first | exact hg | simpa using hg); first | omega | exact hq | (simp only [List.length_map]; omega)) | (intro hg; have hq := c11 (by first | exact hg | simpa using hg); first | omega | exact hq | (simp only [List.length_map]; omega)) | (intro hg; have hq := c12 (by first | exact hg | simpa using hg); first | omega | exact hq | (simp only [List.length_map]; omega)) | (first | omega | assumption | rfl | decide | (simp only [List.length_map, List.length_replicate, List.length_append, List.length_take, List.length_drop, List.length_set, List.length_cons, List.length_nil, Nat.zero_add, Int.toNat_natCast] at *; omega) | (simp only [List.length_map, List.length_replicate, List.length_append, List.length_take, List.length_drop, List.length_set, List.length_cons, List.length_nil, Nat.zero_add, Int.toNat_natCast]; done) | trivial)) ?_)
  refine FW.nil ?_
  change OW _ _ _ _ _ _
  refine OW.run [1, 2, 3, 6, 8, 9, 59] ?_
  simp only [go_sem, simprocAttr, sw0]
  repeat (refine And.intro (by first | omega | (intro hg; have hq := c7 (by first | exact hg | simpa using hg); first | omega | exact hq | (simp only [List.length_map]; omega)) | (intro hg; have hq := c8 (by first | exact hg | simpa using hg); first | omega | exact hq | (simp only [List.length_map]; omega)) | (intro hg; have hq := c9 (by first | exact hg | simpa using hg); first | omega | exact hq | (simp only [List.length_map]; omega)) | (intro hg; have hq := c10 (by first | exact hg | simpa using hg); first | omega | exact hq | (simp only [List.length_map]; omega)) | (intro hg; have hq := c11 (by first | exact hg | simpa using hg); first | omega | exact hq | (simp only [List.length_map]; omega)) | (intro hg; have hq := c12 (by first | exact hg | simpa using hg); first | omega | exact hq | (simp only [List.length_map]; omega)) | (first | omega | assumption | rfl | decide | (simp only [List.length_map, List.length_replicate, List.length_append, List.length_take, List.length_drop, List.length_set, List.length_cons, List.length_nil, Nat.zero_add, Int.toNat_natCast] at *; omega) | (simp only [List.length_map, List.length_replicate, List.length_append, List.length_take, List.length_drop, List.length_set, List.length_cons, List.length_nil, Nat.zero_add, Int.toNat_natCast]; done) | trivial)) ?_)
  refine OW.nil (hK _ ?_)
  refine PW.cond rfl (fun h13 => ?_) (fun h13 => ?_)
  replace H := br_t h13 H
  refine PW.seq ?_
  refine PW.regionK fun K hK => OW.run [6, 7] ?_
  simp only [go_sem, simprocAttr, sw0]
  refine OW.nil (hK _ ?_)
  refine PW.ret ?_
  change PW.Ends _ _ _ _ _ _
  refine PW.Ends.intro (.inr rfl) ?_
  simp only [go_sem, simprocAttr, sw0]
  obtain rfl := Option.some.inj H
  refine RetOK.data' 4 (by (refine okAll_intro ?_; (simp only [go_sem, sw2, List.length_set, List.length_replicate, and_true, true_and, Nat.le_refl, simprocAttr]; done))) ?_
  rfl
  replace H := br_f h13 H
  refine PW.skip ?_
  refine PW.regionK fun K hK => OW.run [1, 2, 3, 6, 8, 9] ?_
  simp only [go_sem, simprocAttr, sw0]
  refine OW.nil (hK _ ?_)
  refine hN5 [] (w64 (k + (1 : Int))) _ H (by exact trivial) ?_
  simp only [sw1, go_sem, simprocAttr]
 replace H := br_f h6 H
 refine PW.exit ?_
 refine hN4 [] () _ H (by exact trivial) ?_
 simp only [sw1, go_sem, simprocAttr]
 rintro _ H
 try simp only [go_sem, simprocAttr]
 refine PW.regionK fun K hK => OW.run [1, 2, 3, 6, 8] ?_
 simp only [go_sem, simprocAttr, sw0]
 refine OW.nil (hK _ ?_)
 refine hN2 [] (w64 (i + (1 : Int))) _ H (by exact trivial) ?_
 simp only [sw1, go_sem, simprocAttr]
 replace H := br_f h3 H
 refine PW.exit ?_
 refine hN1 [] () _ H (by exact trivial) ?_
 simp only [sw1, go_sem, simprocAttr]
 rintro _ H
 try simp only [go_sem, simprocAttr]
 refine PW.seq ?_
 refine PW.regionK fun K hK => OW.run [6, 7] ?_
 simp only [go_sem, simprocAttr, sw0]
 refine OW.nil (hK _ ?_)
 refine PW.ret ?_
 change PW.Ends _ _ _ _ _ _
 refine PW.Ends.intro (.inr rfl) ?_
 simp only [go_sem, simprocAttr, sw0]
 obtain rfl := Option.some.inj H
 refine RetOK.data' 4 (by (refine okAll_intro ?_; (simp only [go_sem, sw2, List.length_set, List.length_replicate, and_true, true_and, Nat.le_refl, simprocAttr]; done))) ?_
 rfl
end Go.Proofs.Ytklejiafioalnaa
