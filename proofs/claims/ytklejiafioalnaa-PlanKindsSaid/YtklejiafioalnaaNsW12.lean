import Derived.Test.YtklejiafioalnaaNsBase
import Derived.Test.YtklejiafioalnaaNsW0
import Derived.Test.YtklejiafioalnaaNsW1
import Derived.Test.YtklejiafioalnaaNsW5
import Derived.Test.YtklejiafioalnaaNsW6
import Derived.Test.YtklejiafioalnaaNsW8
import Derived.Test.YtklejiafioalnaaNsW11
set_option linter.all false
namespace Go.Proofs.Ytklejiafioalnaa
open Go.PW Go.Sh

set_option maxRecDepth 20000
set_option maxHeartbeats 8000000
theorem plan_FirstConfusion_ok (N : Nat) (Zp : Int) (Zq : List (Int × Int)) (identities : List Int) (r : Int × Int × Int) (H : plan_FirstConfusion N Zp Zq identities = some r) : CallOK Try.prog 22 [(.agg [(I Zp), (.list Zq.length (Zq.flatMap (fun (x : Int × Int) => [(I x.1), (I x.2)])))]), (L identities)] (.d (.tup [(.agg [(I r.1), (I r.2.1)]), (I r.2.2)])) [] := by
 refine CallOK.of_PW Try.func22 rfl (by rw [Try.results22]) Try.ntmps22 Try.call22 ?_
 change PW _ _ _ _ _
 try simp only [go_sem, simprocAttr]
 unfold plan_FirstConfusion at H
 refine PW.seq ?_
 refine PW.regionK fun K hK => OW.run [2, 3, 4] ?_
 simp only [go_sem, simprocAttr, sw0]
 refine OW.nil (hK _ ?_); clear hK K
 refine PW.seq ?_
 refine PW.regionK fun K hK => OW.run [3, 4, 6, 7] ?_
 simp only [go_sem, simprocAttr, sw0]
 refine OW.inlineA rfl rfl rfl (by first | exact rfl | ((simp only [go_sem, List.toList_toArray, simprocAttr]); exact rfl)) Try.func54 rfl (by rw [Try.results54]) Try.ntmps54 Try.call54 (by (simp only [go_sem, Nat.reduceLT])) ?_
 intro p G
 change PW _ _ _ _ _
 try simp only [go_sem, simprocAttr]
 refine PW.seq ?_
 refine PW.regionK fun K hK => OW.run [1] ?_
 simp only [go_sem, simprocAttr, sw0]
 refine OW.nil (hK _ ?_); clear hK K
 refine PW.seq ?_
 refine PW.seq ?_
 obtain ⟨⟨x1, x11⟩, e1, H⟩ := bnd_some H
 refine PW.regionK fun K hK => OW.run [1, 5] ?_
 simp only [go_sem, simprocAttr, sw0]
 refine OW.call' 4 rfl rfl rfl (by first | exact rfl | ((simp only [go_sem, List.toList_toArray, simprocAttr]); exact rfl)) ?_ (plan_CheckNet_ok N _ _ _ e1) ?_ ?_ ?_ ?_
 rfl
 · (refine okAll_intro ?_; (simp only [go_sem, sw2, List.length_set, List.length_replicate, and_true, true_and, Nat.le_refl, simprocAttr]; done))
 exact .inl rfl
 (simp only [go_sem, Nat.reduceLT])
 refine OW.run [1, 5] ?_
 simp only [go_sem, simprocAttr, sw0]
 refine OW.nil (hK _ ?_); clear hK K
 refine PW.seq ?_
 refine PW.regionK fun K hK => OW.run [1, 5, 19] ?_
 simp only [go_sem, simprocAttr, sw0]
 refine OW.nil (hK _ ?_); clear hK K
 refine PW.cond rfl (fun h1 => ?_) (fun h1 => ?_)
 replace H := br_t h1 H
 refine PW.seq ?_
 refine PW.regionK fun K hK => OW.run [2, 3] ?_
 simp only [go_sem, simprocAttr, sw0]
 refine OW.nil (hK _ ?_); clear hK K
 refine PW.ret ?_
 refine ⟨.inr rfl, rfl, rfl, ?_⟩
 simp only [go_sem, simprocAttr, sw0]
 change OW _ _ _ _ _ _
 refine OW.run [3, 4, 6, 7] ?_
 simp only [go_sem, simprocAttr, sw0]
 refine OW.nil (hK _ ?_); clear hK K
 refine PW.seq ?_
 refine PW.seq ?_
 refine PW.regionK fun K hK => OW.run [3, 4, 6, 7, 15] ?_
 simp only [go_sem, simprocAttr, sw0]
 refine OW.nil (hK _ ?_); clear hK K
 refine PW.cond rfl (fun h2 => ?_) (fun h2 => ?_)
 refine PW.seq ?_
 refine PW.regionK fun K hK => OW.run [4, 5] ?_
 simp only [go_sem, simprocAttr, sw0]
 refine OW.nil (hK _ ?_); clear hK K
 refine PW.ret ?_
 change PW.Ends _ _ _ _ _ _
 refine PW.Ends.intro (.inr rfl) ?_
 simp only [go_sem, simprocAttr, sw0]
 obtain rfl := Option.some.inj H
 refine RetOK.data' 4 (by (refine okAll_intro ?_; (simp only [go_sem, sw2, List.length_set, List.length_replicate, and_true, true_and, Nat.le_refl, simprocAttr]; done))) ?_
 rfl
 exact absurd (h2.symm.trans h1) (by decide)
 replace H := br_f h1 H
 refine PW.skip ?_
 refine PW.seq ?_
 refine PW.regionK fun K hK => OW.run [1, 6] ?_
 simp only [go_sem, simprocAttr, sw0]
 repeat (refine And.intro (by omega) ?_)
 refine OW.nil (hK _ ?_); clear hK K
 refine PW.seq ?_
 refine PW.regionK fun K hK => OW.run [1, 6, 7] ?_
 simp only [go_sem, simprocAttr, sw0]
 refine OW.nil (hK _ ?_); clear hK K
 refine PW.joinS (τ := List Bool) [1, 6, 7] 6 (fun b5 => []) (fun b5 => [{ cells := [.d (I Zp), .d (.list Zq.length (Zq.flatMap (fun (x : Int × Int) => [(I x.1), (I x.2)])))], e := 24 }, { cells := [.d (L identities)], e := 25 }, { cells := [.d (I (0 : Int)), .d (I (0 : Int))], e := 42 }, { cells := [.d (I Zp), .d (.list Zq.length (Zq.flatMap (fun (x : Int × Int) => [(I x.1), (I x.2)])))], e := 24 }, { cells := .d (I Zp) :: ((List.replicate 64 false).map Bo).map .d, e := 106 }, { cells := (b5.map Bo).map .d, e := 104 }]) _ _ r (by (simp only [go_sem]; omega)) H ?_ ?_
 intro K_ H N3 hN3
 refine PW.seq ?_
 refine PW.regionK fun K hK => OW.run [1, 6, 7, 26, 27, 28] ?_
 simp only [go_sem, simprocAttr, sw0]
 repeat (refine And.intro (by omega) ?_)
 refine OW.nil (hK _ ?_); clear hK K
 refine PW.block ?_
 refine PW.loopS (σ := Int × List Bool) [1, 6, 7, 26, 27, 28] 6 (fun (t28, b51) => [(28, .d (I t28))]) (fun (t28, b51) => [{ cells := [.d (I Zp), .d (.list Zq.length (Zq.flatMap (fun (x : Int × Int) => [(I x.1), (I x.2)])))], e := 24 }, { cells := [.d (L identities)], e := 25 }, { cells := [.d (I (0 : Int)), .d (I (0 : Int))], e := 42 }, { cells := [.d (I Zp), .d (.list Zq.length (Zq.flatMap (fun (x : Int × Int) => [(I x.1), (I x.2)])))], e := 24 }, { cells := .d (I Zp) :: ((List.replicate 64 false).map Bo).map .d, e := 106 }, { cells := (b51.map Bo).map .d, e := 104 }]) (plan_FirstConfusion.b1 N Zq K_) r N ((0 : Int), (List.replicate 64 false)) (by (simp only [go_sem]; omega)) H (by (simp only [sw1, go_sem, simprocAttr]; done)) ?_
 rintro n ⟨t28, b51⟩ H N4 hN4
 unfold plan_FirstConfusion.b1 at H
 try simp only [go_sem, simprocAttr]
 refine PW.seq ?_
 refine PW.regionK fun K hK => OW.run [1, 6, 7, 26, 27, 28, 29] ?_
 simp only [go_sem, simprocAttr, sw0]
 refine OW.nil (hK _ ?_); clear hK K
 refine PW.seq ?_
 refine PW.cond rfl (fun h5 => ?_) (fun h5 => ?_)
 ·
  replace H := br_t h5 H
  refine PW.skip ?_
  refine PW.seq ?_
  refine PW.block ?_
  refine PW.seq ?_
  obtain ⟨c6, H⟩ := chk_some H
  refine PW.regionK fun K hK => OW.run [1, 6, 7, 9, 26, 27, 28] ?_
  (simp only [go_sem, simprocAttr, sw0, flatMap_length 2 (fun (x : Int × Int) => [(I x.1), (I x.2)]) (fun _ => rfl), sub_el 2 (fun (x : Int × Int) => [(I x.1), (I x.2)]) (fun _ => rfl) Zq t28.toNat (by omega)])
  repeat (refine And.intro (by omega) ?_)
  refine OW.nil (hK _ ?_); clear hK K
  change PW _ _ _ _ _
  obtain ⟨c7, H⟩ := chk_some H
  obtain ⟨c8, H⟩ := chk_some H
  obtain ⟨c9, H⟩ := chk_some H
  obtain ⟨c10, H⟩ := chk_some H
  obtain ⟨c11, H⟩ := chk_some H
  obtain ⟨c12, H⟩ := chk_some H
  refine PW.drawX 12 [10] (fun j => List.getD [[{ cells := [.d (I Zp), .d (.list Zq.length (Zq.flatMap (fun (x : Int × Int) => [(I x.1), (I x.2)])))], e := 24 }, { cells := [.d (L identities)], e := 25 }, { cells := [.d (I (0 : Int)), .d (I (0 : Int))], e := 42 }, { cells := [.d (I Zp), .d (.list Zq.length (Zq.flatMap (fun (x : Int × Int) => [(I x.1), (I x.2)])))], e := 24 }, { cells := .d (I Zp) :: ((List.replicate 64 false).map Bo).map .d, e := 106 }, { cells := (b51.map Bo).map .d, e := 104 }, { cells := [.d (I ((Zq.getD t28.toNat default).1)), .d (I ((Zq.getD t28.toNat default).2))], e := 42 }], [{ cells := [.d (I Zp), .d (.list Zq.length (Zq.flatMap (fun (x : Int × Int) => [(I x.1), (I x.2)])))], e := 24 }, { cells := [.d (L identities)], e := 25 }, { cells := [.d (I (0 : Int)), .d (I (0 : Int))], e := 42 }, { cells := [.d (I Zp), .d (.list Zq.length (Zq.flatMap (fun (x : Int × Int) => [(I x.1), (I x.2)])))], e := 24 }, { cells := .d (I Zp) :: ((List.replicate 64 false).map Bo).map .d, e := 106 }, { cells := ((b51.set ((((Zq.getD t28.toNat default).1).toNat) * 8 + (((Zq.getD t28.toNat default).2).toNat)) true).map Bo).map .d, e := 104 }, { cells := [.d (I ((Zq.getD t28.toNat default).1)), .d (I ((Zq.getD t28.toNat default).2))], e := 42 }]] j []) (fun _ v => v) mixed (by kernel_rfl) (by decide) (by ((refine ⟨by decide, ?_⟩; intro k i i' h1 h2 o ho; match k, h1, h2 with | 0, h1, h2 => (simp at h1 h2 <;> first | (cases h2; done) | (subst h1; subst h2; simp at ho; subst ho; simp [Region.binds]; done)) | 1, h1, h2 => (simp at h1 h2 <;> first | (cases h2; done) | (subst h1; subst h2; simp at ho; subst ho; simp [Region.binds]; done)) | 2, h1, h2 => (simp at h1 h2 <;> first | (cases h2; done) | (subst h1; subst h2; simp at ho; subst ho; simp [Region.binds]; done)) | k + 3, h1, h2 => (simp at h2; done)))) (fun _ => rfl) (by decide) (freshL rfl) rfl rfl fun K hK => ?_
  change FWX _ _ _ _ _ _ _ _ _ _
  refine FWX.op (by decide) rfl (.ptr 6 0) 0 0 (.inl rfl) (.inr ⟨_, _, { on := 0, ground := .phase }, rfl, rfl, by simp, rfl, rfl⟩) ?_ ?_ (by (simp only [go_sem, Nat.reduceLT])) ?_
  ·
   intro j hj1 hj2
   have hj : j = 0 := by omega
   subst hj
   all_goals (refine ⟨?_, ?_⟩)
   all_goals (first | rfl | trivial | ((simp only [go_sem, simprocAttr, sw0, set_mapF Bo b51 ((((Zq.getD t28.toNat default).1).toNat) * 8 + (((Zq.getD t28.toNat default).2).toNat)), set_mapF Bo (b51.set ((((Zq.getD t28.toNat default).1).toNat) * 8 + (((Zq.getD t28.toNat default).2).toNat)) true) ((((Zq.getD t28.toNat default).2).toNat) * 8 + (((Zq.getD t28.toNat default).1).toNat))]); first | done | rfl | omega | assumption | decide | (simp only [List.append_assoc, List.cons_append, List.nil_append]; done) | ((repeat (refine And.intro (by first | rfl | omega | assumption | decide) ?_)); first | rfl | omega | assumption | decide)))
  exact KeptX.same fun _ _ => rfl
  try simp only [go_sem, simprocAttr]
  refine FWX.op (by decide) rfl (.d (I ((Zq.getD t28.toNat default).1))) 0 0 (.inl rfl) (.inr ⟨_, _, { on := 1, ground := .phase }, rfl, rfl, by simp, rfl, rfl⟩) ?_ ?_ (by (simp only [go_sem, Nat.reduceLT])) ?_
  ·
   intro j hj1 hj2
   have hj : j = 0 := by omega
   subst hj
   all_goals (refine ⟨?_, ?_⟩)
   all_goals (first | rfl | trivial | ((simp only [go_sem, simprocAttr, sw0, set_mapF Bo b51 ((((Zq.getD t28.toNat default).1).toNat) * 8 + (((Zq.getD t28.toNat default).2).toNat)), set_mapF Bo (b51.set ((((Zq.getD t28.toNat default).1).toNat) * 8 + (((Zq.getD t28.toNat default).2).toNat)) true) ((((Zq.getD t28.toNat default).2).toNat) * 8 + (((Zq.getD t28.toNat default).1).toNat))]); first | done | rfl | omega | assumption | decide | (simp only [List.append_assoc, List.cons_append, List.nil_append]; done) | ((repeat (refine And.intro (by first | rfl | omega | assumption | decide) ?_)); first | rfl | omega | assumption | decide)))
  exact KeptX.same fun _ _ => rfl
  try simp only [go_sem, simprocAttr]
  refine FWX.op (by decide) rfl (.ptr 6 1) 0 0 (.inl rfl) (.inr ⟨_, _, { on := 2, ground := .phase }, rfl, rfl, by simp, rfl, rfl⟩) ?_ ?_ (by (simp only [go_sem, Nat.reduceLT])) ?_
  ·
   intro j hj1 hj2
   have hj : j = 0 := by omega
   subst hj
   all_goals (refine ⟨?_, ?_⟩)
   all_goals (first | rfl | trivial | ((simp only [go_sem, simprocAttr, sw0, set_mapF Bo b51 ((((Zq.getD t28.toNat default).1).toNat) * 8 + (((Zq.getD t28.toNat default).2).toNat)), set_mapF Bo (b51.set ((((Zq.getD t28.toNat default).1).toNat) * 8 + (((Zq.getD t28.toNat default).2).toNat)) true) ((((Zq.getD t28.toNat default).2).toNat) * 8 + (((Zq.getD t28.toNat default).1).toNat))]); first | done | rfl | omega | assumption | decide | (simp only [List.append_assoc, List.cons_append, List.nil_append]; done) | ((repeat (refine And.intro (by first | rfl | omega | assumption | decide) ?_)); first | rfl | omega | assumption | decide)))
  exact KeptX.same fun _ _ => rfl
  try simp only [go_sem, simprocAttr]
  refine FWX.op (by decide) rfl (.d (I ((Zq.getD t28.toNat default).2))) 0 0 (.inl rfl) (.inr ⟨_, _, { on := 3, ground := .phase }, rfl, rfl, by simp, rfl, rfl⟩) ?_ ?_ (by (simp only [go_sem, Nat.reduceLT])) ?_
  ·
   intro j hj1 hj2
   have hj : j = 0 := by omega
   subst hj
   all_goals (refine ⟨?_, ?_⟩)
   all_goals (first | rfl | trivial | ((simp only [go_sem, simprocAttr, sw0, set_mapF Bo b51 ((((Zq.getD t28.toNat default).1).toNat) * 8 + (((Zq.getD t28.toNat default).2).toNat)), set_mapF Bo (b51.set ((((Zq.getD t28.toNat default).1).toNat) * 8 + (((Zq.getD t28.toNat default).2).toNat)) true) ((((Zq.getD t28.toNat default).2).toNat) * 8 + (((Zq.getD t28.toNat default).1).toNat))]); first | done | rfl | omega | assumption | decide | (simp only [List.append_assoc, List.cons_append, List.nil_append]; done) | ((repeat (refine And.intro (by first | rfl | omega | assumption | decide) ?_)); first | rfl | omega | assumption | decide)))
  exact KeptX.same fun _ _ => rfl
  try simp only [go_sem, simprocAttr]
  refine FWX.op (by decide) rfl (.ptr 6 1) 0 1 (.inl rfl) (.inl rfl) ?_ ?_ (by (simp only [go_sem, Nat.reduceLT])) ?_
  ·
   intro j hj1 hj2
   have hj : j = 0 ∨ j = 1 := by omega
   rcases hj with rfl | rfl
   all_goals (refine ⟨?_, ?_⟩)
   all_goals (first | rfl | trivial | ((simp only [go_sem, simprocAttr, sw0, set_mapF Bo b51 ((((Zq.getD t28.toNat default).1).toNat) * 8 + (((Zq.getD t28.toNat default).2).toNat)), set_mapF Bo (b51.set ((((Zq.getD t28.toNat default).1).toNat) * 8 + (((Zq.getD t28.toNat default).2).toNat)) true) ((((Zq.getD t28.toNat default).2).toNat) * 8 + (((Zq.getD t28.toNat default).1).toNat))]); first | done | rfl | omega | assumption | decide | (simp only [List.append_assoc, List.cons_append, List.nil_append]; done) | ((repeat (refine And.intro (by first | rfl | omega | assumption | decide) ?_)); first | rfl | omega | assumption | decide)))
  exact KeptX.same fun _ _ => rfl
  try simp only [go_sem, simprocAttr]
  refine FWX.op (by decide) rfl (.d (I ((Zq.getD t28.toNat default).2))) 0 1 (.inl rfl) (.inl rfl) ?_ ?_ (by (simp only [go_sem, Nat.reduceLT])) ?_
  ·
   intro j hj1 hj2
   have hj : j = 0 ∨ j = 1 := by omega
   rcases hj with rfl | rfl
   all_goals (refine ⟨?_, ?_⟩)
   all_goals (first | rfl | trivial | ((simp only [go_sem, simprocAttr, sw0, set_mapF Bo b51 ((((Zq.getD t28.toNat default).1).toNat) * 8 + (((Zq.getD t28.toNat default).2).toNat)), set_mapF Bo (b51.set ((((Zq.getD t28.toNat default).1).toNat) * 8 + (((Zq.getD t28.toNat default).2).toNat)) true) ((((Zq.getD t28.toNat default).2).toNat) * 8 + (((Zq.getD t28.toNat default).1).toNat))]); first | done | rfl | omega | assumption | decide | (simp only [List.append_assoc, List.cons_append, List.nil_append]; done) | ((repeat (refine And.intro (by first | rfl | omega | assumption | decide) ?_)); first | rfl | omega | assumption | decide)))
  exact KeptX.same fun _ _ => rfl
  try simp only [go_sem, simprocAttr]
  refine FWX.op (by decide) rfl (.ptr 6 0) 0 1 (.inl rfl) (.inl rfl) ?_ ?_ (by (simp only [go_sem, Nat.reduceLT])) ?_
  ·
   intro j hj1 hj2
   have hj : j = 0 ∨ j = 1 := by omega
   rcases hj with rfl | rfl
   all_goals (refine ⟨?_, ?_⟩)
   all_goals (first | rfl | trivial | ((simp only [go_sem, simprocAttr, sw0, set_mapF Bo b51 ((((Zq.getD t28.toNat default).1).toNat) * 8 + (((Zq.getD t28.toNat default).2).toNat)), set_mapF Bo (b51.set ((((Zq.getD t28.toNat default).1).toNat) * 8 + (((Zq.getD t28.toNat default).2).toNat)) true) ((((Zq.getD t28.toNat default).2).toNat) * 8 + (((Zq.getD t28.toNat default).1).toNat))]); first | done | rfl | omega | assumption | decide | (simp only [List.append_assoc, List.cons_append, List.nil_append]; done) | ((repeat (refine And.intro (by first | rfl | omega | assumption | decide) ?_)); first | rfl | omega | assumption | decide)))
  exact KeptX.same fun _ _ => rfl
  try simp only [go_sem, simprocAttr]
  refine FWX.op (by decide) rfl (.d (I ((Zq.getD t28.toNat default).1))) 0 1 (.inl rfl) (.inl rfl) ?_ ?_ (by (simp only [go_sem, Nat.reduceLT])) ?_
  ·
   intro j hj1 hj2
   have hj : j = 0 ∨ j = 1 := by omega
   rcases hj with rfl | rfl
   all_goals (refine ⟨?_, ?_⟩)
   all_goals (first | rfl | trivial | ((simp only [go_sem, simprocAttr, sw0, set_mapF Bo b51 ((((Zq.getD t28.toNat default).1).toNat) * 8 + (((Zq.getD t28.toNat default).2).toNat)), set_mapF Bo (b51.set ((((Zq.getD t28.toNat default).1).toNat) * 8 + (((Zq.getD t28.toNat default).2).toNat)) true) ((((Zq.getD t28.toNat default).2).toNat) * 8 + (((Zq.getD t28.toNat default).1).toNat))]); first | done | rfl | omega | assumption | decide | (simp only [List.append_assoc, List.cons_append, List.nil_append]; done) | ((repeat (refine And.intro (by first | rfl | omega | assumption | decide) ?_)); first | rfl | omega | assumption | decide)))
  exact KeptX.same fun _ _ => rfl
  try simp only [go_sem, simprocAttr]
  refine FWX.op (by decide) rfl (.ptr 5 ((((Zq.getD t28.toNat default).1).toNat) * 8)) 0 1 (.inl rfl) (.inl rfl) ?_ ?_ (by (simp only [go_sem, Nat.reduceLT])) ?_
  ·
   intro j hj1 hj2
   have hj : j = 0 ∨ j = 1 := by omega
   rcases hj with rfl | rfl
   all_goals (refine ⟨?_, ?_⟩)
   all_goals (first | rfl | trivial | ((simp only [go_sem, simprocAttr, sw0, set_mapF Bo b51 ((((Zq.getD t28.toNat default).1).toNat) * 8 + (((Zq.getD t28.toNat default).2).toNat)), set_mapF Bo (b51.set ((((Zq.getD t28.toNat default).1).toNat) * 8 + (((Zq.getD t28.toNat default).2).toNat)) true) ((((Zq.getD t28.toNat default).2).toNat) * 8 + (((Zq.getD t28.toNat default).1).toNat))]); first | done | rfl | omega | assumption | decide | (simp only [List.append_assoc, List.cons_append, List.nil_append]; done) | ((repeat (refine And.intro (by first | rfl | omega | assumption | decide) ?_)); first | rfl | omega | assumption | decide)))
  exact KeptX.same fun _ _ => rfl
  try simp only [go_sem, simprocAttr]
  refine FWX.op (by decide) rfl (.ptr 5 ((((Zq.getD t28.toNat default).1).toNat) * 8 + (((Zq.getD t28.toNat default).2).toNat))) 0 0 (.inl rfl) (.inr ⟨_, _, { on := 9, ground := .data }, rfl, rfl, by simp, rfl, rfl⟩) ?_ ?_ (by (simp only [go_sem, Nat.reduceLT])) ?_
  ·
   intro j hj1 hj2
   have hj : j = 0 := by omega
   subst hj
   all_goals (refine ⟨?_, ?_⟩)
   all_goals (first | rfl | trivial | ((simp only [go_sem, simprocAttr, sw0, set_mapF Bo b51 ((((Zq.getD t28.toNat default).1).toNat) * 8 + (((Zq.getD t28.toNat default).2).toNat)), set_mapF Bo (b51.set ((((Zq.getD t28.toNat default).1).toNat) * 8 + (((Zq.getD t28.toNat default).2).toNat)) true) ((((Zq.getD t28.toNat default).2).toNat) * 8 + (((Zq.getD t28.toNat default).1).toNat))]); first | done | rfl | omega | assumption | decide | (simp only [List.append_assoc, List.cons_append, List.nil_append]; done) | ((repeat (refine And.intro (by first | rfl | omega | assumption | decide) ?_)); first | rfl | omega | assumption | decide)))
  exact KeptX.same fun _ _ => rfl
  try simp only [go_sem, simprocAttr]
  refine FWX.store (q := 0) (by decide) rfl rfl rfl rfl (fun _ => rfl) ?_ ?_ ?_
  · first | trivial | ((simp only [go_sem, simprocAttr, sw0, set_mapF Bo b51 ((((Zq.getD t28.toNat default).1).toNat) * 8 + (((Zq.getD t28.toNat default).2).toNat)), set_mapF Bo (b51.set ((((Zq.getD t28.toNat default).1).toNat) * 8 + (((Zq.getD t28.toNat default).2).toNat)) true) ((((Zq.getD t28.toNat default).2).toNat) * 8 + (((Zq.getD t28.toNat default).1).toNat))]); done) | ((simp only [go_sem, simprocAttr, sw0, set_mapF Bo b51 ((((Zq.getD t28.toNat default).1).toNat) * 8 + (((Zq.getD t28.toNat default).2).toNat)), set_mapF Bo (b51.set ((((Zq.getD t28.toNat default).1).toNat) * 8 + (((Zq.getD t28.toNat default).2).toNat)) true) ((((Zq.getD t28.toNat default).2).toNat) * 8 + (((Zq.getD t28.toNat default).1).toNat))]); first | omega | (repeat (refine And.intro (by (first | omega | assumption | rfl | decide | (simp only [List.length_map, List.length_replicate, List.length_append, List.length_take, List.length_drop, List.length_set, List.length_cons, List.length_nil, Nat.zero_add, Int.toNat_natCast] at *; omega) | (simp only [List.length_map, List.length_replicate, List.length_append, List.length_take, List.length_drop, List.length_set, List.length_cons, List.length_nil, Nat.zero_add, Int.toNat_natCast]; done) | trivial)) ?_); (first | omega | assumption | rfl | decide | (simp only [List.length_map, List.length_replicate, List.length_append, List.length_take, List.length_drop, List.length_set, List.length_cons, List.length_nil, Nat.zero_add, Int.toNat_natCast] at *; omega) | (simp only [List.length_map, List.length_replicate, List.length_append, List.length_take, List.length_drop, List.length_set, List.length_cons, List.length_nil, Nat.zero_add, Int.toNat_natCast]; done) | trivial)))
  · first | rfl | ((simp only [go_sem, simprocAttr, sw0, set_mapF Bo b51 ((((Zq.getD t28.toNat default).1).toNat) * 8 + (((Zq.getD t28.toNat default).2).toNat)), set_mapF Bo (b51.set ((((Zq.getD t28.toNat default).1).toNat) * 8 + (((Zq.getD t28.toNat default).2).toNat)) true) ((((Zq.getD t28.toNat default).2).toNat) * 8 + (((Zq.getD t28.toNat default).1).toNat))]); done) | ((simp only [go_sem, simprocAttr, sw0, set_mapF Bo b51 ((((Zq.getD t28.toNat default).1).toNat) * 8 + (((Zq.getD t28.toNat default).2).toNat)), set_mapF Bo (b51.set ((((Zq.getD t28.toNat default).1).toNat) * 8 + (((Zq.getD t28.toNat default).2).toNat)) true) ((((Zq.getD t28.toNat default).2).toNat) * 8 + (((Zq.getD t28.toNat default).1).toNat))]); rfl) | ((simp only [go_sem, simprocAttr, sw0, set_mapF Bo b51 ((((Zq.getD t28.toNat default).1).toNat) * 8 + (((Zq.getD t28.toNat default).2).toNat)), set_mapF Bo (b51.set ((((Zq.getD t28.toNat default).1).toNat) * 8 + (((Zq.getD t28.toNat default).2).toNat)) true) ((((Zq.getD t28.toNat default).2).toNat) * 8 + (((Zq.getD t28.toNat default).1).toNat))]); simp only [List.append_assoc, List.cons_append, List.nil_append]; done)
  try simp only [go_sem, simprocAttr]
  refine FWX.op (by decide) rfl (.ptr 5 ((((Zq.getD t28.toNat default).2).toNat) * 8)) 0 1 (.inl rfl) (.inl rfl) ?_ ?_ (by (simp only [go_sem, Nat.reduceLT])) ?_
  ·
   intro j hj1 hj2
   have hj : j = 0 ∨ j = 1 := by omega
   rcases hj with rfl | rfl
   all_goals (refine ⟨?_, ?_⟩)
   all_goals (first | rfl | trivial | ((simp only [go_sem, simprocAttr, sw0, set_mapF Bo b51 ((((Zq.getD t28.toNat default).1).toNat) * 8 + (((Zq.getD t28.toNat default).2).toNat)), set_mapF Bo (b51.set ((((Zq.getD t28.toNat default).1).toNat) * 8 + (((Zq.getD t28.toNat default).2).toNat)) true) ((((Zq.getD t28.toNat default).2).toNat) * 8 + (((Zq.getD t28.toNat default).1).toNat))]); first | done | rfl | omega | assumption | decide | (simp only [List.append_assoc, List.cons_append, List.nil_append]; done) | ((repeat (refine And.intro (by first | rfl | omega | assumption | decide) ?_)); first | rfl | omega | assumption | decide)))
  exact KeptX.same fun _ _ => rfl
  try simp only [go_sem, simprocAttr]
  refine FWX.nil ?_
  change OW _ _ _ _ _ _
  change OW _ _ _ _ _ _
  refine OW.run [1, 6, 7, 26, 27, 28] ?_
  (simp only [go_sem, simprocAttr, sw0, set_mapF Bo b51 ((((Zq.getD t28.toNat default).1).toNat) * 8 + (((Zq.getD t28.toNat default).2).toNat)), set_mapF Bo (b51.set ((((Zq.getD t28.toNat default).1).toNat) * 8 + (((Zq.getD t28.toNat default).2).toNat)) true) ((((Zq.getD t28.toNat default).2).toNat) * 8 + (((Zq.getD t28.toNat default).1).toNat))])
  repeat (refine And.intro (by omega) ?_)
  refine OW.nil (hK _ ?_); clear hK K
  refine PW.regionK fun K hK => OW.run [1, 6, 7, 26, 27, 28] ?_
  simp only [go_sem, simprocAttr, sw0]
  refine OW.nil (hK _ ?_); clear hK K
  refine hN4 [] (w64 (t28 + (1 : Int)), ((b51.set ((((Zq.getD t28.toNat default).1).toNat) * 8 + (((Zq.getD t28.toNat default).2).toNat)) true).set ((((Zq.getD t28.toNat default).2).toNat) * 8 + (((Zq.getD t28.toNat default).1).toNat)) true)) _ H (by exact trivial) ?_
  simp only [sw1, go_sem, simprocAttr]
 replace H := br_f h5 H
 refine PW.exit ?_
 refine hN3 [] b51 _ H (by exact trivial) ?_
 simp only [sw1, go_sem, simprocAttr]
 rintro b5 H
 try simp only [go_sem, simprocAttr]
 refine PW.joinS (τ := List Bool) [6] 5 (fun b4 => []) (fun b4 => [{ cells := [.d (I Zp), .d (.list Zq.length (Zq.flatMap (fun (x : Int × Int) => [(I x.1), (I x.2)])))], e := 24 }, { cells := [.d (L identities)], e := 25 }, { cells := [.d (I (0 : Int)), .d (I (0 : Int))], e := 42 }, { cells := [.d (I Zp), .d (.list Zq.length (Zq.flatMap (fun (x : Int × Int) => [(I x.1), (I x.2)])))], e := 24 }, { cells := .d (I Zp) :: (b4.map Bo).map .d, e := 106 }]) _ _ r (by (simp only [go_sem]; omega)) H ?_ ?_
 intro K_1 H N13 hN13
 refine PW.seq ?_
 refine PW.regionK fun K hK => OW.run [1, 6, 7, 46, 47] ?_
 simp only [go_sem, simprocAttr, sw0]
 repeat (refine And.intro (by omega) ?_)
 refine OW.nil (hK _ ?_); clear hK K
 refine PW.block ?_
 refine PW.loopS (σ := Int × List Bool) [1, 6, 7, 46, 47] 6 (fun (t47, b41) => [(47, .d (I t47))]) (fun (t47, b41) => [{ cells := [.d (I Zp), .d (.list Zq.length (Zq.flatMap (fun (x : Int × Int) => [(I x.1), (I x.2)])))], e := 24 }, { cells := [.d (L identities)], e := 25 }, { cells := [.d (I (0 : Int)), .d (I (0 : Int))], e := 42 }, { cells := [.d (I Zp), .d (.list Zq.length (Zq.flatMap (fun (x : Int × Int) => [(I x.1), (I x.2)])))], e := 24 }, { cells := .d (I Zp) :: (b41.map Bo).map .d, e := 106 }, { cells := (b5.map Bo).map .d, e := 104 }]) (plan_FirstConfusion.b2 N Zp b5 K_1) r N ((0 : Int), (List.replicate 64 false)) (by (simp only [go_sem]; omega)) H (by (simp only [sw1, go_sem, simprocAttr]; done)) ?_
 rintro n ⟨t47, b41⟩ H N14 hN14
 unfold plan_FirstConfusion.b2 at H
 try simp only [go_sem, simprocAttr]
 refine PW.seq ?_
 refine PW.regionK fun K hK => OW.run [1, 6, 7, 46, 47, 48] ?_
 simp only [go_sem, simprocAttr, sw0]
 refine OW.nil (hK _ ?_); clear hK K
 refine PW.seq ?_
 refine PW.cond rfl (fun h15 => ?_) (fun h15 => ?_)
 replace H := br_t h15 H
 refine PW.skip ?_
 refine PW.joinS (τ := List Bool) [1, 6, 7, 46, 47] 6 (fun b42 => []) (fun b42 => [{ cells := [.d (I Zp), .d (.list Zq.length (Zq.flatMap (fun (x : Int × Int) => [(I x.1), (I x.2)])))], e := 24 }, { cells := [.d (L identities)], e := 25 }, { cells := [.d (I (0 : Int)), .d (I (0 : Int))], e := 42 }, { cells := [.d (I Zp), .d (.list Zq.length (Zq.flatMap (fun (x : Int × Int) => [(I x.1), (I x.2)])))], e := 24 }, { cells := .d (I Zp) :: (b42.map Bo).map .d, e := 106 }, { cells := (b5.map Bo).map .d, e := 104 }]) _ _ r (by (simp only [go_sem]; omega)) H ?_ ?_
 intro K_2 H N16 hN16
 refine PW.block ?_
 refine PW.seq ?_
 refine PW.regionK fun K hK => OW.run [1, 6, 7, 10, 46, 47] ?_
 simp only [go_sem, simprocAttr, sw0]
 refine OW.nil (hK _ ?_); clear hK K
 refine PW.seq ?_
 refine PW.regionK fun K hK => OW.run [1, 6, 7, 10, 46, 47, 51, 52] ?_
 simp only [go_sem, simprocAttr, sw0]
 repeat (refine And.intro (by omega) ?_)
 refine OW.nil (hK _ ?_); clear hK K
 refine PW.block ?_
 refine PW.loopS (σ := Int × List Bool) [1, 6, 7, 10, 46, 47, 51, 52] 6 (fun (t52, b43) => [(52, .d (I t52))]) (fun (t52, b43) => [{ cells := [.d (I Zp), .d (.list Zq.length (Zq.flatMap (fun (x : Int × Int) => [(I x.1), (I x.2)])))], e := 24 }, { cells := [.d (L identities)], e := 25 }, { cells := [.d (I (0 : Int)), .d (I (0 : Int))], e := 42 }, { cells := [.d (I Zp), .d (.list Zq.length (Zq.flatMap (fun (x : Int × Int) => [(I x.1), (I x.2)])))], e := 24 }, { cells := .d (I Zp) :: (b43.map Bo).map .d, e := 106 }, { cells := (b5.map Bo).map .d, e := 104 }]) (plan_FirstConfusion.b3 N Zp b5 t47 K_2) r N ((0 : Int), b41) (by (simp only [go_sem]; omega)) H (by (simp only [sw1, go_sem, simprocAttr]; done)) ?_
 rintro n ⟨t52, b43⟩ H N17 hN17
 unfold plan_FirstConfusion.b3 at H
 try simp only [go_sem, simprocAttr]
 refine PW.seq ?_
 refine PW.regionK fun K hK => OW.run [1, 6, 7, 10, 46, 47, 51, 52, 53] ?_
 simp only [go_sem, simprocAttr, sw0]
 refine OW.nil (hK _ ?_); clear hK K
 refine PW.seq ?_
 refine PW.cond rfl (fun h18 => ?_) (fun h18 => ?_)
 replace H := br_t h18 H
 refine PW.skip ?_
 refine PW.joinS (τ := List Bool) [1, 6, 7, 10, 46, 47, 51, 52] 6 (fun b44 => []) (fun b44 => [{ cells := [.d (I Zp), .d (.list Zq.length (Zq.flatMap (fun (x : Int × Int) => [(I x.1), (I x.2)])))], e := 24 }, { cells := [.d (L identities)], e := 25 }, { cells := [.d (I (0 : Int)), .d (I (0 : Int))], e := 42 }, { cells := [.d (I Zp), .d (.list Zq.length (Zq.flatMap (fun (x : Int × Int) => [(I x.1), (I x.2)])))], e := 24 }, { cells := .d (I Zp) :: (b44.map Bo).map .d, e := 106 }, { cells := (b5.map Bo).map .d, e := 104 }]) _ _ r (by (simp only [go_sem]; omega)) H ?_ ?_
 intro K_3 H N19 hN19
 refine PW.block ?_
 refine PW.seq ?_
 refine PW.regionK fun K hK => OW.run [1, 6, 7, 10, 11, 46, 47, 51, 52] ?_
 simp only [go_sem, simprocAttr, sw0]
 refine OW.nil (hK _ ?_); clear hK K
 refine PW.seq ?_
 refine PW.regionK fun K hK => OW.run [1, 6, 7, 10, 11, 46, 47, 51, 52, 56, 57] ?_
 simp only [go_sem, simprocAttr, sw0]
 repeat (refine And.intro (by omega) ?_)
 refine OW.nil (hK _ ?_); clear hK K
 refine PW.block ?_
 refine PW.loopS (σ := Int × List Bool) [1, 6, 7, 10, 11, 46, 47, 51, 52, 56, 57] 6 (fun (t57, b45) => [(57, .d (I t57))]) (fun (t57, b45) => [{ cells := [.d (I Zp), .d (.list Zq.length (Zq.flatMap (fun (x : Int × Int) => [(I x.1), (I x.2)])))], e := 24 }, { cells := [.d (L identities)], e := 25 }, { cells := [.d (I (0 : Int)), .d (I (0 : Int))], e := 42 }, { cells := [.d (I Zp), .d (.list Zq.length (Zq.flatMap (fun (x : Int × Int) => [(I x.1), (I x.2)])))], e := 24 }, { cells := .d (I Zp) :: (b45.map Bo).map .d, e := 106 }, { cells := (b5.map Bo).map .d, e := 104 }]) (plan_FirstConfusion.b4 N Zp b5 t47 t52 K_3) r N ((0 : Int), b43) (by (simp only [go_sem]; omega)) H (by (simp only [sw1, go_sem, simprocAttr]; done)) ?_
 rintro n ⟨t57, b45⟩ H N20 hN20
 unfold plan_FirstConfusion.b4 at H
 try simp only [go_sem, simprocAttr]
 refine PW.seq ?_
 refine PW.regionK fun K hK => OW.run [1, 6, 7, 10, 11, 46, 47, 51, 52, 56, 57, 58] ?_
 simp only [go_sem, simprocAttr, sw0]
 refine OW.nil (hK _ ?_); clear hK K
 refine PW.seq ?_
 refine PW.cond rfl (fun h21 => ?_) (fun h21 => ?_)
 replace H := br_t h21 H
 refine PW.skip ?_
 refine PW.seq ?_
 refine PW.block ?_
 refine PW.seq ?_
 refine PW.regionK fun K hK => OW.run [1, 6, 7, 10, 11, 12, 46, 47, 51, 52, 56, 57] ?_
 simp only [go_sem, simprocAttr, sw0]
 refine OW.nil (hK _ ?_); clear hK K
 change PW _ _ _ _ _
 obtain ⟨c22, H⟩ := chk_some H
 obtain ⟨c23, H⟩ := chk_some H
 obtain ⟨c24, H⟩ := chk_some H
 obtain ⟨c25, H⟩ := chk_some H
 obtain ⟨c26, H⟩ := chk_some H
 obtain ⟨c27, H⟩ := chk_some H
 obtain ⟨c28, H⟩ := chk_some H
 obtain ⟨c29, H⟩ := chk_some H
 obtain ⟨c30, H⟩ := chk_some H
 obtain ⟨c31, H⟩ := chk_some H
 obtain ⟨c32, H⟩ := chk_some H
 obtain ⟨c33, H⟩ := chk_some H
 refine PW.drawK 40 mixed (by kernel_rfl) fun K hK => ?_
 change FW _ _ _ _ _
 refine FW.toS [(1, .ptr 3 0), (6, .ptr 4 0), (7, .ptr 5 0), (10, .d (I t47)), (11, .d (I t52)), (46, .d (I Zp)), (47, .d (I t47)), (51, .d (I Zp)), (52, .d (I t52)), (56, .d (I Zp)), (57, .d (I t57))] [{ cells := [.d (I Zp), .d (.list Zq.length (Zq.flatMap (fun (x : Int × Int) => [(I x.1), (I x.2)])))], e := 24 }, { cells := [.d (L identities)], e := 25 }, { cells := [.d (I (0 : Int)), .d (I (0 : Int))], e := 42 }, { cells := [.d (I Zp), .d (.list Zq.length (Zq.flatMap (fun (x : Int × Int) => [(I x.1), (I x.2)])))], e := 24 }, { cells := .d (I Zp) :: ((b45.set (t47.toNat * 8 + t52.toNat) ((b45.getD (t47.toNat * 8 + t52.toNat) false) || ((t47 != t52) && ((b5.getD (t47.toNat * 8 + t52.toNat) false) || ((b5.getD (t47.toNat * 8 + t57.toNat) false) && (b5.getD (t57.toNat * 8 + t52.toNat) false)))))).map Bo).map .d, e := 106 }, { cells := (b5.map Bo).map .d, e := 104 }] ?_ (hK _ ?_)
 intro K hKE
 rcases Bool.eq_false_or_eq_true ((b45.getD (t47.toNat * 8 + t52.toNat) false)) with ha0 | ha0
 refine FW.run ?_
 (simp only [go_sem, simprocAttr, sw0, show 1 + t47.toNat * 8 + t52.toNat = (t47.toNat * 8 + t52.toNat) + 1 by omega, List.getD_cons_succ, List.set_cons_succ, getD_mapVF Bo b45 (t47.toNat * 8 + t52.toNat) false (by omega), getD_mapVF Bo b5 (t47.toNat * 8 + t52.toNat) false (by omega), getD_mapVF Bo b5 (t47.toNat * 8 + t57.toNat) false (by omega), getD_mapVF Bo b5 (t57.toNat * 8 + t52.toNat) false (by omega), set_mapF Bo b45 (t47.toNat * 8 + t52.toNat), ha0])
 repeat (refine And.intro (by omega) ?_)
 refine FW.nil ?_
 change OW _ _ _ _ _ _
 refine OW.run [1, 6, 7, 10, 11, 46, 47, 51, 52, 56, 57] ?_
 (simp only [go_sem, simprocAttr, sw0, show 1 + t47.toNat * 8 + t52.toNat = (t47.toNat * 8 + t52.toNat) + 1 by omega, List.getD_cons_succ, List.set_cons_succ, getD_mapVF Bo b45 (t47.toNat * 8 + t52.toNat) false (by omega), getD_mapVF Bo b5 (t47.toNat * 8 + t52.toNat) false (by omega), getD_mapVF Bo b5 (t47.toNat * 8 + t57.toNat) false (by omega), getD_mapVF Bo b5 (t57.toNat * 8 + t52.toNat) false (by omega), set_mapF Bo b45 (t47.toNat * 8 + t52.toNat), ha0])
 repeat (refine And.intro (by omega) ?_)
 refine OW.nil ((congrArg K ?_).mpr hKE)
 · (first | rfl | (simp only [go_sem, simprocAttr, ha0]; done) | (simp only [go_sem, simprocAttr, ha0]; rfl))
 rcases Bool.eq_false_or_eq_true ((t47 != t52)) with ha1 | ha1
 rcases Bool.eq_false_or_eq_true ((b5.getD (t47.toNat * 8 + t52.toNat) false)) with ha2 | ha2
 refine FW.run ?_
 (simp only [go_sem, simprocAttr, sw0, show 1 + t47.toNat * 8 + t52.toNat = (t47.toNat * 8 + t52.toNat) + 1 by omega, List.getD_cons_succ, List.set_cons_succ, getD_mapVF Bo b45 (t47.toNat * 8 + t52.toNat) false (by omega), getD_mapVF Bo b5 (t47.toNat * 8 + t52.toNat) false (by omega), getD_mapVF Bo b5 (t47.toNat * 8 + t57.toNat) false (by omega), getD_mapVF Bo b5 (t57.toNat * 8 + t52.toNat) false (by omega), set_mapF Bo b45 (t47.toNat * 8 + t52.toNat), ha0, ha1, ha2])
 repeat (refine And.intro (by omega) ?_)
 refine FW.nil ?_
 change OW _ _ _ _ _ _
 refine OW.run [1, 6, 7, 10, 11, 46, 47, 51, 52, 56, 57] ?_
 (simp only [go_sem, simprocAttr, sw0, show 1 + t47.toNat * 8 + t52.toNat = (t47.toNat * 8 + t52.toNat) + 1 by omega, List.getD_cons_succ, List.set_cons_succ, getD_mapVF Bo b45 (t47.toNat * 8 + t52.toNat) false (by omega), getD_mapVF Bo b5 (t47.toNat * 8 + t52.toNat) false (by omega), getD_mapVF Bo b5 (t47.toNat * 8 + t57.toNat) false (by omega), getD_mapVF Bo b5 (t57.toNat * 8 + t52.toNat) false (by omega), set_mapF Bo b45 (t47.toNat * 8 + t52.toNat), ha0, ha1, ha2])
 repeat (refine And.intro (by omega) ?_)
 refine OW.nil ((congrArg K ?_).mpr hKE)
 · (first | rfl | (simp only [go_sem, simprocAttr, ha0, ha1, ha2]; done) | (simp only [go_sem, simprocAttr, ha0, ha1, ha2]; rfl))
 rcases Bool.eq_false_or_eq_true ((b5.getD (t47.toNat * 8 + t57.toNat) false)) with ha3 | ha3
 refine FW.run ?_
 (simp only [go_sem, simprocAttr, sw0, show 1 + t47.toNat * 8 + t52.toNat = (t47.toNat * 8 + t52.toNat) + 1 by omega, List.getD_cons_succ, List.set_cons_succ, getD_mapVF Bo b45 (t47.toNat * 8 + t52.toNat) false (by omega), getD_mapVF Bo b5 (t47.toNat * 8 + t52.toNat) false (by omega), getD_mapVF Bo b5 (t47.toNat * 8 + t57.toNat) false (by omega), getD_mapVF Bo b5 (t57.toNat * 8 + t52.toNat) false (by omega), set_mapF Bo b45 (t47.toNat * 8 + t52.toNat), ha0, ha1, ha2, ha3])
 repeat (refine And.intro (by omega) ?_)
 refine FW.nil ?_
 change OW _ _ _ _ _ _
 refine OW.run [1, 6, 7, 10, 11, 46, 47, 51, 52, 56, 57] ?_
 (simp only [go_sem, simprocAttr, sw0, show 1 + t47.toNat * 8 + t52.toNat = (t47.toNat * 8 + t52.toNat) + 1 by omega, List.getD_cons_succ, List.set_cons_succ, getD_mapVF Bo b45 (t47.toNat * 8 + t52.toNat) false (by omega), getD_mapVF Bo b5 (t47.toNat * 8 + t52.toNat) false (by omega), getD_mapVF Bo b5 (t47.toNat * 8 + t57.toNat) false (by omega), getD_mapVF Bo b5 (t57.toNat * 8 + t52.toNat) false (by omega), set_mapF Bo b45 (t47.toNat * 8 + t52.toNat), ha0, ha1, ha2, ha3])
 repeat (refine And.intro (by omega) ?_)
 refine OW.nil ((congrArg K ?_).mpr hKE)
 · (first | rfl | (simp only [go_sem, simprocAttr, ha0, ha1, ha2, ha3]; done) | (simp only [go_sem, simprocAttr, ha0, ha1, ha2, ha3]; rfl))
 refine FW.run ?_
 (simp only [go_sem, simprocAttr, sw0, show 1 + t47.toNat * 8 + t52.toNat = (t47.toNat * 8 + t52.toNat) + 1 by omega, List.getD_cons_succ, List.set_cons_succ, getD_mapVF Bo b45 (t47.toNat * 8 + t52.toNat) false (by omega), getD_mapVF Bo b5 (t47.toNat * 8 + t52.toNat) false (by omega), getD_mapVF Bo b5 (t47.toNat * 8 + t57.toNat) false (by omega), getD_mapVF Bo b5 (t57.toNat * 8 + t52.toNat) false (by omega), set_mapF Bo b45 (t47.toNat * 8 + t52.toNat), ha0, ha1, ha2, ha3])
 repeat (refine And.intro (by omega) ?_)
 refine FW.nil ?_
 change OW _ _ _ _ _ _
 refine OW.run [1, 6, 7, 10, 11, 46, 47, 51, 52, 56, 57] ?_
 (simp only [go_sem, simprocAttr, sw0, show 1 + t47.toNat * 8 + t52.toNat = (t47.toNat * 8 + t52.toNat) + 1 by omega, List.getD_cons_succ, List.set_cons_succ, getD_mapVF Bo b45 (t47.toNat * 8 + t52.toNat) false (by omega), getD_mapVF Bo b5 (t47.toNat * 8 + t52.toNat) false (by omega), getD_mapVF Bo b5 (t47.toNat * 8 + t57.toNat) false (by omega), getD_mapVF Bo b5 (t57.toNat * 8 + t52.toNat) false (by omega), set_mapF Bo b45 (t47.toNat * 8 + t52.toNat), ha0, ha1, ha2, ha3])
 repeat (refine And.intro (by omega) ?_)
 refine OW.nil ((congrArg K ?_).mpr hKE)
 · (first | rfl | (simp only [go_sem, simprocAttr, ha0, ha1, ha2, ha3]; done) | (simp only [go_sem, simprocAttr, ha0, ha1, ha2, ha3]; rfl))
 refine FW.run ?_
 (simp only [go_sem, simprocAttr, sw0, show 1 + t47.toNat * 8 + t52.toNat = (t47.toNat * 8 + t52.toNat) + 1 by omega, List.getD_cons_succ, List.set_cons_succ, getD_mapVF Bo b45 (t47.toNat * 8 + t52.toNat) false (by omega), getD_mapVF Bo b5 (t47.toNat * 8 + t52.toNat) false (by omega), getD_mapVF Bo b5 (t47.toNat * 8 + t57.toNat) false (by omega), getD_mapVF Bo b5 (t57.toNat * 8 + t52.toNat) false (by omega), set_mapF Bo b45 (t47.toNat * 8 + t52.toNat), ha0, ha1])
 repeat (refine And.intro (by omega) ?_)
 refine FW.nil ?_
 change OW _ _ _ _ _ _
 refine OW.run [1, 6, 7, 10, 11, 46, 47, 51, 52, 56, 57] ?_
 (simp only [go_sem, simprocAttr, sw0, show 1 + t47.toNat * 8 + t52.toNat = (t47.toNat * 8 + t52.toNat) + 1 by omega, List.getD_cons_succ, List.set_cons_succ, getD_mapVF Bo b45 (t47.toNat * 8 + t52.toNat) false (by omega), getD_mapVF Bo b5 (t47.toNat * 8 + t52.toNat) false (by omega), getD_mapVF Bo b5 (t47.toNat * 8 + t57.toNat) false (by omega), getD_mapVF Bo b5 (t57.toNat * 8 + t52.toNat) false (by omega), set_mapF Bo b45 (t47.toNat * 8 + t52.toNat), ha0, ha1])
 repeat (refine And.intro (by omega) ?_)
 refine OW.nil ((congrArg K ?_).mpr hKE)
 · (first | rfl | (simp only [go_sem, simprocAttr, ha0, ha1]; done) | (simp only [go_sem, simprocAttr, ha0, ha1]; rfl))
 clear hK K
 refine PW.regionK fun K hK => OW.run [1, 6, 7, 10, 11, 46, 47, 51, 52, 56, 57] ?_
 simp only [go_sem, simprocAttr, sw0]
 refine OW.nil (hK _ ?_); clear hK K
 refine hN20 [] (w64 (t57 + (1 : Int)), (b45.set (t47.toNat * 8 + t52.toNat) ((b45.getD (t47.toNat * 8 + t52.toNat) false) || ((t47 != t52) && ((b5.getD (t47.toNat * 8 + t52.toNat) false) || ((b5.getD (t47.toNat * 8 + t57.toNat) false) && (b5.getD (t57.toNat * 8 + t52.toNat) false))))))) _ H (by exact trivial) ?_
 simp only [sw1, go_sem, simprocAttr]
 replace H := br_f h21 H
 refine PW.exit ?_
 refine hN19 [] b45 _ H (by exact trivial) ?_
 simp only [sw1, go_sem, simprocAttr]
 rintro b44 H
 try simp only [go_sem, simprocAttr]
 refine PW.regionK fun K hK => OW.run [1, 6, 7, 10, 46, 47, 51, 52] ?_
 simp only [go_sem, simprocAttr, sw0]
 refine OW.nil (hK _ ?_); clear hK K
 refine hN17 [] (w64 (t52 + (1 : Int)), b44) _ H (by exact trivial) ?_
 simp only [sw1, go_sem, simprocAttr]
 replace H := br_f h18 H
 refine PW.exit ?_
 refine hN16 [] b43 _ H (by exact trivial) ?_
 simp only [sw1, go_sem, simprocAttr]
 rintro b42 H
 try simp only [go_sem, simprocAttr]
 refine PW.regionK fun K hK => OW.run [1, 6, 7, 46, 47] ?_
 simp only [go_sem, simprocAttr, sw0]
 refine OW.nil (hK _ ?_); clear hK K
 refine hN14 [] (w64 (t47 + (1 : Int)), b42) _ H (by exact trivial) ?_
 simp only [sw1, go_sem, simprocAttr]
 replace H := br_f h15 H
 refine PW.exit ?_
 refine hN13 [] b41 _ H (by exact trivial) ?_
 simp only [sw1, go_sem, simprocAttr]
 rintro b4 H
 try simp only [go_sem, simprocAttr]
 refine PW.seq ?_
 refine PW.regionK fun K hK => OW.run [2, 3] ?_
 simp only [go_sem, simprocAttr, sw0]
 refine OW.nil (hK _ ?_); clear hK K
 refine PW.ret ?_
 refine ⟨.inr rfl, rfl, rfl, ?_⟩
 simp only [go_sem, simprocAttr, sw0]
 change OW _ _ _ _ _ _
 refine OW.run [3, 4, 6, 7] ?_
 simp only [go_sem, simprocAttr, sw0]
 refine OW.nil (hK _ ?_); clear hK K
 refine PW.seq ?_
 refine PW.seq ?_
 refine PW.regionK fun K hK => OW.run [3, 4, 6, 7, 15] ?_
 simp only [go_sem, simprocAttr, sw0]
 refine OW.nil (hK _ ?_); clear hK K
 refine PW.cond rfl (fun h34 => ?_) (fun h34 => ?_)
 exact absurd h34 (by decide)
 refine PW.skip ?_
 refine PW.seq ?_
 refine PW.seq ?_
 obtain ⟨x2, e2, H⟩ := bnd_some H
 refine PW.regionK fun K hK => OW.run [3, 4, 6, 8] ?_
 simp only [go_sem, simprocAttr, sw0]
 refine OW.call' 4 rfl rfl rfl (by first | exact rfl | ((simp only [go_sem, List.toList_toArray, simprocAttr]); exact rfl)) ?_ (plan_web_listErr_ok N _ _ _ 65 [] (fun y0 => plan_isIdentity N y0) (fun y0 r h => plan_isIdentity_ok N y0 r h) _ e2) ?_ ?_ ?_ ?_
 · (((simp only [go_sem, sw1, simprocAttr]; try simp only [seg, go_sem, simprocAttr])); done)
 · (refine okAll_intro ?_; (simp only [go_sem, sw2, List.length_set, List.length_replicate, and_true, true_and, Nat.le_refl, simprocAttr]; done))
 exact .inr ⟨rfl, rfl⟩
 (simp only [go_sem, Nat.reduceLT])
 refine OW.run [3, 4, 6, 8] ?_
 simp only [go_sem, simprocAttr, sw0]
 refine OW.nil (hK _ ?_); clear hK K
 refine PW.seq ?_
 refine PW.regionK fun K hK => OW.run [3, 4, 6, 8, 22] ?_
 simp only [go_sem, simprocAttr, sw0]
 refine OW.nil (hK _ ?_); clear hK K
 refine PW.cond rfl (fun h35 => ?_) (fun h35 => ?_)
 replace H := br_t h35 H
 refine PW.seq ?_
 refine PW.regionK fun K hK => OW.run [4, 5] ?_
 simp only [go_sem, simprocAttr, sw0]
 refine OW.nil (hK _ ?_); clear hK K
 refine PW.ret ?_
 change PW.Ends _ _ _ _ _ _
 refine PW.Ends.intro (.inr rfl) ?_
 simp only [go_sem, simprocAttr, sw0]
 obtain rfl := Option.some.inj H
 refine RetOK.data' 4 (by (refine okAll_intro ?_; (simp only [go_sem, sw2, List.length_set, List.length_replicate, and_true, true_and, Nat.le_refl, simprocAttr]; done))) ?_
 rfl
 replace H := br_f h35 H
 refine PW.skip ?_
 refine PW.seq ?_
 obtain ⟨⟨x3, x31, x32⟩, e3, H⟩ := bnd_some H
 refine PW.regionK fun K hK => OW.run [4, 5] ?_
 simp only [go_sem, simprocAttr, sw0]
 refine OW.call' 4 rfl rfl rfl (by first | exact rfl | ((simp only [go_sem, List.toList_toArray, simprocAttr]); exact rfl)) ?_ (plan_web_firstPair_ok N _ _ 67 [(.ref [(L identities)])] (fun y0 y1 => plan_FirstConfusion_1 N y0 y1 identities) (fun y0 y1 r h => plan_FirstConfusion_1_ok N y0 y1 _ r h) _ e3) ?_ ?_ ?_ ?_
 · (((simp only [go_sem, sw1, simprocAttr]; try simp only [seg, go_sem, simprocAttr])); done)
 · (refine okAll_intro ?_; (simp only [go_sem, sw2, List.length_set, List.length_replicate, and_true, true_and, Nat.le_refl, simprocAttr]; done))
 exact .inr ⟨rfl, rfl⟩
 (simp only [go_sem, Nat.reduceLT])
 refine OW.run [4, 5] ?_
 simp only [go_sem, simprocAttr, sw0]
 refine OW.nil (hK _ ?_); clear hK K
 refine PW.ret ?_
 change PW.Ends _ _ _ _ _ _
 refine PW.Ends.intro (.inr rfl) ?_
 simp only [go_sem, simprocAttr, sw0]
 obtain rfl := Option.some.inj H
 refine RetOK.data' 4 (by (refine okAll_intro ?_; (simp only [go_sem, sw2, List.length_set, List.length_replicate, and_true, true_and, Nat.le_refl, simprocAttr]; done))) ?_
 rfl

theorem ref09_kinds_okr (N : Nat)  : ∀ (n : Nat) (Zp : Int) (Zq : List (Int × Int)) (count : Int) (have_ : List Int) (r : List Int × Bool), rds (ref09_kinds.b N ) n (Zp, Zq, count, have_) = some r → CallOK Try.prog 68 [(.agg [(I Zp), (.list Zq.length (Zq.flatMap (fun (x : Int × Int) => [(I x.1), (I x.2)])))]), (I count), (L have_)] (.d (.tup [(L r.1), (Bo r.2)])) [] := by
 intro n
 induction n with
 | zero => intro _ _ _ _ _ h; cases h
 | succ n ih =>
  intro Zp Zq count have_ r H
  generalize hself : rds (ref09_kinds.b N ) n = self_ at ih
  rw [rds_succ] at H
  rw [hself] at H
  clear hself
  refine CallOK.of_PW Try.func68 rfl (by rw [Try.results68]) Try.ntmps68 Try.call68 ?_
  change PW _ _ _ _ _
  try simp only [go_sem, simprocAttr]
  unfold ref09_kinds.b at H
  try simp only [go_sem, simprocAttr]
  refine PW.seq ?_
  refine PW.regionK fun K hK => OW.run [1, 2, 3] ?_
  simp only [go_sem, simprocAttr, sw0]
  refine OW.nil (hK _ ?_)
  refine PW.seq ?_
  refine PW.seq ?_
  refine PW.regionK fun K hK => OW.run [1, 2, 3, 17] ?_
  simp only [go_sem, simprocAttr, sw0]
  repeat (refine And.intro (by omega) ?_)
  refine OW.nil (hK _ ?_)
  refine PW.cond rfl (fun h1 => ?_) (fun h1 => ?_)
  ·
   replace H := br_t h1 H
   refine PW.seq ?_
   refine PW.regionK fun K hK => OW.run [6, 7] ?_
   simp only [go_sem, simprocAttr, sw0]
   refine OW.nil (hK _ ?_)
   refine PW.ret ?_
   change PW.Ends _ _ _ _ _ _
   refine PW.Ends.intro (.inr rfl) ?_
   simp only [go_sem, simprocAttr, sw0]
   obtain rfl := Option.some.inj H
   refine RetOK.data' 4 (by exact okD_all rfl) ?_
   rfl
  ·
   replace H := br_f h1 H
   refine PW.skip ?_
   refine PW.joinS (τ := Unit) [] 0 (fun _ => []) (fun _ => []) _ _ r (by exact Nat.le_refl _) H ?_ ?_
   ·
    intro K_ H N2 hN2
    refine PW.seq ?_
    refine PW.regionK fun K hK => OW.run [1, 2, 3, 8] ?_
    simp only [go_sem, simprocAttr, sw0]
    refine OW.nil (hK _ ?_)
    refine PW.block ?_
    refine PW.loopS (σ := Int) [1, 2, 3, 8] 1 (fun kind => [(8, .d (I kind))]) (fun kind => [{ cells := [.d (I Zp), .d (.list Zq.length (Zq.flatMap (fun (x : Int × Int) => [(I x.1), (I x.2)])))], e := 24 }]) (ref09_kinds.b1 N Zp Zq count have_ self_ K_) r N (0 : Int) (by exact Nat.zero_le _) H (by (simp only [sw1, go_sem, simprocAttr]; done)) ?_
    rintro n kind H N3 hN3
    unfold ref09_kinds.b1 at H
    try simp only [go_sem, simprocAttr]
    refine PW.seq ?_
    refine PW.seq ?_
    refine PW.regionK fun K hK => OW.run [1, 2, 3, 8, 21] ?_
    simp only [go_sem, simprocAttr, sw0]
    refine OW.nil (hK _ ?_)
    refine PW.cond rfl (fun h4 => ?_) (fun h4 => ?_)
    ·
     replace H := br_t h4 H
     refine PW.skip ?_
     refine PW.joinS (τ := Unit) [1, 2, 3, 8] 1 (fun _ => []) (fun _ => [{ cells := [.d (I Zp), .d (.list Zq.length (Zq.flatMap (fun (x : Int × Int) => [(I x.1), (I x.2)])))], e := 24 }]) _ _ r (by exact Nat.zero_le _) H ?_ ?_
     ·
      intro K_1 H N5 hN5
      refine PW.block ?_
      refine PW.seq ?_
      refine PW.regionK fun K hK => OW.run [1, 2, 3, 8, 9] ?_
      simp only [go_sem, simprocAttr, sw0]
      refine OW.nil (hK _ ?_)
      refine PW.joinS (τ := Bool) [1, 2, 3, 8, 9] 1 (fun right => [(9, .d (Bo right))]) (fun right => [{ cells := [.d (I Zp), .d (.list Zq.length (Zq.flatMap (fun (x : Int × Int) => [(I x.1), (I x.2)])))], e := 24 }]) _ _ r (by exact Nat.zero_le _) H ?_ ?_
      ·
       intro K_2 H N6 hN6
       refine PW.seq ?_
       refine PW.regionK fun K hK => OW.run [1, 2, 3, 8, 9, 10] ?_
       simp only [go_sem, simprocAttr, sw0]
       refine OW.nil (hK _ ?_)
       refine PW.block ?_
       refine PW.loopS (σ := Bool × Int) [1, 2, 3, 8, 9, 10] 1 (fun (right1, i) => [(9, .d (Bo right1)), (10, .d (I i))]) (fun (right1, i) => [{ cells := [.d (I Zp), .d (.list Zq.length (Zq.flatMap (fun (x : Int × Int) => [(I x.1), (I x.2)])))], e := 24 }]) (ref09_kinds.b2 N Zp Zq have_ kind K_2) r N (true, (0 : Int)) (by exact Nat.zero_le _) H (by (simp only [sw1, go_sem, simprocAttr]; done)) ?_
       rintro n ⟨right1, i⟩ H N7 hN7
       unfold ref09_kinds.b2 at H
       try simp only [go_sem, simprocAttr]
       refine PW.seq ?_
       refine PW.seq ?_
       refine PW.regionK fun K hK => OW.run [1, 2, 3, 8, 9, 10, 27] ?_
       simp only [go_sem, simprocAttr, sw0]
       refine OW.nil (hK _ ?_)
       refine PW.cond rfl (fun h8 => ?_) (fun h8 => ?_)
       ·
        replace H := br_t h8 H
        refine PW.skip ?_
        refine PW.seq ?_
        refine PW.block ?_
        obtain ⟨c9, H⟩ := chk_some H
        obtain ⟨x1, e1, H⟩ := bnd_some H
        refine PW.regionK fun K hK => ?_
        refine OW.toS [(1, .d (I count)), (2, .d (L have_)), (3, .ptr 0 0), (8, .d (I kind)), (9, .d (Bo (right1 && (((have_.getD i.toNat 0) != kind) || (!x1))))), (10, .d (I i))] [{ cells := [.d (I Zp), .d (.list Zq.length (Zq.flatMap (fun (x : Int × Int) => [(I x.1), (I x.2)])))], e := 24 }] ?_ (hK _ ?_)
        ·
         intro K hKE
         rcases Bool.eq_false_or_eq_true (right1) with ha0 | ha0
         ·
          rcases Bool.eq_false_or_eq_true (((have_.getD i.toNat 0) != kind)) with ha1 | ha1
          ·
           try simp only [ha0, ha1, sb0, true_implies, false_implies, forall_const] at c9
           refine OW.run [1, 2, 3, 8, 9, 10] ?_
           (simp only [go_sem, simprocAttr, sw0, ha0, ha1])
           repeat (refine And.intro (by first | omega | (intro hg; have hq := c9 (by first | exact hg | simpa using hg); first | omega | exact hq | (simp only [List.length_map]; omega)) | (first | omega | assumption | rfl | decide | (simp only [List.length_map, List.length_replicate, List.length_append, List.length_take, List.length_drop, List.length_set, List.length_cons, List.length_nil, Nat.zero_add, Int.toNat_natCast] at *; omega) | (simp only [List.length_map, List.length_replicate, List.length_append, List.length_take, List.length_drop, List.length_set, List.length_cons, List.length_nil, Nat.zero_add, Int.toNat_natCast]; done) | trivial)) ?_)
           refine OW.callGh' 4 rfl rfl ?_ (fun hg => by first | rfl | (simp only [go_sem, ↓reduceIte]; rfl)) (fun hg => by (first | ((simp only [go_sem, List.toList_toArray, simprocAttr, ha0, ha1]); exact rfl) | exact rfl)) (fun hg => ?_) (fun hg => (ref09_IsNear_ok N _ _ _ _ _ (grd_t hg e1))) ?_ ?_ ?_ ?_
           · (first | rfl | (simp only [go_sem, simprocAttr, ha0, ha1]; done) | (simp only [go_sem, simprocAttr, ha0, ha1]; rfl))
           · first | (rfl; done) | (exfalso; simp only [ha0, ha1, sb0] at hg)
           · intro hg; first | ((refine okAll_intro ?_; (simp only [go_sem, sw2, List.length_set, List.length_replicate, and_true, true_and, Nat.le_refl, simprocAttr]; done)); done) | (exfalso; simp only [ha0, ha1, sb0] at hg)
           · exact .inl rfl
           · (simp only [go_sem, Nat.reduceLT])
           refine OW.run [1, 2, 3, 8, 9, 10] ?_
           (simp only [go_sem, simprocAttr, sw0, ha0, ha1])
           repeat (refine And.intro (by first | omega | (intro hg; have hq := c9 (by first | exact hg | simpa using hg); first | omega | exact hq | (simp only [List.length_map]; omega)) | (first | omega | assumption | rfl | decide | (simp only [List.length_map, List.length_replicate, List.length_append, List.length_take, List.length_drop, List.length_set, List.length_cons, List.length_nil, Nat.zero_add, Int.toNat_natCast] at *; omega) | (simp only [List.length_map, List.length_replicate, List.length_append, List.length_take, List.length_drop, List.length_set, List.length_cons, List.length_nil, Nat.zero_add, Int.toNat_natCast]; done) | trivial)) ?_)
           refine OW.nil ((congrArg K ?_).mpr hKE)
           (first | rfl | (simp only [go_sem, simprocAttr, ha0, ha1]; done) | (simp only [go_sem, simprocAttr, ha0, ha1]; rfl))
          ·
           try simp only [ha0, ha1, sb0, true_implies, false_implies, forall_const] at c9
           refine OW.run [1, 2, 3, 8, 9, 10] ?_
           (simp only [go_sem, simprocAttr, sw0, ha0, ha1])
           repeat (refine And.intro (by first | omega | (intro hg; have hq := c9 (by first | exact hg | simpa using hg); first | omega | exact hq | (simp only [List.length_map]; omega)) | (first | omega | assumption | rfl | decide | (simp only [List.length_map, List.length_replicate, List.length_append, List.length_take, List.length_drop, List.length_set, List.length_cons, List.length_nil, Nat.zero_add, Int.toNat_natCast] at *; omega) | (simp only [List.length_map, List.length_replicate, List.length_append, List.length_take, List.length_drop, List.length_set, List.length_cons, List.length_nil, Nat.zero_add, Int.toNat_natCast]; done) | trivial)) ?_)
           refine OW.callGh' 4 rfl rfl ?_ (fun hg => by first | rfl | (simp only [go_sem, ↓reduceIte]; rfl)) (fun hg => by (first | ((simp only [go_sem, List.toList_toArray, simprocAttr, ha0, ha1]); exact rfl) | exact rfl)) (fun hg => ?_) (fun hg => (ref09_IsNear_ok N _ _ _ _ _ (grd_t hg e1))) ?_ ?_ ?_ ?_
           · (first | rfl | (simp only [go_sem, simprocAttr, ha0, ha1]; done) | (simp only [go_sem, simprocAttr, ha0, ha1]; rfl))
           · first | (rfl; done) | (exfalso; simp only [ha0, ha1, sb0] at hg)
           · intro hg; first | ((refine okAll_intro ?_; (simp only [go_sem, sw2, List.length_set, List.length_replicate, and_true, true_and, Nat.le_refl, simprocAttr]; done)); done) | (exfalso; simp only [ha0, ha1, sb0] at hg)
           · exact .inl rfl
           · (simp only [go_sem, Nat.reduceLT])
           refine OW.run [1, 2, 3, 8, 9, 10] ?_
           (simp only [go_sem, simprocAttr, sw0, ha0, ha1])
           repeat (refine And.intro (by first | omega | (intro hg; have hq := c9 (by first | exact hg | simpa using hg); first | omega | exact hq | (simp only [List.length_map]; omega)) | (first | omega | assumption | rfl | decide | (simp only [List.length_map, List.length_replicate, List.length_append, List.length_take, List.length_drop, List.length_set, List.length_cons, List.length_nil, Nat.zero_add, Int.toNat_natCast] at *; omega) | (simp only [List.length_map, List.length_replicate, List.length_append, List.length_take, List.length_drop, List.length_set, List.length_cons, List.length_nil, Nat.zero_add, Int.toNat_natCast]; done) | trivial)) ?_)
           refine OW.nil ((congrArg K ?_).mpr hKE)
           (first | rfl | (simp only [go_sem, simprocAttr, ha0, ha1]; done) | (simp only [go_sem, simprocAttr, ha0, ha1]; rfl))
         ·
          try simp only [ha0, sb0, true_implies, false_implies, forall_const] at c9
          refine OW.run [1, 2, 3, 8, 9, 10] ?_
          (simp only [go_sem, simprocAttr, sw0, ha0])
          repeat (refine And.intro (by first | omega | (intro hg; have hq := c9 (by first | exact hg | simpa using hg); first | omega | exact hq | (simp only [List.length_map]; omega)) | (first | omega | assumption | rfl | decide | (simp only [List.length_map, List.length_replicate, List.length_append, List.length_take, List.length_drop, List.length_set, List.length_cons, List.length_nil, Nat.zero_add, Int.toNat_natCast] at *; omega) | (simp only [List.length_map, List.length_replicate, List.length_append, List.length_take, List.length_drop, List.length_set, List.length_cons, List.length_nil, Nat.zero_add, Int.toNat_natCast]; done) | trivial)) ?_)
          refine OW.callGh' 4 rfl rfl ?_ (fun hg => by first | rfl | (simp only [go_sem, ↓reduceIte]; rfl)) (fun hg => by (first | ((simp only [go_sem, List.toList_toArray, simprocAttr, ha0]); exact rfl) | exact rfl)) (fun hg => ?_) (fun hg => (ref09_IsNear_ok N _ _ _ _ _ (grd_t hg e1))) ?_ ?_ ?_ ?_
          · (first | rfl | (simp only [go_sem, simprocAttr, ha0]; done) | (simp only [go_sem, simprocAttr, ha0]; rfl))
          · first | (rfl; done) | (exfalso; simp only [ha0, sb0] at hg)
          · intro hg; first | ((refine okAll_intro ?_; (simp only [go_sem, sw2, List.length_set, List.length_replicate, and_true, true_and, Nat.le_refl, simprocAttr]; done)); done) | (exfalso; simp only [ha0, sb0] at hg)
          · exact .inl rfl
          · (simp only [go_sem, Nat.reduceLT])
          refine OW.run [1, 2, 3, 8, 9, 10] ?_
          (simp only [go_sem, simprocAttr, sw0, ha0])
          repeat (refine And.intro (by first | omega | (intro hg; have hq := c9 (by first | exact hg | simpa using hg); first | omega | exact hq | (simp only [List.length_map]; omega)) | (first | omega | assumption | rfl | decide | (simp only [List.length_map, List.length_replicate, List.length_append, List.length_take, List.length_drop, List.length_set, List.length_cons, List.length_nil, Nat.zero_add, Int.toNat_natCast] at *; omega) | (simp only [List.length_map, List.length_replicate, List.length_append, List.length_take, List.length_drop, List.length_set, List.length_cons, List.length_nil, Nat.zero_add, Int.toNat_natCast]; done) | trivial)) ?_)
          refine OW.nil ((congrArg K ?_).mpr hKE)
          (first | rfl | (simp only [go_sem, simprocAttr, ha0]; done) | (simp only [go_sem, simprocAttr, ha0]; rfl))
        clear hK K
        refine PW.regionK fun K hK => OW.run [1, 2, 3, 8, 9, 10] ?_
        simp only [go_sem, simprocAttr, sw0]
        refine OW.nil (hK _ ?_)
        refine hN7 [] ((right1 && (((have_.getD i.toNat 0) != kind) || (!x1))), w64 (i + (1 : Int))) _ H (by exact trivial) ?_
        (simp only [sw1, go_sem, simprocAttr]; done)
       ·
        replace H := br_f h8 H
        refine PW.exit ?_
        refine hN6 [] right1 _ H (by exact trivial) ?_
        (simp only [sw1, go_sem, simprocAttr]; done)
      ·
       rintro right H
       try simp only [go_sem, simprocAttr]
       refine PW.seq ?_
       refine PW.seq ?_
       refine PW.regionK fun K hK => OW.run [1, 2, 3, 8, 48] ?_
       simp only [go_sem, simprocAttr, sw0]
       refine OW.nil (hK _ ?_)
       refine PW.cond rfl (fun h10 => ?_) (fun h10 => ?_)
       ·
        replace H := br_t h10 H
        refine PW.exit ?_
        refine hN5 [] () _ H (by exact trivial) ?_
        (simp only [sw1, go_sem, simprocAttr]; done)
       ·
        replace H := br_f h10 H
        refine PW.skip ?_
        refine PW.seq ?_
        obtain ⟨x2, e2, H⟩ := bnd_some H
        obtain ⟨c11, H⟩ := chk_some H
        have c11q := c11
        simp only [List.length_cons, List.length_nil] at c11q
        obtain ⟨⟨x3, x31⟩, e3, H⟩ := bnd_some H
        refine PW.drawX 12 [3, 6, 7] (fun j => List.getD [[{ cells := [.d (I Zp), .d (.list Zq.length (Zq.flatMap (fun (x : Int × Int) => [(I x.1), (I x.2)])))], e := 24 }], [{ cells := [.d (I Zp), .d (.list Zq.length (Zq.flatMap (fun (x : Int × Int) => [(I x.1), (I x.2)])))], e := 24 }, { cells := (x2.map I).map .d, e := 3 }], [{ cells := [.d (I Zp), .d (.list Zq.length (Zq.flatMap (fun (x : Int × Int) => [(I x.1), (I x.2)])))], e := 24 }, { cells := ((x2 ++ ([kind] : List Int)).map I).map .d, e := 3 }], [{ cells := [.d (I Zp), .d (.list Zq.length (Zq.flatMap (fun (x : Int × Int) => [(I x.1), (I x.2)])))], e := 24 }, { cells := [], e := 3 }]] j []) (κL [(1, 1), (2, 1)]) mixed (by kernel_rfl) (by decide) (by ((refine ⟨by decide, ?_⟩; intro k i i' h1 h2 o ho; match k, h1, h2 with | 0, h1, h2 => (simp at h1 h2 <;> first | (cases h2; done) | (subst h1; subst h2; simp at ho; subst ho; simp [Region.binds]; done)) | 1, h1, h2 => (simp at h1 h2 <;> first | (cases h2; done) | (subst h1; subst h2; simp at ho; subst ho; simp [Region.binds]; done)) | 2, h1, h2 => (simp at h1 h2 <;> first | (cases h2; done) | (subst h1; subst h2; simp at ho; subst ho; simp [Region.binds]; done)) | k + 3, h1, h2 => (simp at h2; done)))) (κL_dead _) (by decide) (freshL rfl) rfl rfl fun K hK => ?_
        change FWX _ _ _ _ _ _ _ _ _ _
        refine FWX.op (by decide) rfl (.agg [.d (I Zp), .d (.list Zq.length (Zq.flatMap (fun (x : Int × Int) => [(I x.1), (I x.2)])))]) 0 2 (.inl rfl) (.inr ⟨_, _, { on := 0, ground := .data }, rfl, rfl, by simp, rfl, rfl⟩) ?_ ?_ (by (simp only [go_sem, Nat.reduceLT])) ?_
        ·
         intro j hj1 hj2
         have hj : j = 0 ∨ j = 1 ∨ j = 2 := by omega
         rcases hj with rfl | rfl | rfl
         all_goals (refine ⟨?_, ?_⟩)
         all_goals (first | rfl | trivial | (simp only [go_sem, simprocAttr, sw0]; first | done | rfl | omega | assumption | decide | (simp only [List.append_assoc, List.cons_append, List.nil_append]; done) | (simp only [List.flatMap_append, List.map_append]; first | done | rfl) | ((repeat (refine And.intro (by first | rfl | omega | assumption | decide) ?_)); first | rfl | omega | assumption | decide)))
        ·
         refine KeptX.free [53, 56] (by first | rfl | (simp only [V.kill]; exact if_neg (by omega))) ?_ (by kernel_rfl) ?_
         · repeat (first | exact fun _ h => absurd h List.not_mem_nil | (refine List.forall_mem_cons.2 (And.intro ?_ ?_); · first | exact .inr rfl | (left; simp; done) | (right; simp only [V.kill, ↓reduceIte]; first | rfl | exact if_neg (by omega) | (simp only [V.kill, V.kill.kills, ↓reduceIte]; done))))
         refine KeptX.dep rfl rfl ⟨{ on := 0, ground := .data }, by simp, rfl, rfl⟩ ?_
         exact KeptX.nil
        try simp only [go_sem, simprocAttr]
        refine FWX.op (by decide) rfl (.d (I count)) 0 2 (.inl rfl) (.inr ⟨_, _, { on := 1, ground := .data }, rfl, rfl, by simp, rfl, rfl⟩) ?_ ?_ (by (simp only [go_sem, Nat.reduceLT])) ?_
        ·
         intro j hj1 hj2
         have hj : j = 0 ∨ j = 1 ∨ j = 2 := by omega
         rcases hj with rfl | rfl | rfl
         all_goals (refine ⟨?_, ?_⟩)
         all_goals (first | rfl | trivial | (simp only [go_sem, simprocAttr, sw0]; first | done | rfl | omega | assumption | decide | (simp only [List.append_assoc, List.cons_append, List.nil_append]; done) | (simp only [List.flatMap_append, List.map_append]; first | done | rfl) | ((repeat (refine And.intro (by first | rfl | omega | assumption | decide) ?_)); first | rfl | omega | assumption | decide)))
        ·
         refine KeptX.free [53, 56] (by first | rfl | (simp only [V.kill]; exact if_neg (by omega))) ?_ (by kernel_rfl) ?_
         · repeat (first | exact fun _ h => absurd h List.not_mem_nil | (refine List.forall_mem_cons.2 (And.intro ?_ ?_); · first | exact .inr rfl | (left; simp; done) | (right; simp only [V.kill, ↓reduceIte]; first | rfl | exact if_neg (by omega) | (simp only [V.kill, V.kill.kills, ↓reduceIte]; done))))
         refine KeptX.dep rfl rfl ⟨{ on := 1, ground := .data }, by simp, rfl, rfl⟩ ?_
         exact KeptX.nil
        try simp only [go_sem, simprocAttr]
        refine FWX.op (by decide) rfl (.d (L have_)) 0 0 (.inl rfl) (.inr ⟨_, _, { on := 2, ground := .data }, rfl, rfl, by simp, rfl, rfl⟩) ?_ ?_ (by (simp only [go_sem, Nat.reduceLT])) ?_
        ·
         intro j hj1 hj2
         have hj : j = 0 := by omega
         subst hj
         all_goals (refine ⟨?_, ?_⟩)
         all_goals (first | rfl | trivial | (simp only [go_sem, simprocAttr, sw0]; first | done | rfl | omega | assumption | decide | (simp only [List.append_assoc, List.cons_append, List.nil_append]; done) | (simp only [List.flatMap_append, List.map_append]; first | done | rfl) | ((repeat (refine And.intro (by first | rfl | omega | assumption | decide) ?_)); first | rfl | omega | assumption | decide)))
        ·
         refine KeptX.free [53, 56] (by first | rfl | (simp only [V.kill]; exact if_neg (by omega))) ?_ (by kernel_rfl) ?_
         · repeat (first | exact fun _ h => absurd h List.not_mem_nil | (refine List.forall_mem_cons.2 (And.intro ?_ ?_); · first | exact .inr rfl | (left; simp; done) | (right; simp only [V.kill, ↓reduceIte]; first | rfl | exact if_neg (by omega) | (simp only [V.kill, V.kill.kills, ↓reduceIte]; done))))
         refine KeptX.free [53, 56] (by first | rfl | (simp only [V.kill]; exact if_neg (by omega))) ?_ (by kernel_rfl) ?_
         · repeat (first | exact fun _ h => absurd h List.not_mem_nil | (refine List.forall_mem_cons.2 (And.intro ?_ ?_); · first | exact .inr rfl | (left; simp; done) | (right; simp only [V.kill, ↓reduceIte]; first | rfl | exact if_neg (by omega) | (simp only [V.kill, V.kill.kills, ↓reduceIte]; done))))
         exact KeptX.nil
        try simp only [go_sem, simprocAttr]
        refine FWX.callM (q := 0) (by decide) rfl rfl rfl rfl (CallM.ofOwn' (r' := .own 1 0 x2.length 1) 4 (base_CopyInts_ok N _ _ e2) ?_ ?_ ?_ ?_ ?_) (by (simp only [go_sem]; done)) (fun _ => rfl) (by (simp only [go_sem, Nat.reduceLT])) ?_
        · rfl
        · exact okD_all rfl
        · rfl
        · rfl
        · first | rfl | (simp only [go_sem, simprocAttr, sw0]; done) | (simp only [go_sem, simprocAttr, sw0]; rfl)
        try simp only [go_sem, simprocAttr]
        refine FWX.op (by decide) rfl (.d (I kind)) 0 3 (.inl rfl) (.inl rfl) ?_ ?_ (by (simp only [go_sem, Nat.reduceLT])) ?_
        ·
         intro j hj1 hj2
         have hj : j = 0 ∨ j = 1 ∨ j = 2 ∨ j = 3 := by omega
         rcases hj with rfl | rfl | rfl | rfl
         all_goals (refine ⟨?_, ?_⟩)
         all_goals (first | rfl | trivial | (simp only [go_sem, simprocAttr, sw0]; first | done | rfl | omega | assumption | decide | (simp only [List.append_assoc, List.cons_append, List.nil_append]; done) | (simp only [List.flatMap_append, List.map_append]; first | done | rfl) | ((repeat (refine And.intro (by first | rfl | omega | assumption | decide) ?_)); first | rfl | omega | assumption | decide)))
        ·
         refine KeptX.free [53, 56] (by first | rfl | (simp only [V.kill]; exact if_neg (by omega))) ?_ (by kernel_rfl) ?_
         · repeat (first | exact fun _ h => absurd h List.not_mem_nil | (refine List.forall_mem_cons.2 (And.intro ?_ ?_); · first | exact .inr rfl | (left; simp; done) | (right; simp only [V.kill, ↓reduceIte]; first | rfl | exact if_neg (by omega) | (simp only [V.kill, V.kill.kills, ↓reduceIte]; done))))
         refine KeptX.free [53, 56] (by first | rfl | (simp only [V.kill]; exact if_neg (by omega))) ?_ (by kernel_rfl) ?_
         · repeat (first | exact fun _ h => absurd h List.not_mem_nil | (refine List.forall_mem_cons.2 (And.intro ?_ ?_); · first | exact .inr rfl | (left; simp; done) | (right; simp only [V.kill, ↓reduceIte]; first | rfl | exact if_neg (by omega) | (simp only [V.kill, V.kill.kills, ↓reduceIte]; done))))
         exact KeptX.nil
        try simp only [go_sem, simprocAttr]
        refine FWX.op (by decide) rfl (.d (L ([kind] : List Int))) 0 1 (.inl rfl) (.inr ⟨_, _, { on := 5, ground := .data }, rfl, rfl, by simp, rfl, rfl⟩) ?_ ?_ (by (simp only [go_sem, Nat.reduceLT])) ?_
        ·
         intro j hj1 hj2
         have hj : j = 0 ∨ j = 1 := by omega
         rcases hj with rfl | rfl
         all_goals (refine ⟨?_, ?_⟩)
         all_goals (first | rfl | trivial | (simp only [go_sem, simprocAttr, sw0]; first | done | rfl | omega | assumption | decide | (simp only [List.append_assoc, List.cons_append, List.nil_append]; done) | (simp only [List.flatMap_append, List.map_append]; first | done | rfl) | ((repeat (refine And.intro (by first | rfl | omega | assumption | decide) ?_)); first | rfl | omega | assumption | decide)))
        ·
         refine KeptX.dep rfl rfl ⟨{ on := 5, ground := .data }, by simp, rfl, rfl⟩ ?_
         refine KeptX.free [53, 56] (by first | rfl | (simp only [V.kill]; exact if_neg (by omega))) ?_ (by kernel_rfl) ?_
         · repeat (first | exact fun _ h => absurd h List.not_mem_nil | (refine List.forall_mem_cons.2 (And.intro ?_ ?_); · first | exact .inr rfl | (left; simp; done) | (right; simp only [V.kill, ↓reduceIte]; first | rfl | exact if_neg (by omega) | (simp only [V.kill, V.kill.kills, ↓reduceIte]; done))))
         exact KeptX.nil
        try simp only [go_sem, simprocAttr]
        refine FWX.append 1 (q := 1) (by decide) rfl rfl rfl rfl (Nat.le_of_ble_eq_true rfl) rfl (by first | decide | (first | exact Nat.le_refl _ | exact Nat.zero_le _ | (simp only [go_sem]; omega))) (.own 1 0 ((x2 ++ ([kind] : List Int)).length) 1) ?_ rfl ?_ ?_ ?_
        ·
         refine FreeX.of' rfl [53] ?_ (by kernel_rfl)
         repeat (first | exact fun _ h => absurd h List.not_mem_nil | (refine List.forall_mem_cons.2 (And.intro ?_ ?_); · first | exact .inr rfl | (left; simp; done) | (right; simp only [V.kill, ↓reduceIte]; first | rfl | exact if_neg (by omega) | (simp only [V.kill, V.kill.kills, ↓reduceIte]; done))))
        · first | trivial | (simp only [go_sem, simprocAttr, sw0]; done) | (simp only [go_sem, simprocAttr, sw0]; first | omega | (repeat (refine And.intro (by (first | omega | assumption | rfl | decide | (simp only [List.length_map, List.length_replicate, List.length_append, List.length_take, List.length_drop, List.length_set, List.length_cons, List.length_nil, Nat.zero_add, Int.toNat_natCast] at *; omega) | (simp only [List.length_map, List.length_replicate, List.length_append, List.length_take, List.length_drop, List.length_set, List.length_cons, List.length_nil, Nat.zero_add, Int.toNat_natCast]; done) | trivial)) ?_); (first | omega | assumption | rfl | decide | (simp only [List.length_map, List.length_replicate, List.length_append, List.length_take, List.length_drop, List.length_set, List.length_cons, List.length_nil, Nat.zero_add, Int.toNat_natCast] at *; omega) | (simp only [List.length_map, List.length_replicate, List.length_append, List.length_take, List.length_drop, List.length_set, List.length_cons, List.length_nil, Nat.zero_add, Int.toNat_natCast]; done) | trivial)))
        · first | rfl | (simp only [go_sem, simprocAttr, sw0]; done) | (simp only [go_sem, simprocAttr, sw0]; rfl) | (simp only [go_sem, simprocAttr, sw0]; simp only [List.append_assoc, List.cons_append, List.nil_append]; done) | (simp only [go_sem, simprocAttr, sw0]; simp only [List.flatMap_append, List.map_append]; done) | (simp only [go_sem, simprocAttr, sw0]; simp only [List.flatMap_append, List.map_append]; rfl)
        try simp only [go_sem, simprocAttr, sw0]
        refine FWX.callMk 1 (q := 2) (by decide) rfl rfl rfl rfl (CallM.ofData' 1 4 (ih _ _ _ _ _ e3) rfl ?_ ?_ ?_ ?_ ?_) (by exact Nat.le_refl _) (fun _ => rfl) (by first | decide | (first | exact Nat.le_refl _ | exact Nat.zero_le _ | (simp only [go_sem]; omega))) ?_ (by (simp only [go_sem, Nat.reduceLT])) ?_
        · (simp only [go_sem, isD, allD_mapV]; done)
        · rfl
        · first | ((first | exact trivial | exact okD_all rfl | (refine okAll_intro ?_; (first | (simp only [go_sem, sw2, List.length_set, List.length_replicate, and_true, true_and, Nat.le_refl, simprocAttr]; done) | (simp only [go_sem, sw2, List.length_set, List.length_replicate, and_true, true_and, Nat.le_refl, simprocAttr]; omega) | (simp only [go_sem, sw2, List.length_set, List.length_replicate, and_true, true_and, Nat.le_refl, simprocAttr]; simp only [seg, go_sem, sw2, List.length_set, List.length_replicate, and_true, true_and, Nat.le_refl, simprocAttr]; done) | (simp only [go_sem, sw2, List.length_set, List.length_replicate, and_true, true_and, Nat.le_refl, simprocAttr]; simp only [seg, go_sem, sw2, List.length_set, List.length_replicate, and_true, true_and, Nat.le_refl, simprocAttr]; omega) | (simp only [go_sem, sw2, List.length_set, List.length_replicate, and_true, true_and, Nat.le_refl, simprocAttr, List.length_take, List.length_drop]; omega) | (simp only [go_sem, sw2, List.length_append, List.length_map, List.length_cons, List.length_nil, List.length_set, List.length_replicate, and_true, true_and, Nat.le_refl, Nat.zero_add, simprocAttr]; done) | (simp only [go_sem, sw2, List.length_append, List.length_map, List.length_cons, List.length_nil, List.length_set, List.length_replicate, and_true, true_and, Nat.le_refl, Nat.zero_add, simprocAttr]; omega))) | (first | (simp only [go_sem, sw2, List.length_set, List.length_replicate, and_true, true_and, Nat.le_refl, simprocAttr]; done) | (simp only [go_sem, sw2, List.length_set, List.length_replicate, and_true, true_and, Nat.le_refl, simprocAttr]; omega) | (simp only [go_sem, sw2, List.length_set, List.length_replicate, and_true, true_and, Nat.le_refl, simprocAttr]; simp only [seg, go_sem, sw2, List.length_set, List.length_replicate, and_true, true_and, Nat.le_refl, simprocAttr]; done) | (simp only [go_sem, sw2, List.length_set, List.length_replicate, and_true, true_and, Nat.le_refl, simprocAttr]; simp only [seg, go_sem, sw2, List.length_set, List.length_replicate, and_true, true_and, Nat.le_refl, simprocAttr]; omega) | (simp only [go_sem, sw2, List.length_set, List.length_replicate, and_true, true_and, Nat.le_refl, simprocAttr, List.length_take, List.length_drop]; omega) | (simp only [go_sem, sw2, List.length_append, List.length_map, List.length_cons, List.length_nil, List.length_set, List.length_replicate, and_true, true_and, Nat.le_refl, Nat.zero_add, simprocAttr]; done) | (simp only [go_sem, sw2, List.length_append, List.length_map, List.length_cons, List.length_nil, List.length_set, List.length_replicate, and_true, true_and, Nat.le_refl, Nat.zero_add, simprocAttr]; omega))); done) | (simp only [map_nz_I, map_nz_Bo, map_nz_Sx, map_nz_L, nz_int, nz_bool, nz_str, nz_list, nz_ref, nz_nil, go_sem, simprocAttr]; (refine okAll_intro ?_; (simp only [go_sem, sw2, List.length_set, List.length_replicate, and_true, true_and, Nat.le_refl, simprocAttr]; done)); done)
        · first | ((((simp only [go_sem, sw1, simprocAttr]; try simp only [seg, go_sem, simprocAttr])); (repeat' (first | rfl | (refine list_congr ?_; simp only [List.length_take, List.length_drop, List.length_set, List.length_replicate] <;> omega) | (refine congr (congrArg List.cons ?_) ?_) | (refine congrArg D.agg ?_) | (refine congrArg D.tup ?_) | (refine congrArg D.ref ?_) | (refine congrArg (D.list _) ?_) | (refine congrArg (D.clo _) ?_)))); done) | (simp only [map_nz_I, map_nz_Bo, map_nz_Sx, map_nz_L, nz_int, nz_bool, nz_str, nz_list, nz_ref, nz_nil, go_sem, simprocAttr]; done) | (simp only [map_nz_I, map_nz_Bo, map_nz_Sx, map_nz_L, nz_int, nz_bool, nz_str, nz_list, nz_ref, nz_nil, go_sem, simprocAttr]; (((simp only [go_sem, sw1, simprocAttr]; try simp only [seg, go_sem, simprocAttr])); simp only [take_app1, L_app1]; done); done) | (simp only [map_nz_I, map_nz_Bo, map_nz_Sx, map_nz_L, nz_int, nz_bool, nz_str, nz_list, nz_ref, nz_nil, go_sem, simprocAttr]; (first | (simp only [sw1, go_sem, simprocAttr]; done) | (simp only [sw1, go_sem, simprocAttr]; rfl) | (simp only [sw1, go_sem, simprocAttr]; simp only [List.length_set, List.length_append, List.length_cons, List.length_nil, Nat.zero_add, List.map_set, List.map_append, List.map_cons, List.map_nil]; done) | (simp only [sw1, go_sem, simprocAttr]; simp only [List.length_set, List.length_append, List.length_cons, List.length_nil, Nat.zero_add, List.map_set, List.map_append, List.map_cons, List.map_nil]; simp only [cut_mapD, V.cut]; done) | (simp only [sw1, go_sem, simprocAttr]; simp only [List.length_set, List.length_append, List.length_cons, List.length_nil, Nat.zero_add, List.map_set, List.map_append, List.map_cons, List.map_nil, List.flatMap_append, List.flatMap_cons, List.flatMap_nil, List.append_nil, List.cons_append, List.nil_append]; done) | (simp only [sw1, go_sem, simprocAttr]; simp only [List.length_set, List.length_append, List.length_cons, List.length_nil, Nat.zero_add, List.map_set, List.map_append, List.map_cons, List.map_nil, List.flatMap_append, List.flatMap_cons, List.flatMap_nil, List.append_nil, List.cons_append, List.nil_append]; rfl) | rfl); done)
        · first | rfl | (simp only [go_sem, simprocAttr, sw0]; done) | (simp only [go_sem, simprocAttr, sw0]; rfl)
        ·
         refine FreeX.of' rfl [53, 56] ?_ (by kernel_rfl)
         repeat (first | exact fun _ h => absurd h List.not_mem_nil | (refine List.forall_mem_cons.2 (And.intro ?_ ?_); · first | exact .inr rfl | (left; simp; done) | (right; simp only [V.kill, ↓reduceIte]; first | rfl | exact if_neg (by omega) | (simp only [V.kill, V.kill.kills, ↓reduceIte]; done))))
        try simp only [go_sem, simprocAttr]
        refine FWX.op (by decide) rfl (.d (.tup [(L x3), (Bo x31)])) 3 3 (.inr ⟨{ on := 7, ground := .data }, by simp, rfl, rfl⟩) (.inl rfl) ?_ ?_ (by (simp only [go_sem, Nat.reduceLT])) ?_
        ·
         intro j hj1 hj2
         have hj : j = 3 := by omega
         subst hj
         all_goals (refine ⟨?_, ?_⟩)
         all_goals (first | rfl | trivial | (simp only [go_sem, simprocAttr, sw0]; first | done | rfl | omega | assumption | decide | (simp only [List.append_assoc, List.cons_append, List.nil_append]; done) | (simp only [List.flatMap_append, List.map_append]; first | done | rfl) | ((repeat (refine And.intro (by first | rfl | omega | assumption | decide) ?_)); first | rfl | omega | assumption | decide)))
        ·
         refine KeptX.free [53, 56] (by first | rfl | (simp only [V.kill]; exact if_neg (by omega))) ?_ (by kernel_rfl) ?_
         · repeat (first | exact fun _ h => absurd h List.not_mem_nil | (refine List.forall_mem_cons.2 (And.intro ?_ ?_); · first | exact .inr rfl | (left; simp; done) | (right; simp only [V.kill, ↓reduceIte]; first | rfl | exact if_neg (by omega) | (simp only [V.kill, V.kill.kills, ↓reduceIte]; done))))
         refine KeptX.depR rfl ⟨{ on := 7, ground := .data }, by simp, rfl, rfl⟩ ?_
         exact KeptX.nil
        try simp only [go_sem, simprocAttr]
        refine FWX.op (by decide) rfl (.d (L x3)) 0 3 (.inl rfl) (.inl rfl) ?_ ?_ (by (simp only [go_sem, Nat.reduceLT])) ?_
        ·
         intro j hj1 hj2
         have hj : j = 0 ∨ j = 1 ∨ j = 2 ∨ j = 3 := by omega
         rcases hj with rfl | rfl | rfl | rfl
         all_goals (refine ⟨?_, ?_⟩)
         all_goals (first | rfl | trivial | (simp only [go_sem, simprocAttr, sw0]; first | done | rfl | omega | assumption | decide | (simp only [List.append_assoc, List.cons_append, List.nil_append]; done) | (simp only [List.flatMap_append, List.map_append]; first | done | rfl) | ((repeat (refine And.intro (by first | rfl | omega | assumption | decide) ?_)); first | rfl | omega | assumption | decide)))
        ·
         refine KeptX.free [53, 56] (by first | rfl | (simp only [V.kill]; exact if_neg (by omega))) ?_ (by kernel_rfl) ?_
         · repeat (first | exact fun _ h => absurd h List.not_mem_nil | (refine List.forall_mem_cons.2 (And.intro ?_ ?_); · first | exact .inr rfl | (left; simp; done) | (right; simp only [V.kill, ↓reduceIte]; first | rfl | exact if_neg (by omega) | (simp only [V.kill, V.kill.kills, ↓reduceIte]; done))))
         refine KeptX.free [53, 56] (by first | rfl | (simp only [V.kill]; exact if_neg (by omega))) ?_ (by kernel_rfl) ?_
         · repeat (first | exact fun _ h => absurd h List.not_mem_nil | (refine List.forall_mem_cons.2 (And.intro ?_ ?_); · first | exact .inr rfl | (left; simp; done) | (right; simp only [V.kill, ↓reduceIte]; first | rfl | exact if_neg (by omega) | (simp only [V.kill, V.kill.kills, ↓reduceIte]; done))))
         exact KeptX.nil
        try simp only [go_sem, simprocAttr]
        refine FWX.op (by decide) rfl (.d (Bo x31)) 0 3 (.inl rfl) (.inl rfl) ?_ ?_ (by (simp only [go_sem, Nat.reduceLT])) ?_
        ·
         intro j hj1 hj2
         have hj : j = 0 ∨ j = 1 ∨ j = 2 ∨ j = 3 := by omega
         rcases hj with rfl | rfl | rfl | rfl
         all_goals (refine ⟨?_, ?_⟩)
         all_goals (first | rfl | trivial | (simp only [go_sem, simprocAttr, sw0]; first | done | rfl | omega | assumption | decide | (simp only [List.append_assoc, List.cons_append, List.nil_append]; done) | (simp only [List.flatMap_append, List.map_append]; first | done | rfl) | ((repeat (refine And.intro (by first | rfl | omega | assumption | decide) ?_)); first | rfl | omega | assumption | decide)))
        ·
         refine KeptX.free [53, 56] (by first | rfl | (simp only [V.kill]; exact if_neg (by omega))) ?_ (by kernel_rfl) ?_
         · repeat (first | exact fun _ h => absurd h List.not_mem_nil | (refine List.forall_mem_cons.2 (And.intro ?_ ?_); · first | exact .inr rfl | (left; simp; done) | (right; simp only [V.kill, ↓reduceIte]; first | rfl | exact if_neg (by omega) | (simp only [V.kill, V.kill.kills, ↓reduceIte]; done))))
         refine KeptX.free [53, 56] (by first | rfl | (simp only [V.kill]; exact if_neg (by omega))) ?_ (by kernel_rfl) ?_
         · repeat (first | exact fun _ h => absurd h List.not_mem_nil | (refine List.forall_mem_cons.2 (And.intro ?_ ?_); · first | exact .inr rfl | (left; simp; done) | (right; simp only [V.kill, ↓reduceIte]; first | rfl | exact if_neg (by omega) | (simp only [V.kill, V.kill.kills, ↓reduceIte]; done))))
         exact KeptX.nil
        try simp only [go_sem, simprocAttr]
        refine FWX.op (by decide) rfl (.d (L x3)) 3 3 (.inr ⟨{ on := 7, ground := .chain }, by simp, rfl, rfl⟩) (.inl rfl) ?_ ?_ (by (simp only [go_sem, Nat.reduceLT])) ?_
        ·
         intro j hj1 hj2
         have hj : j = 3 := by omega
         subst hj
         all_goals (refine ⟨?_, ?_⟩)
         all_goals (first | rfl | trivial | (simp only [go_sem, simprocAttr, sw0]; first | done | rfl | omega | assumption | decide | (simp only [List.append_assoc, List.cons_append, List.nil_append]; done) | (simp only [List.flatMap_append, List.map_append]; first | done | rfl) | ((repeat (refine And.intro (by first | rfl | omega | assumption | decide) ?_)); first | rfl | omega | assumption | decide)))
        ·
         refine KeptX.depR rfl ⟨{ on := 6, ground := .phase }, by simp, rfl, rfl⟩ ?_
         refine KeptX.depR rfl ⟨{ on := 7, ground := .chain }, by simp, rfl, rfl⟩ ?_
         exact KeptX.nil
        try simp only [go_sem, simprocAttr]
        refine FWX.nil ?_
        change OW _ _ _ _ _ _
        change OW _ _ _ _ _ _
        refine OW.run [1, 2, 3, 8, 11, 12] ?_
        simp only [go_sem, simprocAttr, sw0]
        refine OW.nil (hK _ ?_)
        refine PW.seq ?_
        refine PW.regionK fun K hK => OW.run [1, 2, 3, 8, 11, 60] ?_
        simp only [go_sem, simprocAttr, sw0]
        refine OW.nil (hK _ ?_)
        refine PW.cond rfl (fun h12 => ?_) (fun h12 => ?_)
        ·
         replace H := br_t h12 H
         refine PW.seq ?_
         refine PW.regionK fun K hK => OW.run [6, 7] ?_
         simp only [go_sem, simprocAttr, sw0]
         refine OW.nil (hK _ ?_)
         refine PW.ret ?_
         change PW.Ends _ _ _ _ _ _
         refine PW.Ends.intro (.inr rfl) ?_
         simp only [go_sem, simprocAttr, sw0]
         obtain rfl := Option.some.inj H
         refine RetOK.data' 4 (by exact okD_all rfl) ?_
         rfl
        ·
         replace H := br_f h12 H
         refine PW.skip ?_
         refine hN5 [] () _ H (by exact trivial) ?_
         (simp only [sw1, go_sem, simprocAttr]; done)
     ·
      rintro _ H
      try simp only [go_sem, simprocAttr]
      refine PW.regionK fun K hK => OW.run [1, 2, 3, 8] ?_
      simp only [go_sem, simprocAttr, sw0]
      refine OW.nil (hK _ ?_)
      refine hN3 [] (w64 (kind + (1 : Int))) _ H (by exact trivial) ?_
      (simp only [sw1, go_sem, simprocAttr]; done)
    ·
     replace H := br_f h4 H
     refine PW.exit ?_
     refine hN2 [] () _ H (by exact trivial) ?_
     (simp only [sw1, go_sem, simprocAttr]; done)
   ·
    rintro _ H
    try simp only [go_sem, simprocAttr]
    refine PW.seq ?_
    refine PW.regionK fun K hK => OW.run [6, 7] ?_
    simp only [go_sem, simprocAttr, sw0]
    refine OW.nil (hK _ ?_)
    refine PW.ret ?_
    change PW.Ends _ _ _ _ _ _
    refine PW.Ends.intro (.inr rfl) ?_
    simp only [go_sem, simprocAttr, sw0]
    obtain rfl := Option.some.inj H
    refine RetOK.data' 4 (by exact okD_all rfl) ?_
    rfl
theorem ref09_kinds_ok (N : Nat) (Zp : Int) (Zq : List (Int × Int)) (count : Int) (have_ : List Int) (r : List Int × Bool) (H : ref09_kinds N Zp Zq count have_ = some r) : CallOK Try.prog 68 [(.agg [(I Zp), (.list Zq.length (Zq.flatMap (fun (x : Int × Int) => [(I x.1), (I x.2)])))]), (I count), (L have_)] (.d (.tup [(L r.1), (Bo r.2)])) [] := ref09_kinds_okr N  N Zp Zq count have_ r H

theorem ref09_FewestKinds_ok (N : Nat) (Zp : Int) (Zq : List (Int × Int)) (r : List Int × Int) (H : ref09_FewestKinds N Zp Zq = some r) : CallOK Try.prog 23 [(.agg [(I Zp), (.list Zq.length (Zq.flatMap (fun (x : Int × Int) => [(I x.1), (I x.2)])))])] (.d (.tup [(L r.1), (I r.2)])) [] := by
 refine CallOK.of_PW Try.func23 rfl (by rw [Try.results23]) Try.ntmps23 Try.call23 ?_
 change PW _ _ _ _ _
 try simp only [go_sem, simprocAttr]
 unfold ref09_FewestKinds at H
 refine PW.seq ?_
 refine PW.regionK fun K hK => OW.run [1] ?_
 simp only [go_sem, simprocAttr, sw0]
 refine OW.nil (hK _ ?_)
 refine PW.joinS (τ := Unit) [1] 1 (fun _ => []) (fun _ => [{ cells := [.d (I Zp), .d (.list Zq.length (Zq.flatMap (fun (x : Int × Int) => [(I x.1), (I x.2)])))], e := 24 }]) _ _ r (by exact Nat.zero_le _) H ?_ ?_
 intro K_ H N1 hN1
 refine PW.seq ?_
 refine PW.regionK fun K hK => OW.run [1, 4] ?_
 simp only [go_sem, simprocAttr, sw0]
 refine OW.nil (hK _ ?_)
 refine PW.block ?_
 refine PW.loopS (σ := Int) [1, 4] 1 (fun count => [(4, .d (I count))]) (fun count => [{ cells := [.d (I Zp), .d (.list Zq.length (Zq.flatMap (fun (x : Int × Int) => [(I x.1), (I x.2)])))], e := 24 }]) (ref09_FewestKinds.b1 N Zp Zq K_) r N (1 : Int) (by exact Nat.zero_le _) H (by (simp only [sw1, go_sem, simprocAttr]; done)) ?_
 rintro n count H N2 hN2
 unfold ref09_FewestKinds.b1 at H
 try simp only [go_sem, simprocAttr]
 refine PW.seq ?_
 refine PW.seq ?_
 refine PW.regionK fun K hK => OW.run [1, 4, 12] ?_
 simp only [go_sem, simprocAttr, sw0]
 repeat (refine And.intro (by omega) ?_)
 refine OW.nil (hK _ ?_)
 refine PW.cond rfl (fun h3 => ?_) (fun h3 => ?_)
 replace H := br_t h3 H
 refine PW.skip ?_
 refine PW.seq ?_
 refine PW.block ?_
 refine PW.seq ?_
 obtain ⟨⟨x1, x11⟩, e1, H⟩ := bnd_some H
 refine PW.regionK fun K hK => OW.run [1, 4, 5, 6] ?_
 simp only [go_sem, simprocAttr, sw0]
 refine OW.call' 4 rfl rfl rfl (by first | exact rfl | ((simp only [go_sem, List.toList_toArray, simprocAttr]); exact rfl)) ?_ (ref09_kinds_ok N _ _ _ _ _ e1) ?_ ?_ ?_ ?_
 rfl
 · (refine okAll_intro ?_; (simp only [go_sem, sw2, List.length_set, List.length_replicate, and_true, true_and, Nat.le_refl, simprocAttr]; done))
 exact .inl rfl
 (simp only [go_sem, Nat.reduceLT])
 refine OW.run [1, 4, 5, 6] ?_
 simp only [go_sem, simprocAttr, sw0]
 refine OW.nil (hK _ ?_)
 refine PW.seq ?_
 refine PW.regionK fun K hK => OW.run [1, 4, 5, 21] ?_
 simp only [go_sem, simprocAttr, sw0]
 refine OW.nil (hK _ ?_)
 refine PW.cond rfl (fun h4 => ?_) (fun h4 => ?_)
 replace H := br_t h4 H
 refine PW.seq ?_
 refine PW.regionK fun K hK => OW.run [2, 3] ?_
 simp only [go_sem, simprocAttr, sw0]
 refine OW.nil (hK _ ?_)
 refine PW.ret ?_
 change PW.Ends _ _ _ _ _ _
 refine PW.Ends.intro (.inr rfl) ?_
 simp only [go_sem, simprocAttr, sw0]
 obtain rfl := Option.some.inj H
 refine RetOK.data' 4 (by exact okD_all rfl) ?_
 rfl
 replace H := br_f h4 H
 refine PW.skip ?_
 refine PW.regionK fun K hK => OW.run [1, 4] ?_
 simp only [go_sem, simprocAttr, sw0]
 refine OW.nil (hK _ ?_)
 refine hN2 [] (w64 (count + (1 : Int))) _ H (by exact trivial) ?_
 simp only [sw1, go_sem, simprocAttr]
 replace H := br_f h3 H
 refine PW.exit ?_
 refine hN1 [] () _ H (by exact trivial) ?_
 simp only [sw1, go_sem, simprocAttr]
 rintro _ H
 try simp only [go_sem, simprocAttr]
 refine PW.seq ?_
 obtain ⟨⟨x2, x21⟩, e2, H⟩ := bnd_some H
 refine PW.regionK fun K hK => OW.run [1, 7] ?_
 simp only [go_sem, simprocAttr, sw0]
 repeat (refine And.intro (by omega) ?_)
 refine OW.call' 4 rfl rfl rfl (by first | exact rfl | ((simp only [go_sem, List.toList_toArray, simprocAttr]); exact rfl)) ?_ (ref09_kinds_ok N _ _ _ _ _ e2) ?_ ?_ ?_ ?_
 rfl
 · (refine okAll_intro ?_; (simp only [go_sem, sw2, List.length_set, List.length_replicate, and_true, true_and, Nat.le_refl, simprocAttr]; done))
 exact .inl rfl
 (simp only [go_sem, Nat.reduceLT])
 refine OW.run [1, 7] ?_
 simp only [go_sem, simprocAttr, sw0]
 refine OW.nil (hK _ ?_)
 refine PW.seq ?_
 refine PW.drawK 4 mixed (by kernel_rfl) fun K hK => ?_
 change FW _ _ _ _ _
 refine FW.run ?_
 simp only [go_sem, simprocAttr, sw0]
 repeat (refine And.intro (by omega) ?_)
 refine FW.nil ?_
 change OW _ _ _ _ _ _
 refine OW.run [2, 3] ?_
 simp only [go_sem, simprocAttr, sw0]
 refine OW.nil (hK _ ?_)
 refine PW.ret ?_
 change PW.Ends _ _ _ _ _ _
 refine PW.Ends.intro (.inr rfl) ?_
 simp only [go_sem, simprocAttr, sw0]
 obtain rfl := Option.some.inj H
 refine RetOK.data' 4 (by exact okD_all rfl) ?_
 rfl

theorem ref09_IdentitiesErr_ok (N : Nat) (Zp : Int) (Zq : List (Int × Int)) (identities : List Int) (r : Int) (H : ref09_IdentitiesErr N Zp Zq identities = some r) : CallOK Try.prog 24 [(.agg [(I Zp), (.list Zq.length (Zq.flatMap (fun (x : Int × Int) => [(I x.1), (I x.2)])))]), (L identities)] (.d (I r)) [] := by
 refine CallOK.of_PW Try.func24 rfl (by rw [Try.results24]) Try.ntmps24 Try.call24 ?_
 change PW _ _ _ _ _
 try simp only [go_sem, simprocAttr]
 unfold ref09_IdentitiesErr at H
 refine PW.seq ?_
 refine PW.regionK fun K hK => OW.run [1, 2] ?_
 simp only [go_sem, simprocAttr, sw0]
 refine OW.nil (hK _ ?_)
 refine PW.seq ?_
 refine PW.seq ?_
 refine PW.regionK fun K hK => OW.run [1, 11] ?_
 simp only [go_sem, simprocAttr, sw0]
 repeat (refine And.intro (by omega) ?_)
 refine OW.nil (hK _ ?_)
 refine PW.cond rfl (fun h1 => ?_) (fun h1 => ?_)
 replace H := br_t h1 H
 refine PW.seq ?_
 refine PW.regionK fun K hK => OW.run [4] ?_
 simp only [go_sem, simprocAttr, sw0]
 refine OW.nil (hK _ ?_)
 refine PW.ret ?_
 change PW.Ends _ _ _ _ _ _
 refine PW.Ends.intro (.inr rfl) ?_
 simp only [go_sem, simprocAttr, sw0]
 obtain rfl := Option.some.inj H
 refine RetOK.data' 4 (by exact trivial) ?_
 rfl
 replace H := br_f h1 H
 refine PW.skip ?_
 refine PW.joinS (τ := Unit) [] 0 (fun _ => []) (fun _ => []) _ _ r (by exact Nat.le_refl _) H ?_ ?_
 intro K_ H N2 hN2
 refine PW.seq ?_
 refine PW.regionK fun K hK => OW.run [1, 5] ?_
 simp only [go_sem, simprocAttr, sw0]
 refine OW.nil (hK _ ?_)
 refine PW.block ?_
 refine PW.loopS (σ := Int) [1, 5] 1 (fun i => [(5, .d (I i))]) (fun i => [{ cells := [.d (I Zp), .d (.list Zq.length (Zq.flatMap (fun (x : Int × Int) => [(I x.1), (I x.2)])))], e := 24 }]) (ref09_IdentitiesErr.b1 N identities K_) r N (0 : Int) (by exact Nat.zero_le _) H (by (simp only [sw1, go_sem, simprocAttr]; done)) ?_
 rintro n i H N3 hN3
 unfold ref09_IdentitiesErr.b1 at H
 try simp only [go_sem, simprocAttr]
 refine PW.seq ?_
 refine PW.seq ?_
 refine PW.regionK fun K hK => OW.run [1, 5, 15] ?_
 simp only [go_sem, simprocAttr, sw0]
 refine OW.nil (hK _ ?_)
 refine PW.cond rfl (fun h4 => ?_) (fun h4 => ?_)
 replace H := br_t h4 H
 refine PW.skip ?_
 refine PW.seq ?_
 refine PW.block ?_
 refine PW.seq ?_
 obtain ⟨c5, H⟩ := chk_some H
 obtain ⟨x1, e1, H⟩ := bnd_some H
 refine PW.regionK fun K hK => OW.run [1, 5, 6] ?_
 simp only [go_sem, simprocAttr, sw0]
 repeat (refine And.intro (by omega) ?_)
 refine OW.call' 4 rfl rfl rfl (by first | exact rfl | ((simp only [go_sem, List.toList_toArray, simprocAttr]); exact rfl)) ?_ (ref09_IdentityErr_ok N _ _ e1) ?_ ?_ ?_ ?_
 rfl
 exact okD_all rfl
 exact .inl rfl
 (simp only [go_sem, Nat.reduceLT])
 refine OW.run [1, 5, 6] ?_
 simp only [go_sem, simprocAttr, sw0]
 refine OW.nil (hK _ ?_)
 refine PW.seq ?_
 refine PW.regionK fun K hK => OW.run [1, 5, 6, 24] ?_
 simp only [go_sem, simprocAttr, sw0]
 refine OW.nil (hK _ ?_)
 refine PW.cond rfl (fun h6 => ?_) (fun h6 => ?_)
 replace H := br_t h6 H
 refine PW.seq ?_
 refine PW.regionK fun K hK => OW.run [4] ?_
 simp only [go_sem, simprocAttr, sw0]
 refine OW.nil (hK _ ?_)
 refine PW.ret ?_
 change PW.Ends _ _ _ _ _ _
 refine PW.Ends.intro (.inr rfl) ?_
 simp only [go_sem, simprocAttr, sw0]
 obtain rfl := Option.some.inj H
 refine RetOK.data' 4 (by exact trivial) ?_
 rfl
 replace H := br_f h6 H
 refine PW.skip ?_
 refine PW.regionK fun K hK => OW.run [1, 5] ?_
 simp only [go_sem, simprocAttr, sw0]
 refine OW.nil (hK _ ?_)
 refine hN3 [] (w64 (i + (1 : Int))) _ H (by exact trivial) ?_
 simp only [sw1, go_sem, simprocAttr]
 replace H := br_f h4 H
 refine PW.exit ?_
 refine hN2 [] () _ H (by exact trivial) ?_
 simp only [sw1, go_sem, simprocAttr]
 rintro _ H
 try simp only [go_sem, simprocAttr]
 refine PW.seq ?_
 refine PW.regionK fun K hK => OW.run [4] ?_
 simp only [go_sem, simprocAttr, sw0]
 refine OW.nil (hK _ ?_)
 refine PW.ret ?_
 change PW.Ends _ _ _ _ _ _
 refine PW.Ends.intro (.inr rfl) ?_
 simp only [go_sem, simprocAttr, sw0]
 obtain rfl := Option.some.inj H
 refine RetOK.data' 4 (by exact trivial) ?_
 rfl
end Go.Proofs.Ytklejiafioalnaa
