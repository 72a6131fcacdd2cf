import Derived.Test.YtklejiafioalnaaNsBase
import Derived.Test.YtklejiafioalnaaNsW0
import Derived.Test.YtklejiafioalnaaNsW5
set_option linter.all false
namespace Go.Proofs.Ytklejiafioalnaa
open Go.PW Go.Sh

set_option maxRecDepth 20000
set_option maxHeartbeats 8000000
theorem plan_Near_ok (N : Nat) (Zp : Int) (Zq : List (Int × Int)) (cell : Int) (r : List Int × Int) (H : plan_Near N Zp Zq cell = some r) : CallOK Try.prog 33 [(.agg [(I Zp), (.list Zq.length (Zq.flatMap (fun (x : Int × Int) => [(I x.1), (I x.2)])))]), (I cell)] (.d (.tup [(L r.1), (I r.2)])) [] := by
 refine CallOK.of_PW Try.func33 rfl (by rw [Try.results33]) Try.ntmps33 Try.call33 ?_
 change PW _ _ _ _ _
 try simp only [go_sem, simprocAttr]
 unfold plan_Near at H
 refine PW.seq ?_
 refine PW.regionK fun K hK => OW.run [1, 2] ?_
 simp only [go_sem, simprocAttr, sw0]
 refine OW.nil (hK _ ?_); clear hK K
 refine PW.seq ?_
 refine PW.regionK fun K hK => OW.run [1, 6, 7] ?_
 simp only [go_sem, simprocAttr, sw0]
 refine OW.inlineA rfl rfl rfl (by first | exact rfl | ((simp only [go_sem, List.toList_toArray, simprocAttr]); exact rfl)) Try.func54 rfl (by rw [Try.results54]) Try.ntmps54 Try.call54 (by (simp only [go_sem, Nat.reduceLT])) ?_
 intro p G
 change PW _ _ _ _ _
 try simp only [go_sem, simprocAttr]
 refine PW.seq ?_
 refine PW.regionK fun K hK => OW.run [1] ?_
 simp only [go_sem, simprocAttr, sw0]
 refine OW.nil (hK _ ?_); clear hK K
 refine PW.seq ?_
 refine PW.seq ?_
 obtain ⟨⟨x1, x11⟩, e1, H⟩ := bnd_some H
 refine PW.regionK fun K hK => OW.run [1, 5] ?_
 simp only [go_sem, simprocAttr, sw0]
 refine OW.call' 4 rfl rfl rfl (by first | exact rfl | ((simp only [go_sem, List.toList_toArray, simprocAttr]); exact rfl)) ?_ (plan_CheckNet_ok N _ _ _ e1) ?_ ?_ ?_ ?_
 rfl
 · (refine okAll_intro ?_; (simp only [go_sem, sw2, List.length_set, List.length_replicate, and_true, true_and, Nat.le_refl, simprocAttr]; done))
 exact .inl rfl
 (simp only [go_sem, Nat.reduceLT])
 refine OW.run [1, 5] ?_
 simp only [go_sem, simprocAttr, sw0]
 refine OW.nil (hK _ ?_); clear hK K
 refine PW.seq ?_
 refine PW.regionK fun K hK => OW.run [1, 5, 19] ?_
 simp only [go_sem, simprocAttr, sw0]
 refine OW.nil (hK _ ?_); clear hK K
 refine PW.cond rfl (fun h1 => ?_) (fun h1 => ?_)
 replace H := br_t h1 H
 refine PW.seq ?_
 refine PW.regionK fun K hK => OW.run [2, 3] ?_
 simp only [go_sem, simprocAttr, sw0]
 refine OW.nil (hK _ ?_); clear hK K
 refine PW.ret ?_
 refine ⟨.inr rfl, rfl, rfl, ?_⟩
 simp only [go_sem, simprocAttr, sw0]
 change OW _ _ _ _ _ _
 refine OW.run [1, 6, 7] ?_
 simp only [go_sem, simprocAttr, sw0]
 refine OW.nil (hK _ ?_); clear hK K
 refine PW.seq ?_
 refine PW.seq ?_
 refine PW.regionK fun K hK => OW.run [1, 6, 7, 17] ?_
 simp only [go_sem, simprocAttr, sw0]
 refine OW.nil (hK _ ?_); clear hK K
 refine PW.cond rfl (fun h2 => ?_) (fun h2 => ?_)
 refine PW.seq ?_
 refine PW.regionK fun K hK => OW.run [4, 5] ?_
 simp only [go_sem, simprocAttr, sw0]
 refine OW.nil (hK _ ?_); clear hK K
 refine PW.ret ?_
 change PW.Ends _ _ _ _ _ _
 refine PW.Ends.intro (.inr rfl) ?_
 simp only [go_sem, simprocAttr, sw0]
 obtain rfl := Option.some.inj H
 refine RetOK.data' 4 (by exact okD_all rfl) ?_
 rfl
 exact absurd (h2.symm.trans h1) (by decide)
 replace H := br_f h1 H
 refine PW.skip ?_
 refine PW.seq ?_
 refine PW.regionK fun K hK => OW.run [1, 6] ?_
 simp only [go_sem, simprocAttr, sw0]
 repeat (refine And.intro (by omega) ?_)
 refine OW.nil (hK _ ?_); clear hK K
 refine PW.seq ?_
 refine PW.regionK fun K hK => OW.run [1, 6, 7] ?_
 simp only [go_sem, simprocAttr, sw0]
 refine OW.nil (hK _ ?_); clear hK K
 refine PW.joinS (τ := List Bool) [1, 6, 7] 4 (fun b3 => []) (fun b3 => [{ cells := [.d (I Zp), .d (.list Zq.length (Zq.flatMap (fun (x : Int × Int) => [(I x.1), (I x.2)])))], e := 24 }, { cells := [.d (I Zp), .d (.list Zq.length (Zq.flatMap (fun (x : Int × Int) => [(I x.1), (I x.2)])))], e := 24 }, { cells := .d (I Zp) :: ((List.replicate 64 false).map Bo).map .d, e := 106 }, { cells := (b3.map Bo).map .d, e := 104 }]) _ _ r (by (simp only [go_sem]; omega)) H ?_ ?_
 intro K_ H N3 hN3
 refine PW.seq ?_
 refine PW.regionK fun K hK => OW.run [1, 6, 7, 26, 27, 28] ?_
 simp only [go_sem, simprocAttr, sw0]
 repeat (refine And.intro (by omega) ?_)
 refine OW.nil (hK _ ?_); clear hK K
 refine PW.block ?_
 refine PW.loopS (σ := Int × List Bool) [1, 6, 7, 26, 27, 28] 4 (fun (t28, b31) => [(28, .d (I t28))]) (fun (t28, b31) => [{ cells := [.d (I Zp), .d (.list Zq.length (Zq.flatMap (fun (x : Int × Int) => [(I x.1), (I x.2)])))], e := 24 }, { cells := [.d (I Zp), .d (.list Zq.length (Zq.flatMap (fun (x : Int × Int) => [(I x.1), (I x.2)])))], e := 24 }, { cells := .d (I Zp) :: ((List.replicate 64 false).map Bo).map .d, e := 106 }, { cells := (b31.map Bo).map .d, e := 104 }]) (plan_Near.b1 N Zq K_) r N ((0 : Int), (List.replicate 64 false)) (by (simp only [go_sem]; omega)) H (by (simp only [sw1, go_sem, simprocAttr]; done)) ?_
 rintro n ⟨t28, b31⟩ H N4 hN4
 unfold plan_Near.b1 at H
 try simp only [go_sem, simprocAttr]
 refine PW.seq ?_
 refine PW.regionK fun K hK => OW.run [1, 6, 7, 26, 27, 28, 29] ?_
 simp only [go_sem, simprocAttr, sw0]
 refine OW.nil (hK _ ?_); clear hK K
 refine PW.seq ?_
 refine PW.cond rfl (fun h5 => ?_) (fun h5 => ?_)
 ·
  replace H := br_t h5 H
  refine PW.skip ?_
  refine PW.seq ?_
  refine PW.block ?_
  refine PW.seq ?_
  obtain ⟨c6, H⟩ := chk_some H
  refine PW.regionK fun K hK => OW.run [1, 6, 7, 9, 26, 27, 28] ?_
  (simp only [go_sem, simprocAttr, sw0, flatMap_length 2 (fun (x : Int × Int) => [(I x.1), (I x.2)]) (fun _ => rfl), sub_el 2 (fun (x : Int × Int) => [(I x.1), (I x.2)]) (fun _ => rfl) Zq t28.toNat (by omega)])
  repeat (refine And.intro (by omega) ?_)
  refine OW.nil (hK _ ?_); clear hK K
  change PW _ _ _ _ _
  obtain ⟨c7, H⟩ := chk_some H
  obtain ⟨c8, H⟩ := chk_some H
  obtain ⟨c9, H⟩ := chk_some H
  obtain ⟨c10, H⟩ := chk_some H
  obtain ⟨c11, H⟩ := chk_some H
  obtain ⟨c12, H⟩ := chk_some H
  refine PW.drawX 12 [10] (fun j => List.getD [[{ cells := [.d (I Zp), .d (.list Zq.length (Zq.flatMap (fun (x : Int × Int) => [(I x.1), (I x.2)])))], e := 24 }, { cells := [.d (I Zp), .d (.list Zq.length (Zq.flatMap (fun (x : Int × Int) => [(I x.1), (I x.2)])))], e := 24 }, { cells := .d (I Zp) :: ((List.replicate 64 false).map Bo).map .d, e := 106 }, { cells := (b31.map Bo).map .d, e := 104 }, { cells := [.d (I ((Zq.getD t28.toNat default).1)), .d (I ((Zq.getD t28.toNat default).2))], e := 42 }], [{ cells := [.d (I Zp), .d (.list Zq.length (Zq.flatMap (fun (x : Int × Int) => [(I x.1), (I x.2)])))], e := 24 }, { cells := [.d (I Zp), .d (.list Zq.length (Zq.flatMap (fun (x : Int × Int) => [(I x.1), (I x.2)])))], e := 24 }, { cells := .d (I Zp) :: ((List.replicate 64 false).map Bo).map .d, e := 106 }, { cells := ((b31.set ((((Zq.getD t28.toNat default).1).toNat) * 8 + (((Zq.getD t28.toNat default).2).toNat)) true).map Bo).map .d, e := 104 }, { cells := [.d (I ((Zq.getD t28.toNat default).1)), .d (I ((Zq.getD t28.toNat default).2))], e := 42 }]] j []) (fun _ v => v) mixed (by kernel_rfl) (by decide) (by ((refine ⟨by decide, ?_⟩; intro k i i' h1 h2 o ho; match k, h1, h2 with | 0, h1, h2 => (simp at h1 h2 <;> first | (cases h2; done) | (subst h1; subst h2; simp at ho; subst ho; simp [Region.binds]; done)) | 1, h1, h2 => (simp at h1 h2 <;> first | (cases h2; done) | (subst h1; subst h2; simp at ho; subst ho; simp [Region.binds]; done)) | 2, h1, h2 => (simp at h1 h2 <;> first | (cases h2; done) | (subst h1; subst h2; simp at ho; subst ho; simp [Region.binds]; done)) | k + 3, h1, h2 => (simp at h2; done)))) (fun _ => rfl) (by decide) (freshL rfl) rfl rfl fun K hK => ?_
  change FWX _ _ _ _ _ _ _ _ _ _
  refine FWX.op (by decide) rfl (.ptr 4 0) 0 0 (.inl rfl) (.inr ⟨_, _, { on := 0, ground := .phase }, rfl, rfl, by simp, rfl, rfl⟩) ?_ ?_ (by (simp only [go_sem, Nat.reduceLT])) ?_
  ·
   intro j hj1 hj2
   have hj : j = 0 := by omega
   subst hj
   all_goals (refine ⟨?_, ?_⟩)
   all_goals (first | rfl | trivial | ((simp only [go_sem, simprocAttr, sw0, set_mapF Bo b31 ((((Zq.getD t28.toNat default).1).toNat) * 8 + (((Zq.getD t28.toNat default).2).toNat)), set_mapF Bo (b31.set ((((Zq.getD t28.toNat default).1).toNat) * 8 + (((Zq.getD t28.toNat default).2).toNat)) true) ((((Zq.getD t28.toNat default).2).toNat) * 8 + (((Zq.getD t28.toNat default).1).toNat))]); first | done | rfl | omega | assumption | decide | (simp only [List.append_assoc, List.cons_append, List.nil_append]; done) | ((repeat (refine And.intro (by first | rfl | omega | assumption | decide) ?_)); first | rfl | omega | assumption | decide)))
  exact KeptX.same fun _ _ => rfl
  try simp only [go_sem, simprocAttr]
  refine FWX.op (by decide) rfl (.d (I ((Zq.getD t28.toNat default).1))) 0 0 (.inl rfl) (.inr ⟨_, _, { on := 1, ground := .phase }, rfl, rfl, by simp, rfl, rfl⟩) ?_ ?_ (by (simp only [go_sem, Nat.reduceLT])) ?_
  ·
   intro j hj1 hj2
   have hj : j = 0 := by omega
   subst hj
   all_goals (refine ⟨?_, ?_⟩)
   all_goals (first | rfl | trivial | ((simp only [go_sem, simprocAttr, sw0, set_mapF Bo b31 ((((Zq.getD t28.toNat default).1).toNat) * 8 + (((Zq.getD t28.toNat default).2).toNat)), set_mapF Bo (b31.set ((((Zq.getD t28.toNat default).1).toNat) * 8 + (((Zq.getD t28.toNat default).2).toNat)) true) ((((Zq.getD t28.toNat default).2).toNat) * 8 + (((Zq.getD t28.toNat default).1).toNat))]); first | done | rfl | omega | assumption | decide | (simp only [List.append_assoc, List.cons_append, List.nil_append]; done) | ((repeat (refine And.intro (by first | rfl | omega | assumption | decide) ?_)); first | rfl | omega | assumption | decide)))
  exact KeptX.same fun _ _ => rfl
  try simp only [go_sem, simprocAttr]
  refine FWX.op (by decide) rfl (.ptr 4 1) 0 0 (.inl rfl) (.inr ⟨_, _, { on := 2, ground := .phase }, rfl, rfl, by simp, rfl, rfl⟩) ?_ ?_ (by (simp only [go_sem, Nat.reduceLT])) ?_
  ·
   intro j hj1 hj2
   have hj : j = 0 := by omega
   subst hj
   all_goals (refine ⟨?_, ?_⟩)
   all_goals (first | rfl | trivial | ((simp only [go_sem, simprocAttr, sw0, set_mapF Bo b31 ((((Zq.getD t28.toNat default).1).toNat) * 8 + (((Zq.getD t28.toNat default).2).toNat)), set_mapF Bo (b31.set ((((Zq.getD t28.toNat default).1).toNat) * 8 + (((Zq.getD t28.toNat default).2).toNat)) true) ((((Zq.getD t28.toNat default).2).toNat) * 8 + (((Zq.getD t28.toNat default).1).toNat))]); first | done | rfl | omega | assumption | decide | (simp only [List.append_assoc, List.cons_append, List.nil_append]; done) | ((repeat (refine And.intro (by first | rfl | omega | assumption | decide) ?_)); first | rfl | omega | assumption | decide)))
  exact KeptX.same fun _ _ => rfl
  try simp only [go_sem, simprocAttr]
  refine FWX.op (by decide) rfl (.d (I ((Zq.getD t28.toNat default).2))) 0 0 (.inl rfl) (.inr ⟨_, _, { on := 3, ground := .phase }, rfl, rfl, by simp, rfl, rfl⟩) ?_ ?_ (by (simp only [go_sem, Nat.reduceLT])) ?_
  ·
   intro j hj1 hj2
   have hj : j = 0 := by omega
   subst hj
   all_goals (refine ⟨?_, ?_⟩)
   all_goals (first | rfl | trivial | ((simp only [go_sem, simprocAttr, sw0, set_mapF Bo b31 ((((Zq.getD t28.toNat default).1).toNat) * 8 + (((Zq.getD t28.toNat default).2).toNat)), set_mapF Bo (b31.set ((((Zq.getD t28.toNat default).1).toNat) * 8 + (((Zq.getD t28.toNat default).2).toNat)) true) ((((Zq.getD t28.toNat default).2).toNat) * 8 + (((Zq.getD t28.toNat default).1).toNat))]); first | done | rfl | omega | assumption | decide | (simp only [List.append_assoc, List.cons_append, List.nil_append]; done) | ((repeat (refine And.intro (by first | rfl | omega | assumption | decide) ?_)); first | rfl | omega | assumption | decide)))
  exact KeptX.same fun _ _ => rfl
  try simp only [go_sem, simprocAttr]
  refine FWX.op (by decide) rfl (.ptr 4 1) 0 1 (.inl rfl) (.inl rfl) ?_ ?_ (by (simp only [go_sem, Nat.reduceLT])) ?_
  ·
   intro j hj1 hj2
   have hj : j = 0 ∨ j = 1 := by omega
   rcases hj with rfl | rfl
   all_goals (refine ⟨?_, ?_⟩)
   all_goals (first | rfl | trivial | ((simp only [go_sem, simprocAttr, sw0, set_mapF Bo b31 ((((Zq.getD t28.toNat default).1).toNat) * 8 + (((Zq.getD t28.toNat default).2).toNat)), set_mapF Bo (b31.set ((((Zq.getD t28.toNat default).1).toNat) * 8 + (((Zq.getD t28.toNat default).2).toNat)) true) ((((Zq.getD t28.toNat default).2).toNat) * 8 + (((Zq.getD t28.toNat default).1).toNat))]); first | done | rfl | omega | assumption | decide | (simp only [List.append_assoc, List.cons_append, List.nil_append]; done) | ((repeat (refine And.intro (by first | rfl | omega | assumption | decide) ?_)); first | rfl | omega | assumption | decide)))
  exact KeptX.same fun _ _ => rfl
  try simp only [go_sem, simprocAttr]
  refine FWX.op (by decide) rfl (.d (I ((Zq.getD t28.toNat default).2))) 0 1 (.inl rfl) (.inl rfl) ?_ ?_ (by (simp only [go_sem, Nat.reduceLT])) ?_
  ·
   intro j hj1 hj2
   have hj : j = 0 ∨ j = 1 := by omega
   rcases hj with rfl | rfl
   all_goals (refine ⟨?_, ?_⟩)
   all_goals (first | rfl | trivial | ((simp only [go_sem, simprocAttr, sw0, set_mapF Bo b31 ((((Zq.getD t28.toNat default).1).toNat) * 8 + (((Zq.getD t28.toNat default).2).toNat)), set_mapF Bo (b31.set ((((Zq.getD t28.toNat default).1).toNat) * 8 + (((Zq.getD t28.toNat default).2).toNat)) true) ((((Zq.getD t28.toNat default).2).toNat) * 8 + (((Zq.getD t28.toNat default).1).toNat))]); first | done | rfl | omega | assumption | decide | (simp only [List.append_assoc, List.cons_append, List.nil_append]; done) | ((repeat (refine And.intro (by first | rfl | omega | assumption | decide) ?_)); first | rfl | omega | assumption | decide)))
  exact KeptX.same fun _ _ => rfl
  try simp only [go_sem, simprocAttr]
  refine FWX.op (by decide) rfl (.ptr 4 0) 0 1 (.inl rfl) (.inl rfl) ?_ ?_ (by (simp only [go_sem, Nat.reduceLT])) ?_
  ·
   intro j hj1 hj2
   have hj : j = 0 ∨ j = 1 := by omega
   rcases hj with rfl | rfl
   all_goals (refine ⟨?_, ?_⟩)
   all_goals (first | rfl | trivial | ((simp only [go_sem, simprocAttr, sw0, set_mapF Bo b31 ((((Zq.getD t28.toNat default).1).toNat) * 8 + (((Zq.getD t28.toNat default).2).toNat)), set_mapF Bo (b31.set ((((Zq.getD t28.toNat default).1).toNat) * 8 + (((Zq.getD t28.toNat default).2).toNat)) true) ((((Zq.getD t28.toNat default).2).toNat) * 8 + (((Zq.getD t28.toNat default).1).toNat))]); first | done | rfl | omega | assumption | decide | (simp only [List.append_assoc, List.cons_append, List.nil_append]; done) | ((repeat (refine And.intro (by first | rfl | omega | assumption | decide) ?_)); first | rfl | omega | assumption | decide)))
  exact KeptX.same fun _ _ => rfl
  try simp only [go_sem, simprocAttr]
  refine FWX.op (by decide) rfl (.d (I ((Zq.getD t28.toNat default).1))) 0 1 (.inl rfl) (.inl rfl) ?_ ?_ (by (simp only [go_sem, Nat.reduceLT])) ?_
  ·
   intro j hj1 hj2
   have hj : j = 0 ∨ j = 1 := by omega
   rcases hj with rfl | rfl
   all_goals (refine ⟨?_, ?_⟩)
   all_goals (first | rfl | trivial | ((simp only [go_sem, simprocAttr, sw0, set_mapF Bo b31 ((((Zq.getD t28.toNat default).1).toNat) * 8 + (((Zq.getD t28.toNat default).2).toNat)), set_mapF Bo (b31.set ((((Zq.getD t28.toNat default).1).toNat) * 8 + (((Zq.getD t28.toNat default).2).toNat)) true) ((((Zq.getD t28.toNat default).2).toNat) * 8 + (((Zq.getD t28.toNat default).1).toNat))]); first | done | rfl | omega | assumption | decide | (simp only [List.append_assoc, List.cons_append, List.nil_append]; done) | ((repeat (refine And.intro (by first | rfl | omega | assumption | decide) ?_)); first | rfl | omega | assumption | decide)))
  exact KeptX.same fun _ _ => rfl
  try simp only [go_sem, simprocAttr]
  refine FWX.op (by decide) rfl (.ptr 3 ((((Zq.getD t28.toNat default).1).toNat) * 8)) 0 1 (.inl rfl) (.inl rfl) ?_ ?_ (by (simp only [go_sem, Nat.reduceLT])) ?_
  ·
   intro j hj1 hj2
   have hj : j = 0 ∨ j = 1 := by omega
   rcases hj with rfl | rfl
   all_goals (refine ⟨?_, ?_⟩)
   all_goals (first | rfl | trivial | ((simp only [go_sem, simprocAttr, sw0, set_mapF Bo b31 ((((Zq.getD t28.toNat default).1).toNat) * 8 + (((Zq.getD t28.toNat default).2).toNat)), set_mapF Bo (b31.set ((((Zq.getD t28.toNat default).1).toNat) * 8 + (((Zq.getD t28.toNat default).2).toNat)) true) ((((Zq.getD t28.toNat default).2).toNat) * 8 + (((Zq.getD t28.toNat default).1).toNat))]); first | done | rfl | omega | assumption | decide | (simp only [List.append_assoc, List.cons_append, List.nil_append]; done) | ((repeat (refine And.intro (by first | rfl | omega | assumption | decide) ?_)); first | rfl | omega | assumption | decide)))
  exact KeptX.same fun _ _ => rfl
  try simp only [go_sem, simprocAttr]
  refine FWX.op (by decide) rfl (.ptr 3 ((((Zq.getD t28.toNat default).1).toNat) * 8 + (((Zq.getD t28.toNat default).2).toNat))) 0 0 (.inl rfl) (.inr ⟨_, _, { on := 9, ground := .data }, rfl, rfl, by simp, rfl, rfl⟩) ?_ ?_ (by (simp only [go_sem, Nat.reduceLT])) ?_
  ·
   intro j hj1 hj2
   have hj : j = 0 := by omega
   subst hj
   all_goals (refine ⟨?_, ?_⟩)
   all_goals (first | rfl | trivial | ((simp only [go_sem, simprocAttr, sw0, set_mapF Bo b31 ((((Zq.getD t28.toNat default).1).toNat) * 8 + (((Zq.getD t28.toNat default).2).toNat)), set_mapF Bo (b31.set ((((Zq.getD t28.toNat default).1).toNat) * 8 + (((Zq.getD t28.toNat default).2).toNat)) true) ((((Zq.getD t28.toNat default).2).toNat) * 8 + (((Zq.getD t28.toNat default).1).toNat))]); first | done | rfl | omega | assumption | decide | (simp only [List.append_assoc, List.cons_append, List.nil_append]; done) | ((repeat (refine And.intro (by first | rfl | omega | assumption | decide) ?_)); first | rfl | omega | assumption | decide)))
  exact KeptX.same fun _ _ => rfl
  try simp only [go_sem, simprocAttr]
  refine FWX.store (q := 0) (by decide) rfl rfl rfl rfl (fun _ => rfl) ?_ ?_ ?_
  · first | trivial | ((simp only [go_sem, simprocAttr, sw0, set_mapF Bo b31 ((((Zq.getD t28.toNat default).1).toNat) * 8 + (((Zq.getD t28.toNat default).2).toNat)), set_mapF Bo (b31.set ((((Zq.getD t28.toNat default).1).toNat) * 8 + (((Zq.getD t28.toNat default).2).toNat)) true) ((((Zq.getD t28.toNat default).2).toNat) * 8 + (((Zq.getD t28.toNat default).1).toNat))]); done) | ((simp only [go_sem, simprocAttr, sw0, set_mapF Bo b31 ((((Zq.getD t28.toNat default).1).toNat) * 8 + (((Zq.getD t28.toNat default).2).toNat)), set_mapF Bo (b31.set ((((Zq.getD t28.toNat default).1).toNat) * 8 + (((Zq.getD t28.toNat default).2).toNat)) true) ((((Zq.getD t28.toNat default).2).toNat) * 8 + (((Zq.getD t28.toNat default).1).toNat))]); first | omega | (repeat (refine And.intro (by (first | omega | assumption | rfl | decide | (simp only [List.length_map, List.length_replicate, List.length_append, List.length_take, List.length_drop, List.length_set, List.length_cons, List.length_nil, Nat.zero_add, Int.toNat_natCast] at *; omega) | (simp only [List.length_map, List.length_replicate, List.length_append, List.length_take, List.length_drop, List.length_set, List.length_cons, List.length_nil, Nat.zero_add, Int.toNat_natCast]; done) | trivial)) ?_); (first | omega | assumption | rfl | decide | (simp only [List.length_map, List.length_replicate, List.length_append, List.length_take, List.length_drop, List.length_set, List.length_cons, List.length_nil, Nat.zero_add, Int.toNat_natCast] at *; omega) | (simp only [List.length_map, List.length_replicate, List.length_append, List.length_take, List.length_drop, List.length_set, List.length_cons, List.length_nil, Nat.zero_add, Int.toNat_natCast]; done) | trivial)))
  · first | rfl | ((simp only [go_sem, simprocAttr, sw0, set_mapF Bo b31 ((((Zq.getD t28.toNat default).1).toNat) * 8 + (((Zq.getD t28.toNat default).2).toNat)), set_mapF Bo (b31.set ((((Zq.getD t28.toNat default).1).toNat) * 8 + (((Zq.getD t28.toNat default).2).toNat)) true) ((((Zq.getD t28.toNat default).2).toNat) * 8 + (((Zq.getD t28.toNat default).1).toNat))]); done) | ((simp only [go_sem, simprocAttr, sw0, set_mapF Bo b31 ((((Zq.getD t28.toNat default).1).toNat) * 8 + (((Zq.getD t28.toNat default).2).toNat)), set_mapF Bo (b31.set ((((Zq.getD t28.toNat default).1).toNat) * 8 + (((Zq.getD t28.toNat default).2).toNat)) true) ((((Zq.getD t28.toNat default).2).toNat) * 8 + (((Zq.getD t28.toNat default).1).toNat))]); rfl) | ((simp only [go_sem, simprocAttr, sw0, set_mapF Bo b31 ((((Zq.getD t28.toNat default).1).toNat) * 8 + (((Zq.getD t28.toNat default).2).toNat)), set_mapF Bo (b31.set ((((Zq.getD t28.toNat default).1).toNat) * 8 + (((Zq.getD t28.toNat default).2).toNat)) true) ((((Zq.getD t28.toNat default).2).toNat) * 8 + (((Zq.getD t28.toNat default).1).toNat))]); simp only [List.append_assoc, List.cons_append, List.nil_append]; done)
  try simp only [go_sem, simprocAttr]
  refine FWX.op (by decide) rfl (.ptr 3 ((((Zq.getD t28.toNat default).2).toNat) * 8)) 0 1 (.inl rfl) (.inl rfl) ?_ ?_ (by (simp only [go_sem, Nat.reduceLT])) ?_
  ·
   intro j hj1 hj2
   have hj : j = 0 ∨ j = 1 := by omega
   rcases hj with rfl | rfl
   all_goals (refine ⟨?_, ?_⟩)
   all_goals (first | rfl | trivial | ((simp only [go_sem, simprocAttr, sw0, set_mapF Bo b31 ((((Zq.getD t28.toNat default).1).toNat) * 8 + (((Zq.getD t28.toNat default).2).toNat)), set_mapF Bo (b31.set ((((Zq.getD t28.toNat default).1).toNat) * 8 + (((Zq.getD t28.toNat default).2).toNat)) true) ((((Zq.getD t28.toNat default).2).toNat) * 8 + (((Zq.getD t28.toNat default).1).toNat))]); first | done | rfl | omega | assumption | decide | (simp only [List.append_assoc, List.cons_append, List.nil_append]; done) | ((repeat (refine And.intro (by first | rfl | omega | assumption | decide) ?_)); first | rfl | omega | assumption | decide)))
  exact KeptX.same fun _ _ => rfl
  try simp only [go_sem, simprocAttr]
  refine FWX.nil ?_
  change OW _ _ _ _ _ _
  change OW _ _ _ _ _ _
  refine OW.run [1, 6, 7, 26, 27, 28] ?_
  (simp only [go_sem, simprocAttr, sw0, set_mapF Bo b31 ((((Zq.getD t28.toNat default).1).toNat) * 8 + (((Zq.getD t28.toNat default).2).toNat)), set_mapF Bo (b31.set ((((Zq.getD t28.toNat default).1).toNat) * 8 + (((Zq.getD t28.toNat default).2).toNat)) true) ((((Zq.getD t28.toNat default).2).toNat) * 8 + (((Zq.getD t28.toNat default).1).toNat))])
  repeat (refine And.intro (by omega) ?_)
  refine OW.nil (hK _ ?_); clear hK K
  refine PW.regionK fun K hK => OW.run [1, 6, 7, 26, 27, 28] ?_
  simp only [go_sem, simprocAttr, sw0]
  refine OW.nil (hK _ ?_); clear hK K
  refine hN4 [] (w64 (t28 + (1 : Int)), ((b31.set ((((Zq.getD t28.toNat default).1).toNat) * 8 + (((Zq.getD t28.toNat default).2).toNat)) true).set ((((Zq.getD t28.toNat default).2).toNat) * 8 + (((Zq.getD t28.toNat default).1).toNat)) true)) _ H (by exact trivial) ?_
  simp only [sw1, go_sem, simprocAttr]
 replace H := br_f h5 H
 refine PW.exit ?_
 refine hN3 [] b31 _ H (by exact trivial) ?_
 simp only [sw1, go_sem, simprocAttr]
 rintro b3 H
 try simp only [go_sem, simprocAttr]
 refine PW.joinS (τ := List Bool) [6] 3 (fun b2 => []) (fun b2 => [{ cells := [.d (I Zp), .d (.list Zq.length (Zq.flatMap (fun (x : Int × Int) => [(I x.1), (I x.2)])))], e := 24 }, { cells := [.d (I Zp), .d (.list Zq.length (Zq.flatMap (fun (x : Int × Int) => [(I x.1), (I x.2)])))], e := 24 }, { cells := .d (I Zp) :: (b2.map Bo).map .d, e := 106 }]) _ _ r (by (simp only [go_sem]; omega)) H ?_ ?_
 intro K_1 H N13 hN13
 refine PW.seq ?_
 refine PW.regionK fun K hK => OW.run [1, 6, 7, 46, 47] ?_
 simp only [go_sem, simprocAttr, sw0]
 repeat (refine And.intro (by omega) ?_)
 refine OW.nil (hK _ ?_); clear hK K
 refine PW.block ?_
 refine PW.loopS (σ := Int × List Bool) [1, 6, 7, 46, 47] 4 (fun (t47, b21) => [(47, .d (I t47))]) (fun (t47, b21) => [{ cells := [.d (I Zp), .d (.list Zq.length (Zq.flatMap (fun (x : Int × Int) => [(I x.1), (I x.2)])))], e := 24 }, { cells := [.d (I Zp), .d (.list Zq.length (Zq.flatMap (fun (x : Int × Int) => [(I x.1), (I x.2)])))], e := 24 }, { cells := .d (I Zp) :: (b21.map Bo).map .d, e := 106 }, { cells := (b3.map Bo).map .d, e := 104 }]) (plan_Near.b2 N Zp b3 K_1) r N ((0 : Int), (List.replicate 64 false)) (by (simp only [go_sem]; omega)) H (by (simp only [sw1, go_sem, simprocAttr]; done)) ?_
 rintro n ⟨t47, b21⟩ H N14 hN14
 unfold plan_Near.b2 at H
 try simp only [go_sem, simprocAttr]
 refine PW.seq ?_
 refine PW.regionK fun K hK => OW.run [1, 6, 7, 46, 47, 48] ?_
 simp only [go_sem, simprocAttr, sw0]
 refine OW.nil (hK _ ?_); clear hK K
 refine PW.seq ?_
 refine PW.cond rfl (fun h15 => ?_) (fun h15 => ?_)
 replace H := br_t h15 H
 refine PW.skip ?_
 refine PW.joinS (τ := List Bool) [1, 6, 7, 46, 47] 4 (fun b22 => []) (fun b22 => [{ cells := [.d (I Zp), .d (.list Zq.length (Zq.flatMap (fun (x : Int × Int) => [(I x.1), (I x.2)])))], e := 24 }, { cells := [.d (I Zp), .d (.list Zq.length (Zq.flatMap (fun (x : Int × Int) => [(I x.1), (I x.2)])))], e := 24 }, { cells := .d (I Zp) :: (b22.map Bo).map .d, e := 106 }, { cells := (b3.map Bo).map .d, e := 104 }]) _ _ r (by (simp only [go_sem]; omega)) H ?_ ?_
 intro K_2 H N16 hN16
 refine PW.block ?_
 refine PW.seq ?_
 refine PW.regionK fun K hK => OW.run [1, 6, 7, 10, 46, 47] ?_
 simp only [go_sem, simprocAttr, sw0]
 refine OW.nil (hK _ ?_); clear hK K
 refine PW.seq ?_
 refine PW.regionK fun K hK => OW.run [1, 6, 7, 10, 46, 47, 51, 52] ?_
 simp only [go_sem, simprocAttr, sw0]
 repeat (refine And.intro (by omega) ?_)
 refine OW.nil (hK _ ?_); clear hK K
 refine PW.block ?_
 refine PW.loopS (σ := Int × List Bool) [1, 6, 7, 10, 46, 47, 51, 52] 4 (fun (t52, b23) => [(52, .d (I t52))]) (fun (t52, b23) => [{ cells := [.d (I Zp), .d (.list Zq.length (Zq.flatMap (fun (x : Int × Int) => [(I x.1), (I x.2)])))], e := 24 }, { cells := [.d (I Zp), .d (.list Zq.length (Zq.flatMap (fun (x : Int × Int) => [(I x.1), (I x.2)])))], e := 24 }, { cells := .d (I Zp) :: (b23.map Bo).map .d, e := 106 }, { cells := (b3.map Bo).map .d, e := 104 }]) (plan_Near.b3 N Zp b3 t47 K_2) r N ((0 : Int), b21) (by (simp only [go_sem]; omega)) H (by (simp only [sw1, go_sem, simprocAttr]; done)) ?_
 rintro n ⟨t52, b23⟩ H N17 hN17
 unfold plan_Near.b3 at H
 try simp only [go_sem, simprocAttr]
 refine PW.seq ?_
 refine PW.regionK fun K hK => OW.run [1, 6, 7, 10, 46, 47, 51, 52, 53] ?_
 simp only [go_sem, simprocAttr, sw0]
 refine OW.nil (hK _ ?_); clear hK K
 refine PW.seq ?_
 refine PW.cond rfl (fun h18 => ?_) (fun h18 => ?_)
 replace H := br_t h18 H
 refine PW.skip ?_
 refine PW.joinS (τ := List Bool) [1, 6, 7, 10, 46, 47, 51, 52] 4 (fun b24 => []) (fun b24 => [{ cells := [.d (I Zp), .d (.list Zq.length (Zq.flatMap (fun (x : Int × Int) => [(I x.1), (I x.2)])))], e := 24 }, { cells := [.d (I Zp), .d (.list Zq.length (Zq.flatMap (fun (x : Int × Int) => [(I x.1), (I x.2)])))], e := 24 }, { cells := .d (I Zp) :: (b24.map Bo).map .d, e := 106 }, { cells := (b3.map Bo).map .d, e := 104 }]) _ _ r (by (simp only [go_sem]; omega)) H ?_ ?_
 intro K_3 H N19 hN19
 refine PW.block ?_
 refine PW.seq ?_
 refine PW.regionK fun K hK => OW.run [1, 6, 7, 10, 11, 46, 47, 51, 52] ?_
 simp only [go_sem, simprocAttr, sw0]
 refine OW.nil (hK _ ?_); clear hK K
 refine PW.seq ?_
 refine PW.regionK fun K hK => OW.run [1, 6, 7, 10, 11, 46, 47, 51, 52, 56, 57] ?_
 simp only [go_sem, simprocAttr, sw0]
 repeat (refine And.intro (by omega) ?_)
 refine OW.nil (hK _ ?_); clear hK K
 refine PW.block ?_
 refine PW.loopS (σ := Int × List Bool) [1, 6, 7, 10, 11, 46, 47, 51, 52, 56, 57] 4 (fun (t57, b25) => [(57, .d (I t57))]) (fun (t57, b25) => [{ cells := [.d (I Zp), .d (.list Zq.length (Zq.flatMap (fun (x : Int × Int) => [(I x.1), (I x.2)])))], e := 24 }, { cells := [.d (I Zp), .d (.list Zq.length (Zq.flatMap (fun (x : Int × Int) => [(I x.1), (I x.2)])))], e := 24 }, { cells := .d (I Zp) :: (b25.map Bo).map .d, e := 106 }, { cells := (b3.map Bo).map .d, e := 104 }]) (plan_Near.b4 N Zp b3 t47 t52 K_3) r N ((0 : Int), b23) (by (simp only [go_sem]; omega)) H (by (simp only [sw1, go_sem, simprocAttr]; done)) ?_
 rintro n ⟨t57, b25⟩ H N20 hN20
 unfold plan_Near.b4 at H
 try simp only [go_sem, simprocAttr]
 refine PW.seq ?_
 refine PW.regionK fun K hK => OW.run [1, 6, 7, 10, 11, 46, 47, 51, 52, 56, 57, 58] ?_
 simp only [go_sem, simprocAttr, sw0]
 refine OW.nil (hK _ ?_); clear hK K
 refine PW.seq ?_
 refine PW.cond rfl (fun h21 => ?_) (fun h21 => ?_)
 replace H := br_t h21 H
 refine PW.skip ?_
 refine PW.seq ?_
 refine PW.block ?_
 refine PW.seq ?_
 refine PW.regionK fun K hK => OW.run [1, 6, 7, 10, 11, 12, 46, 47, 51, 52, 56, 57] ?_
 simp only [go_sem, simprocAttr, sw0]
 refine OW.nil (hK _ ?_); clear hK K
 change PW _ _ _ _ _
 obtain ⟨c22, H⟩ := chk_some H
 obtain ⟨c23, H⟩ := chk_some H
 obtain ⟨c24, H⟩ := chk_some H
 obtain ⟨c25, H⟩ := chk_some H
 obtain ⟨c26, H⟩ := chk_some H
 obtain ⟨c27, H⟩ := chk_some H
 obtain ⟨c28, H⟩ := chk_some H
 obtain ⟨c29, H⟩ := chk_some H
 obtain ⟨c30, H⟩ := chk_some H
 obtain ⟨c31, H⟩ := chk_some H
 obtain ⟨c32, H⟩ := chk_some H
 obtain ⟨c33, H⟩ := chk_some H
 refine PW.drawK 40 mixed (by kernel_rfl) fun K hK => ?_
 change FW _ _ _ _ _
 refine FW.toS [(1, .ptr 1 0), (6, .ptr 2 0), (7, .ptr 3 0), (10, .d (I t47)), (11, .d (I t52)), (46, .d (I Zp)), (47, .d (I t47)), (51, .d (I Zp)), (52, .d (I t52)), (56, .d (I Zp)), (57, .d (I t57))] [{ cells := [.d (I Zp), .d (.list Zq.length (Zq.flatMap (fun (x : Int × Int) => [(I x.1), (I x.2)])))], e := 24 }, { cells := [.d (I Zp), .d (.list Zq.length (Zq.flatMap (fun (x : Int × Int) => [(I x.1), (I x.2)])))], e := 24 }, { cells := .d (I Zp) :: ((b25.set (t47.toNat * 8 + t52.toNat) ((b25.getD (t47.toNat * 8 + t52.toNat) false) || ((t47 != t52) && ((b3.getD (t47.toNat * 8 + t52.toNat) false) || ((b3.getD (t47.toNat * 8 + t57.toNat) false) && (b3.getD (t57.toNat * 8 + t52.toNat) false)))))).map Bo).map .d, e := 106 }, { cells := (b3.map Bo).map .d, e := 104 }] ?_ (hK _ ?_)
 intro K hKE
 rcases Bool.eq_false_or_eq_true ((b25.getD (t47.toNat * 8 + t52.toNat) false)) with ha0 | ha0
 refine FW.run ?_
 (simp only [go_sem, simprocAttr, sw0, show 1 + t47.toNat * 8 + t52.toNat = (t47.toNat * 8 + t52.toNat) + 1 by omega, List.getD_cons_succ, List.set_cons_succ, getD_mapVF Bo b25 (t47.toNat * 8 + t52.toNat) false (by omega), getD_mapVF Bo b3 (t47.toNat * 8 + t52.toNat) false (by omega), getD_mapVF Bo b3 (t47.toNat * 8 + t57.toNat) false (by omega), getD_mapVF Bo b3 (t57.toNat * 8 + t52.toNat) false (by omega), set_mapF Bo b25 (t47.toNat * 8 + t52.toNat), ha0])
 repeat (refine And.intro (by omega) ?_)
 refine FW.nil ?_
 change OW _ _ _ _ _ _
 refine OW.run [1, 6, 7, 10, 11, 46, 47, 51, 52, 56, 57] ?_
 (simp only [go_sem, simprocAttr, sw0, show 1 + t47.toNat * 8 + t52.toNat = (t47.toNat * 8 + t52.toNat) + 1 by omega, List.getD_cons_succ, List.set_cons_succ, getD_mapVF Bo b25 (t47.toNat * 8 + t52.toNat) false (by omega), getD_mapVF Bo b3 (t47.toNat * 8 + t52.toNat) false (by omega), getD_mapVF Bo b3 (t47.toNat * 8 + t57.toNat) false (by omega), getD_mapVF Bo b3 (t57.toNat * 8 + t52.toNat) false (by omega), set_mapF Bo b25 (t47.toNat * 8 + t52.toNat), ha0])
 repeat (refine And.intro (by omega) ?_)
 refine OW.nil ((congrArg K ?_).mpr hKE)
 · (first | rfl | (simp only [go_sem, simprocAttr, ha0]; done) | (simp only [go_sem, simprocAttr, ha0]; rfl))
 rcases Bool.eq_false_or_eq_true ((t47 != t52)) with ha1 | ha1
 rcases Bool.eq_false_or_eq_true ((b3.getD (t47.toNat * 8 + t52.toNat) false)) with ha2 | ha2
 refine FW.run ?_
 (simp only [go_sem, simprocAttr, sw0, show 1 + t47.toNat * 8 + t52.toNat = (t47.toNat * 8 + t52.toNat) + 1 by omega, List.getD_cons_succ, List.set_cons_succ, getD_mapVF Bo b25 (t47.toNat * 8 + t52.toNat) false (by omega), getD_mapVF Bo b3 (t47.toNat * 8 + t52.toNat) false (by omega), getD_mapVF Bo b3 (t47.toNat * 8 + t57.toNat) false (by omega), getD_mapVF Bo b3 (t57.toNat * 8 + t52.toNat) false (by omega), set_mapF Bo b25 (t47.toNat * 8 + t52.toNat), ha0, ha1, ha2])
 repeat (refine And.intro (by omega) ?_)
 refine FW.nil ?_
 change OW _ _ _ _ _ _
 refine OW.run [1, 6, 7, 10, 11, 46, 47, 51, 52, 56, 57] ?_
 (simp only [go_sem, simprocAttr, sw0, show 1 + t47.toNat * 8 + t52.toNat = (t47.toNat * 8 + t52.toNat) + 1 by omega, List.getD_cons_succ, List.set_cons_succ, getD_mapVF Bo b25 (t47.toNat * 8 + t52.toNat) false (by omega), getD_mapVF Bo b3 (t47.toNat * 8 + t52.toNat) false (by omega), getD_mapVF Bo b3 (t47.toNat * 8 + t57.toNat) false (by omega), getD_mapVF Bo b3 (t57.toNat * 8 + t52.toNat) false (by omega), set_mapF Bo b25 (t47.toNat * 8 + t52.toNat), ha0, ha1, ha2])
 repeat (refine And.intro (by omega) ?_)
 refine OW.nil ((congrArg K ?_).mpr hKE)
 · (first | rfl | (simp only [go_sem, simprocAttr, ha0, ha1, ha2]; done) | (simp only [go_sem, simprocAttr, ha0, ha1, ha2]; rfl))
 rcases Bool.eq_false_or_eq_true ((b3.getD (t47.toNat * 8 + t57.toNat) false)) with ha3 | ha3
 refine FW.run ?_
 (simp only [go_sem, simprocAttr, sw0, show 1 + t47.toNat * 8 + t52.toNat = (t47.toNat * 8 + t52.toNat) + 1 by omega, List.getD_cons_succ, List.set_cons_succ, getD_mapVF Bo b25 (t47.toNat * 8 + t52.toNat) false (by omega), getD_mapVF Bo b3 (t47.toNat * 8 + t52.toNat) false (by omega), getD_mapVF Bo b3 (t47.toNat * 8 + t57.toNat) false (by omega), getD_mapVF Bo b3 (t57.toNat * 8 + t52.toNat) false (by omega), set_mapF Bo b25 (t47.toNat * 8 + t52.toNat), ha0, ha1, ha2, ha3])
 repeat (refine And.intro (by omega) ?_)
 refine FW.nil ?_
 change OW _ _ _ _ _ _
 refine OW.run [1, 6, 7, 10, 11, 46, 47, 51, 52, 56, 57] ?_
 (simp only [go_sem, simprocAttr, sw0, show 1 + t47.toNat * 8 + t52.toNat = (t47.toNat * 8 + t52.toNat) + 1 by omega, List.getD_cons_succ, List.set_cons_succ, getD_mapVF Bo b25 (t47.toNat * 8 + t52.toNat) false (by omega), getD_mapVF Bo b3 (t47.toNat * 8 + t52.toNat) false (by omega), getD_mapVF Bo b3 (t47.toNat * 8 + t57.toNat) false (by omega), getD_mapVF Bo b3 (t57.toNat * 8 + t52.toNat) false (by omega), set_mapF Bo b25 (t47.toNat * 8 + t52.toNat), ha0, ha1, ha2, ha3])
 repeat (refine And.intro (by omega) ?_)
 refine OW.nil ((congrArg K ?_).mpr hKE)
 · (first | rfl | (simp only [go_sem, simprocAttr, ha0, ha1, ha2, ha3]; done) | (simp only [go_sem, simprocAttr, ha0, ha1, ha2, ha3]; rfl))
 refine FW.run ?_
 (simp only [go_sem, simprocAttr, sw0, show 1 + t47.toNat * 8 + t52.toNat = (t47.toNat * 8 + t52.toNat) + 1 by omega, List.getD_cons_succ, List.set_cons_succ, getD_mapVF Bo b25 (t47.toNat * 8 + t52.toNat) false (by omega), getD_mapVF Bo b3 (t47.toNat * 8 + t52.toNat) false (by omega), getD_mapVF Bo b3 (t47.toNat * 8 + t57.toNat) false (by omega), getD_mapVF Bo b3 (t57.toNat * 8 + t52.toNat) false (by omega), set_mapF Bo b25 (t47.toNat * 8 + t52.toNat), ha0, ha1, ha2, ha3])
 repeat (refine And.intro (by omega) ?_)
 refine FW.nil ?_
 change OW _ _ _ _ _ _
 refine OW.run [1, 6, 7, 10, 11, 46, 47, 51, 52, 56, 57] ?_
 (simp only [go_sem, simprocAttr, sw0, show 1 + t47.toNat * 8 + t52.toNat = (t47.toNat * 8 + t52.toNat) + 1 by omega, List.getD_cons_succ, List.set_cons_succ, getD_mapVF Bo b25 (t47.toNat * 8 + t52.toNat) false (by omega), getD_mapVF Bo b3 (t47.toNat * 8 + t52.toNat) false (by omega), getD_mapVF Bo b3 (t47.toNat * 8 + t57.toNat) false (by omega), getD_mapVF Bo b3 (t57.toNat * 8 + t52.toNat) false (by omega), set_mapF Bo b25 (t47.toNat * 8 + t52.toNat), ha0, ha1, ha2, ha3])
 repeat (refine And.intro (by omega) ?_)
 refine OW.nil ((congrArg K ?_).mpr hKE)
 · (first | rfl | (simp only [go_sem, simprocAttr, ha0, ha1, ha2, ha3]; done) | (simp only [go_sem, simprocAttr, ha0, ha1, ha2, ha3]; rfl))
 refine FW.run ?_
 (simp only [go_sem, simprocAttr, sw0, show 1 + t47.toNat * 8 + t52.toNat = (t47.toNat * 8 + t52.toNat) + 1 by omega, List.getD_cons_succ, List.set_cons_succ, getD_mapVF Bo b25 (t47.toNat * 8 + t52.toNat) false (by omega), getD_mapVF Bo b3 (t47.toNat * 8 + t52.toNat) false (by omega), getD_mapVF Bo b3 (t47.toNat * 8 + t57.toNat) false (by omega), getD_mapVF Bo b3 (t57.toNat * 8 + t52.toNat) false (by omega), set_mapF Bo b25 (t47.toNat * 8 + t52.toNat), ha0, ha1])
 repeat (refine And.intro (by omega) ?_)
 refine FW.nil ?_
 change OW _ _ _ _ _ _
 refine OW.run [1, 6, 7, 10, 11, 46, 47, 51, 52, 56, 57] ?_
 (simp only [go_sem, simprocAttr, sw0, show 1 + t47.toNat * 8 + t52.toNat = (t47.toNat * 8 + t52.toNat) + 1 by omega, List.getD_cons_succ, List.set_cons_succ, getD_mapVF Bo b25 (t47.toNat * 8 + t52.toNat) false (by omega), getD_mapVF Bo b3 (t47.toNat * 8 + t52.toNat) false (by omega), getD_mapVF Bo b3 (t47.toNat * 8 + t57.toNat) false (by omega), getD_mapVF Bo b3 (t57.toNat * 8 + t52.toNat) false (by omega), set_mapF Bo b25 (t47.toNat * 8 + t52.toNat), ha0, ha1])
 repeat (refine And.intro (by omega) ?_)
 refine OW.nil ((congrArg K ?_).mpr hKE)
 · (first | rfl | (simp only [go_sem, simprocAttr, ha0, ha1]; done) | (simp only [go_sem, simprocAttr, ha0, ha1]; rfl))
 clear hK K
 refine PW.regionK fun K hK => OW.run [1, 6, 7, 10, 11, 46, 47, 51, 52, 56, 57] ?_
 simp only [go_sem, simprocAttr, sw0]
 refine OW.nil (hK _ ?_); clear hK K
 refine hN20 [] (w64 (t57 + (1 : Int)), (b25.set (t47.toNat * 8 + t52.toNat) ((b25.getD (t47.toNat * 8 + t52.toNat) false) || ((t47 != t52) && ((b3.getD (t47.toNat * 8 + t52.toNat) false) || ((b3.getD (t47.toNat * 8 + t57.toNat) false) && (b3.getD (t57.toNat * 8 + t52.toNat) false))))))) _ H (by exact trivial) ?_
 simp only [sw1, go_sem, simprocAttr]
 replace H := br_f h21 H
 refine PW.exit ?_
 refine hN19 [] b25 _ H (by exact trivial) ?_
 simp only [sw1, go_sem, simprocAttr]
 rintro b24 H
 try simp only [go_sem, simprocAttr]
 refine PW.regionK fun K hK => OW.run [1, 6, 7, 10, 46, 47, 51, 52] ?_
 simp only [go_sem, simprocAttr, sw0]
 refine OW.nil (hK _ ?_); clear hK K
 refine hN17 [] (w64 (t52 + (1 : Int)), b24) _ H (by exact trivial) ?_
 simp only [sw1, go_sem, simprocAttr]
 replace H := br_f h18 H
 refine PW.exit ?_
 refine hN16 [] b23 _ H (by exact trivial) ?_
 simp only [sw1, go_sem, simprocAttr]
 rintro b22 H
 try simp only [go_sem, simprocAttr]
 refine PW.regionK fun K hK => OW.run [1, 6, 7, 46, 47] ?_
 simp only [go_sem, simprocAttr, sw0]
 refine OW.nil (hK _ ?_); clear hK K
 refine hN14 [] (w64 (t47 + (1 : Int)), b22) _ H (by exact trivial) ?_
 simp only [sw1, go_sem, simprocAttr]
 replace H := br_f h15 H
 refine PW.exit ?_
 refine hN13 [] b21 _ H (by exact trivial) ?_
 simp only [sw1, go_sem, simprocAttr]
 rintro b2 H
 try simp only [go_sem, simprocAttr]
 refine PW.seq ?_
 refine PW.regionK fun K hK => OW.run [2, 3] ?_
 simp only [go_sem, simprocAttr, sw0]
 refine OW.nil (hK _ ?_); clear hK K
 refine PW.ret ?_
 refine ⟨.inr rfl, rfl, rfl, ?_⟩
 simp only [go_sem, simprocAttr, sw0]
 change OW _ _ _ _ _ _
 refine OW.run [1, 6, 7] ?_
 simp only [go_sem, simprocAttr, sw0]
 refine OW.nil (hK _ ?_); clear hK K
 refine PW.seq ?_
 refine PW.seq ?_
 refine PW.regionK fun K hK => OW.run [1, 6, 7, 17] ?_
 simp only [go_sem, simprocAttr, sw0]
 refine OW.nil (hK _ ?_); clear hK K
 refine PW.cond rfl (fun h34 => ?_) (fun h34 => ?_)
 exact absurd h34 (by decide)
 refine PW.skip ?_
 refine PW.seq ?_
 refine PW.seq ?_
 obtain ⟨x2, e2, H⟩ := bnd_some H
 refine PW.regionK fun K hK => OW.run [1, 6, 8] ?_
 simp only [go_sem, simprocAttr, sw0]
 refine OW.call' 4 rfl rfl rfl (by first | exact rfl | ((simp only [go_sem, List.toList_toArray, simprocAttr]); exact rfl)) ?_ (plan_web_cellErr_ok N _ _ _ _ e2) ?_ ?_ ?_ ?_
 · (((simp only [go_sem, sw1, simprocAttr]; try simp only [seg, go_sem, simprocAttr])); done)
 · (refine okAll_intro ?_; (simp only [go_sem, sw2, List.length_set, List.length_replicate, and_true, true_and, Nat.le_refl, simprocAttr]; done))
 exact .inr ⟨rfl, rfl⟩
 (simp only [go_sem, Nat.reduceLT])
 refine OW.run [1, 6, 8] ?_
 simp only [go_sem, simprocAttr, sw0]
 refine OW.nil (hK _ ?_); clear hK K
 refine PW.seq ?_
 refine PW.regionK fun K hK => OW.run [1, 6, 8, 23] ?_
 simp only [go_sem, simprocAttr, sw0]
 refine OW.nil (hK _ ?_); clear hK K
 refine PW.cond rfl (fun h35 => ?_) (fun h35 => ?_)
 replace H := br_t h35 H
 refine PW.seq ?_
 refine PW.regionK fun K hK => OW.run [4, 5] ?_
 simp only [go_sem, simprocAttr, sw0]
 refine OW.nil (hK _ ?_); clear hK K
 refine PW.ret ?_
 change PW.Ends _ _ _ _ _ _
 refine PW.Ends.intro (.inr rfl) ?_
 simp only [go_sem, simprocAttr, sw0]
 obtain rfl := Option.some.inj H
 refine RetOK.data' 4 (by exact okD_all rfl) ?_
 rfl
 replace H := br_f h35 H
 refine PW.skip ?_
 refine PW.seq ?_
 refine PW.regionK fun K hK => OW.run [1, 6, 9] ?_
 simp only [go_sem, simprocAttr, sw0]
 refine OW.nil (hK _ ?_); clear hK K
 refine PW.joinS (τ := List Int) [9] 4 (fun b32 => [(9, .own 3 0 b32.length 1)]) (fun b32 => [{ cells := [.d (I Zp), .d (.list Zq.length (Zq.flatMap (fun (x : Int × Int) => [(I x.1), (I x.2)])))], e := 24 }, { cells := [.d (I Zp), .d (.list Zq.length (Zq.flatMap (fun (x : Int × Int) => [(I x.1), (I x.2)])))], e := 24 }, { cells := .d (I Zp) :: (b2.map Bo).map .d, e := 106 }, { cells := (b32.map I).map .d, e := 3 }]) _ _ r (by exact Nat.zero_le _) H ?_ ?_
 intro K_4 H N36 hN36
 refine PW.seq ?_
 refine PW.regionK fun K hK => OW.run [1, 6, 9, 28, 29] ?_
 simp only [go_sem, simprocAttr, sw0]
 repeat (refine And.intro (by omega) ?_)
 refine OW.nil (hK _ ?_); clear hK K
 refine PW.block ?_
 refine PW.virt 9 3 1 rfl ?_
 try simp only [go_sem, simprocAttr]
 refine PW.loopS (σ := Int × List Int) [1, 6, 9, 28, 29] 4 (fun (t29, b33) => [(9, .own 3 0 b33.length 1), (29, .d (I t29))]) (fun (t29, b33) => [{ cells := [.d (I Zp), .d (.list Zq.length (Zq.flatMap (fun (x : Int × Int) => [(I x.1), (I x.2)])))], e := 24 }, { cells := [.d (I Zp), .d (.list Zq.length (Zq.flatMap (fun (x : Int × Int) => [(I x.1), (I x.2)])))], e := 24 }, { cells := .d (I Zp) :: (b2.map Bo).map .d, e := 106 }, { cells := (b33.map I).map .d, e := 3 }]) (plan_Near.b5 N Zp cell b2 K_4) r N ((0 : Int), ([] : List Int)) (by exact Nat.zero_le _) H (by (simp only [sw1, go_sem, simprocAttr]; done)) ?_
 rintro n ⟨t29, b33⟩ H N37 hN37
 unfold plan_Near.b5 at H
 try simp only [go_sem, simprocAttr]
 refine PW.seq ?_
 refine PW.regionK fun K hK => OW.run [1, 6, 9, 28, 29, 30] ?_
 simp only [go_sem, simprocAttr, sw0]
 refine OW.nil (hK _ ?_); clear hK K
 refine PW.seq ?_
 refine PW.cond rfl (fun h38 => ?_) (fun h38 => ?_)
 replace H := br_t h38 H
 refine PW.skip ?_
 refine PW.seq ?_
 refine PW.block ?_
 refine PW.seq ?_
 refine PW.regionK fun K hK => OW.run [1, 6, 9, 10, 28, 29] ?_
 simp only [go_sem, simprocAttr, sw0]
 refine OW.nil (hK _ ?_); clear hK K
 refine PW.seq ?_
 obtain ⟨c39, H⟩ := chk_some H
 obtain ⟨c40, H⟩ := chk_some H
 obtain ⟨c41, H⟩ := chk_some H
 refine PW.regionK fun K hK => OW.run [1, 6, 9, 10, 28, 29, 39] ?_
 (simp only [go_sem, simprocAttr, sw0, show 1 + cell.toNat * 8 + t29.toNat = (cell.toNat * 8 + t29.toNat) + 1 by omega, List.getD_cons_succ, List.set_cons_succ, getD_mapVF Bo b2 (cell.toNat * 8 + t29.toNat) false (by omega)])
 repeat (refine And.intro (by omega) ?_)
 refine OW.nil (hK _ ?_); clear hK K
 refine PW.cond rfl (fun h42 => ?_) (fun h42 => ?_)
 replace H := br_t h42 H
 obtain ⟨c43, H⟩ := chk_some H
 refine PW.regionK fun K hK => OW.run [1, 6, 9, 28, 29] ?_
 simp only [go_sem, simprocAttr, sw0]
 repeat (refine And.intro (by omega) ?_)
 refine OW.nil (hK _ ?_); clear hK K
 refine PW.regionK fun K hK => OW.run [1, 6, 9, 28, 29] ?_
 simp only [go_sem, simprocAttr, sw0]
 refine OW.nil (hK _ ?_); clear hK K
 refine hN37 [] (w64 (t29 + (1 : Int)), (b33 ++ ([t29] : List Int))) _ H (by exact trivial) ?_
 simp only [sw1, go_sem, simprocAttr]
 replace H := br_f h42 H
 refine PW.skip ?_
 refine PW.regionK fun K hK => OW.run [1, 6, 9, 28, 29] ?_
 simp only [go_sem, simprocAttr, sw0]
 refine OW.nil (hK _ ?_); clear hK K
 refine hN37 [] (w64 (t29 + (1 : Int)), b33) _ H (by exact trivial) ?_
 simp only [sw1, go_sem, simprocAttr]
 replace H := br_f h38 H
 refine PW.exit ?_
 refine hN36 [] b33 _ H (by exact trivial) ?_
 simp only [sw1, go_sem, simprocAttr]
 rintro b32 H
 try simp only [go_sem, simprocAttr]
 refine PW.seq ?_
 refine PW.regionK fun K hK => OW.run [4, 5] ?_
 simp only [go_sem, simprocAttr, sw0]
 refine OW.nil (hK _ ?_); clear hK K
 refine PW.ret ?_
 change PW.Ends _ _ _ _ _ _
 refine PW.Ends.intro (.inr rfl) ?_
 simp only [go_sem, simprocAttr, sw0]
 obtain rfl := Option.some.inj H
 refine RetOK.data' 4 (by (refine okAll_intro ?_; (simp only [go_sem, sw2, List.length_set, List.length_replicate, and_true, true_and, Nat.le_refl, simprocAttr]; done))) ?_
 · (((simp only [go_sem, sw1, simprocAttr]; try simp only [seg, go_sem, simprocAttr])); done)

theorem base_Before_ok (N : Nat) (a : List Int) (b : List Int) (r : Bool) (H : base_Before N a b = some r) : CallOK Try.prog 82 [(L a), (L b)] (.d (Bo r)) [] := by
 refine CallOK.of_PW Try.func82 rfl (by rw [Try.results82]) Try.ntmps82 Try.call82 ?_
 change PW _ _ _ _ _
 try simp only [go_sem, simprocAttr]
 unfold base_Before at H
 refine PW.seq ?_
 refine PW.regionK fun K hK => OW.run [0, 1] ?_
 simp only [go_sem, simprocAttr, sw0]
 refine OW.nil (hK _ ?_)
 refine PW.joinS (τ := Unit) [0, 1] 0 (fun _ => []) (fun _ => []) _ _ r (by exact Nat.le_refl _) H ?_ ?_
 intro K_ H N1 hN1
 refine PW.seq ?_
 refine PW.regionK fun K hK => OW.run [0, 1, 5] ?_
 simp only [go_sem, simprocAttr, sw0]
 refine OW.nil (hK _ ?_)
 refine PW.block ?_
 refine PW.loopS (σ := Int) [0, 1, 5] 0 (fun i => [(5, .d (I i))]) (fun i => []) (base_Before.b1 N a b K_) r N (0 : Int) (by exact Nat.le_refl _) H (by (simp only [sw1, go_sem, simprocAttr]; done)) ?_
 rintro n i H N2 hN2
 unfold base_Before.b1 at H
 try simp only [go_sem, simprocAttr]
 refine PW.seq ?_
 refine PW.seq ?_
 refine PW.regionK fun K hK => OW.run [0, 1, 5, 15] ?_
 simp only [go_sem, simprocAttr, sw0]
 refine OW.nil (hK _ ?_)
 refine PW.cond rfl (fun h3 => ?_) (fun h3 => ?_)
 replace H := br_t h3 H
 refine PW.skip ?_
 refine PW.seq ?_
 refine PW.block ?_
 refine PW.seq ?_
 obtain ⟨c4, H⟩ := chk_some H
 obtain ⟨c5, H⟩ := chk_some H
 refine PW.drawK 8 mixed (by kernel_rfl) fun K hK => ?_
 change FW _ _ _ _ _
 refine FW.run ?_
 simp only [go_sem, simprocAttr, sw0]
 repeat (refine And.intro (by omega) ?_)
 refine FW.nil ?_
 change OW _ _ _ _ _ _
 refine OW.run [0, 1, 5, 26] ?_
 simp only [go_sem, simprocAttr, sw0]
 refine OW.nil (hK _ ?_)
 refine PW.cond rfl (fun h6 => ?_) (fun h6 => ?_)
 replace H := br_t h6 H
 refine PW.seq ?_
 obtain ⟨c7, H⟩ := chk_some H
 obtain ⟨c8, H⟩ := chk_some H
 refine PW.drawK 8 mixed (by kernel_rfl) fun K hK => ?_
 change FW _ _ _ _ _
 refine FW.run ?_
 simp only [go_sem, simprocAttr, sw0]
 repeat (refine And.intro (by omega) ?_)
 refine FW.nil ?_
 change OW _ _ _ _ _ _
 refine OW.run [4] ?_
 simp only [go_sem, simprocAttr, sw0]
 refine OW.nil (hK _ ?_)
 refine PW.ret ?_
 change PW.Ends _ _ _ _ _ _
 refine PW.Ends.intro (.inr rfl) ?_
 simp only [go_sem, simprocAttr, sw0]
 obtain rfl := Option.some.inj H
 refine RetOK.data' 4 (by exact trivial) ?_
 rfl
 replace H := br_f h6 H
 refine PW.skip ?_
 refine PW.regionK fun K hK => OW.run [0, 1, 5] ?_
 simp only [go_sem, simprocAttr, sw0]
 refine OW.nil (hK _ ?_)
 refine hN2 [] (w64 (i + (1 : Int))) _ H (by exact trivial) ?_
 simp only [sw1, go_sem, simprocAttr]
 replace H := br_f h3 H
 refine PW.exit ?_
 refine hN1 [] () _ H (by exact trivial) ?_
 simp only [sw1, go_sem, simprocAttr]
 rintro _ H
 try simp only [go_sem, simprocAttr]
 refine PW.seq ?_
 refine PW.regionK fun K hK => OW.run [4] ?_
 simp only [go_sem, simprocAttr, sw0]
 refine OW.nil (hK _ ?_)
 refine PW.ret ?_
 change PW.Ends _ _ _ _ _ _
 refine PW.Ends.intro (.inr rfl) ?_
 simp only [go_sem, simprocAttr, sw0]
 obtain rfl := Option.some.inj H
 refine RetOK.data' 4 (by exact trivial) ?_
 rfl

theorem ref09_CheckNet_ok (N : Nat) (Zp : Int) (Zq : List (Int × Int)) (r : Int × Int) (H : ref09_CheckNet N Zp Zq = some r) : CallOK Try.prog 34 [(.agg [(I Zp), (.list Zq.length (Zq.flatMap (fun (x : Int × Int) => [(I x.1), (I x.2)])))])] (.d (.tup [(I r.1), (I r.2)])) [] := by
 refine CallOK.of_PW Try.func34 rfl (by rw [Try.results34]) Try.ntmps34 Try.call34 ?_
 change PW _ _ _ _ _
 try simp only [go_sem, simprocAttr]
 unfold ref09_CheckNet at H
 refine PW.seq ?_
 refine PW.regionK fun K hK => OW.run [1] ?_
 simp only [go_sem, simprocAttr, sw0]
 refine OW.nil (hK _ ?_)
 refine PW.seq ?_
 refine PW.seq ?_
 obtain ⟨x1, e1, H⟩ := bnd_some H
 refine PW.regionK fun K hK => OW.run [1, 10] ?_
 simp only [go_sem, simprocAttr, sw0]
 repeat (refine And.intro (by omega) ?_)
 refine OW.call' 4 rfl rfl rfl (by first | exact rfl | ((simp only [go_sem, List.toList_toArray, simprocAttr]); exact rfl)) ?_ (base_Within_ok N _ _ _ _ e1) ?_ ?_ ?_ ?_
 rfl
 exact okD_all rfl
 exact .inl rfl
 (simp only [go_sem, Nat.reduceLT])
 refine OW.run [1, 10] ?_
 simp only [go_sem, simprocAttr, sw0]
 refine OW.nil (hK _ ?_)
 refine PW.cond rfl (fun h1 => ?_) (fun h1 => ?_)
 replace H := br_t h1 H
 refine PW.seq ?_
 refine PW.regionK fun K hK => OW.run [2, 3] ?_
 simp only [go_sem, simprocAttr, sw0]
 refine OW.nil (hK _ ?_)
 refine PW.ret ?_
 change PW.Ends _ _ _ _ _ _
 refine PW.Ends.intro (.inr rfl) ?_
 simp only [go_sem, simprocAttr, sw0]
 obtain rfl := Option.some.inj H
 refine RetOK.data' 4 (by exact okD_all rfl) ?_
 rfl
 replace H := br_f h1 H
 refine PW.skip ?_
 refine PW.seq ?_
 refine PW.seq ?_
 refine PW.regionK fun K hK => OW.run [1, 14] ?_
 simp only [go_sem, simprocAttr, sw0]
 repeat (refine And.intro (by omega) ?_)
 refine OW.nil (hK _ ?_)
 refine PW.cond rfl (fun h2 => ?_) (fun h2 => ?_)
 replace H := br_t h2 H
 refine PW.seq ?_
 refine PW.regionK fun K hK => OW.run [2, 3] ?_
 simp only [go_sem, simprocAttr, sw0]
 refine OW.nil (hK _ ?_)
 refine PW.ret ?_
 change PW.Ends _ _ _ _ _ _
 refine PW.Ends.intro (.inr rfl) ?_
 simp only [go_sem, simprocAttr, sw0]
 obtain rfl := Option.some.inj H
 refine RetOK.data' 4 (by exact okD_all rfl) ?_
 rfl
 replace H := br_f h2 H
 refine PW.skip ?_
 refine PW.joinS (τ := Unit) [] 0 (fun _ => []) (fun _ => []) _ _ r (by exact Nat.le_refl _) H ?_ ?_
 intro K_ H N3 hN3
 refine PW.seq ?_
 refine PW.regionK fun K hK => OW.run [1, 4] ?_
 simp only [go_sem, simprocAttr, sw0]
 refine OW.nil (hK _ ?_)
 refine PW.block ?_
 refine PW.loopS (σ := Int) [1, 4] 1 (fun i => [(4, .d (I i))]) (fun i => [{ cells := [.d (I Zp), .d (.list Zq.length (Zq.flatMap (fun (x : Int × Int) => [(I x.1), (I x.2)])))], e := 24 }]) (ref09_CheckNet.b1 N Zp Zq K_) r N (0 : Int) (by exact Nat.zero_le _) H (by (simp only [sw1, go_sem, simprocAttr]; done)) ?_
 rintro n i H N4 hN4
 unfold ref09_CheckNet.b1 at H
 try simp only [go_sem, simprocAttr]
 refine PW.seq ?_
 refine PW.seq ?_
 refine PW.regionK fun K hK => OW.run [1, 4, 19] ?_
 simp only [go_sem, simprocAttr, sw0]
 repeat (refine And.intro (by omega) ?_)
 refine OW.nil (hK _ ?_)
 refine PW.cond rfl (fun h5 => ?_) (fun h5 => ?_)
 replace H := br_t h5 H
 refine PW.skip ?_
 refine PW.seq ?_
 refine PW.block ?_
 refine PW.seq ?_
 obtain ⟨c6, H⟩ := chk_some H
 obtain ⟨c7, H⟩ := chk_some H
 refine PW.drawK 13 mixed (by kernel_rfl) fun K hK => ?_
 change FW _ _ _ _ _
 refine FW.run ?_
 (simp only [go_sem, simprocAttr, sw0, flatMap_length 2 (fun (x : Int × Int) => [(I x.1), (I x.2)]) (fun _ => rfl), sub_el 2 (fun (x : Int × Int) => [(I x.1), (I x.2)]) (fun _ => rfl) Zq i.toNat (by omega)])
 repeat (refine And.intro (by omega) ?_)
 refine FW.nil ?_
 change OW _ _ _ _ _ _
 refine OW.run [1, 4, 5, 6] ?_
 (simp only [go_sem, simprocAttr, sw0, flatMap_length 2 (fun (x : Int × Int) => [(I x.1), (I x.2)]) (fun _ => rfl), sub_el 2 (fun (x : Int × Int) => [(I x.1), (I x.2)]) (fun _ => rfl) Zq i.toNat (by omega)])
 refine OW.nil (hK _ ?_)
 refine PW.seq ?_
 refine PW.seq ?_
 obtain ⟨x2, e2, H⟩ := bnd_some H
 obtain ⟨x3, e3, H⟩ := bnd_some H
 refine PW.regionK fun K hK => OW.run [1, 4, 5, 6, 47] ?_
 simp only [go_sem, simprocAttr, sw0]
 repeat (refine And.intro (by omega) ?_)
 refine OW.call' 4 rfl rfl rfl (by first | exact rfl | ((simp only [go_sem, List.toList_toArray, simprocAttr]); exact rfl)) ?_ (base_Within_ok N _ _ _ _ e2) ?_ ?_ ?_ ?_
 rfl
 exact okD_all rfl
 exact .inl rfl
 (simp only [go_sem, Nat.reduceLT])
 refine OW.run [1, 4, 5, 6, 47] ?_
 simp only [go_sem, simprocAttr, sw0]
 repeat (refine And.intro (by omega) ?_)
 refine OW.callG' 4 rfl rfl ?_ (fun hg => by first | rfl | (simp only [go_sem, ↓reduceIte]; rfl)) (fun hg => by ((simp only [go_sem, List.toList_toArray, simprocAttr]); exact rfl)) (fun hg => ?_) (fun hg => (base_Within_ok N _ _ _ _ (grd_t hg e3))) ?_ ?_ ?_ ?_
 simp only [go_sem, simprocAttr]
 rfl
 exact okD_all rfl
 exact .inl rfl
 (simp only [go_sem, Nat.reduceLT])
 refine OW.run [1, 4, 5, 6, 47] ?_
 simp only [go_sem, simprocAttr, sw0]
 refine OW.nil (hK _ ?_)
 refine PW.cond rfl (fun h8 => ?_) (fun h8 => ?_)
 replace H := br_t h8 H
 refine PW.seq ?_
 refine PW.regionK fun K hK => OW.run [2, 3] ?_
 simp only [go_sem, simprocAttr, sw0]
 refine OW.nil (hK _ ?_)
 refine PW.ret ?_
 change PW.Ends _ _ _ _ _ _
 refine PW.Ends.intro (.inr rfl) ?_
 simp only [go_sem, simprocAttr, sw0]
 obtain rfl := Option.some.inj H
 refine RetOK.data' 4 (by exact okD_all rfl) ?_
 rfl
 replace H := br_f h8 H
 refine PW.skip ?_
 refine PW.seq ?_
 obtain ⟨c9, H⟩ := chk_some H
 obtain ⟨c10, H⟩ := chk_some H
 obtain ⟨x4, e4, H⟩ := bnd_some H
 refine PW.drawK 18 mixed (by kernel_rfl) fun K hK => ?_
 change FW _ _ _ _ _
 refine FW.toS [(1, .ptr 0 0), (4, .d (I i)), (70, .d (Bo ((decide ((Zq.getD i.toNat default).1 ≥ (Zq.getD i.toNat default).2)) || ((decide (i > (0 : Int))) && (!x4)))))] [{ cells := [.d (I Zp), .d (.list Zq.length (Zq.flatMap (fun (x : Int × Int) => [(I x.1), (I x.2)])))], e := 24 }] ?_ (hK _ ?_)
 intro K hKE
 rcases Bool.eq_false_or_eq_true ((decide ((Zq.getD i.toNat default).1 ≥ (Zq.getD i.toNat default).2))) with ha0 | ha0
 ·
  try simp only [ha0, sb0, true_implies, false_implies, forall_const] at c9
  try simp only [ha0, sb0, true_implies, false_implies, forall_const] at c10
  refine FW.run ?_
  (simp only [go_sem, simprocAttr, sw0, ha0])
  repeat (refine And.intro (by first | omega | (intro hg; have hq := c9 (by first | exact hg | simpa using hg); first | omega | exact hq | (simp only [List.length_map]; omega)) | (intro hg; have hq := c10 (by first | exact hg | simpa using hg); first | omega | exact hq | (simp only [List.length_map]; omega)) | (first | omega | assumption | rfl | decide | (simp only [List.length_map, List.length_replicate, List.length_append, List.length_take, List.length_drop, List.length_set, List.length_cons, List.length_nil, Nat.zero_add, Int.toNat_natCast] at *; omega) | (simp only [List.length_map, List.length_replicate, List.length_append, List.length_take, List.length_drop, List.length_set, List.length_cons, List.length_nil, Nat.zero_add, Int.toNat_natCast]; done) | trivial)) ?_)
  refine FW.nil ?_
  change OW _ _ _ _ _ _
  refine OW.run [1, 4, 70] ?_
  (simp only [go_sem, simprocAttr, sw0, ha0])
  repeat (refine And.intro (by first | omega | (intro hg; have hq := c9 (by first | exact hg | simpa using hg); first | omega | exact hq | (simp only [List.length_map]; omega)) | (intro hg; have hq := c10 (by first | exact hg | simpa using hg); first | omega | exact hq | (simp only [List.length_map]; omega)) | (first | omega | assumption | rfl | decide | (simp only [List.length_map, List.length_replicate, List.length_append, List.length_take, List.length_drop, List.length_set, List.length_cons, List.length_nil, Nat.zero_add, Int.toNat_natCast] at *; omega) | (simp only [List.length_map, List.length_replicate, List.length_append, List.length_take, List.length_drop, List.length_set, List.length_cons, List.length_nil, Nat.zero_add, Int.toNat_natCast]; done) | trivial)) ?_)
  refine OW.callGh' 4 rfl rfl ?_ (fun hg => by first | rfl | (simp only [go_sem, ↓reduceIte]; rfl)) (fun hg => by (first | ((simp only [go_sem, List.toList_toArray, simprocAttr, ha0]); exact rfl) | exact rfl)) (fun hg => ?_) (fun hg => (base_Before_ok N _ _ _ (grd_t hg e4))) ?_ ?_ ?_ ?_
  · (first | rfl | (simp only [go_sem, simprocAttr, ha0]; done) | (simp only [go_sem, simprocAttr, ha0]; rfl))
  · first | ((((simp only [go_sem, sw1, simprocAttr]; try simp only [seg, go_sem, simprocAttr])); (repeat' (first | rfl | (refine list_congr ?_; simp only [List.length_take, List.length_drop, List.length_set, List.length_replicate] <;> omega) | (refine congr (congrArg List.cons ?_) ?_) | (refine congrArg D.agg ?_) | (refine congrArg D.tup ?_) | (refine congrArg D.ref ?_) | (refine congrArg (D.list _) ?_) | (refine congrArg (D.clo _) ?_)))); done) | (exfalso; simp only [ha0, sb0] at hg)
  · intro hg; first | (exact okD_all rfl; done) | (exfalso; simp only [ha0, sb0] at hg)
  exact .inl rfl
  (simp only [go_sem, Nat.reduceLT])
  refine OW.run [1, 4, 70] ?_
  (simp only [go_sem, simprocAttr, sw0, ha0])
  repeat (refine And.intro (by first | omega | (intro hg; have hq := c9 (by first | exact hg | simpa using hg); first | omega | exact hq | (simp only [List.length_map]; omega)) | (intro hg; have hq := c10 (by first | exact hg | simpa using hg); first | omega | exact hq | (simp only [List.length_map]; omega)) | (first | omega | assumption | rfl | decide | (simp only [List.length_map, List.length_replicate, List.length_append, List.length_take, List.length_drop, List.length_set, List.length_cons, List.length_nil, Nat.zero_add, Int.toNat_natCast] at *; omega) | (simp only [List.length_map, List.length_replicate, List.length_append, List.length_take, List.length_drop, List.length_set, List.length_cons, List.length_nil, Nat.zero_add, Int.toNat_natCast]; done) | trivial)) ?_)
  refine OW.nil ((congrArg K ?_).mpr hKE)
  · (first | rfl | (simp only [go_sem, simprocAttr, ha0]; done) | (simp only [go_sem, simprocAttr, ha0]; rfl))
 rcases Bool.eq_false_or_eq_true ((decide (i > (0 : Int)))) with ha1 | ha1
 ·
  try simp only [ha0, ha1, sb0, true_implies, false_implies, forall_const] at c9
  try simp only [ha0, ha1, sb0, true_implies, false_implies, forall_const] at c10
  refine FW.run ?_
  (simp only [go_sem, simprocAttr, sw0, flatMap_length 2 (fun (x : Int × Int) => [(I x.1), (I x.2)]) (fun _ => rfl), sub_el 2 (fun (x : Int × Int) => [(I x.1), (I x.2)]) (fun _ => rfl) Zq ((w64 (i - (1 : Int))).toNat) (by omega), sub_el 2 (fun (x : Int × Int) => [(I x.1), (I x.2)]) (fun _ => rfl) Zq i.toNat (by omega), ha0, ha1])
  repeat (refine And.intro (by first | omega | (intro hg; have hq := c9 (by first | exact hg | simpa using hg); first | omega | exact hq | (simp only [List.length_map]; omega)) | (intro hg; have hq := c10 (by first | exact hg | simpa using hg); first | omega | exact hq | (simp only [List.length_map]; omega)) | (first | omega | assumption | rfl | decide | (simp only [List.length_map, List.length_replicate, List.length_append, List.length_take, List.length_drop, List.length_set, List.length_cons, List.length_nil, Nat.zero_add, Int.toNat_natCast] at *; omega) | (simp only [List.length_map, List.length_replicate, List.length_append, List.length_take, List.length_drop, List.length_set, List.length_cons, List.length_nil, Nat.zero_add, Int.toNat_natCast]; done) | trivial)) ?_)
  refine FW.nil ?_
  change OW _ _ _ _ _ _
  refine OW.run [1, 4, 70] ?_
  (simp only [go_sem, simprocAttr, sw0, flatMap_length 2 (fun (x : Int × Int) => [(I x.1), (I x.2)]) (fun _ => rfl), sub_el 2 (fun (x : Int × Int) => [(I x.1), (I x.2)]) (fun _ => rfl) Zq ((w64 (i - (1 : Int))).toNat) (by omega), sub_el 2 (fun (x : Int × Int) => [(I x.1), (I x.2)]) (fun _ => rfl) Zq i.toNat (by omega), ha0, ha1])
  repeat (refine And.intro (by first | omega | (intro hg; have hq := c9 (by first | exact hg | simpa using hg); first | omega | exact hq | (simp only [List.length_map]; omega)) | (intro hg; have hq := c10 (by first | exact hg | simpa using hg); first | omega | exact hq | (simp only [List.length_map]; omega)) | (first | omega | assumption | rfl | decide | (simp only [List.length_map, List.length_replicate, List.length_append, List.length_take, List.length_drop, List.length_set, List.length_cons, List.length_nil, Nat.zero_add, Int.toNat_natCast] at *; omega) | (simp only [List.length_map, List.length_replicate, List.length_append, List.length_take, List.length_drop, List.length_set, List.length_cons, List.length_nil, Nat.zero_add, Int.toNat_natCast]; done) | trivial)) ?_)
  refine OW.callGh' 4 rfl rfl ?_ (fun hg => by first | rfl | (simp only [go_sem, ↓reduceIte]; rfl)) (fun hg => by (first | ((simp only [go_sem, List.toList_toArray, simprocAttr, ha0, ha1]); exact rfl) | exact rfl)) (fun hg => ?_) (fun hg => (base_Before_ok N _ _ _ (grd_t hg e4))) ?_ ?_ ?_ ?_
  · (first | rfl | (simp only [go_sem, simprocAttr, ha0, ha1]; done) | (simp only [go_sem, simprocAttr, ha0, ha1]; rfl))
  · first | (rfl; done) | (exfalso; simp only [ha0, ha1, sb0] at hg)
  · intro hg; first | (exact okD_all rfl; done) | (exfalso; simp only [ha0, ha1, sb0] at hg)
  exact .inl rfl
  (simp only [go_sem, Nat.reduceLT])
  refine OW.run [1, 4, 70] ?_
  (simp only [go_sem, simprocAttr, sw0, flatMap_length 2 (fun (x : Int × Int) => [(I x.1), (I x.2)]) (fun _ => rfl), sub_el 2 (fun (x : Int × Int) => [(I x.1), (I x.2)]) (fun _ => rfl) Zq ((w64 (i - (1 : Int))).toNat) (by omega), sub_el 2 (fun (x : Int × Int) => [(I x.1), (I x.2)]) (fun _ => rfl) Zq i.toNat (by omega), ha0, ha1])
  repeat (refine And.intro (by first | omega | (intro hg; have hq := c9 (by first | exact hg | simpa using hg); first | omega | exact hq | (simp only [List.length_map]; omega)) | (intro hg; have hq := c10 (by first | exact hg | simpa using hg); first | omega | exact hq | (simp only [List.length_map]; omega)) | (first | omega | assumption | rfl | decide | (simp only [List.length_map, List.length_replicate, List.length_append, List.length_take, List.length_drop, List.length_set, List.length_cons, List.length_nil, Nat.zero_add, Int.toNat_natCast] at *; omega) | (simp only [List.length_map, List.length_replicate, List.length_append, List.length_take, List.length_drop, List.length_set, List.length_cons, List.length_nil, Nat.zero_add, Int.toNat_natCast]; done) | trivial)) ?_)
  refine OW.nil ((congrArg K ?_).mpr hKE)
  · (first | rfl | (simp only [go_sem, simprocAttr, ha0, ha1]; done) | (simp only [go_sem, simprocAttr, ha0, ha1]; rfl))
 ·
  try simp only [ha0, ha1, sb0, true_implies, false_implies, forall_const] at c9
  try simp only [ha0, ha1, sb0, true_implies, false_implies, forall_const] at c10
  refine FW.run ?_
  (simp only [go_sem, simprocAttr, sw0, ha0, ha1])
  repeat (refine And.intro (by first | omega | (intro hg; have hq := c9 (by first | exact hg | simpa using hg); first | omega | exact hq | (simp only [List.length_map]; omega)) | (intro hg; have hq := c10 (by first | exact hg | simpa using hg); first | omega | exact hq | (simp only [List.length_map]; omega)) | (first | omega | assumption | rfl | decide | (simp only [List.length_map, List.length_replicate, List.length_append, List.length_take, List.length_drop, List.length_set, List.length_cons, List.length_nil, Nat.zero_add, Int.toNat_natCast] at *; omega) | (simp only [List.length_map, List.length_replicate, List.length_append, List.length_take, List.length_drop, List.length_set, List.length_cons, List.length_nil, Nat.zero_add, Int.toNat_natCast]; done) | trivial)) ?_)
  refine FW.nil ?_
  change OW _ _ _ _ _ _
  refine OW.run [1, 4, 70] ?_
  (simp only [go_sem, simprocAttr, sw0, ha0, ha1])
  repeat (refine And.intro (by first | omega | (intro hg; have hq := c9 (by first | exact hg | simpa using hg); first | omega | exact hq | (simp only [List.length_map]; omega)) | (intro hg; have hq := c10 (by first | exact hg | simpa using hg); first | omega | exact hq | (simp only [List.length_map]; omega)) | (first | omega | assumption | rfl | decide | (simp only [List.length_map, List.length_replicate, List.length_append, List.length_take, List.length_drop, List.length_set, List.length_cons, List.length_nil, Nat.zero_add, Int.toNat_natCast] at *; omega) | (simp only [List.length_map, List.length_replicate, List.length_append, List.length_take, List.length_drop, List.length_set, List.length_cons, List.length_nil, Nat.zero_add, Int.toNat_natCast]; done) | trivial)) ?_)
  refine OW.callGh' 4 rfl rfl ?_ (fun hg => by first | rfl | (simp only [go_sem, ↓reduceIte]; rfl)) (fun hg => by (first | ((simp only [go_sem, List.toList_toArray, simprocAttr, ha0, ha1]); exact rfl) | exact rfl)) (fun hg => ?_) (fun hg => (base_Before_ok N _ _ _ (grd_t hg e4))) ?_ ?_ ?_ ?_
  · (first | rfl | (simp only [go_sem, simprocAttr, ha0, ha1]; done) | (simp only [go_sem, simprocAttr, ha0, ha1]; rfl))
  · first | ((((simp only [go_sem, sw1, simprocAttr]; try simp only [seg, go_sem, simprocAttr])); (repeat' (first | rfl | (refine list_congr ?_; simp only [List.length_take, List.length_drop, List.length_set, List.length_replicate] <;> omega) | (refine congr (congrArg List.cons ?_) ?_) | (refine congrArg D.agg ?_) | (refine congrArg D.tup ?_) | (refine congrArg D.ref ?_) | (refine congrArg (D.list _) ?_) | (refine congrArg (D.clo _) ?_)))); done) | (exfalso; simp only [ha0, ha1, sb0] at hg)
  · intro hg; first | (exact okD_all rfl; done) | (exfalso; simp only [ha0, ha1, sb0] at hg)
  exact .inl rfl
  (simp only [go_sem, Nat.reduceLT])
  refine OW.run [1, 4, 70] ?_
  (simp only [go_sem, simprocAttr, sw0, ha0, ha1])
  repeat (refine And.intro (by first | omega | (intro hg; have hq := c9 (by first | exact hg | simpa using hg); first | omega | exact hq | (simp only [List.length_map]; omega)) | (intro hg; have hq := c10 (by first | exact hg | simpa using hg); first | omega | exact hq | (simp only [List.length_map]; omega)) | (first | omega | assumption | rfl | decide | (simp only [List.length_map, List.length_replicate, List.length_append, List.length_take, List.length_drop, List.length_set, List.length_cons, List.length_nil, Nat.zero_add, Int.toNat_natCast] at *; omega) | (simp only [List.length_map, List.length_replicate, List.length_append, List.length_take, List.length_drop, List.length_set, List.length_cons, List.length_nil, Nat.zero_add, Int.toNat_natCast]; done) | trivial)) ?_)
  refine OW.nil ((congrArg K ?_).mpr hKE)
  · (first | rfl | (simp only [go_sem, simprocAttr, ha0, ha1]; done) | (simp only [go_sem, simprocAttr, ha0, ha1]; rfl))
 clear hK K
 refine PW.cond rfl (fun h11 => ?_) (fun h11 => ?_)
 replace H := br_t h11 H
 refine PW.seq ?_
 refine PW.regionK fun K hK => OW.run [2, 3] ?_
 simp only [go_sem, simprocAttr, sw0]
 refine OW.nil (hK _ ?_)
 refine PW.ret ?_
 change PW.Ends _ _ _ _ _ _
 refine PW.Ends.intro (.inr rfl) ?_
 simp only [go_sem, simprocAttr, sw0]
 obtain rfl := Option.some.inj H
 refine RetOK.data' 4 (by exact okD_all rfl) ?_
 rfl
 replace H := br_f h11 H
 refine PW.skip ?_
 refine PW.regionK fun K hK => OW.run [1, 4] ?_
 simp only [go_sem, simprocAttr, sw0]
 refine OW.nil (hK _ ?_)
 refine hN4 [] (w64 (i + (1 : Int))) _ H (by exact trivial) ?_
 simp only [sw1, go_sem, simprocAttr]
 replace H := br_f h5 H
 refine PW.exit ?_
 refine hN3 [] () _ H (by exact trivial) ?_
 simp only [sw1, go_sem, simprocAttr]
 rintro _ H
 try simp only [go_sem, simprocAttr]
 refine PW.seq ?_
 refine PW.regionK fun K hK => OW.run [2, 3] ?_
 simp only [go_sem, simprocAttr, sw0]
 refine OW.nil (hK _ ?_)
 refine PW.ret ?_
 change PW.Ends _ _ _ _ _ _
 refine PW.Ends.intro (.inr rfl) ?_
 simp only [go_sem, simprocAttr, sw0]
 obtain rfl := Option.some.inj H
 refine RetOK.data' 4 (by exact okD_all rfl) ?_
 rfl

theorem ref09_neighbours_ok (N : Nat) (Zp : Int) (Zq : List (Int × Int)) (a : Int) (b : Int) (r : Bool) (H : ref09_neighbours N Zp Zq a b = some r) : CallOK Try.prog 110 [(.agg [(I Zp), (.list Zq.length (Zq.flatMap (fun (x : Int × Int) => [(I x.1), (I x.2)])))]), (I a), (I b)] (.d (Bo r)) [] := by
 refine CallOK.of_PW Try.func110 rfl (by rw [Try.results110]) Try.ntmps110 Try.call110 ?_
 change PW _ _ _ _ _
 try simp only [go_sem, simprocAttr]
 unfold ref09_neighbours at H
 refine PW.seq ?_
 refine PW.regionK fun K hK => OW.run [1, 2, 3] ?_
 simp only [go_sem, simprocAttr, sw0]
 refine OW.nil (hK _ ?_)
 refine PW.joinS (τ := Unit) [] 0 (fun _ => []) (fun _ => []) _ _ r (by exact Nat.le_refl _) H ?_ ?_
 intro K_ H N1 hN1
 refine PW.seq ?_
 refine PW.regionK fun K hK => OW.run [1, 2, 3, 7] ?_
 simp only [go_sem, simprocAttr, sw0]
 refine OW.nil (hK _ ?_)
 refine PW.block ?_
 refine PW.loopS (σ := Int) [1, 2, 3, 7] 1 (fun i => [(7, .d (I i))]) (fun i => [{ cells := [.d (I Zp), .d (.list Zq.length (Zq.flatMap (fun (x : Int × Int) => [(I x.1), (I x.2)])))], e := 24 }]) (ref09_neighbours.b1 N Zq a b K_) r N (0 : Int) (by exact Nat.zero_le _) H (by (simp only [sw1, go_sem, simprocAttr]; done)) ?_
 rintro n i H N2 hN2
 unfold ref09_neighbours.b1 at H
 try simp only [go_sem, simprocAttr]
 refine PW.seq ?_
 refine PW.seq ?_
 refine PW.regionK fun K hK => OW.run [1, 2, 3, 7, 12] ?_
 simp only [go_sem, simprocAttr, sw0]
 repeat (refine And.intro (by omega) ?_)
 refine OW.nil (hK _ ?_)
 refine PW.cond rfl (fun h3 => ?_) (fun h3 => ?_)
 replace H := br_t h3 H
 refine PW.skip ?_
 refine PW.seq ?_
 refine PW.block ?_
 refine PW.seq ?_
 obtain ⟨c4, H⟩ := chk_some H
 refine PW.regionK fun K hK => OW.run [1, 2, 3, 7, 27] ?_
 (simp only [go_sem, simprocAttr, sw0, flatMap_length 2 (fun (x : Int × Int) => [(I x.1), (I x.2)]) (fun _ => rfl), sub_el 2 (fun (x : Int × Int) => [(I x.1), (I x.2)]) (fun _ => rfl) Zq i.toNat (by omega)])
 repeat (refine And.intro (by omega) ?_)
 refine OW.nil (hK _ ?_)
 refine PW.cond rfl (fun h5 => ?_) (fun h5 => ?_)
 replace H := br_t h5 H
 refine PW.seq ?_
 refine PW.regionK fun K hK => OW.run [6] ?_
 simp only [go_sem, simprocAttr, sw0]
 refine OW.nil (hK _ ?_)
 refine PW.ret ?_
 change PW.Ends _ _ _ _ _ _
 refine PW.Ends.intro (.inr rfl) ?_
 simp only [go_sem, simprocAttr, sw0]
 obtain rfl := Option.some.inj H
 refine RetOK.data' 4 (by exact trivial) ?_
 rfl
 replace H := br_f h5 H
 refine PW.skip ?_
 refine PW.regionK fun K hK => OW.run [1, 2, 3, 7] ?_
 simp only [go_sem, simprocAttr, sw0]
 refine OW.nil (hK _ ?_)
 refine hN2 [] (w64 (i + (1 : Int))) _ H (by exact trivial) ?_
 simp only [sw1, go_sem, simprocAttr]
 replace H := br_f h3 H
 refine PW.exit ?_
 refine hN1 [] () _ H (by exact trivial) ?_
 simp only [sw1, go_sem, simprocAttr]
 rintro _ H
 try simp only [go_sem, simprocAttr]
 refine PW.seq ?_
 refine PW.regionK fun K hK => OW.run [6] ?_
 simp only [go_sem, simprocAttr, sw0]
 refine OW.nil (hK _ ?_)
 refine PW.ret ?_
 change PW.Ends _ _ _ _ _ _
 refine PW.Ends.intro (.inr rfl) ?_
 simp only [go_sem, simprocAttr, sw0]
 obtain rfl := Option.some.inj H
 refine RetOK.data' 4 (by exact trivial) ?_
 rfl

theorem ref09_IsNear_ok (N : Nat) (Zp : Int) (Zq : List (Int × Int)) (a : Int) (b : Int) (r : Bool) (H : ref09_IsNear N Zp Zq a b = some r) : CallOK Try.prog 70 [(.agg [(I Zp), (.list Zq.length (Zq.flatMap (fun (x : Int × Int) => [(I x.1), (I x.2)])))]), (I a), (I b)] (.d (Bo r)) [] := by
 refine CallOK.of_PW Try.func70 rfl (by rw [Try.results70]) Try.ntmps70 Try.call70 ?_
 change PW _ _ _ _ _
 try simp only [go_sem, simprocAttr]
 unfold ref09_IsNear at H
 refine PW.seq ?_
 refine PW.regionK fun K hK => OW.run [1, 2, 3] ?_
 simp only [go_sem, simprocAttr, sw0]
 refine OW.nil (hK _ ?_)
 refine PW.seq ?_
 refine PW.seq ?_
 refine PW.regionK fun K hK => OW.run [1, 2, 3, 10] ?_
 simp only [go_sem, simprocAttr, sw0]
 refine OW.nil (hK _ ?_)
 refine PW.cond rfl (fun h1 => ?_) (fun h1 => ?_)
 replace H := br_t h1 H
 refine PW.seq ?_
 refine PW.regionK fun K hK => OW.run [6] ?_
 simp only [go_sem, simprocAttr, sw0]
 refine OW.nil (hK _ ?_)
 refine PW.ret ?_
 change PW.Ends _ _ _ _ _ _
 refine PW.Ends.intro (.inr rfl) ?_
 simp only [go_sem, simprocAttr, sw0]
 obtain rfl := Option.some.inj H
 refine RetOK.data' 4 (by exact trivial) ?_
 rfl
 replace H := br_f h1 H
 refine PW.skip ?_
 refine PW.seq ?_
 refine PW.seq ?_
 obtain ⟨x1, e1, H⟩ := bnd_some H
 refine PW.regionK fun K hK => OW.run [1, 2, 3, 14] ?_
 simp only [go_sem, simprocAttr, sw0]
 refine OW.call' 4 rfl rfl rfl (by first | exact rfl | ((simp only [go_sem, List.toList_toArray, simprocAttr]); exact rfl)) ?_ (ref09_neighbours_ok N _ _ _ _ _ e1) ?_ ?_ ?_ ?_
 rfl
 · (refine okAll_intro ?_; (simp only [go_sem, sw2, List.length_set, List.length_replicate, and_true, true_and, Nat.le_refl, simprocAttr]; done))
 exact .inl rfl
 (simp only [go_sem, Nat.reduceLT])
 refine OW.run [1, 2, 3, 14] ?_
 simp only [go_sem, simprocAttr, sw0]
 refine OW.nil (hK _ ?_)
 refine PW.cond rfl (fun h2 => ?_) (fun h2 => ?_)
 replace H := br_t h2 H
 refine PW.seq ?_
 refine PW.regionK fun K hK => OW.run [6] ?_
 simp only [go_sem, simprocAttr, sw0]
 refine OW.nil (hK _ ?_)
 refine PW.ret ?_
 change PW.Ends _ _ _ _ _ _
 refine PW.Ends.intro (.inr rfl) ?_
 simp only [go_sem, simprocAttr, sw0]
 obtain rfl := Option.some.inj H
 refine RetOK.data' 4 (by exact trivial) ?_
 rfl
 replace H := br_f h2 H
 refine PW.skip ?_
 refine PW.joinS (τ := Unit) [] 0 (fun _ => []) (fun _ => []) _ _ r (by exact Nat.le_refl _) H ?_ ?_
 intro K_ H N3 hN3
 refine PW.seq ?_
 refine PW.regionK fun K hK => OW.run [1, 2, 3, 7] ?_
 simp only [go_sem, simprocAttr, sw0]
 refine OW.nil (hK _ ?_)
 refine PW.block ?_
 refine PW.loopS (σ := Int) [1, 2, 3, 7] 1 (fun k => [(7, .d (I k))]) (fun k => [{ cells := [.d (I Zp), .d (.list Zq.length (Zq.flatMap (fun (x : Int × Int) => [(I x.1), (I x.2)])))], e := 24 }]) (ref09_IsNear.b1 N Zp Zq a b K_) r N (0 : Int) (by exact Nat.zero_le _) H (by (simp only [sw1, go_sem, simprocAttr]; done)) ?_
 rintro n k H N4 hN4
 unfold ref09_IsNear.b1 at H
 try simp only [go_sem, simprocAttr]
 refine PW.seq ?_
 refine PW.seq ?_
 refine PW.regionK fun K hK => OW.run [1, 2, 3, 7, 18] ?_
 simp only [go_sem, simprocAttr, sw0]
 repeat (refine And.intro (by omega) ?_)
 refine OW.nil (hK _ ?_)
 refine PW.cond rfl (fun h5 => ?_) (fun h5 => ?_)
 replace H := br_t h5 H
 refine PW.skip ?_
 refine PW.seq ?_
 refine PW.block ?_
 refine PW.seq ?_
 obtain ⟨x2, e2, H⟩ := bnd_some H
 obtain ⟨x3, e3, H⟩ := bnd_some H
 refine PW.regionK fun K hK => OW.run [1, 2, 3, 7, 30] ?_
 simp only [go_sem, simprocAttr, sw0]
 refine OW.call' 4 rfl rfl rfl (by first | exact rfl | ((simp only [go_sem, List.toList_toArray, simprocAttr]); exact rfl)) ?_ (ref09_neighbours_ok N _ _ _ _ _ e2) ?_ ?_ ?_ ?_
 rfl
 · (refine okAll_intro ?_; (simp only [go_sem, sw2, List.length_set, List.length_replicate, and_true, true_and, Nat.le_refl, simprocAttr]; done))
 exact .inl rfl
 (simp only [go_sem, Nat.reduceLT])
 refine OW.run [1, 2, 3, 7, 30] ?_
 simp only [go_sem, simprocAttr, sw0]
 refine OW.callG' 4 rfl rfl ?_ (fun hg => by first | rfl | (simp only [go_sem, ↓reduceIte]; rfl)) (fun hg => by ((simp only [go_sem, List.toList_toArray, simprocAttr]); exact rfl)) (fun hg => ?_) (fun hg => (ref09_neighbours_ok N _ _ _ _ _ (grd_t hg e3))) ?_ ?_ ?_ ?_
 simp only [go_sem, simprocAttr]
 rfl
 · (refine okAll_intro ?_; (simp only [go_sem, sw2, List.length_set, List.length_replicate, and_true, true_and, Nat.le_refl, simprocAttr]; done))
 exact .inl rfl
 (simp only [go_sem, Nat.reduceLT])
 refine OW.run [1, 2, 3, 7, 30] ?_
 simp only [go_sem, simprocAttr, sw0]
 refine OW.nil (hK _ ?_)
 refine PW.cond rfl (fun h6 => ?_) (fun h6 => ?_)
 replace H := br_t h6 H
 refine PW.seq ?_
 refine PW.regionK fun K hK => OW.run [6] ?_
 simp only [go_sem, simprocAttr, sw0]
 refine OW.nil (hK _ ?_)
 refine PW.ret ?_
 change PW.Ends _ _ _ _ _ _
 refine PW.Ends.intro (.inr rfl) ?_
 simp only [go_sem, simprocAttr, sw0]
 obtain rfl := Option.some.inj H
 refine RetOK.data' 4 (by exact trivial) ?_
 rfl
 replace H := br_f h6 H
 refine PW.skip ?_
 refine PW.regionK fun K hK => OW.run [1, 2, 3, 7] ?_
 simp only [go_sem, simprocAttr, sw0]
 refine OW.nil (hK _ ?_)
 refine hN4 [] (w64 (k + (1 : Int))) _ H (by exact trivial) ?_
 simp only [sw1, go_sem, simprocAttr]
 replace H := br_f h5 H
 refine PW.exit ?_
 refine hN3 [] () _ H (by exact trivial) ?_
 simp only [sw1, go_sem, simprocAttr]
 rintro _ H
 try simp only [go_sem, simprocAttr]
 refine PW.seq ?_
 refine PW.regionK fun K hK => OW.run [6] ?_
 simp only [go_sem, simprocAttr, sw0]
 refine OW.nil (hK _ ?_)
 refine PW.ret ?_
 change PW.Ends _ _ _ _ _ _
 refine PW.Ends.intro (.inr rfl) ?_
 simp only [go_sem, simprocAttr, sw0]
 obtain rfl := Option.some.inj H
 refine RetOK.data' 4 (by exact trivial) ?_
 rfl

theorem ref09_Near_ok (N : Nat) (Zp : Int) (Zq : List (Int × Int)) (cell : Int) (r : List Int) (H : ref09_Near N Zp Zq cell = some r) : CallOK Try.prog 35 [(.agg [(I Zp), (.list Zq.length (Zq.flatMap (fun (x : Int × Int) => [(I x.1), (I x.2)])))]), (I cell)] (.d (L r)) [] := by
 refine CallOK.of_PW Try.func35 rfl (by rw [Try.results35]) Try.ntmps35 Try.call35 ?_
 change PW _ _ _ _ _
 try simp only [go_sem, simprocAttr]
 unfold ref09_Near at H
 refine PW.seq ?_
 refine PW.regionK fun K hK => OW.run [1, 2] ?_
 simp only [go_sem, simprocAttr, sw0]
 refine OW.nil (hK _ ?_)
 refine PW.seq ?_
 refine PW.regionK fun K hK => OW.run [1, 2, 5] ?_
 simp only [go_sem, simprocAttr, sw0]
 refine OW.nil (hK _ ?_)
 refine PW.joinS (τ := List Int) [5] 2 (fun b1 => [(5, .own 1 0 b1.length 1)]) (fun b1 => [{ cells := [.d (I Zp), .d (.list Zq.length (Zq.flatMap (fun (x : Int × Int) => [(I x.1), (I x.2)])))], e := 24 }, { cells := (b1.map I).map .d, e := 3 }]) _ _ r (by exact Nat.zero_le _) H ?_ ?_
 intro K_ H N1 hN1
 refine PW.seq ?_
 refine PW.regionK fun K hK => OW.run [1, 2, 5, 6] ?_
 simp only [go_sem, simprocAttr, sw0]
 refine OW.nil (hK _ ?_)
 refine PW.block ?_
 refine PW.virt 5 3 1 rfl ?_
 try simp only [go_sem, simprocAttr]
 refine PW.loopS (σ := Int × List Int) [1, 2, 5, 6] 2 (fun (k, b11) => [(5, .own 1 0 b11.length 1), (6, .d (I k))]) (fun (k, b11) => [{ cells := [.d (I Zp), .d (.list Zq.length (Zq.flatMap (fun (x : Int × Int) => [(I x.1), (I x.2)])))], e := 24 }, { cells := (b11.map I).map .d, e := 3 }]) (ref09_Near.b1 N Zp Zq cell K_) r N ((0 : Int), ([] : List Int)) (by exact Nat.zero_le _) H (by (simp only [sw1, go_sem, simprocAttr]; done)) ?_
 rintro n ⟨k, b11⟩ H N2 hN2
 unfold ref09_Near.b1 at H
 try simp only [go_sem, simprocAttr]
 refine PW.seq ?_
 refine PW.seq ?_
 refine PW.regionK fun K hK => OW.run [1, 2, 5, 6, 10] ?_
 simp only [go_sem, simprocAttr, sw0]
 repeat (refine And.intro (by omega) ?_)
 refine OW.nil (hK _ ?_)
 refine PW.cond rfl (fun h3 => ?_) (fun h3 => ?_)
 replace H := br_t h3 H
 refine PW.skip ?_
 refine PW.seq ?_
 refine PW.block ?_
 refine PW.seq ?_
 obtain ⟨x1, e1, H⟩ := bnd_some H
 refine PW.regionK fun K hK => OW.run [1, 2, 5, 6, 16] ?_
 simp only [go_sem, simprocAttr, sw0]
 refine OW.call' 4 rfl rfl rfl (by first | exact rfl | ((simp only [go_sem, List.toList_toArray, simprocAttr]); exact rfl)) ?_ (ref09_IsNear_ok N _ _ _ _ _ e1) ?_ ?_ ?_ ?_
 rfl
 · (refine okAll_intro ?_; (simp only [go_sem, sw2, List.length_set, List.length_replicate, and_true, true_and, Nat.le_refl, simprocAttr]; done))
 exact .inl rfl
 (simp only [go_sem, Nat.reduceLT])
 refine OW.run [1, 2, 5, 6, 16] ?_
 simp only [go_sem, simprocAttr, sw0]
 refine OW.nil (hK _ ?_)
 refine PW.cond rfl (fun h4 => ?_) (fun h4 => ?_)
 replace H := br_t h4 H
 obtain ⟨c5, H⟩ := chk_some H
 refine PW.regionK fun K hK => OW.run [1, 2, 5, 6] ?_
 simp only [go_sem, simprocAttr, sw0]
 repeat (refine And.intro (by omega) ?_)
 refine OW.nil (hK _ ?_)
 refine PW.regionK fun K hK => OW.run [1, 2, 5, 6] ?_
 simp only [go_sem, simprocAttr, sw0]
 refine OW.nil (hK _ ?_)
 refine hN2 [] (w64 (k + (1 : Int)), (b11 ++ ([k] : List Int))) _ H (by exact trivial) ?_
 simp only [sw1, go_sem, simprocAttr]
 replace H := br_f h4 H
 refine PW.skip ?_
 refine PW.regionK fun K hK => OW.run [1, 2, 5, 6] ?_
 simp only [go_sem, simprocAttr, sw0]
 refine OW.nil (hK _ ?_)
 refine hN2 [] (w64 (k + (1 : Int)), b11) _ H (by exact trivial) ?_
 simp only [sw1, go_sem, simprocAttr]
 replace H := br_f h3 H
 refine PW.exit ?_
 refine hN1 [] b11 _ H (by exact trivial) ?_
 simp only [sw1, go_sem, simprocAttr]
 rintro b1 H
 try simp only [go_sem, simprocAttr]
 refine PW.seq ?_
 refine PW.regionK fun K hK => OW.run [4] ?_
 simp only [go_sem, simprocAttr, sw0]
 refine OW.nil (hK _ ?_)
 refine PW.ret ?_
 change PW.Ends _ _ _ _ _ _
 refine PW.Ends.intro (.inr rfl) ?_
 simp only [go_sem, simprocAttr, sw0]
 obtain rfl := Option.some.inj H
 refine RetOK.data' 4 (by (simp only [go_sem, sw2, List.length_set, List.length_replicate, and_true, true_and, Nat.le_refl, simprocAttr]; done)) ?_
 · (((simp only [go_sem, sw1, simprocAttr]; try simp only [seg, go_sem, simprocAttr])); done)
end Go.Proofs.Ytklejiafioalnaa
