import Derived.Test.YtklejiafioalnaaNsBase
import Derived.Test.YtklejiafioalnaaNsW0
import Derived.Test.YtklejiafioalnaaNsW5
set_option linter.all false
namespace Go.Proofs.Ytklejiafioalnaa
open Go.PW Go.Sh

set_option maxRecDepth 20000
set_option maxHeartbeats 8000000
theorem plan_web_listErr_1_ok (N : Nat) (n : Int) (a1_g : FuncId) (a1_c : List D) (a1 : Int → Option Bool) (a1_h : ∀ y0 r0, a1 y0 = some r0 → CallOK Try.prog a1_g ((I y0) :: a1_c.map nz) (.d (Bo r0)) []) (r : Bool) (H : plan_web_listErr_1 N n a1 = some r) : CallOK Try.prog 108 [(I n), .ref [.clo a1_g a1_c]] (.d (Bo r)) [] := by
 refine CallOK.of_PW Try.func108 rfl (by rw [Try.results108]) Try.ntmps108 Try.call108 ?_
 change PW _ _ _ _ _
 try simp only [go_sem, simprocAttr]
 unfold plan_web_listErr_1 at H
 refine PW.seq ?_
 refine PW.regionK fun K hK => OW.run [0, 1] ?_
 simp only [go_sem, simprocAttr, sw0]
 refine OW.nil (hK _ ?_)
 refine PW.seq ?_
 obtain ⟨x1, e1, H⟩ := bnd_some H
 refine PW.regionK fun K hK => OW.run [3] ?_
 simp only [go_sem, simprocAttr, sw0]
 refine OW.call' 4 rfl rfl rfl (by first | exact rfl | ((simp only [go_sem, List.toList_toArray, simprocAttr]); exact rfl)) ?_ (a1_h _ _ e1) ?_ ?_ ?_ ?_
 · (((simp only [go_sem, sw1, simprocAttr]; try simp only [seg, go_sem, simprocAttr])); done)
 · (refine okAll_intro ?_; (simp only [go_sem, sw2, List.length_set, List.length_replicate, and_true, true_and, Nat.le_refl, simprocAttr]; done))
 exact .inr ⟨rfl, rfl⟩
 (simp only [go_sem, Nat.reduceLT])
 refine OW.run [3] ?_
 simp only [go_sem, simprocAttr, sw0]
 refine OW.nil (hK _ ?_)
 refine PW.ret ?_
 change PW.Ends _ _ _ _ _ _
 refine PW.Ends.intro (.inr rfl) ?_
 simp only [go_sem, simprocAttr, sw0]
 obtain rfl := Option.some.inj H
 refine RetOK.data' 4 (by exact trivial) ?_
 rfl

theorem slices_ContainsFunc_ii_ok (N : Nat) (s : List Int) (f_g : FuncId) (f_c : List D) (f : Int → Option Bool) (f_h : ∀ y0 r0, f y0 = some r0 → CallOK Try.prog f_g ((I y0) :: f_c.map nz) (.d (Bo r0)) []) (r : Bool) (H : slices_ContainsFunc_ii N s f = some r) : CallOK Try.prog 101 [(L s), .clo f_g f_c] (.d (Bo r)) [] := by
 refine CallOK.of_PW Try.func101 rfl (by rw [Try.results101]) Try.ntmps101 Try.call101 ?_
 change PW _ _ _ _ _
 try simp only [go_sem, simprocAttr]
 unfold slices_ContainsFunc_ii at H
 refine PW.seq ?_
 refine PW.regionK fun K hK => OW.run [0, 1] ?_
 simp only [go_sem, simprocAttr, sw0]
 refine OW.nil (hK _ ?_)
 refine PW.seq ?_
 obtain ⟨x1, e1, H⟩ := bnd_some H
 refine PW.regionK fun K hK => OW.run [4] ?_
 simp only [go_sem, simprocAttr, sw0]
 refine OW.call' 4 rfl rfl rfl (by first | exact rfl | ((simp only [go_sem, List.toList_toArray, simprocAttr]); exact rfl)) ?_ (slices_IndexFunc_ii_ok N _ f_g f_c f f_h _ e1) ?_ ?_ ?_ ?_
 rfl
 exact okD_all rfl
 exact .inl rfl
 (simp only [go_sem, Nat.reduceLT])
 refine OW.run [4] ?_
 simp only [go_sem, simprocAttr, sw0]
 refine OW.nil (hK _ ?_)
 refine PW.ret ?_
 change PW.Ends _ _ _ _ _ _
 refine PW.Ends.intro (.inr rfl) ?_
 simp only [go_sem, simprocAttr, sw0]
 obtain rfl := Option.some.inj H
 refine RetOK.data' 4 (by exact trivial) ?_
 rfl

theorem plan_web_listErr_ok (N : Nat) (w_cells : Int) (w_near : List Bool) (l : List Int) (right_g : FuncId) (right_c : List D) (right : Int → Option Bool) (right_h : ∀ y0 r0, right y0 = some r0 → CallOK Try.prog right_g ((I y0) :: right_c.map nz) (.d (Bo r0)) []) (r : Int) (H : plan_web_listErr N w_cells w_near l right = some r) : CallOK Try.prog 64 [(.ref ((I w_cells) :: w_near.map Bo)), (L l), .clo right_g right_c] (.d (I r)) [] := by
 refine CallOK.of_PW Try.func64 rfl (by rw [Try.results64]) Try.ntmps64 Try.call64 ?_
 change PW _ _ _ _ _
 try simp only [go_sem, simprocAttr]
 unfold plan_web_listErr at H
 refine PW.seq ?_
 refine PW.regionK fun K hK => OW.run [0, 1, 5] ?_
 simp only [go_sem, simprocAttr, sw0]
 refine OW.nil (hK _ ?_)
 refine PW.seq ?_
 obtain ⟨x1, e1, H⟩ := bnd_some H
 refine PW.regionK fun K hK => OW.run [0, 1, 7] ?_
 simp only [go_sem, simprocAttr, sw0]
 refine OW.call' 4 rfl rfl rfl (by first | exact rfl | ((simp only [go_sem, List.toList_toArray, simprocAttr]); exact rfl)) ?_ (slices_ContainsFunc_ii_ok N _ 108 [.ref [.clo right_g right_c]] (fun y0 => plan_web_listErr_1 N y0 right) (fun y0 r h => plan_web_listErr_1_ok N y0 right_g right_c right right_h r h) _ e1) ?_ ?_ ?_ ?_
 rfl
 · (refine okAll_intro ?_; (simp only [go_sem, sw2, List.length_set, List.length_replicate, and_true, true_and, Nat.le_refl, simprocAttr]; done))
 exact .inr ⟨rfl, rfl⟩
 (simp only [go_sem, Nat.reduceLT])
 refine OW.run [0, 1, 7] ?_
 simp only [go_sem, simprocAttr, sw0]
 refine OW.nil (hK _ ?_)
 refine PW.seq ?_
 obtain ⟨x2, e2, H⟩ := bnd_some H
 obtain ⟨x3, e3, H⟩ := bnd_some H
 obtain ⟨x4, e4, H⟩ := bnd_some H
 refine PW.regionK fun K hK => OW.run [6] ?_
 simp only [go_sem, simprocAttr, sw0]
 repeat (refine And.intro (by omega) ?_)
 refine OW.call' 4 rfl rfl rfl (by first | exact rfl | ((simp only [go_sem, List.toList_toArray, simprocAttr]); exact rfl)) ?_ (plan_unless_ok N _ _ _ e2) ?_ ?_ ?_ ?_
 rfl
 exact okD_all rfl
 exact .inl rfl
 (simp only [go_sem, Nat.reduceLT])
 refine OW.run [6] ?_
 simp only [go_sem, simprocAttr, sw0]
 refine OW.call' 4 rfl rfl rfl (by first | exact rfl | ((simp only [go_sem, List.toList_toArray, simprocAttr]); exact rfl)) ?_ (plan_unless_ok N _ _ _ e3) ?_ ?_ ?_ ?_
 rfl
 exact okD_all rfl
 exact .inl rfl
 (simp only [go_sem, Nat.reduceLT])
 refine OW.run [6] ?_
 simp only [go_sem, simprocAttr, sw0]
 refine OW.call' 4 rfl rfl rfl (by first | exact rfl | ((simp only [go_sem, List.toList_toArray, simprocAttr]); exact rfl)) ?_ (plan_first_ok N _ _ e4) ?_ ?_ ?_ ?_
 rfl
 · (refine okAll_intro ?_; (simp only [go_sem, sw2, List.length_set, List.length_replicate, and_true, true_and, Nat.le_refl, simprocAttr]; simp only [seg, go_sem, sw2, List.length_set, List.length_replicate, and_true, true_and, Nat.le_refl, simprocAttr]; done))
 exact .inr ⟨rfl, rfl⟩
 (simp only [go_sem, Nat.reduceLT])
 refine OW.run [6] ?_
 simp only [go_sem, simprocAttr, sw0]
 refine OW.nil (hK _ ?_)
 refine PW.ret ?_
 change PW.Ends _ _ _ _ _ _
 refine PW.Ends.intro (.inr rfl) ?_
 simp only [go_sem, simprocAttr, sw0]
 obtain rfl := Option.some.inj H
 refine RetOK.data' 4 (by exact trivial) ?_
 rfl

theorem plan_isNeed_ok (N : Nat) (n : Int) (r : Bool) (H : plan_isNeed N n = some r) : CallOK Try.prog 92 [(I n)] (.d (Bo r)) [] := by
 refine CallOK.of_PW Try.func92 rfl (by rw [Try.results92]) Try.ntmps92 Try.call92 ?_
 change PW _ _ _ _ _
 try simp only [go_sem, simprocAttr]
 unfold plan_isNeed at H
 refine PW.seq ?_
 refine PW.regionK fun K hK => OW.run [0] ?_
 simp only [go_sem, simprocAttr, sw0]
 refine OW.nil (hK _ ?_)
 refine PW.seq ?_
 obtain ⟨x1, e1, H⟩ := bnd_some H
 refine PW.regionK fun K hK => OW.run [2] ?_
 simp only [go_sem, simprocAttr, sw0]
 refine OW.call' 4 rfl rfl rfl (by first | exact rfl | ((simp only [go_sem, List.toList_toArray, simprocAttr]); exact rfl)) ?_ (plan_within_ok N _ _ _ _ e1) ?_ ?_ ?_ ?_
 rfl
 exact okD_all rfl
 exact .inl rfl
 (simp only [go_sem, Nat.reduceLT])
 refine OW.run [2] ?_
 simp only [go_sem, simprocAttr, sw0]
 refine OW.nil (hK _ ?_)
 refine PW.ret ?_
 change PW.Ends _ _ _ _ _ _
 refine PW.Ends.intro (.inr rfl) ?_
 simp only [go_sem, simprocAttr, sw0]
 obtain rfl := Option.some.inj H
 refine RetOK.data' 4 (by exact trivial) ?_
 rfl

theorem plan_roots_meets_ok (N : Nat) (r_first : Int) (r_count : Int) (o_first : Int) (o_count : Int) (r : Bool) (H : plan_roots_meets N r_first r_count o_first o_count = some r) : CallOK Try.prog 93 [(.agg [(I r_first), (I r_count)]), (.agg [(I o_first), (I o_count)])] (.d (Bo r)) [] := by
 refine CallOK.of_PW Try.func93 rfl (by rw [Try.results93]) Try.ntmps93 Try.call93 ?_
 change PW _ _ _ _ _
 try simp only [go_sem, simprocAttr]
 unfold plan_roots_meets at H
 refine PW.seq ?_
 refine PW.regionK fun K hK => OW.run [2, 3] ?_
 simp only [go_sem, simprocAttr, sw0]
 refine OW.nil (hK _ ?_)
 refine PW.seq ?_
 refine PW.regionK fun K hK => OW.run [4] ?_
 simp only [go_sem, simprocAttr, sw0]
 repeat (refine And.intro (by omega) ?_)
 refine OW.nil (hK _ ?_)
 refine PW.ret ?_
 change PW.Ends _ _ _ _ _ _
 refine PW.Ends.intro (.inr rfl) ?_
 simp only [go_sem, simprocAttr, sw0]
 obtain rfl := Option.some.inj H
 refine RetOK.data' 4 (by exact trivial) ?_
 rfl

theorem plan_RootsFor_ok (N : Nat) (Zp : Int) (Zq : List (Int × Int)) (needs : List Int) (all : Int) (r : List Int × Int) (H : plan_RootsFor N Zp Zq needs all = some r) : CallOK Try.prog 42 [(.agg [(I Zp), (.list Zq.length (Zq.flatMap (fun (x : Int × Int) => [(I x.1), (I x.2)])))]), (L needs), (I all)] (.d (.tup [(L r.1), (I r.2)])) [] := by
 refine CallOK.of_PW Try.func42 rfl (by rw [Try.results42]) Try.ntmps42 Try.call42 ?_
 change PW _ _ _ _ _
 try simp only [go_sem, simprocAttr]
 unfold plan_RootsFor at H
 refine PW.seq ?_
 refine PW.regionK fun K hK => OW.run [1, 2, 3] ?_
 simp only [go_sem, simprocAttr, sw0]
 refine OW.nil (hK _ ?_); clear hK K
 refine PW.seq ?_
 refine PW.regionK fun K hK => OW.run [1, 2, 8, 9] ?_
 simp only [go_sem, simprocAttr, sw0]
 refine OW.inlineA rfl rfl rfl (by first | exact rfl | ((simp only [go_sem, List.toList_toArray, simprocAttr]); exact rfl)) Try.func54 rfl (by rw [Try.results54]) Try.ntmps54 Try.call54 (by (simp only [go_sem, Nat.reduceLT])) ?_
 intro p G
 change PW _ _ _ _ _
 try simp only [go_sem, simprocAttr]
 refine PW.seq ?_
 refine PW.regionK fun K hK => OW.run [1] ?_
 simp only [go_sem, simprocAttr, sw0]
 refine OW.nil (hK _ ?_); clear hK K
 refine PW.seq ?_
 refine PW.seq ?_
 obtain ⟨⟨x1, x11⟩, e1, H⟩ := bnd_some H
 refine PW.regionK fun K hK => OW.run [1, 5] ?_
 simp only [go_sem, simprocAttr, sw0]
 refine OW.call' 4 rfl rfl rfl (by first | exact rfl | ((simp only [go_sem, List.toList_toArray, simprocAttr]); exact rfl)) ?_ (plan_CheckNet_ok N _ _ _ e1) ?_ ?_ ?_ ?_
 rfl
 · (refine okAll_intro ?_; (simp only [go_sem, sw2, List.length_set, List.length_replicate, and_true, true_and, Nat.le_refl, simprocAttr]; done))
 exact .inl rfl
 (simp only [go_sem, Nat.reduceLT])
 refine OW.run [1, 5] ?_
 simp only [go_sem, simprocAttr, sw0]
 refine OW.nil (hK _ ?_); clear hK K
 refine PW.seq ?_
 refine PW.regionK fun K hK => OW.run [1, 5, 19] ?_
 simp only [go_sem, simprocAttr, sw0]
 refine OW.nil (hK _ ?_); clear hK K
 refine PW.cond rfl (fun h1 => ?_) (fun h1 => ?_)
 replace H := br_t h1 H
 refine PW.seq ?_
 refine PW.regionK fun K hK => OW.run [2, 3] ?_
 simp only [go_sem, simprocAttr, sw0]
 refine OW.nil (hK _ ?_); clear hK K
 refine PW.ret ?_
 refine ⟨.inr rfl, rfl, rfl, ?_⟩
 simp only [go_sem, simprocAttr, sw0]
 change OW _ _ _ _ _ _
 refine OW.run [1, 2, 8, 9] ?_
 simp only [go_sem, simprocAttr, sw0]
 refine OW.nil (hK _ ?_); clear hK K
 refine PW.seq ?_
 refine PW.seq ?_
 refine PW.regionK fun K hK => OW.run [1, 2, 8, 9, 24] ?_
 simp only [go_sem, simprocAttr, sw0]
 refine OW.nil (hK _ ?_); clear hK K
 refine PW.cond rfl (fun h2 => ?_) (fun h2 => ?_)
 refine PW.seq ?_
 refine PW.regionK fun K hK => OW.run [6, 7] ?_
 simp only [go_sem, simprocAttr, sw0]
 refine OW.nil (hK _ ?_); clear hK K
 refine PW.ret ?_
 change PW.Ends _ _ _ _ _ _
 refine PW.Ends.intro (.inr rfl) ?_
 simp only [go_sem, simprocAttr, sw0]
 obtain rfl := Option.some.inj H
 refine RetOK.data' 4 (by exact okD_all rfl) ?_
 rfl
 exact absurd (h2.symm.trans h1) (by decide)
 replace H := br_f h1 H
 refine PW.skip ?_
 refine PW.seq ?_
 refine PW.regionK fun K hK => OW.run [1, 6] ?_
 simp only [go_sem, simprocAttr, sw0]
 repeat (refine And.intro (by omega) ?_)
 refine OW.nil (hK _ ?_); clear hK K
 refine PW.seq ?_
 refine PW.regionK fun K hK => OW.run [1, 6, 7] ?_
 simp only [go_sem, simprocAttr, sw0]
 refine OW.nil (hK _ ?_); clear hK K
 refine PW.joinS (τ := List Bool) [1, 6, 7] 4 (fun b3 => []) (fun b3 => [{ cells := [.d (I Zp), .d (.list Zq.length (Zq.flatMap (fun (x : Int × Int) => [(I x.1), (I x.2)])))], e := 24 }, { cells := [.d (I Zp), .d (.list Zq.length (Zq.flatMap (fun (x : Int × Int) => [(I x.1), (I x.2)])))], e := 24 }, { cells := .d (I Zp) :: ((List.replicate 64 false).map Bo).map .d, e := 106 }, { cells := (b3.map Bo).map .d, e := 104 }]) _ _ r (by (simp only [go_sem]; omega)) H ?_ ?_
 intro K_ H N3 hN3
 refine PW.seq ?_
 refine PW.regionK fun K hK => OW.run [1, 6, 7, 26, 27, 28] ?_
 simp only [go_sem, simprocAttr, sw0]
 repeat (refine And.intro (by omega) ?_)
 refine OW.nil (hK _ ?_); clear hK K
 refine PW.block ?_
 refine PW.loopS (σ := Int × List Bool) [1, 6, 7, 26, 27, 28] 4 (fun (t28, b31) => [(28, .d (I t28))]) (fun (t28, b31) => [{ cells := [.d (I Zp), .d (.list Zq.length (Zq.flatMap (fun (x : Int × Int) => [(I x.1), (I x.2)])))], e := 24 }, { cells := [.d (I Zp), .d (.list Zq.length (Zq.flatMap (fun (x : Int × Int) => [(I x.1), (I x.2)])))], e := 24 }, { cells := .d (I Zp) :: ((List.replicate 64 false).map Bo).map .d, e := 106 }, { cells := (b31.map Bo).map .d, e := 104 }]) (plan_RootsFor.b1 N Zq K_) r N ((0 : Int), (List.replicate 64 false)) (by (simp only [go_sem]; omega)) H (by (simp only [sw1, go_sem, simprocAttr]; done)) ?_
 rintro n ⟨t28, b31⟩ H N4 hN4
 unfold plan_RootsFor.b1 at H
 try simp only [go_sem, simprocAttr]
 refine PW.seq ?_
 refine PW.regionK fun K hK => OW.run [1, 6, 7, 26, 27, 28, 29] ?_
 simp only [go_sem, simprocAttr, sw0]
 refine OW.nil (hK _ ?_); clear hK K
 refine PW.seq ?_
 refine PW.cond rfl (fun h5 => ?_) (fun h5 => ?_)
 ·
  replace H := br_t h5 H
  refine PW.skip ?_
  refine PW.seq ?_
  refine PW.block ?_
  refine PW.seq ?_
  obtain ⟨c6, H⟩ := chk_some H
  refine PW.regionK fun K hK => OW.run [1, 6, 7, 9, 26, 27, 28] ?_
  (simp only [go_sem, simprocAttr, sw0, flatMap_length 2 (fun (x : Int × Int) => [(I x.1), (I x.2)]) (fun _ => rfl), sub_el 2 (fun (x : Int × Int) => [(I x.1), (I x.2)]) (fun _ => rfl) Zq t28.toNat (by omega)])
  repeat (refine And.intro (by omega) ?_)
  refine OW.nil (hK _ ?_); clear hK K
  change PW _ _ _ _ _
  obtain ⟨c7, H⟩ := chk_some H
  obtain ⟨c8, H⟩ := chk_some H
  obtain ⟨c9, H⟩ := chk_some H
  obtain ⟨c10, H⟩ := chk_some H
  obtain ⟨c11, H⟩ := chk_some H
  obtain ⟨c12, H⟩ := chk_some H
  refine PW.drawX 12 [10] (fun j => List.getD [[{ cells := [.d (I Zp), .d (.list Zq.length (Zq.flatMap (fun (x : Int × Int) => [(I x.1), (I x.2)])))], e := 24 }, { cells := [.d (I Zp), .d (.list Zq.length (Zq.flatMap (fun (x : Int × Int) => [(I x.1), (I x.2)])))], e := 24 }, { cells := .d (I Zp) :: ((List.replicate 64 false).map Bo).map .d, e := 106 }, { cells := (b31.map Bo).map .d, e := 104 }, { cells := [.d (I ((Zq.getD t28.toNat default).1)), .d (I ((Zq.getD t28.toNat default).2))], e := 42 }], [{ cells := [.d (I Zp), .d (.list Zq.length (Zq.flatMap (fun (x : Int × Int) => [(I x.1), (I x.2)])))], e := 24 }, { cells := [.d (I Zp), .d (.list Zq.length (Zq.flatMap (fun (x : Int × Int) => [(I x.1), (I x.2)])))], e := 24 }, { cells := .d (I Zp) :: ((List.replicate 64 false).map Bo).map .d, e := 106 }, { cells := ((b31.set ((((Zq.getD t28.toNat default).1).toNat) * 8 + (((Zq.getD t28.toNat default).2).toNat)) true).map Bo).map .d, e := 104 }, { cells := [.d (I ((Zq.getD t28.toNat default).1)), .d (I ((Zq.getD t28.toNat default).2))], e := 42 }]] j []) (fun _ v => v) mixed (by kernel_rfl) (by decide) (by ((refine ⟨by decide, ?_⟩; intro k i i' h1 h2 o ho; match k, h1, h2 with | 0, h1, h2 => (simp at h1 h2 <;> first | (cases h2; done) | (subst h1; subst h2; simp at ho; subst ho; simp [Region.binds]; done)) | 1, h1, h2 => (simp at h1 h2 <;> first | (cases h2; done) | (subst h1; subst h2; simp at ho; subst ho; simp [Region.binds]; done)) | 2, h1, h2 => (simp at h1 h2 <;> first | (cases h2; done) | (subst h1; subst h2; simp at ho; subst ho; simp [Region.binds]; done)) | k + 3, h1, h2 => (simp at h2; done)))) (fun _ => rfl) (by decide) (freshL rfl) rfl rfl fun K hK => ?_
  change FWX _ _ _ _ _ _ _ _ _ _
  refine FWX.op (by decide) rfl (.ptr 4 0) 0 0 (.inl rfl) (.inr ⟨_, _, { on := 0, ground := .phase }, rfl, rfl, by simp, rfl, rfl⟩) ?_ ?_ (by (simp only [go_sem, Nat.reduceLT])) ?_
  ·
   intro j hj1 hj2
   have hj : j = 0 := by omega
   subst hj
   all_goals (refine ⟨?_, ?_⟩)
   all_goals (first | rfl | trivial | ((simp only [go_sem, simprocAttr, sw0, set_mapF Bo b31 ((((Zq.getD t28.toNat default).1).toNat) * 8 + (((Zq.getD t28.toNat default).2).toNat)), set_mapF Bo (b31.set ((((Zq.getD t28.toNat default).1).toNat) * 8 + (((Zq.getD t28.toNat default).2).toNat)) true) ((((Zq.getD t28.toNat default).2).toNat) * 8 + (((Zq.getD t28.toNat default).1).toNat))]); first | done | rfl | omega | assumption | decide | (simp only [List.append_assoc, List.cons_append, List.nil_append]; done) | ((repeat (refine And.intro (by first | rfl | omega | assumption | decide) ?_)); first | rfl | omega | assumption | decide)))
  exact KeptX.same fun _ _ => rfl
  try simp only [go_sem, simprocAttr]
  refine FWX.op (by decide) rfl (.d (I ((Zq.getD t28.toNat default).1))) 0 0 (.inl rfl) (.inr ⟨_, _, { on := 1, ground := .phase }, rfl, rfl, by simp, rfl, rfl⟩) ?_ ?_ (by (simp only [go_sem, Nat.reduceLT])) ?_
  ·
   intro j hj1 hj2
   have hj : j = 0 := by omega
   subst hj
   all_goals (refine ⟨?_, ?_⟩)
   all_goals (first | rfl | trivial | ((simp only [go_sem, simprocAttr, sw0, set_mapF Bo b31 ((((Zq.getD t28.toNat default).1).toNat) * 8 + (((Zq.getD t28.toNat default).2).toNat)), set_mapF Bo (b31.set ((((Zq.getD t28.toNat default).1).toNat) * 8 + (((Zq.getD t28.toNat default).2).toNat)) true) ((((Zq.getD t28.toNat default).2).toNat) * 8 + (((Zq.getD t28.toNat default).1).toNat))]); first | done | rfl | omega | assumption | decide | (simp only [List.append_assoc, List.cons_append, List.nil_append]; done) | ((repeat (refine And.intro (by first | rfl | omega | assumption | decide) ?_)); first | rfl | omega | assumption | decide)))
  exact KeptX.same fun _ _ => rfl
  try simp only [go_sem, simprocAttr]
  refine FWX.op (by decide) rfl (.ptr 4 1) 0 0 (.inl rfl) (.inr ⟨_, _, { on := 2, ground := .phase }, rfl, rfl, by simp, rfl, rfl⟩) ?_ ?_ (by (simp only [go_sem, Nat.reduceLT])) ?_
  ·
   intro j hj1 hj2
   have hj : j = 0 := by omega
   subst hj
   all_goals (refine ⟨?_, ?_⟩)
   all_goals (first | rfl | trivial | ((simp only [go_sem, simprocAttr, sw0, set_mapF Bo b31 ((((Zq.getD t28.toNat default).1).toNat) * 8 + (((Zq.getD t28.toNat default).2).toNat)), set_mapF Bo (b31.set ((((Zq.getD t28.toNat default).1).toNat) * 8 + (((Zq.getD t28.toNat default).2).toNat)) true) ((((Zq.getD t28.toNat default).2).toNat) * 8 + (((Zq.getD t28.toNat default).1).toNat))]); first | done | rfl | omega | assumption | decide | (simp only [List.append_assoc, List.cons_append, List.nil_append]; done) | ((repeat (refine And.intro (by first | rfl | omega | assumption | decide) ?_)); first | rfl | omega | assumption | decide)))
  exact KeptX.same fun _ _ => rfl
  try simp only [go_sem, simprocAttr]
  refine FWX.op (by decide) rfl (.d (I ((Zq.getD t28.toNat default).2))) 0 0 (.inl rfl) (.inr ⟨_, _, { on := 3, ground := .phase }, rfl, rfl, by simp, rfl, rfl⟩) ?_ ?_ (by (simp only [go_sem, Nat.reduceLT])) ?_
  ·
   intro j hj1 hj2
   have hj : j = 0 := by omega
   subst hj
   all_goals (refine ⟨?_, ?_⟩)
   all_goals (first | rfl | trivial | ((simp only [go_sem, simprocAttr, sw0, set_mapF Bo b31 ((((Zq.getD t28.toNat default).1).toNat) * 8 + (((Zq.getD t28.toNat default).2).toNat)), set_mapF Bo (b31.set ((((Zq.getD t28.toNat default).1).toNat) * 8 + (((Zq.getD t28.toNat default).2).toNat)) true) ((((Zq.getD t28.toNat default).2).toNat) * 8 + (((Zq.getD t28.toNat default).1).toNat))]); first | done | rfl | omega | assumption | decide | (simp only [List.append_assoc, List.cons_append, List.nil_append]; done) | ((repeat (refine And.intro (by first | rfl | omega | assumption | decide) ?_)); first | rfl | omega | assumption | decide)))
  exact KeptX.same fun _ _ => rfl
  try simp only [go_sem, simprocAttr]
  refine FWX.op (by decide) rfl (.ptr 4 1) 0 1 (.inl rfl) (.inl rfl) ?_ ?_ (by (simp only [go_sem, Nat.reduceLT])) ?_
  ·
   intro j hj1 hj2
   have hj : j = 0 ∨ j = 1 := by omega
   rcases hj with rfl | rfl
   all_goals (refine ⟨?_, ?_⟩)
   all_goals (first | rfl | trivial | ((simp only [go_sem, simprocAttr, sw0, set_mapF Bo b31 ((((Zq.getD t28.toNat default).1).toNat) * 8 + (((Zq.getD t28.toNat default).2).toNat)), set_mapF Bo (b31.set ((((Zq.getD t28.toNat default).1).toNat) * 8 + (((Zq.getD t28.toNat default).2).toNat)) true) ((((Zq.getD t28.toNat default).2).toNat) * 8 + (((Zq.getD t28.toNat default).1).toNat))]); first | done | rfl | omega | assumption | decide | (simp only [List.append_assoc, List.cons_append, List.nil_append]; done) | ((repeat (refine And.intro (by first | rfl | omega | assumption | decide) ?_)); first | rfl | omega | assumption | decide)))
  exact KeptX.same fun _ _ => rfl
  try simp only [go_sem, simprocAttr]
  refine FWX.op (by decide) rfl (.d (I ((Zq.getD t28.toNat default).2))) 0 1 (.inl rfl) (.inl rfl) ?_ ?_ (by (simp only [go_sem, Nat.reduceLT])) ?_
  ·
   intro j hj1 hj2
   have hj : j = 0 ∨ j = 1 := by omega
   rcases hj with rfl | rfl
   all_goals (refine ⟨?_, ?_⟩)
   all_goals (first | rfl | trivial | ((simp only [go_sem, simprocAttr, sw0, set_mapF Bo b31 ((((Zq.getD t28.toNat default).1).toNat) * 8 + (((Zq.getD t28.toNat default).2).toNat)), set_mapF Bo (b31.set ((((Zq.getD t28.toNat default).1).toNat) * 8 + (((Zq.getD t28.toNat default).2).toNat)) true) ((((Zq.getD t28.toNat default).2).toNat) * 8 + (((Zq.getD t28.toNat default).1).toNat))]); first | done | rfl | omega | assumption | decide | (simp only [List.append_assoc, List.cons_append, List.nil_append]; done) | ((repeat (refine And.intro (by first | rfl | omega | assumption | decide) ?_)); first | rfl | omega | assumption | decide)))
  exact KeptX.same fun _ _ => rfl
  try simp only [go_sem, simprocAttr]
  refine FWX.op (by decide) rfl (.ptr 4 0) 0 1 (.inl rfl) (.inl rfl) ?_ ?_ (by (simp only [go_sem, Nat.reduceLT])) ?_
  ·
   intro j hj1 hj2
   have hj : j = 0 ∨ j = 1 := by omega
   rcases hj with rfl | rfl
   all_goals (refine ⟨?_, ?_⟩)
   all_goals (first | rfl | trivial | ((simp only [go_sem, simprocAttr, sw0, set_mapF Bo b31 ((((Zq.getD t28.toNat default).1).toNat) * 8 + (((Zq.getD t28.toNat default).2).toNat)), set_mapF Bo (b31.set ((((Zq.getD t28.toNat default).1).toNat) * 8 + (((Zq.getD t28.toNat default).2).toNat)) true) ((((Zq.getD t28.toNat default).2).toNat) * 8 + (((Zq.getD t28.toNat default).1).toNat))]); first | done | rfl | omega | assumption | decide | (simp only [List.append_assoc, List.cons_append, List.nil_append]; done) | ((repeat (refine And.intro (by first | rfl | omega | assumption | decide) ?_)); first | rfl | omega | assumption | decide)))
  exact KeptX.same fun _ _ => rfl
  try simp only [go_sem, simprocAttr]
  refine FWX.op (by decide) rfl (.d (I ((Zq.getD t28.toNat default).1))) 0 1 (.inl rfl) (.inl rfl) ?_ ?_ (by (simp only [go_sem, Nat.reduceLT])) ?_
  ·
   intro j hj1 hj2
   have hj : j = 0 ∨ j = 1 := by omega
   rcases hj with rfl | rfl
   all_goals (refine ⟨?_, ?_⟩)
   all_goals (first | rfl | trivial | ((simp only [go_sem, simprocAttr, sw0, set_mapF Bo b31 ((((Zq.getD t28.toNat default).1).toNat) * 8 + (((Zq.getD t28.toNat default).2).toNat)), set_mapF Bo (b31.set ((((Zq.getD t28.toNat default).1).toNat) * 8 + (((Zq.getD t28.toNat default).2).toNat)) true) ((((Zq.getD t28.toNat default).2).toNat) * 8 + (((Zq.getD t28.toNat default).1).toNat))]); first | done | rfl | omega | assumption | decide | (simp only [List.append_assoc, List.cons_append, List.nil_append]; done) | ((repeat (refine And.intro (by first | rfl | omega | assumption | decide) ?_)); first | rfl | omega | assumption | decide)))
  exact KeptX.same fun _ _ => rfl
  try simp only [go_sem, simprocAttr]
  refine FWX.op (by decide) rfl (.ptr 3 ((((Zq.getD t28.toNat default).1).toNat) * 8)) 0 1 (.inl rfl) (.inl rfl) ?_ ?_ (by (simp only [go_sem, Nat.reduceLT])) ?_
  ·
   intro j hj1 hj2
   have hj : j = 0 ∨ j = 1 := by omega
   rcases hj with rfl | rfl
   all_goals (refine ⟨?_, ?_⟩)
   all_goals (first | rfl | trivial | ((simp only [go_sem, simprocAttr, sw0, set_mapF Bo b31 ((((Zq.getD t28.toNat default).1).toNat) * 8 + (((Zq.getD t28.toNat default).2).toNat)), set_mapF Bo (b31.set ((((Zq.getD t28.toNat default).1).toNat) * 8 + (((Zq.getD t28.toNat default).2).toNat)) true) ((((Zq.getD t28.toNat default).2).toNat) * 8 + (((Zq.getD t28.toNat default).1).toNat))]); first | done | rfl | omega | assumption | decide | (simp only [List.append_assoc, List.cons_append, List.nil_append]; done) | ((repeat (refine And.intro (by first | rfl | omega | assumption | decide) ?_)); first | rfl | omega | assumption | decide)))
  exact KeptX.same fun _ _ => rfl
  try simp only [go_sem, simprocAttr]
  refine FWX.op (by decide) rfl (.ptr 3 ((((Zq.getD t28.toNat default).1).toNat) * 8 + (((Zq.getD t28.toNat default).2).toNat))) 0 0 (.inl rfl) (.inr ⟨_, _, { on := 9, ground := .data }, rfl, rfl, by simp, rfl, rfl⟩) ?_ ?_ (by (simp only [go_sem, Nat.reduceLT])) ?_
  ·
   intro j hj1 hj2
   have hj : j = 0 := by omega
   subst hj
   all_goals (refine ⟨?_, ?_⟩)
   all_goals (first | rfl | trivial | ((simp only [go_sem, simprocAttr, sw0, set_mapF Bo b31 ((((Zq.getD t28.toNat default).1).toNat) * 8 + (((Zq.getD t28.toNat default).2).toNat)), set_mapF Bo (b31.set ((((Zq.getD t28.toNat default).1).toNat) * 8 + (((Zq.getD t28.toNat default).2).toNat)) true) ((((Zq.getD t28.toNat default).2).toNat) * 8 + (((Zq.getD t28.toNat default).1).toNat))]); first | done | rfl | omega | assumption | decide | (simp only [List.append_assoc, List.cons_append, List.nil_append]; done) | ((repeat (refine And.intro (by first | rfl | omega | assumption | decide) ?_)); first | rfl | omega | assumption | decide)))
  exact KeptX.same fun _ _ => rfl
  try simp only [go_sem, simprocAttr]
  refine FWX.store (q := 0) (by decide) rfl rfl rfl rfl (fun _ => rfl) ?_ ?_ ?_
  · first | trivial | ((simp only [go_sem, simprocAttr, sw0, set_mapF Bo b31 ((((Zq.getD t28.toNat default).1).toNat) * 8 + (((Zq.getD t28.toNat default).2).toNat)), set_mapF Bo (b31.set ((((Zq.getD t28.toNat default).1).toNat) * 8 + (((Zq.getD t28.toNat default).2).toNat)) true) ((((Zq.getD t28.toNat default).2).toNat) * 8 + (((Zq.getD t28.toNat default).1).toNat))]); done) | ((simp only [go_sem, simprocAttr, sw0, set_mapF Bo b31 ((((Zq.getD t28.toNat default).1).toNat) * 8 + (((Zq.getD t28.toNat default).2).toNat)), set_mapF Bo (b31.set ((((Zq.getD t28.toNat default).1).toNat) * 8 + (((Zq.getD t28.toNat default).2).toNat)) true) ((((Zq.getD t28.toNat default).2).toNat) * 8 + (((Zq.getD t28.toNat default).1).toNat))]); first | omega | (repeat (refine And.intro (by (first | omega | assumption | rfl | decide | (simp only [List.length_map, List.length_replicate, List.length_append, List.length_take, List.length_drop, List.length_set, List.length_cons, List.length_nil, Nat.zero_add, Int.toNat_natCast] at *; omega) | (simp only [List.length_map, List.length_replicate, List.length_append, List.length_take, List.length_drop, List.length_set, List.length_cons, List.length_nil, Nat.zero_add, Int.toNat_natCast]; done) | trivial)) ?_); (first | omega | assumption | rfl | decide | (simp only [List.length_map, List.length_replicate, List.length_append, List.length_take, List.length_drop, List.length_set, List.length_cons, List.length_nil, Nat.zero_add, Int.toNat_natCast] at *; omega) | (simp only [List.length_map, List.length_replicate, List.length_append, List.length_take, List.length_drop, List.length_set, List.length_cons, List.length_nil, Nat.zero_add, Int.toNat_natCast]; done) | trivial)))
  · first | rfl | ((simp only [go_sem, simprocAttr, sw0, set_mapF Bo b31 ((((Zq.getD t28.toNat default).1).toNat) * 8 + (((Zq.getD t28.toNat default).2).toNat)), set_mapF Bo (b31.set ((((Zq.getD t28.toNat default).1).toNat) * 8 + (((Zq.getD t28.toNat default).2).toNat)) true) ((((Zq.getD t28.toNat default).2).toNat) * 8 + (((Zq.getD t28.toNat default).1).toNat))]); done) | ((simp only [go_sem, simprocAttr, sw0, set_mapF Bo b31 ((((Zq.getD t28.toNat default).1).toNat) * 8 + (((Zq.getD t28.toNat default).2).toNat)), set_mapF Bo (b31.set ((((Zq.getD t28.toNat default).1).toNat) * 8 + (((Zq.getD t28.toNat default).2).toNat)) true) ((((Zq.getD t28.toNat default).2).toNat) * 8 + (((Zq.getD t28.toNat default).1).toNat))]); rfl) | ((simp only [go_sem, simprocAttr, sw0, set_mapF Bo b31 ((((Zq.getD t28.toNat default).1).toNat) * 8 + (((Zq.getD t28.toNat default).2).toNat)), set_mapF Bo (b31.set ((((Zq.getD t28.toNat default).1).toNat) * 8 + (((Zq.getD t28.toNat default).2).toNat)) true) ((((Zq.getD t28.toNat default).2).toNat) * 8 + (((Zq.getD t28.toNat default).1).toNat))]); simp only [List.append_assoc, List.cons_append, List.nil_append]; done)
  try simp only [go_sem, simprocAttr]
  refine FWX.op (by decide) rfl (.ptr 3 ((((Zq.getD t28.toNat default).2).toNat) * 8)) 0 1 (.inl rfl) (.inl rfl) ?_ ?_ (by (simp only [go_sem, Nat.reduceLT])) ?_
  ·
   intro j hj1 hj2
   have hj : j = 0 ∨ j = 1 := by omega
   rcases hj with rfl | rfl
   all_goals (refine ⟨?_, ?_⟩)
   all_goals (first | rfl | trivial | ((simp only [go_sem, simprocAttr, sw0, set_mapF Bo b31 ((((Zq.getD t28.toNat default).1).toNat) * 8 + (((Zq.getD t28.toNat default).2).toNat)), set_mapF Bo (b31.set ((((Zq.getD t28.toNat default).1).toNat) * 8 + (((Zq.getD t28.toNat default).2).toNat)) true) ((((Zq.getD t28.toNat default).2).toNat) * 8 + (((Zq.getD t28.toNat default).1).toNat))]); first | done | rfl | omega | assumption | decide | (simp only [List.append_assoc, List.cons_append, List.nil_append]; done) | ((repeat (refine And.intro (by first | rfl | omega | assumption | decide) ?_)); first | rfl | omega | assumption | decide)))
  exact KeptX.same fun _ _ => rfl
  try simp only [go_sem, simprocAttr]
  refine FWX.nil ?_
  change OW _ _ _ _ _ _
  change OW _ _ _ _ _ _
  refine OW.run [1, 6, 7, 26, 27, 28] ?_
  (simp only [go_sem, simprocAttr, sw0, set_mapF Bo b31 ((((Zq.getD t28.toNat default).1).toNat) * 8 + (((Zq.getD t28.toNat default).2).toNat)), set_mapF Bo (b31.set ((((Zq.getD t28.toNat default).1).toNat) * 8 + (((Zq.getD t28.toNat default).2).toNat)) true) ((((Zq.getD t28.toNat default).2).toNat) * 8 + (((Zq.getD t28.toNat default).1).toNat))])
  repeat (refine And.intro (by omega) ?_)
  refine OW.nil (hK _ ?_); clear hK K
  refine PW.regionK fun K hK => OW.run [1, 6, 7, 26, 27, 28] ?_
  simp only [go_sem, simprocAttr, sw0]
  refine OW.nil (hK _ ?_); clear hK K
  refine hN4 [] (w64 (t28 + (1 : Int)), ((b31.set ((((Zq.getD t28.toNat default).1).toNat) * 8 + (((Zq.getD t28.toNat default).2).toNat)) true).set ((((Zq.getD t28.toNat default).2).toNat) * 8 + (((Zq.getD t28.toNat default).1).toNat)) true)) _ H (by exact trivial) ?_
  simp only [sw1, go_sem, simprocAttr]
 replace H := br_f h5 H
 refine PW.exit ?_
 refine hN3 [] b31 _ H (by exact trivial) ?_
 simp only [sw1, go_sem, simprocAttr]
 rintro b3 H
 try simp only [go_sem, simprocAttr]
 refine PW.joinS (τ := List Bool) [6] 3 (fun b2 => []) (fun b2 => [{ cells := [.d (I Zp), .d (.list Zq.length (Zq.flatMap (fun (x : Int × Int) => [(I x.1), (I x.2)])))], e := 24 }, { cells := [.d (I Zp), .d (.list Zq.length (Zq.flatMap (fun (x : Int × Int) => [(I x.1), (I x.2)])))], e := 24 }, { cells := .d (I Zp) :: (b2.map Bo).map .d, e := 106 }]) _ _ r (by (simp only [go_sem]; omega)) H ?_ ?_
 intro K_1 H N13 hN13
 refine PW.seq ?_
 refine PW.regionK fun K hK => OW.run [1, 6, 7, 46, 47] ?_
 simp only [go_sem, simprocAttr, sw0]
 repeat (refine And.intro (by omega) ?_)
 refine OW.nil (hK _ ?_); clear hK K
 refine PW.block ?_
 refine PW.loopS (σ := Int × List Bool) [1, 6, 7, 46, 47] 4 (fun (t47, b21) => [(47, .d (I t47))]) (fun (t47, b21) => [{ cells := [.d (I Zp), .d (.list Zq.length (Zq.flatMap (fun (x : Int × Int) => [(I x.1), (I x.2)])))], e := 24 }, { cells := [.d (I Zp), .d (.list Zq.length (Zq.flatMap (fun (x : Int × Int) => [(I x.1), (I x.2)])))], e := 24 }, { cells := .d (I Zp) :: (b21.map Bo).map .d, e := 106 }, { cells := (b3.map Bo).map .d, e := 104 }]) (plan_RootsFor.b2 N Zp b3 K_1) r N ((0 : Int), (List.replicate 64 false)) (by (simp only [go_sem]; omega)) H (by (simp only [sw1, go_sem, simprocAttr]; done)) ?_
 rintro n ⟨t47, b21⟩ H N14 hN14
 unfold plan_RootsFor.b2 at H
 try simp only [go_sem, simprocAttr]
 refine PW.seq ?_
 refine PW.regionK fun K hK => OW.run [1, 6, 7, 46, 47, 48] ?_
 simp only [go_sem, simprocAttr, sw0]
 refine OW.nil (hK _ ?_); clear hK K
 refine PW.seq ?_
 refine PW.cond rfl (fun h15 => ?_) (fun h15 => ?_)
 replace H := br_t h15 H
 refine PW.skip ?_
 refine PW.joinS (τ := List Bool) [1, 6, 7, 46, 47] 4 (fun b22 => []) (fun b22 => [{ cells := [.d (I Zp), .d (.list Zq.length (Zq.flatMap (fun (x : Int × Int) => [(I x.1), (I x.2)])))], e := 24 }, { cells := [.d (I Zp), .d (.list Zq.length (Zq.flatMap (fun (x : Int × Int) => [(I x.1), (I x.2)])))], e := 24 }, { cells := .d (I Zp) :: (b22.map Bo).map .d, e := 106 }, { cells := (b3.map Bo).map .d, e := 104 }]) _ _ r (by (simp only [go_sem]; omega)) H ?_ ?_
 intro K_2 H N16 hN16
 refine PW.block ?_
 refine PW.seq ?_
 refine PW.regionK fun K hK => OW.run [1, 6, 7, 10, 46, 47] ?_
 simp only [go_sem, simprocAttr, sw0]
 refine OW.nil (hK _ ?_); clear hK K
 refine PW.seq ?_
 refine PW.regionK fun K hK => OW.run [1, 6, 7, 10, 46, 47, 51, 52] ?_
 simp only [go_sem, simprocAttr, sw0]
 repeat (refine And.intro (by omega) ?_)
 refine OW.nil (hK _ ?_); clear hK K
 refine PW.block ?_
 refine PW.loopS (σ := Int × List Bool) [1, 6, 7, 10, 46, 47, 51, 52] 4 (fun (t52, b23) => [(52, .d (I t52))]) (fun (t52, b23) => [{ cells := [.d (I Zp), .d (.list Zq.length (Zq.flatMap (fun (x : Int × Int) => [(I x.1), (I x.2)])))], e := 24 }, { cells := [.d (I Zp), .d (.list Zq.length (Zq.flatMap (fun (x : Int × Int) => [(I x.1), (I x.2)])))], e := 24 }, { cells := .d (I Zp) :: (b23.map Bo).map .d, e := 106 }, { cells := (b3.map Bo).map .d, e := 104 }]) (plan_RootsFor.b3 N Zp b3 t47 K_2) r N ((0 : Int), b21) (by (simp only [go_sem]; omega)) H (by (simp only [sw1, go_sem, simprocAttr]; done)) ?_
 rintro n ⟨t52, b23⟩ H N17 hN17
 unfold plan_RootsFor.b3 at H
 try simp only [go_sem, simprocAttr]
 refine PW.seq ?_
 refine PW.regionK fun K hK => OW.run [1, 6, 7, 10, 46, 47, 51, 52, 53] ?_
 simp only [go_sem, simprocAttr, sw0]
 refine OW.nil (hK _ ?_); clear hK K
 refine PW.seq ?_
 refine PW.cond rfl (fun h18 => ?_) (fun h18 => ?_)
 replace H := br_t h18 H
 refine PW.skip ?_
 refine PW.joinS (τ := List Bool) [1, 6, 7, 10, 46, 47, 51, 52] 4 (fun b24 => []) (fun b24 => [{ cells := [.d (I Zp), .d (.list Zq.length (Zq.flatMap (fun (x : Int × Int) => [(I x.1), (I x.2)])))], e := 24 }, { cells := [.d (I Zp), .d (.list Zq.length (Zq.flatMap (fun (x : Int × Int) => [(I x.1), (I x.2)])))], e := 24 }, { cells := .d (I Zp) :: (b24.map Bo).map .d, e := 106 }, { cells := (b3.map Bo).map .d, e := 104 }]) _ _ r (by (simp only [go_sem]; omega)) H ?_ ?_
 intro K_3 H N19 hN19
 refine PW.block ?_
 refine PW.seq ?_
 refine PW.regionK fun K hK => OW.run [1, 6, 7, 10, 11, 46, 47, 51, 52] ?_
 simp only [go_sem, simprocAttr, sw0]
 refine OW.nil (hK _ ?_); clear hK K
 refine PW.seq ?_
 refine PW.regionK fun K hK => OW.run [1, 6, 7, 10, 11, 46, 47, 51, 52, 56, 57] ?_
 simp only [go_sem, simprocAttr, sw0]
 repeat (refine And.intro (by omega) ?_)
 refine OW.nil (hK _ ?_); clear hK K
 refine PW.block ?_
 refine PW.loopS (σ := Int × List Bool) [1, 6, 7, 10, 11, 46, 47, 51, 52, 56, 57] 4 (fun (t57, b25) => [(57, .d (I t57))]) (fun (t57, b25) => [{ cells := [.d (I Zp), .d (.list Zq.length (Zq.flatMap (fun (x : Int × Int) => [(I x.1), (I x.2)])))], e := 24 }, { cells := [.d (I Zp), .d (.list Zq.length (Zq.flatMap (fun (x : Int × Int) => [(I x.1), (I x.2)])))], e := 24 }, { cells := .d (I Zp) :: (b25.map Bo).map .d, e := 106 }, { cells := (b3.map Bo).map .d, e := 104 }]) (plan_RootsFor.b4 N Zp b3 t47 t52 K_3) r N ((0 : Int), b23) (by (simp only [go_sem]; omega)) H (by (simp only [sw1, go_sem, simprocAttr]; done)) ?_
 rintro n ⟨t57, b25⟩ H N20 hN20
 unfold plan_RootsFor.b4 at H
 try simp only [go_sem, simprocAttr]
 refine PW.seq ?_
 refine PW.regionK fun K hK => OW.run [1, 6, 7, 10, 11, 46, 47, 51, 52, 56, 57, 58] ?_
 simp only [go_sem, simprocAttr, sw0]
 refine OW.nil (hK _ ?_); clear hK K
 refine PW.seq ?_
 refine PW.cond rfl (fun h21 => ?_) (fun h21 => ?_)
 replace H := br_t h21 H
 refine PW.skip ?_
 refine PW.seq ?_
 refine PW.block ?_
 refine PW.seq ?_
 refine PW.regionK fun K hK => OW.run [1, 6, 7, 10, 11, 12, 46, 47, 51, 52, 56, 57] ?_
 simp only [go_sem, simprocAttr, sw0]
 refine OW.nil (hK _ ?_); clear hK K
 change PW _ _ _ _ _
 obtain ⟨c22, H⟩ := chk_some H
 obtain ⟨c23, H⟩ := chk_some H
 obtain ⟨c24, H⟩ := chk_some H
 obtain ⟨c25, H⟩ := chk_some H
 obtain ⟨c26, H⟩ := chk_some H
 obtain ⟨c27, H⟩ := chk_some H
 obtain ⟨c28, H⟩ := chk_some H
 obtain ⟨c29, H⟩ := chk_some H
 obtain ⟨c30, H⟩ := chk_some H
 obtain ⟨c31, H⟩ := chk_some H
 obtain ⟨c32, H⟩ := chk_some H
 obtain ⟨c33, H⟩ := chk_some H
 refine PW.drawK 40 mixed (by kernel_rfl) fun K hK => ?_
 change FW _ _ _ _ _
 refine FW.toS [(1, .ptr 1 0), (6, .ptr 2 0), (7, .ptr 3 0), (10, .d (I t47)), (11, .d (I t52)), (46, .d (I Zp)), (47, .d (I t47)), (51, .d (I Zp)), (52, .d (I t52)), (56, .d (I Zp)), (57, .d (I t57))] [{ cells := [.d (I Zp), .d (.list Zq.length (Zq.flatMap (fun (x : Int × Int) => [(I x.1), (I x.2)])))], e := 24 }, { cells := [.d (I Zp), .d (.list Zq.length (Zq.flatMap (fun (x : Int × Int) => [(I x.1), (I x.2)])))], e := 24 }, { cells := .d (I Zp) :: ((b25.set (t47.toNat * 8 + t52.toNat) ((b25.getD (t47.toNat * 8 + t52.toNat) false) || ((t47 != t52) && ((b3.getD (t47.toNat * 8 + t52.toNat) false) || ((b3.getD (t47.toNat * 8 + t57.toNat) false) && (b3.getD (t57.toNat * 8 + t52.toNat) false)))))).map Bo).map .d, e := 106 }, { cells := (b3.map Bo).map .d, e := 104 }] ?_ (hK _ ?_)
 intro K hKE
 rcases Bool.eq_false_or_eq_true ((b25.getD (t47.toNat * 8 + t52.toNat) false)) with ha0 | ha0
 refine FW.run ?_
 (simp only [go_sem, simprocAttr, sw0, show 1 + t47.toNat * 8 + t52.toNat = (t47.toNat * 8 + t52.toNat) + 1 by omega, List.getD_cons_succ, List.set_cons_succ, getD_mapVF Bo b25 (t47.toNat * 8 + t52.toNat) false (by omega), getD_mapVF Bo b3 (t47.toNat * 8 + t52.toNat) false (by omega), getD_mapVF Bo b3 (t47.toNat * 8 + t57.toNat) false (by omega), getD_mapVF Bo b3 (t57.toNat * 8 + t52.toNat) false (by omega), set_mapF Bo b25 (t47.toNat * 8 + t52.toNat), ha0])
 repeat (refine And.intro (by omega) ?_)
 refine FW.nil ?_
 change OW _ _ _ _ _ _
 refine OW.run [1, 6, 7, 10, 11, 46, 47, 51, 52, 56, 57] ?_
 (simp only [go_sem, simprocAttr, sw0, show 1 + t47.toNat * 8 + t52.toNat = (t47.toNat * 8 + t52.toNat) + 1 by omega, List.getD_cons_succ, List.set_cons_succ, getD_mapVF Bo b25 (t47.toNat * 8 + t52.toNat) false (by omega), getD_mapVF Bo b3 (t47.toNat * 8 + t52.toNat) false (by omega), getD_mapVF Bo b3 (t47.toNat * 8 + t57.toNat) false (by omega), getD_mapVF Bo b3 (t57.toNat * 8 + t52.toNat) false (by omega), set_mapF Bo b25 (t47.toNat * 8 + t52.toNat), ha0])
 repeat (refine And.intro (by omega) ?_)
 refine OW.nil ((congrArg K ?_).mpr hKE)
 · (first | rfl | (simp only [go_sem, simprocAttr, ha0]; done) | (simp only [go_sem, simprocAttr, ha0]; rfl))
 rcases Bool.eq_false_or_eq_true ((t47 != t52)) with ha1 | ha1
 rcases Bool.eq_false_or_eq_true ((b3.getD (t47.toNat * 8 + t52.toNat) false)) with ha2 | ha2
 refine FW.run ?_
 (simp only [go_sem, simprocAttr, sw0, show 1 + t47.toNat * 8 + t52.toNat = (t47.toNat * 8 + t52.toNat) + 1 by omega, List.getD_cons_succ, List.set_cons_succ, getD_mapVF Bo b25 (t47.toNat * 8 + t52.toNat) false (by omega), getD_mapVF Bo b3 (t47.toNat * 8 + t52.toNat) false (by omega), getD_mapVF Bo b3 (t47.toNat * 8 + t57.toNat) false (by omega), getD_mapVF Bo b3 (t57.toNat * 8 + t52.toNat) false (by omega), set_mapF Bo b25 (t47.toNat * 8 + t52.toNat), ha0, ha1, ha2])
 repeat (refine And.intro (by omega) ?_)
 refine FW.nil ?_
 change OW _ _ _ _ _ _
 refine OW.run [1, 6, 7, 10, 11, 46, 47, 51, 52, 56, 57] ?_
 (simp only [go_sem, simprocAttr, sw0, show 1 + t47.toNat * 8 + t52.toNat = (t47.toNat * 8 + t52.toNat) + 1 by omega, List.getD_cons_succ, List.set_cons_succ, getD_mapVF Bo b25 (t47.toNat * 8 + t52.toNat) false (by omega), getD_mapVF Bo b3 (t47.toNat * 8 + t52.toNat) false (by omega), getD_mapVF Bo b3 (t47.toNat * 8 + t57.toNat) false (by omega), getD_mapVF Bo b3 (t57.toNat * 8 + t52.toNat) false (by omega), set_mapF Bo b25 (t47.toNat * 8 + t52.toNat), ha0, ha1, ha2])
 repeat (refine And.intro (by omega) ?_)
 refine OW.nil ((congrArg K ?_).mpr hKE)
 · (first | rfl | (simp only [go_sem, simprocAttr, ha0, ha1, ha2]; done) | (simp only [go_sem, simprocAttr, ha0, ha1, ha2]; rfl))
 rcases Bool.eq_false_or_eq_true ((b3.getD (t47.toNat * 8 + t57.toNat) false)) with ha3 | ha3
 refine FW.run ?_
 (simp only [go_sem, simprocAttr, sw0, show 1 + t47.toNat * 8 + t52.toNat = (t47.toNat * 8 + t52.toNat) + 1 by omega, List.getD_cons_succ, List.set_cons_succ, getD_mapVF Bo b25 (t47.toNat * 8 + t52.toNat) false (by omega), getD_mapVF Bo b3 (t47.toNat * 8 + t52.toNat) false (by omega), getD_mapVF Bo b3 (t47.toNat * 8 + t57.toNat) false (by omega), getD_mapVF Bo b3 (t57.toNat * 8 + t52.toNat) false (by omega), set_mapF Bo b25 (t47.toNat * 8 + t52.toNat), ha0, ha1, ha2, ha3])
 repeat (refine And.intro (by omega) ?_)
 refine FW.nil ?_
 change OW _ _ _ _ _ _
 refine OW.run [1, 6, 7, 10, 11, 46, 47, 51, 52, 56, 57] ?_
 (simp only [go_sem, simprocAttr, sw0, show 1 + t47.toNat * 8 + t52.toNat = (t47.toNat * 8 + t52.toNat) + 1 by omega, List.getD_cons_succ, List.set_cons_succ, getD_mapVF Bo b25 (t47.toNat * 8 + t52.toNat) false (by omega), getD_mapVF Bo b3 (t47.toNat * 8 + t52.toNat) false (by omega), getD_mapVF Bo b3 (t47.toNat * 8 + t57.toNat) false (by omega), getD_mapVF Bo b3 (t57.toNat * 8 + t52.toNat) false (by omega), set_mapF Bo b25 (t47.toNat * 8 + t52.toNat), ha0, ha1, ha2, ha3])
 repeat (refine And.intro (by omega) ?_)
 refine OW.nil ((congrArg K ?_).mpr hKE)
 · (first | rfl | (simp only [go_sem, simprocAttr, ha0, ha1, ha2, ha3]; done) | (simp only [go_sem, simprocAttr, ha0, ha1, ha2, ha3]; rfl))
 refine FW.run ?_
 (simp only [go_sem, simprocAttr, sw0, show 1 + t47.toNat * 8 + t52.toNat = (t47.toNat * 8 + t52.toNat) + 1 by omega, List.getD_cons_succ, List.set_cons_succ, getD_mapVF Bo b25 (t47.toNat * 8 + t52.toNat) false (by omega), getD_mapVF Bo b3 (t47.toNat * 8 + t52.toNat) false (by omega), getD_mapVF Bo b3 (t47.toNat * 8 + t57.toNat) false (by omega), getD_mapVF Bo b3 (t57.toNat * 8 + t52.toNat) false (by omega), set_mapF Bo b25 (t47.toNat * 8 + t52.toNat), ha0, ha1, ha2, ha3])
 repeat (refine And.intro (by omega) ?_)
 refine FW.nil ?_
 change OW _ _ _ _ _ _
 refine OW.run [1, 6, 7, 10, 11, 46, 47, 51, 52, 56, 57] ?_
 (simp only [go_sem, simprocAttr, sw0, show 1 + t47.toNat * 8 + t52.toNat = (t47.toNat * 8 + t52.toNat) + 1 by omega, List.getD_cons_succ, List.set_cons_succ, getD_mapVF Bo b25 (t47.toNat * 8 + t52.toNat) false (by omega), getD_mapVF Bo b3 (t47.toNat * 8 + t52.toNat) false (by omega), getD_mapVF Bo b3 (t47.toNat * 8 + t57.toNat) false (by omega), getD_mapVF Bo b3 (t57.toNat * 8 + t52.toNat) false (by omega), set_mapF Bo b25 (t47.toNat * 8 + t52.toNat), ha0, ha1, ha2, ha3])
 repeat (refine And.intro (by omega) ?_)
 refine OW.nil ((congrArg K ?_).mpr hKE)
 · (first | rfl | (simp only [go_sem, simprocAttr, ha0, ha1, ha2, ha3]; done) | (simp only [go_sem, simprocAttr, ha0, ha1, ha2, ha3]; rfl))
 refine FW.run ?_
 (simp only [go_sem, simprocAttr, sw0, show 1 + t47.toNat * 8 + t52.toNat = (t47.toNat * 8 + t52.toNat) + 1 by omega, List.getD_cons_succ, List.set_cons_succ, getD_mapVF Bo b25 (t47.toNat * 8 + t52.toNat) false (by omega), getD_mapVF Bo b3 (t47.toNat * 8 + t52.toNat) false (by omega), getD_mapVF Bo b3 (t47.toNat * 8 + t57.toNat) false (by omega), getD_mapVF Bo b3 (t57.toNat * 8 + t52.toNat) false (by omega), set_mapF Bo b25 (t47.toNat * 8 + t52.toNat), ha0, ha1])
 repeat (refine And.intro (by omega) ?_)
 refine FW.nil ?_
 change OW _ _ _ _ _ _
 refine OW.run [1, 6, 7, 10, 11, 46, 47, 51, 52, 56, 57] ?_
 (simp only [go_sem, simprocAttr, sw0, show 1 + t47.toNat * 8 + t52.toNat = (t47.toNat * 8 + t52.toNat) + 1 by omega, List.getD_cons_succ, List.set_cons_succ, getD_mapVF Bo b25 (t47.toNat * 8 + t52.toNat) false (by omega), getD_mapVF Bo b3 (t47.toNat * 8 + t52.toNat) false (by omega), getD_mapVF Bo b3 (t47.toNat * 8 + t57.toNat) false (by omega), getD_mapVF Bo b3 (t57.toNat * 8 + t52.toNat) false (by omega), set_mapF Bo b25 (t47.toNat * 8 + t52.toNat), ha0, ha1])
 repeat (refine And.intro (by omega) ?_)
 refine OW.nil ((congrArg K ?_).mpr hKE)
 · (first | rfl | (simp only [go_sem, simprocAttr, ha0, ha1]; done) | (simp only [go_sem, simprocAttr, ha0, ha1]; rfl))
 clear hK K
 refine PW.regionK fun K hK => OW.run [1, 6, 7, 10, 11, 46, 47, 51, 52, 56, 57] ?_
 simp only [go_sem, simprocAttr, sw0]
 refine OW.nil (hK _ ?_); clear hK K
 refine hN20 [] (w64 (t57 + (1 : Int)), (b25.set (t47.toNat * 8 + t52.toNat) ((b25.getD (t47.toNat * 8 + t52.toNat) false) || ((t47 != t52) && ((b3.getD (t47.toNat * 8 + t52.toNat) false) || ((b3.getD (t47.toNat * 8 + t57.toNat) false) && (b3.getD (t57.toNat * 8 + t52.toNat) false))))))) _ H (by exact trivial) ?_
 simp only [sw1, go_sem, simprocAttr]
 replace H := br_f h21 H
 refine PW.exit ?_
 refine hN19 [] b25 _ H (by exact trivial) ?_
 simp only [sw1, go_sem, simprocAttr]
 rintro b24 H
 try simp only [go_sem, simprocAttr]
 refine PW.regionK fun K hK => OW.run [1, 6, 7, 10, 46, 47, 51, 52] ?_
 simp only [go_sem, simprocAttr, sw0]
 refine OW.nil (hK _ ?_); clear hK K
 refine hN17 [] (w64 (t52 + (1 : Int)), b24) _ H (by exact trivial) ?_
 simp only [sw1, go_sem, simprocAttr]
 replace H := br_f h18 H
 refine PW.exit ?_
 refine hN16 [] b23 _ H (by exact trivial) ?_
 simp only [sw1, go_sem, simprocAttr]
 rintro b22 H
 try simp only [go_sem, simprocAttr]
 refine PW.regionK fun K hK => OW.run [1, 6, 7, 46, 47] ?_
 simp only [go_sem, simprocAttr, sw0]
 refine OW.nil (hK _ ?_); clear hK K
 refine hN14 [] (w64 (t47 + (1 : Int)), b22) _ H (by exact trivial) ?_
 simp only [sw1, go_sem, simprocAttr]
 replace H := br_f h15 H
 refine PW.exit ?_
 refine hN13 [] b21 _ H (by exact trivial) ?_
 simp only [sw1, go_sem, simprocAttr]
 rintro b2 H
 try simp only [go_sem, simprocAttr]
 refine PW.seq ?_
 refine PW.regionK fun K hK => OW.run [2, 3] ?_
 simp only [go_sem, simprocAttr, sw0]
 refine OW.nil (hK _ ?_); clear hK K
 refine PW.ret ?_
 refine ⟨.inr rfl, rfl, rfl, ?_⟩
 simp only [go_sem, simprocAttr, sw0]
 change OW _ _ _ _ _ _
 refine OW.run [1, 2, 8, 9] ?_
 simp only [go_sem, simprocAttr, sw0]
 refine OW.nil (hK _ ?_); clear hK K
 refine PW.seq ?_
 refine PW.seq ?_
 refine PW.regionK fun K hK => OW.run [1, 2, 8, 9, 24] ?_
 simp only [go_sem, simprocAttr, sw0]
 refine OW.nil (hK _ ?_); clear hK K
 refine PW.cond rfl (fun h34 => ?_) (fun h34 => ?_)
 exact absurd h34 (by decide)
 refine PW.skip ?_
 refine PW.seq ?_
 refine PW.seq ?_
 obtain ⟨x2, e2, H⟩ := bnd_some H
 obtain ⟨x3, e3, H⟩ := bnd_some H
 obtain ⟨x4, e4, H⟩ := bnd_some H
 obtain ⟨x5, e5, H⟩ := bnd_some H
 refine PW.regionK fun K hK => OW.run [1, 2, 8, 10] ?_
 simp only [go_sem, simprocAttr, sw0]
 refine OW.call' 4 rfl rfl rfl (by first | exact rfl | ((simp only [go_sem, List.toList_toArray, simprocAttr]); exact rfl)) ?_ (plan_web_listErr_ok N _ _ _ 92 [] (fun y0 => plan_isNeed N y0) (fun y0 r h => plan_isNeed_ok N y0 r h) _ e2) ?_ ?_ ?_ ?_
 · (((simp only [go_sem, sw1, simprocAttr]; try simp only [seg, go_sem, simprocAttr])); done)
 · (refine okAll_intro ?_; (simp only [go_sem, sw2, List.length_set, List.length_replicate, and_true, true_and, Nat.le_refl, simprocAttr]; done))
 exact .inr ⟨rfl, rfl⟩
 (simp only [go_sem, Nat.reduceLT])
 refine OW.run [1, 2, 8, 10] ?_
 simp only [go_sem, simprocAttr, sw0]
 refine OW.call' 4 rfl rfl rfl (by first | exact rfl | ((simp only [go_sem, List.toList_toArray, simprocAttr]); exact rfl)) ?_ (plan_within_ok N _ _ _ _ e3) ?_ ?_ ?_ ?_
 rfl
 exact okD_all rfl
 exact .inl rfl
 (simp only [go_sem, Nat.reduceLT])
 refine OW.run [1, 2, 8, 10] ?_
 simp only [go_sem, simprocAttr, sw0]
 refine OW.call' 4 rfl rfl rfl (by first | exact rfl | ((simp only [go_sem, List.toList_toArray, simprocAttr]); exact rfl)) ?_ (plan_unless_ok N _ _ _ e4) ?_ ?_ ?_ ?_
 rfl
 exact okD_all rfl
 exact .inl rfl
 (simp only [go_sem, Nat.reduceLT])
 refine OW.run [1, 2, 8, 10] ?_
 simp only [go_sem, simprocAttr, sw0]
 refine OW.call' 4 rfl rfl rfl (by first | exact rfl | ((simp only [go_sem, List.toList_toArray, simprocAttr]); exact rfl)) ?_ (plan_first_ok N _ _ e5) ?_ ?_ ?_ ?_
 rfl
 · (refine okAll_intro ?_; (simp only [go_sem, sw2, List.length_set, List.length_replicate, and_true, true_and, Nat.le_refl, simprocAttr]; simp only [seg, go_sem, sw2, List.length_set, List.length_replicate, and_true, true_and, Nat.le_refl, simprocAttr]; done))
 exact .inr ⟨rfl, rfl⟩
 (simp only [go_sem, Nat.reduceLT])
 refine OW.run [1, 2, 8, 10] ?_
 simp only [go_sem, simprocAttr, sw0]
 refine OW.nil (hK _ ?_); clear hK K
 refine PW.seq ?_
 refine PW.regionK fun K hK => OW.run [1, 2, 8, 10, 35] ?_
 simp only [go_sem, simprocAttr, sw0]
 refine OW.nil (hK _ ?_); clear hK K
 refine PW.cond rfl (fun h35 => ?_) (fun h35 => ?_)
 replace H := br_t h35 H
 refine PW.seq ?_
 refine PW.regionK fun K hK => OW.run [6, 7] ?_
 simp only [go_sem, simprocAttr, sw0]
 refine OW.nil (hK _ ?_); clear hK K
 refine PW.ret ?_
 change PW.Ends _ _ _ _ _ _
 refine PW.Ends.intro (.inr rfl) ?_
 simp only [go_sem, simprocAttr, sw0]
 obtain rfl := Option.some.inj H
 refine RetOK.data' 4 (by exact okD_all rfl) ?_
 rfl
 replace H := br_f h35 H
 refine PW.skip ?_
 refine PW.seq ?_
 refine PW.regionK fun K hK => OW.run [1, 2, 8, 11] ?_
 simp only [go_sem, simprocAttr, sw0]
 refine OW.nil (hK _ ?_); clear hK K
 refine PW.virt 11 3 1 rfl ?_
 try simp only [go_sem, simprocAttr]
 refine PW.joinS (τ := List Int) [11] 5 (fun b4 => [(11, .own 4 0 b4.length 1)]) (fun b4 => [{ cells := [.d (I Zp), .d (.list Zq.length (Zq.flatMap (fun (x : Int × Int) => [(I x.1), (I x.2)])))], e := 24 }, { cells := [.d (I Zp), .d (.list Zq.length (Zq.flatMap (fun (x : Int × Int) => [(I x.1), (I x.2)])))], e := 24 }, { cells := .d (I Zp) :: (b2.map Bo).map .d, e := 106 }, { cells := [.d (I x2), .d (I x4)], e := 28 }, { cells := (b4.map I).map .d, e := 3 }]) _ _ r (by exact Nat.zero_le _) H ?_ ?_
 intro K_4 H N36 hN36
 refine PW.seq ?_
 refine PW.regionK fun K hK => OW.run [1, 2, 8, 11, 37, 38, 39] ?_
 simp only [go_sem, simprocAttr, sw0]
 refine OW.nil (hK _ ?_); clear hK K
 refine PW.block ?_
 refine PW.loopS (σ := Int × List Int) [1, 2, 8, 11, 37, 38, 39] 5 (fun (t39, b41) => [(11, .own 4 0 b41.length 1), (39, .d (I t39))]) (fun (t39, b41) => [{ cells := [.d (I Zp), .d (.list Zq.length (Zq.flatMap (fun (x : Int × Int) => [(I x.1), (I x.2)])))], e := 24 }, { cells := [.d (I Zp), .d (.list Zq.length (Zq.flatMap (fun (x : Int × Int) => [(I x.1), (I x.2)])))], e := 24 }, { cells := .d (I Zp) :: (b2.map Bo).map .d, e := 106 }, { cells := [.d (I x2), .d (I x4)], e := 28 }, { cells := (b41.map I).map .d, e := 3 }]) (plan_RootsFor.b5 N needs all b2 K_4) r N ((0 : Int), ([] : List Int)) (by exact Nat.zero_le _) H (by (simp only [sw1, go_sem, simprocAttr]; done)) ?_
 rintro n ⟨t39, b41⟩ H N37 hN37
 generalize hgrec4 : rds (plan_RootsFor.b5 N needs all b2 K_4) n = rec4 at H hN37
 unfold plan_RootsFor.b5 at H
 try simp only [go_sem, simprocAttr]
 refine PW.seq ?_
 refine PW.regionK fun K hK => OW.run [1, 2, 8, 11, 37, 38, 39, 40] ?_
 simp only [go_sem, simprocAttr, sw0]
 refine OW.nil (hK _ ?_); clear hK K
 refine PW.seq ?_
 refine PW.cond rfl (fun h38 => ?_) (fun h38 => ?_)
 replace H := br_t h38 H
 refine PW.skip ?_
 refine PW.joinS (τ := List Int) [1, 2, 8, 11, 37, 38, 39] 5 (fun b42 => [(11, .own 4 0 b42.length 1)]) (fun b42 => [{ cells := [.d (I Zp), .d (.list Zq.length (Zq.flatMap (fun (x : Int × Int) => [(I x.1), (I x.2)])))], e := 24 }, { cells := [.d (I Zp), .d (.list Zq.length (Zq.flatMap (fun (x : Int × Int) => [(I x.1), (I x.2)])))], e := 24 }, { cells := .d (I Zp) :: (b2.map Bo).map .d, e := 106 }, { cells := [.d (I x2), .d (I x4)], e := 28 }, { cells := (b42.map I).map .d, e := 3 }]) _ _ r (by exact Nat.zero_le _) H ?_ ?_
 intro K_5 H N39 hN39
 refine PW.block ?_
 refine PW.seq ?_
 obtain ⟨c40, H⟩ := chk_some H
 refine PW.regionK fun K hK => OW.run [1, 2, 8, 11, 12, 13, 37, 38, 39] ?_
 simp only [go_sem, simprocAttr, sw0]
 repeat (refine And.intro (by omega) ?_)
 refine OW.nil (hK _ ?_); clear hK K
 refine PW.scopeG (fun _ _ h => PW.noGoto h) ?_
 refine PW.seq ?_
 refine PW.regionK fun K hK => OW.run [1, 2, 8, 11, 12, 13, 14, 37, 38, 39] ?_
 simp only [go_sem, simprocAttr, sw0]
 refine OW.nil (hK _ ?_); clear hK K
 refine PW.seq ?_
 refine PW.label ?_
 refine PW.joinS (τ := Int) [1, 2, 8, 11, 13, 14, 37, 38, 39] 6 (fun b5 => []) (fun b5 => [{ cells := [.d (I Zp), .d (.list Zq.length (Zq.flatMap (fun (x : Int × Int) => [(I x.1), (I x.2)])))], e := 24 }, { cells := [.d (I Zp), .d (.list Zq.length (Zq.flatMap (fun (x : Int × Int) => [(I x.1), (I x.2)])))], e := 24 }, { cells := .d (I Zp) :: (b2.map Bo).map .d, e := 106 }, { cells := [.d (I x2), .d (I x4)], e := 28 }, { cells := (b41.map I).map .d, e := 3 }, { cells := [.d (I b5), .d (I (needs.getD t39.toNat 0))], e := 144 }]) _ _ r (by exact Nat.zero_le _) H ?_ ?_
 intro K_6 H N41 hN41
 refine PW.block ?_
 refine PW.loopS (σ := Int) [1, 2, 8, 11, 12, 13, 14, 37, 38, 39] 6 (fun b51 => []) (fun b51 => [{ cells := [.d (I Zp), .d (.list Zq.length (Zq.flatMap (fun (x : Int × Int) => [(I x.1), (I x.2)])))], e := 24 }, { cells := [.d (I Zp), .d (.list Zq.length (Zq.flatMap (fun (x : Int × Int) => [(I x.1), (I x.2)])))], e := 24 }, { cells := .d (I Zp) :: (b2.map Bo).map .d, e := 106 }, { cells := [.d (I x2), .d (I x4)], e := 28 }, { cells := (b41.map I).map .d, e := 3 }, { cells := [.d (I b51), .d (I (needs.getD t39.toNat 0))], e := 144 }]) (plan_RootsFor.b6 N needs all b2 t39 b41 K_6) r N (0 : Int) (by exact Nat.zero_le _) H (by (simp only [sw1, go_sem, simprocAttr]; done)) ?_
 rintro n b51 H N42 hN42
 generalize hgrec5 : rds (plan_RootsFor.b6 N needs all b2 t39 b41 K_6) n = rec5 at H hN42
 unfold plan_RootsFor.b6 at H
 try simp only [go_sem, simprocAttr]
 refine PW.seq ?_
 refine PW.seq ?_
 refine PW.regionK fun K hK => OW.run [1, 2, 8, 11, 12, 13, 14, 37, 38, 39, 51] ?_
 simp only [go_sem, simprocAttr, sw0]
 repeat (refine And.intro (by omega) ?_)
 refine OW.nil (hK _ ?_); clear hK K
 refine PW.cond rfl (fun h43 => ?_) (fun h43 => ?_)
 replace H := br_t h43 H
 refine PW.skip ?_
 refine PW.block ?_
 refine PW.seq ?_
 refine PW.seq ?_
 refine PW.regionK fun K hK => OW.run [1, 2, 8, 11, 12, 13, 14, 37, 38, 39, 52, 53, 54] ?_
 simp only [go_sem, simprocAttr, sw0]
 refine OW.nil (hK _ ?_); clear hK K
 refine PW.block ?_
 refine PW.loopS (σ := Int) [1, 2, 8, 11, 12, 13, 14, 37, 38, 39, 52, 53, 54] 6 (fun t54 => [(54, .d (I t54))]) (fun t54 => [{ cells := [.d (I Zp), .d (.list Zq.length (Zq.flatMap (fun (x : Int × Int) => [(I x.1), (I x.2)])))], e := 24 }, { cells := [.d (I Zp), .d (.list Zq.length (Zq.flatMap (fun (x : Int × Int) => [(I x.1), (I x.2)])))], e := 24 }, { cells := .d (I Zp) :: (b2.map Bo).map .d, e := 106 }, { cells := [.d (I x2), .d (I x4)], e := 28 }, { cells := (b41.map I).map .d, e := 3 }, { cells := [.d (I b51), .d (I (needs.getD t39.toNat 0))], e := 144 }]) (plan_RootsFor.b7 N needs b2 t39 b41 K_6 b51 rec5) r N (0 : Int) (by exact Nat.zero_le _) H (by (simp only [sw1, go_sem, simprocAttr]; done)) ?_
 rintro n t54 H N44 hN44
 unfold plan_RootsFor.b7 at H
 try simp only [go_sem, simprocAttr]
 refine PW.seq ?_
 refine PW.regionK fun K hK => OW.run [1, 2, 8, 11, 12, 13, 14, 37, 38, 39, 52, 53, 54, 55] ?_
 simp only [go_sem, simprocAttr, sw0]
 refine OW.nil (hK _ ?_); clear hK K
 refine PW.seq ?_
 refine PW.cond rfl (fun h45 => ?_) (fun h45 => ?_)
 replace H := br_t h45 H
 refine PW.skip ?_
 refine PW.seq ?_
 refine PW.block ?_
 refine PW.seq ?_
 obtain ⟨c46, H⟩ := chk_some H
 refine PW.regionK fun K hK => OW.run [1, 2, 8, 11, 12, 13, 14, 15, 16, 37, 38, 39, 52, 53, 54] ?_
 simp only [go_sem, simprocAttr, sw0]
 repeat (refine And.intro (by omega) ?_)
 refine OW.nil (hK _ ?_); clear hK K
 refine PW.seq ?_
 obtain ⟨c47, H⟩ := chk_some H
 refine PW.regionK fun K hK => OW.run [1, 2, 8, 11, 12, 13, 14, 15, 17, 37, 38, 39, 52, 53, 54] ?_
 simp only [go_sem, simprocAttr, sw0]
 repeat (refine And.intro (by omega) ?_)
 refine OW.nil (hK _ ?_); clear hK K
 refine PW.seq ?_
 obtain ⟨c48, H⟩ := chk_some H
 obtain ⟨c49, H⟩ := chk_some H
 obtain ⟨c50, H⟩ := chk_some H
 obtain ⟨x6, e6, H⟩ := bnd_some H
 refine PW.regionK fun K hK => OW.run [1, 2, 8, 11, 12, 13, 14, 37, 38, 39, 52, 53, 54, 77] ?_
 (simp only [go_sem, simprocAttr, sw0, show 1 + t39.toNat * 8 + t54.toNat = (t39.toNat * 8 + t54.toNat) + 1 by omega, List.getD_cons_succ, List.set_cons_succ, getD_mapVF Bo b2 (t39.toNat * 8 + t54.toNat) false (by omega)])
 repeat (refine And.intro (by omega) ?_)
 refine OW.callG' 4 rfl rfl ?_ (fun hg => by first | rfl | (simp only [go_sem, ↓reduceIte]; rfl)) (fun hg => by ((simp only [go_sem, List.toList_toArray, simprocAttr]); exact rfl)) (fun hg => ?_) (fun hg => (plan_roots_meets_ok N _ _ _ _ _ (grd_t hg e6))) ?_ ?_ ?_ ?_
 simp only [go_sem, simprocAttr]
 rfl
 · (refine okAll_intro ?_; (simp only [go_sem, sw2, List.length_set, List.length_replicate, and_true, true_and, Nat.le_refl, simprocAttr]; done))
 exact .inl rfl
 (simp only [go_sem, Nat.reduceLT])
 refine OW.run [1, 2, 8, 11, 12, 13, 14, 37, 38, 39, 52, 53, 54, 77] ?_
 (simp only [go_sem, simprocAttr, sw0, show 1 + t39.toNat * 8 + t54.toNat = (t39.toNat * 8 + t54.toNat) + 1 by omega, List.getD_cons_succ, List.set_cons_succ, getD_mapVF Bo b2 (t39.toNat * 8 + t54.toNat) false (by omega)])
 refine OW.nil (hK _ ?_); clear hK K
 refine PW.cond rfl (fun h51 => ?_) (fun h51 => ?_)
 replace H := br_t h51 H
 refine PW.seq ?_
 refine PW.regionK fun K hK => OW.run [1, 2, 8, 11, 12, 13, 14, 37, 38, 39] ?_
 simp only [go_sem, simprocAttr, sw0]
 repeat (refine And.intro (by omega) ?_)
 refine OW.nil (hK _ ?_); clear hK K
 refine PW.exit ?_
 refine hN42 [] (w64 (b51 + (1 : Int))) _ H (by exact trivial) ?_
 simp only [sw1, go_sem, simprocAttr]
 replace H := br_f h51 H
 refine PW.skip ?_
 refine PW.regionK fun K hK => OW.run [1, 2, 8, 11, 12, 13, 14, 37, 38, 39, 52, 53, 54] ?_
 simp only [go_sem, simprocAttr, sw0]
 refine OW.nil (hK _ ?_); clear hK K
 refine hN44 [] (w64 (t54 + (1 : Int))) _ H (by exact trivial) ?_
 simp only [sw1, go_sem, simprocAttr]
 replace H := br_f h45 H
 refine PW.exit ?_
 refine PW.exit ?_
 refine hN41 [] b51 _ H (by exact trivial) ?_
 simp only [sw1, go_sem, simprocAttr]
 replace H := br_f h43 H
 refine PW.exit ?_
 refine hN41 [] b51 _ H (by exact trivial) ?_
 simp only [sw1, go_sem, simprocAttr]
 rintro b5 H
 try simp only [go_sem, simprocAttr]
 refine PW.seq ?_
 refine PW.seq ?_
 refine PW.regionK fun K hK => OW.run [1, 2, 8, 11, 14, 37, 38, 39, 88] ?_
 simp only [go_sem, simprocAttr, sw0]
 repeat (refine And.intro (by omega) ?_)
 refine OW.nil (hK _ ?_); clear hK K
 refine PW.cond rfl (fun h52 => ?_) (fun h52 => ?_)
 replace H := br_t h52 H
 refine PW.seq ?_
 refine PW.regionK fun K hK => OW.run [6, 7] ?_
 simp only [go_sem, simprocAttr, sw0]
 refine OW.nil (hK _ ?_); clear hK K
 refine PW.ret ?_
 change PW.Ends _ _ _ _ _ _
 refine PW.Ends.intro (.inr rfl) ?_
 simp only [go_sem, simprocAttr, sw0]
 obtain rfl := Option.some.inj H
 refine RetOK.data' 4 (by exact okD_all rfl) ?_
 rfl
 replace H := br_f h52 H
 refine PW.skip ?_
 change PW _ _ _ _ _
 obtain ⟨c53, H⟩ := chk_some H
 refine PW.regionK fun K hK => OW.run [1, 2, 8, 11, 37, 38, 39] ?_
 simp only [go_sem, simprocAttr, sw0]
 repeat (refine And.intro (by omega) ?_)
 refine OW.nil (hK _ ?_); clear hK K
 refine hN39 [] (b41 ++ ([b5] : List Int)) _ H (by exact trivial) ?_
 simp only [sw1, go_sem, simprocAttr]
 rintro b42 H
 try simp only [go_sem, simprocAttr]
 refine PW.regionK fun K hK => OW.run [1, 2, 8, 11, 37, 38, 39] ?_
 simp only [go_sem, simprocAttr, sw0]
 refine OW.nil (hK _ ?_); clear hK K
 refine hN37 [] (w64 (t39 + (1 : Int)), b42) _ H (by exact trivial) ?_
 simp only [sw1, go_sem, simprocAttr]
 replace H := br_f h38 H
 refine PW.exit ?_
 refine hN36 [] b41 _ H (by exact trivial) ?_
 simp only [sw1, go_sem, simprocAttr]
 rintro b4 H
 try simp only [go_sem, simprocAttr]
 refine PW.seq ?_
 refine PW.regionK fun K hK => OW.run [6, 7] ?_
 simp only [go_sem, simprocAttr, sw0]
 refine OW.nil (hK _ ?_); clear hK K
 refine PW.ret ?_
 change PW.Ends _ _ _ _ _ _
 refine PW.Ends.intro (.inr rfl) ?_
 simp only [go_sem, simprocAttr, sw0]
 obtain rfl := Option.some.inj H
 refine RetOK.data' 4 (by (refine okAll_intro ?_; (simp only [go_sem, sw2, List.length_set, List.length_replicate, and_true, true_and, Nat.le_refl, simprocAttr]; done))) ?_
 · (((simp only [go_sem, sw1, simprocAttr]; try simp only [seg, go_sem, simprocAttr])); done)

theorem plan_isRoot_ok (N : Nat) (n : Int) (r : Bool) (H : plan_isRoot N n = some r) : CallOK Try.prog 94 [(I n)] (.d (Bo r)) [] := by
 refine CallOK.of_PW Try.func94 rfl (by rw [Try.results94]) Try.ntmps94 Try.call94 ?_
 change PW _ _ _ _ _
 try simp only [go_sem, simprocAttr]
 unfold plan_isRoot at H
 refine PW.seq ?_
 refine PW.regionK fun K hK => OW.run [0] ?_
 simp only [go_sem, simprocAttr, sw0]
 refine OW.nil (hK _ ?_)
 refine PW.seq ?_
 obtain ⟨x1, e1, H⟩ := bnd_some H
 refine PW.regionK fun K hK => OW.run [2] ?_
 simp only [go_sem, simprocAttr, sw0]
 refine OW.call' 4 rfl rfl rfl (by first | exact rfl | ((simp only [go_sem, List.toList_toArray, simprocAttr]); exact rfl)) ?_ (plan_within_ok N _ _ _ _ e1) ?_ ?_ ?_ ?_
 rfl
 exact okD_all rfl
 exact .inl rfl
 (simp only [go_sem, Nat.reduceLT])
 refine OW.run [2] ?_
 simp only [go_sem, simprocAttr, sw0]
 refine OW.nil (hK _ ?_)
 refine PW.ret ?_
 change PW.Ends _ _ _ _ _ _
 refine PW.Ends.intro (.inr rfl) ?_
 simp only [go_sem, simprocAttr, sw0]
 obtain rfl := Option.some.inj H
 refine RetOK.data' 4 (by exact trivial) ?_
 rfl

theorem plan_FirstRootClash_1_ok (N : Nat) (a : Int) (b : Int) (a2 : List Int) (a3 : List Int) (r : Bool) (H : plan_FirstRootClash_1 N a b a2 a3 = some r) : CallOK Try.prog 95 [(I a), (I b), (.ref [(L a2)]), (.ref [(L a3)])] (.d (Bo r)) [] := by
 refine CallOK.of_PW Try.func95 rfl (by rw [Try.results95]) Try.ntmps95 Try.call95 ?_
 change PW _ _ _ _ _
 try simp only [go_sem, simprocAttr]
 unfold plan_FirstRootClash_1 at H
 refine PW.seq ?_
 refine PW.regionK fun K hK => OW.run [0, 1, 2, 3] ?_
 simp only [go_sem, simprocAttr, sw0]
 refine OW.nil (hK _ ?_)
 refine PW.seq ?_
 obtain ⟨c1, H⟩ := chk_some H
 obtain ⟨c2, H⟩ := chk_some H
 obtain ⟨c3, H⟩ := chk_some H
 obtain ⟨c4, H⟩ := chk_some H
 obtain ⟨x1, e1, H⟩ := bnd_some H
 refine PW.drawK 18 mixed (by kernel_rfl) fun K hK => ?_
 change FW _ _ _ _ _
 refine FW.run ?_
 simp only [go_sem, simprocAttr, sw0]
 repeat (refine And.intro (by omega) ?_)
 refine FW.nil ?_
 change OW _ _ _ _ _ _
 refine OW.run [6] ?_
 simp only [go_sem, simprocAttr, sw0]
 refine OW.call' 4 rfl rfl rfl (by first | exact rfl | ((simp only [go_sem, List.toList_toArray, simprocAttr]); exact rfl)) ?_ (plan_roots_meets_ok N _ _ _ _ _ e1) ?_ ?_ ?_ ?_
 rfl
 · (refine okAll_intro ?_; (simp only [go_sem, sw2, List.length_set, List.length_replicate, and_true, true_and, Nat.le_refl, simprocAttr]; done))
 exact .inl rfl
 (simp only [go_sem, Nat.reduceLT])
 refine OW.run [6] ?_
 simp only [go_sem, simprocAttr, sw0]
 refine OW.nil (hK _ ?_)
 refine PW.ret ?_
 change PW.Ends _ _ _ _ _ _
 refine PW.Ends.intro (.inr rfl) ?_
 simp only [go_sem, simprocAttr, sw0]
 obtain rfl := Option.some.inj H
 refine RetOK.data' 4 (by exact trivial) ?_
 rfl

theorem plan_web_firstPair_ok (N : Nat) (w_cells : Int) (w_near : List Bool) (is__g : FuncId) (is__c : List D) (is_ : Int → Int → Option Bool) (is__h : ∀ y0 y1 r0, is_ y0 y1 = some r0 → CallOK Try.prog is__g ((I y0) :: (I y1) :: is__c.map nz) (.d (Bo r0)) []) (r : Int × Int × Int) (H : plan_web_firstPair N w_cells w_near is_ = some r) : CallOK Try.prog 66 [(.ref ((I w_cells) :: w_near.map Bo)), .clo is__g is__c] (.d (.tup [(.agg [(I r.1), (I r.2.1)]), (I r.2.2)])) [] := by
 refine CallOK.of_PW Try.func66 rfl (by rw [Try.results66]) Try.ntmps66 Try.call66 ?_
 refine PW.least ?_
 try simp only [go_sem, simprocAttr]
 unfold plan_web_firstPair at H
 refine PW.seq ?_
 refine PW.regionK fun K hK => OW.run [0, 3, 4, 5] ?_
 simp only [go_sem, simprocAttr, sw0]
 refine OW.nil (hK _ ?_); clear hK K
 refine PW.joinS (τ := Unit) [4, 5] 3 (fun _ => []) (fun _ => [{ cells := [.d (.clo is__g is__c)], e := 116 }, { cells := [.d (I (0 : Int)), .d (I (0 : Int))], e := 42 }, { cells := [.d (I (0 : Int))], e := 28 }]) _ _ r (by exact Nat.zero_le _) H ?_ ?_
 intro K_ H N1 hN1
 refine PW.seq ?_
 refine PW.regionK fun K hK => ?_
 refine OW.step rfl ?_
 simp only [go_sem, simprocAttr, sw0]
 refine OW.bound rfl rfl rfl rfl rfl (by (simp only [go_sem, Nat.reduceLT])) ?_
 try simp only [go_sem, simprocAttr]
 change OW _ _ _ _ _ _
 refine OW.run [3, 4, 5, 9] ?_
 simp only [go_sem, simprocAttr, sw0]
 refine OW.nil (hK _ ?_); clear hK K
 refine PW.block ?_
 refine PW.kept [3, 4, 5, 9] ?_
 try simp only [go_sem, simprocAttr]
 refine PW.rangeB (fun j => if j = 1 then some .ret else none) rfl rfl Try.func109 rfl (by rw [Try.results109]) Try.ntmps109 Try.call109 ?_
 rintro lc2 lc2_1 lc2_2 lc2_3 lc2_4 lc2_5
 change PW _ _ _ _ _
 try simp only [go_sem, simprocAttr]
 refine PW.seq ?_
 refine PW.regionK fun K hK => OW.run [0, 1, 9, 10] ?_
 simp only [go_sem, simprocAttr, sw0]
 repeat (refine And.intro (by omega) ?_)
 refine OW.nil (hK _ ?_); clear hK K
 refine PW.block ?_
 refine PW.loopS (σ := Int) [0, 1, 9, 10] 3 (fun t10 => [(10, .d (I t10))]) (fun t10 => [{ cells := [.d (.clo is__g is__c)], e := 116 }, { cells := [.d (I (0 : Int)), .d (I (0 : Int))], e := 42 }, { cells := [.d (I (0 : Int))], e := 28 }]) (plan_web_firstPair.b1 N w_cells w_near is_ K_) r N (0 : Int) (by exact Nat.le_refl _) H (by (simp only [sw1, go_sem, simprocAttr]; done)) ?_
 rintro n t10 H N2 hN2
 unfold plan_web_firstPair.b1 at H
 try simp only [go_sem, simprocAttr]
 refine PW.seq ?_
 refine PW.regionK fun K hK => OW.run [0, 1, 9, 10, 11] ?_
 simp only [go_sem, simprocAttr, sw0]
 refine OW.nil (hK _ ?_); clear hK K
 refine PW.seq ?_
 refine PW.cond rfl (fun h3 => ?_) (fun h3 => ?_)
 replace H := br_t h3 H
 refine PW.skip ?_
 refine PW.joinS (τ := Unit) [0, 1, 9, 10] 3 (fun _ => []) (fun _ => [{ cells := [.d (.clo is__g is__c)], e := 116 }, { cells := [.d (I (0 : Int)), .d (I (0 : Int))], e := 42 }, { cells := [.d (I (0 : Int))], e := 28 }]) _ _ r (by exact Nat.le_refl _) H ?_ ?_
 intro K_1 H N4 hN4
 refine PW.block ?_
 refine PW.seq ?_
 refine PW.regionK fun K hK => OW.run [0, 1, 4, 9, 10] ?_
 simp only [go_sem, simprocAttr, sw0]
 refine OW.nil (hK _ ?_); clear hK K
 refine PW.seq ?_
 refine PW.regionK fun K hK => OW.run [0, 1, 4, 5, 9, 10] ?_
 simp only [go_sem, simprocAttr, sw0]
 refine OW.nil (hK _ ?_); clear hK K
 refine PW.block ?_
 refine PW.loopS (σ := Int) [0, 1, 4, 5, 9, 10] 3 (fun b => [(5, .d (I b))]) (fun b => [{ cells := [.d (.clo is__g is__c)], e := 116 }, { cells := [.d (I (0 : Int)), .d (I (0 : Int))], e := 42 }, { cells := [.d (I (0 : Int))], e := 28 }]) (plan_web_firstPair.b2 N w_cells w_near is_ t10 K_1) r N (w64 (t10 + (1 : Int))) (by exact Nat.le_refl _) H (by (simp only [sw1, go_sem, simprocAttr]; done)) ?_
 rintro n b H N5 hN5
 unfold plan_web_firstPair.b2 at H
 try simp only [go_sem, simprocAttr]
 refine PW.seq ?_
 refine PW.seq ?_
 refine PW.regionK fun K hK => OW.run [0, 1, 4, 5, 9, 10, 20] ?_
 simp only [go_sem, simprocAttr, sw0]
 repeat (refine And.intro (by omega) ?_)
 refine OW.nil (hK _ ?_); clear hK K
 refine PW.cond rfl (fun h6 => ?_) (fun h6 => ?_)
 replace H := br_t h6 H
 refine PW.skip ?_
 refine PW.seq ?_
 refine PW.block ?_
 refine PW.seq ?_
 obtain ⟨c7, H⟩ := chk_some H
 obtain ⟨c8, H⟩ := chk_some H
 obtain ⟨c9, H⟩ := chk_some H
 obtain ⟨c10, H⟩ := chk_some H
 refine PW.regionK fun K hK => OW.run [0, 1, 4, 5, 9, 10, 37] ?_
 (simp only [go_sem, simprocAttr, sw0, subsub1 Bo w_near (t10.toNat * 8) 8 b.toNat false (by omega) (by omega), row8 Bo w_near (t10.toNat * 8) b.toNat false (by omega) (by omega)])
 repeat (refine And.intro (by omega) ?_)
 refine OW.split (g := (w_near.getD (t10.toNat * 8 + b.toNat) false)) (.d (Bo false)) rfl ?_ (by (simp only [go_sem, Nat.reduceLT])) (fun h11 => ?_) (fun h11 => ?_)
 simp only [go_sem, simprocAttr]
 replace H := br_t h11 H
 (simp only [go_sem, simprocAttr, sw0, h11])
 change OW _ _ _ _ _ _
 refine OW.yield lc2 20 _ _ [] rfl rfl rfl rfl lc2_5 (by rw [lc2_1]; rfl) (by rw [lc2_1]; decide) (List.append_nil _).symm (by (simp only [go_sem, Nat.reduceLT])) ?_
 intro us
 rw [lc2_1, lc2_2]
 change PW _ _ _ _ _
 try simp only [go_sem, simprocAttr]
 refine PW.seq ?_
 refine PW.regionK fun K hK => OW.run [3, 4, 5, 6, 11] ?_
 simp only [go_sem, simprocAttr, sw0]
 refine OW.nil (hK _ ?_); clear hK K
 refine PW.regionK fun K hK => OW.run [3, 4, 5, 6, 7] ?_
 simp only [go_sem, simprocAttr, sw0]
 refine OW.nil (hK _ ?_); clear hK K
 refine ⟨rfl, rfl, ?_⟩
 rw [lc2_3]
 change PW _ _ _ _ _
 try simp only [go_sem, simprocAttr]
 refine PW.block ?_
 refine PW.seq ?_
 obtain ⟨x1, e1, H⟩ := bnd_some H
 refine PW.regionK fun K hK => OW.run [4, 5, 6, 7, 15] ?_
 simp only [go_sem, simprocAttr, sw0]
 refine OW.call' 4 rfl rfl rfl (by first | exact rfl | ((simp only [go_sem, List.toList_toArray, simprocAttr]); exact rfl)) ?_ (is__h _ _ _ e1) ?_ ?_ ?_ ?_
 · (((simp only [go_sem, sw1, simprocAttr]; try simp only [seg, go_sem, simprocAttr])); done)
 · (refine okAll_intro ?_; (simp only [go_sem, sw2, List.length_set, List.length_replicate, and_true, true_and, Nat.le_refl, simprocAttr]; done))
 exact .inr ⟨rfl, rfl⟩
 (simp only [go_sem, Nat.reduceLT])
 refine OW.run [4, 5, 6, 7, 15] ?_
 simp only [go_sem, simprocAttr, sw0]
 refine OW.nil (hK _ ?_); clear hK K
 refine PW.cond rfl (fun h12 => ?_) (fun h12 => ?_)
 replace H := br_t h12 H
 refine PW.seq ?_
 refine PW.regionK fun K hK => OW.run [4, 5] ?_
 simp only [go_sem, simprocAttr, sw0]
 refine OW.nil (hK _ ?_); clear hK K
 refine PW.ret ?_
 refine ⟨1, .inr ⟨by decide, .inl ⟨rfl, by rw [lc2_4]; rfl⟩⟩, rfl, rfl, ?_⟩
 try simp only [go_sem, simprocAttr]
 change OW _ _ _ _ _ _
 refine OW.run [0, 1, 4, 5, 9, 10, 37] ?_
 simp only [go_sem, simprocAttr, sw0]
 refine OW.nil (hK _ ?_); clear hK K
 refine PW.cond rfl (fun h13 => ?_) (fun h13 => ?_)
 replace H := br_t h13 H
 refine PW.ret ?_
 refine ⟨.inr rfl, 1, rfl, rfl, fun h => absurd h (by decide), fun _ => .inl ⟨rfl, ?_⟩⟩
 try simp only [go_sem, simprocAttr]
 change PW.Ends _ _ _ _ _ _
 refine PW.Ends.intro (.inr rfl) ?_
 simp only [go_sem, simprocAttr, sw0]
 obtain rfl := Option.some.inj H
 refine RetOK.data' 4 (by (refine okAll_intro ?_; (simp only [go_sem, sw2, List.length_set, List.length_replicate, and_true, true_and, Nat.le_refl, simprocAttr]; done))) ?_
 rfl
 replace H := br_f h13 H
 cases H
 replace H := br_f h12 H
 refine PW.skip ?_
 refine ⟨0, .inl ⟨rfl, rfl⟩, rfl, rfl, ?_⟩
 try simp only [go_sem, simprocAttr]
 change OW _ _ _ _ _ _
 refine OW.run [0, 1, 4, 5, 9, 10, 37] ?_
 simp only [go_sem, simprocAttr, sw0]
 refine OW.nil (hK _ ?_); clear hK K
 refine PW.cond rfl (fun h14 => ?_) (fun h14 => ?_)
 replace H := br_t h14 H
 cases H
 replace H := br_f h14 H
 refine PW.skip ?_
 refine PW.regionK fun K hK => OW.run [0, 1, 4, 5, 9, 10] ?_
 simp only [go_sem, simprocAttr, sw0]
 refine OW.nil (hK _ ?_); clear hK K
 refine hN5 [] (w64 (b + (1 : Int))) _ H (by exact trivial) ?_
 simp only [sw1, go_sem, simprocAttr]
 replace H := br_f h11 H
 (simp only [go_sem, simprocAttr, sw0, h11])
 change OW _ _ _ _ _ _
 refine OW.run [0, 1, 4, 5, 9, 10, 37] ?_
 simp only [go_sem, simprocAttr, sw0]
 refine OW.nil (hK _ ?_); clear hK K
 refine PW.cond rfl (fun h15 => ?_) (fun h15 => ?_)
 replace H := br_t h15 H
 cases H
 replace H := br_f h15 H
 refine PW.skip ?_
 refine PW.regionK fun K hK => OW.run [0, 1, 4, 5, 9, 10] ?_
 simp only [go_sem, simprocAttr, sw0]
 refine OW.nil (hK _ ?_); clear hK K
 refine hN5 [] (w64 (b + (1 : Int))) _ H (by exact trivial) ?_
 simp only [sw1, go_sem, simprocAttr]
 replace H := br_f h6 H
 refine PW.exit ?_
 refine hN4 [] () _ H (by exact trivial) ?_
 simp only [sw1, go_sem, simprocAttr]
 rintro _ H
 try simp only [go_sem, simprocAttr]
 refine PW.regionK fun K hK => OW.run [0, 1, 9, 10] ?_
 simp only [go_sem, simprocAttr, sw0]
 refine OW.nil (hK _ ?_); clear hK K
 refine hN2 [] (w64 (t10 + (1 : Int))) _ H (by exact trivial) ?_
 simp only [sw1, go_sem, simprocAttr]
 replace H := br_f h3 H
 refine PW.exit ?_
 refine ⟨.inl rfl, 0, rfl, rfl, fun _ => ?_, fun h => absurd rfl h⟩
 try simp only [go_sem, simprocAttr]
 refine hN1 [] () _ H (by exact trivial) ?_
 simp only [sw1, go_sem, simprocAttr]
 rintro _ H
 try simp only [go_sem, simprocAttr]
 refine PW.seq ?_
 refine PW.regionK fun K hK => OW.run [4, 5] ?_
 simp only [go_sem, simprocAttr, sw0]
 refine OW.nil (hK _ ?_); clear hK K
 refine PW.ret ?_
 change PW.Ends _ _ _ _ _ _
 refine PW.Ends.intro (.inr rfl) ?_
 simp only [go_sem, simprocAttr, sw0]
 obtain rfl := Option.some.inj H
 refine RetOK.data' 4 (by (refine okAll_intro ?_; (simp only [go_sem, sw2, List.length_set, List.length_replicate, and_true, true_and, Nat.le_refl, simprocAttr]; done))) ?_
 rfl
end Go.Proofs.Ytklejiafioalnaa
