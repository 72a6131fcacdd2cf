import Derived.Test.YtklejiafioalnaaNsBase
import Derived.Test.YtklejiafioalnaaNsW0
import Derived.Test.YtklejiafioalnaaNsW5
set_option linter.all false
namespace Go.Proofs.Ytklejiafioalnaa
open Go.PW Go.Sh

set_option maxRecDepth 20000
set_option maxHeartbeats 8000000
theorem plan_web_listErr_1_ok (N : Nat) (n : Int) (a1_g : FuncId) (a1_c : List D) (a1 : Int → Option Bool) (a1_h : ∀ y0 r0, a1 y0 = some r0 → CallOK Try.prog a1_g ((I y0) :: a1_c.map nz) (.d (Bo r0)) []) (r : Bool) (H : plan_web_listErr_1 N n a1 = some r) : CallOK Try.prog 108 [(I n), .ref [.clo a1_g a1_c]] (.d (Bo r)) [] := by
 refine CallOK.of_PW Try.func108 rfl (by rw [Try.results108]) Try.ntmps108 Try.call108 ?_
 change PW _ _ _ _ _
 try simp only [go_sem, simprocAttr]
 unfold plan_web_listErr_1 at H
 refine PW.seq ?_
 refine PW.regionK fun K hK => OW.run [0, 1] ?_
 simp only [go_sem, simprocAttr, sw0]
 refine OW.nil (hK _ ?_)
 refine PW.seq ?_
 obtain ⟨x1, e1, H⟩ := bnd_some H
 refine PW.regionK fun K hK => OW.run [3] ?_
 simp only [go_sem, simprocAttr, sw0]
 refine OW.call' 4 rfl rfl rfl (by first | exact rfl | ((simp only [go_sem, List.toList_toArray, simprocAttr]); exact rfl)) ?_ (a1_h _ _ e1) ?_ ?_ ?_ ?_
 · (((simp only [go_sem, sw1, simprocAttr]; try simp only [seg, go_sem, simprocAttr])); done)
 · (refine okAll_intro ?_; (simp only [go_sem, sw2, List.length_set, List.length_replicate, and_true, true_and, Nat.le_refl, simprocAttr]; done))
 exact .inr ⟨rfl, rfl⟩
 (simp only [go_sem, Nat.reduceLT])
 refine OW.run [3] ?_
 simp only [go_sem, simprocAttr, sw0]
 refine OW.nil (hK _ ?_)
 refine PW.ret ?_
 change PW.Ends _ _ _ _ _ _
 refine PW.Ends.intro (.inr rfl) ?_
 simp only [go_sem, simprocAttr, sw0]
 obtain rfl := Option.some.inj H
 refine RetOK.data' 4 (by exact trivial) ?_
 rfl

theorem slices_ContainsFunc_ii_ok (N : Nat) (s : List Int) (f_g : FuncId) (f_c : List D) (f : Int → Option Bool) (f_h : ∀ y0 r0, f y0 = some r0 → CallOK Try.prog f_g ((I y0) :: f_c.map nz) (.d (Bo r0)) []) (r : Bool) (H : slices_ContainsFunc_ii N s f = some r) : CallOK Try.prog 101 [(L s), .clo f_g f_c] (.d (Bo r)) [] := by
 refine CallOK.of_PW Try.func101 rfl (by rw [Try.results101]) Try.ntmps101 Try.call101 ?_
 change PW _ _ _ _ _
 try simp only [go_sem, simprocAttr]
 unfold slices_ContainsFunc_ii at H
 refine PW.seq ?_
 refine PW.regionK fun K hK => OW.run [0, 1] ?_
 simp only [go_sem, simprocAttr, sw0]
 refine OW.nil (hK _ ?_)
 refine PW.seq ?_
 obtain ⟨x1, e1, H⟩ := bnd_some H
 refine PW.regionK fun K hK => OW.run [4] ?_
 simp only [go_sem, simprocAttr, sw0]
 refine OW.call' 4 rfl rfl rfl (by first | exact rfl | ((simp only [go_sem, List.toList_toArray, simprocAttr]); exact rfl)) ?_ (slices_IndexFunc_ii_ok N _ f_g f_c f f_h _ e1) ?_ ?_ ?_ ?_
 rfl
 exact okD_all rfl
 exact .inl rfl
 (simp only [go_sem, Nat.reduceLT])
 refine OW.run [4] ?_
 simp only [go_sem, simprocAttr, sw0]
 refine OW.nil (hK _ ?_)
 refine PW.ret ?_
 change PW.Ends _ _ _ _ _ _
 refine PW.Ends.intro (.inr rfl) ?_
 simp only [go_sem, simprocAttr, sw0]
 obtain rfl := Option.some.inj H
 refine RetOK.data' 4 (by exact trivial) ?_
 rfl

theorem plan_web_listErr_ok (N : Nat) (w_cells : Int) (w_near : List Bool) (l : List Int) (right_g : FuncId) (right_c : List D) (right : Int → Option Bool) (right_h : ∀ y0 r0, right y0 = some r0 → CallOK Try.prog right_g ((I y0) :: right_c.map nz) (.d (Bo r0)) []) (r : Int) (H : plan_web_listErr N w_cells w_near l right = some r) : CallOK Try.prog 64 [(.ref ((I w_cells) :: w_near.map Bo)), (L l), .clo right_g right_c] (.d (I r)) [] := by
 refine CallOK.of_PW Try.func64 rfl (by rw [Try.results64]) Try.ntmps64 Try.call64 ?_
 change PW _ _ _ _ _
 try simp only [go_sem, simprocAttr]
 unfold plan_web_listErr at H
 refine PW.seq ?_
 refine PW.regionK fun K hK => OW.run [0, 1, 5] ?_
 simp only [go_sem, simprocAttr, sw0]
 refine OW.nil (hK _ ?_)
 refine PW.seq ?_
 obtain ⟨x1, e1, H⟩ := bnd_some H
 refine PW.regionK fun K hK => OW.run [0, 1, 7] ?_
 simp only [go_sem, simprocAttr, sw0]
 refine OW.call' 4 rfl rfl rfl (by first | exact rfl | ((simp only [go_sem, List.toList_toArray, simprocAttr]); exact rfl)) ?_ (slices_ContainsFunc_ii_ok N _ 108 [.ref [.clo right_g right_c]] (fun y0 => plan_web_listErr_1 N y0 right) (fun y0 r h => plan_web_listErr_1_ok N y0 right_g right_c right right_h r h) _ e1) ?_ ?_ ?_ ?_
 rfl
 · (refine okAll_intro ?_; (simp only [go_sem, sw2, List.length_set, List.length_replicate, and_true, true_and, Nat.le_refl, simprocAttr]; done))
 exact .inr ⟨rfl, rfl⟩
 (simp only [go_sem, Nat.reduceLT])
 refine OW.run [0, 1, 7] ?_
 simp only [go_sem, simprocAttr, sw0]
 refine OW.nil (hK _ ?_)
 refine PW.seq ?_
 obtain ⟨x2, e2, H⟩ := bnd_some H
 obtain ⟨x3, e3, H⟩ := bnd_some H
 obtain ⟨x4, e4, H⟩ := bnd_some H
 refine PW.regionK fun K hK => OW.run [6] ?_
 simp only [go_sem, simprocAttr, sw0]
 repeat (refine And.intro (by omega) ?_)
 refine OW.call' 4 rfl rfl rfl (by first | exact rfl | ((simp only [go_sem, List.toList_toArray, simprocAttr]); exact rfl)) ?_ (plan_unless_ok N _ _ _ e2) ?_ ?_ ?_ ?_
 rfl
 exact okD_all rfl
 exact .inl rfl
 (simp only [go_sem, Nat.reduceLT])
 refine OW.run [6] ?_
 simp only [go_sem, simprocAttr, sw0]
 refine OW.call' 4 rfl rfl rfl (by first | exact rfl | ((simp only [go_sem, List.toList_toArray, simprocAttr]); exact rfl)) ?_ (plan_unless_ok N _ _ _ e3) ?_ ?_ ?_ ?_
 rfl
 exact okD_all rfl
 exact .inl rfl
 (simp only [go_sem, Nat.reduceLT])
 refine OW.run [6] ?_
 simp only [go_sem, simprocAttr, sw0]
 refine OW.call' 4 rfl rfl rfl (by first | exact rfl | ((simp only [go_sem, List.toList_toArray, simprocAttr]); exact rfl)) ?_ (plan_first_ok N _ _ e4) ?_ ?_ ?_ ?_
 rfl
 · (refine okAll_intro ?_; (simp only [go_sem, sw2, List.length_set, List.length_replicate, and_true, true_and, Nat.le_refl, simprocAttr]; simp only [seg, go_sem, sw2, List.length_set, List.length_replicate, and_true, true_and, Nat.le_refl, simprocAttr]; done))
 exact .inr ⟨rfl, rfl⟩
 (simp only [go_sem, Nat.reduceLT])
 refine OW.run [6] ?_
 simp only [go_sem, simprocAttr, sw0]
 refine OW.nil (hK _ ?_)
 refine PW.ret ?_
 change PW.Ends _ _ _ _ _ _
 refine PW.Ends.intro (.inr rfl) ?_
 simp only [go_sem, simprocAttr, sw0]
 obtain rfl := Option.some.inj H
 refine RetOK.data' 4 (by exact trivial) ?_
 rfl

theorem plan_web_firstPair_ok (N : Nat) (w_cells : Int) (w_near : List Bool) (is__g : FuncId) (is__c : List D) (is_ : Int → Int → Option Bool) (is__h : ∀ y0 y1 r0, is_ y0 y1 = some r0 → CallOK Try.prog is__g ((I y0) :: (I y1) :: is__c.map nz) (.d (Bo r0)) []) (r : Int × Int × Int) (H : plan_web_firstPair N w_cells w_near is_ = some r) : CallOK Try.prog 66 [(.ref ((I w_cells) :: w_near.map Bo)), .clo is__g is__c] (.d (.tup [(.agg [(I r.1), (I r.2.1)]), (I r.2.2)])) [] := by
 refine CallOK.of_PW Try.func66 rfl (by rw [Try.results66]) Try.ntmps66 Try.call66 ?_
 refine PW.least ?_
 try simp only [go_sem, simprocAttr]
 unfold plan_web_firstPair at H
 refine PW.seq ?_
 refine PW.regionK fun K hK => OW.run [0, 3, 4, 5] ?_
 simp only [go_sem, simprocAttr, sw0]
 refine OW.nil (hK _ ?_); clear hK K
 refine PW.joinS (τ := Unit) [4, 5] 3 (fun _ => []) (fun _ => [{ cells := [.d (.clo is__g is__c)], e := 116 }, { cells := [.d (I (0 : Int)), .d (I (0 : Int))], e := 42 }, { cells := [.d (I (0 : Int))], e := 28 }]) _ _ r (by exact Nat.zero_le _) H ?_ ?_
 intro K_ H N1 hN1
 refine PW.seq ?_
 refine PW.regionK fun K hK => ?_
 refine OW.step rfl ?_
 simp only [go_sem, simprocAttr, sw0]
 refine OW.bound rfl rfl rfl rfl rfl (by (simp only [go_sem, Nat.reduceLT])) ?_
 try simp only [go_sem, simprocAttr]
 change OW _ _ _ _ _ _
 refine OW.run [3, 4, 5, 9] ?_
 simp only [go_sem, simprocAttr, sw0]
 refine OW.nil (hK _ ?_); clear hK K
 refine PW.block ?_
 refine PW.kept [3, 4, 5, 9] ?_
 try simp only [go_sem, simprocAttr]
 refine PW.rangeB (fun j => if j = 1 then some .ret else none) rfl rfl Try.func109 rfl (by rw [Try.results109]) Try.ntmps109 Try.call109 ?_
 rintro lc2 lc2_1 lc2_2 lc2_3 lc2_4 lc2_5
 change PW _ _ _ _ _
 try simp only [go_sem, simprocAttr]
 refine PW.seq ?_
 refine PW.regionK fun K hK => OW.run [0, 1, 9, 10] ?_
 simp only [go_sem, simprocAttr, sw0]
 repeat (refine And.intro (by omega) ?_)
 refine OW.nil (hK _ ?_); clear hK K
 refine PW.block ?_
 refine PW.loopS (σ := Int) [0, 1, 9, 10] 3 (fun t10 => [(10, .d (I t10))]) (fun t10 => [{ cells := [.d (.clo is__g is__c)], e := 116 }, { cells := [.d (I (0 : Int)), .d (I (0 : Int))], e := 42 }, { cells := [.d (I (0 : Int))], e := 28 }]) (plan_web_firstPair.b1 N w_cells w_near is_ K_) r N (0 : Int) (by exact Nat.le_refl _) H (by (simp only [sw1, go_sem, simprocAttr]; done)) ?_
 rintro n t10 H N2 hN2
 unfold plan_web_firstPair.b1 at H
 try simp only [go_sem, simprocAttr]
 refine PW.seq ?_
 refine PW.regionK fun K hK => OW.run [0, 1, 9, 10, 11] ?_
 simp only [go_sem, simprocAttr, sw0]
 refine OW.nil (hK _ ?_); clear hK K
 refine PW.seq ?_
 refine PW.cond rfl (fun h3 => ?_) (fun h3 => ?_)
 replace H := br_t h3 H
 refine PW.skip ?_
 refine PW.joinS (τ := Unit) [0, 1, 9, 10] 3 (fun _ => []) (fun _ => [{ cells := [.d (.clo is__g is__c)], e := 116 }, { cells := [.d (I (0 : Int)), .d (I (0 : Int))], e := 42 }, { cells := [.d (I (0 : Int))], e := 28 }]) _ _ r (by exact Nat.le_refl _) H ?_ ?_
 intro K_1 H N4 hN4
 refine PW.block ?_
 refine PW.seq ?_
 refine PW.regionK fun K hK => OW.run [0, 1, 4, 9, 10] ?_
 simp only [go_sem, simprocAttr, sw0]
 refine OW.nil (hK _ ?_); clear hK K
 refine PW.seq ?_
 refine PW.regionK fun K hK => OW.run [0, 1, 4, 5, 9, 10] ?_
 simp only [go_sem, simprocAttr, sw0]
 refine OW.nil (hK _ ?_); clear hK K
 refine PW.block ?_
 refine PW.loopS (σ := Int) [0, 1, 4, 5, 9, 10] 3 (fun b => [(5, .d (I b))]) (fun b => [{ cells := [.d (.clo is__g is__c)], e := 116 }, { cells := [.d (I (0 : Int)), .d (I (0 : Int))], e := 42 }, { cells := [.d (I (0 : Int))], e := 28 }]) (plan_web_firstPair.b2 N w_cells w_near is_ t10 K_1) r N (w64 (t10 + (1 : Int))) (by exact Nat.le_refl _) H (by (simp only [sw1, go_sem, simprocAttr]; done)) ?_
 rintro n b H N5 hN5
 unfold plan_web_firstPair.b2 at H
 try simp only [go_sem, simprocAttr]
 refine PW.seq ?_
 refine PW.seq ?_
 refine PW.regionK fun K hK => OW.run [0, 1, 4, 5, 9, 10, 20] ?_
 simp only [go_sem, simprocAttr, sw0]
 repeat (refine And.intro (by omega) ?_)
 refine OW.nil (hK _ ?_); clear hK K
 refine PW.cond rfl (fun h6 => ?_) (fun h6 => ?_)
 replace H := br_t h6 H
 refine PW.skip ?_
 refine PW.seq ?_
 refine PW.block ?_
 refine PW.seq ?_
 obtain ⟨c7, H⟩ := chk_some H
 obtain ⟨c8, H⟩ := chk_some H
 obtain ⟨c9, H⟩ := chk_some H
 obtain ⟨c10, H⟩ := chk_some H
 refine PW.regionK fun K hK => OW.run [0, 1, 4, 5, 9, 10, 37] ?_
 (simp only [go_sem, simprocAttr, sw0, subsub1 Bo w_near (t10.toNat * 8) 8 b.toNat false (by omega) (by omega), row8 Bo w_near (t10.toNat * 8) b.toNat false (by omega) (by omega)])
 repeat (refine And.intro (by omega) ?_)
 refine OW.split (g := (w_near.getD (t10.toNat * 8 + b.toNat) false)) (.d (Bo false)) rfl ?_ (by (simp only [go_sem, Nat.reduceLT])) (fun h11 => ?_) (fun h11 => ?_)
 simp only [go_sem, simprocAttr]
 replace H := br_t h11 H
 (simp only [go_sem, simprocAttr, sw0, h11])
 change OW _ _ _ _ _ _
 refine OW.yield lc2 20 _ _ [] rfl rfl rfl rfl lc2_5 (by rw [lc2_1]; rfl) (by rw [lc2_1]; decide) (List.append_nil _).symm (by (simp only [go_sem, Nat.reduceLT])) ?_
 intro us
 rw [lc2_1, lc2_2]
 change PW _ _ _ _ _
 try simp only [go_sem, simprocAttr]
 refine PW.seq ?_
 refine PW.regionK fun K hK => OW.run [3, 4, 5, 6, 11] ?_
 simp only [go_sem, simprocAttr, sw0]
 refine OW.nil (hK _ ?_); clear hK K
 refine PW.regionK fun K hK => OW.run [3, 4, 5, 6, 7] ?_
 simp only [go_sem, simprocAttr, sw0]
 refine OW.nil (hK _ ?_); clear hK K
 refine ⟨rfl, rfl, ?_⟩
 rw [lc2_3]
 change PW _ _ _ _ _
 try simp only [go_sem, simprocAttr]
 refine PW.block ?_
 refine PW.seq ?_
 obtain ⟨x1, e1, H⟩ := bnd_some H
 refine PW.regionK fun K hK => OW.run [4, 5, 6, 7, 15] ?_
 simp only [go_sem, simprocAttr, sw0]
 refine OW.call' 4 rfl rfl rfl (by first | exact rfl | ((simp only [go_sem, List.toList_toArray, simprocAttr]); exact rfl)) ?_ (is__h _ _ _ e1) ?_ ?_ ?_ ?_
 · (((simp only [go_sem, sw1, simprocAttr]; try simp only [seg, go_sem, simprocAttr])); done)
 · (refine okAll_intro ?_; (simp only [go_sem, sw2, List.length_set, List.length_replicate, and_true, true_and, Nat.le_refl, simprocAttr]; done))
 exact .inr ⟨rfl, rfl⟩
 (simp only [go_sem, Nat.reduceLT])
 refine OW.run [4, 5, 6, 7, 15] ?_
 simp only [go_sem, simprocAttr, sw0]
 refine OW.nil (hK _ ?_); clear hK K
 refine PW.cond rfl (fun h12 => ?_) (fun h12 => ?_)
 replace H := br_t h12 H
 refine PW.seq ?_
 refine PW.regionK fun K hK => OW.run [4, 5] ?_
 simp only [go_sem, simprocAttr, sw0]
 refine OW.nil (hK _ ?_); clear hK K
 refine PW.ret ?_
 refine ⟨1, .inr ⟨by decide, .inl ⟨rfl, by rw [lc2_4]; rfl⟩⟩, rfl, rfl, ?_⟩
 try simp only [go_sem, simprocAttr]
 change OW _ _ _ _ _ _
 refine OW.run [0, 1, 4, 5, 9, 10, 37] ?_
 simp only [go_sem, simprocAttr, sw0]
 refine OW.nil (hK _ ?_); clear hK K
 refine PW.cond rfl (fun h13 => ?_) (fun h13 => ?_)
 replace H := br_t h13 H
 refine PW.ret ?_
 refine ⟨.inr rfl, 1, rfl, rfl, fun h => absurd h (by decide), fun _ => .inl ⟨rfl, ?_⟩⟩
 try simp only [go_sem, simprocAttr]
 change PW.Ends _ _ _ _ _ _
 refine PW.Ends.intro (.inr rfl) ?_
 simp only [go_sem, simprocAttr, sw0]
 obtain rfl := Option.some.inj H
 refine RetOK.data' 4 (by (refine okAll_intro ?_; (simp only [go_sem, sw2, List.length_set, List.length_replicate, and_true, true_and, Nat.le_refl, simprocAttr]; done))) ?_
 rfl
 replace H := br_f h13 H
 cases H
 replace H := br_f h12 H
 refine PW.skip ?_
 refine ⟨0, .inl ⟨rfl, rfl⟩, rfl, rfl, ?_⟩
 try simp only [go_sem, simprocAttr]
 change OW _ _ _ _ _ _
 refine OW.run [0, 1, 4, 5, 9, 10, 37] ?_
 simp only [go_sem, simprocAttr, sw0]
 refine OW.nil (hK _ ?_); clear hK K
 refine PW.cond rfl (fun h14 => ?_) (fun h14 => ?_)
 replace H := br_t h14 H
 cases H
 replace H := br_f h14 H
 refine PW.skip ?_
 refine PW.regionK fun K hK => OW.run [0, 1, 4, 5, 9, 10] ?_
 simp only [go_sem, simprocAttr, sw0]
 refine OW.nil (hK _ ?_); clear hK K
 refine hN5 [] (w64 (b + (1 : Int))) _ H (by exact trivial) ?_
 simp only [sw1, go_sem, simprocAttr]
 replace H := br_f h11 H
 (simp only [go_sem, simprocAttr, sw0, h11])
 change OW _ _ _ _ _ _
 refine OW.run [0, 1, 4, 5, 9, 10, 37] ?_
 simp only [go_sem, simprocAttr, sw0]
 refine OW.nil (hK _ ?_); clear hK K
 refine PW.cond rfl (fun h15 => ?_) (fun h15 => ?_)
 replace H := br_t h15 H
 cases H
 replace H := br_f h15 H
 refine PW.skip ?_
 refine PW.regionK fun K hK => OW.run [0, 1, 4, 5, 9, 10] ?_
 simp only [go_sem, simprocAttr, sw0]
 refine OW.nil (hK _ ?_); clear hK K
 refine hN5 [] (w64 (b + (1 : Int))) _ H (by exact trivial) ?_
 simp only [sw1, go_sem, simprocAttr]
 replace H := br_f h6 H
 refine PW.exit ?_
 refine hN4 [] () _ H (by exact trivial) ?_
 simp only [sw1, go_sem, simprocAttr]
 rintro _ H
 try simp only [go_sem, simprocAttr]
 refine PW.regionK fun K hK => OW.run [0, 1, 9, 10] ?_
 simp only [go_sem, simprocAttr, sw0]
 refine OW.nil (hK _ ?_); clear hK K
 refine hN2 [] (w64 (t10 + (1 : Int))) _ H (by exact trivial) ?_
 simp only [sw1, go_sem, simprocAttr]
 replace H := br_f h3 H
 refine PW.exit ?_
 refine ⟨.inl rfl, 0, rfl, rfl, fun _ => ?_, fun h => absurd rfl h⟩
 try simp only [go_sem, simprocAttr]
 refine hN1 [] () _ H (by exact trivial) ?_
 simp only [sw1, go_sem, simprocAttr]
 rintro _ H
 try simp only [go_sem, simprocAttr]
 refine PW.seq ?_
 refine PW.regionK fun K hK => OW.run [4, 5] ?_
 simp only [go_sem, simprocAttr, sw0]
 refine OW.nil (hK _ ?_); clear hK K
 refine PW.ret ?_
 change PW.Ends _ _ _ _ _ _
 refine PW.Ends.intro (.inr rfl) ?_
 simp only [go_sem, simprocAttr, sw0]
 obtain rfl := Option.some.inj H
 refine RetOK.data' 4 (by (refine okAll_intro ?_; (simp only [go_sem, sw2, List.length_set, List.length_replicate, and_true, true_and, Nat.le_refl, simprocAttr]; done))) ?_
 rfl
end Go.Proofs.Ytklejiafioalnaa
