import Derived.Test.YtbndgoeahoadlaaDoorDsBase
set_option linter.all false
namespace Go.Proofs.YtbndgoeahoadlaaDoor
open Go.PW Go.Sh

set_option maxRecDepth 20000
set_option maxHeartbeats 8000000
theorem base_Within_ok (N : Nat) (n : Int) (lo : Int) (hi : Int) (r : Bool) (H : base_Within N n lo hi = some r) : CallOK Tryd.prog 13 [(I n), (I lo), (I hi)] (.d (Bo r)) [] := by
 refine CallOK.of_PW Tryd.func13 rfl (by rw [Tryd.results13]) Tryd.ntmps13 Tryd.call13 ?_
 change PW _ _ _ _ _
 try simp only [go_sem, simprocAttr]
 unfold base_Within at H
 refine PW.seq ?_
 refine PW.regionK fun K hK => OW.run [0, 1, 2] ?_
 simp only [go_sem, simprocAttr, sw0]
 refine OW.nil (hK _ ?_)
 refine PW.seq ?_
 refine PW.regionK fun K hK => OW.run [6] ?_
 simp only [go_sem, simprocAttr, sw0]
 refine OW.nil (hK _ ?_)
 refine PW.ret ?_
 change PW.Ends _ _ _ _ _ _
 refine PW.Ends.intro (.inr rfl) ?_
 simp only [go_sem, simprocAttr, sw0]
 obtain rfl := Option.some.inj H
 refine RetOK.data' 4 (by exact trivial) ?_
 rfl

theorem ref07_CheckPaging_ok (N : Nat) (Z2 : Int) (Z3 : Int) (Z4 : Int) (Z5 : Int) (r : Int) (H : ref07_CheckPaging N Z2 Z3 Z4 Z5 = some r) : CallOK Tryd.prog 5 [(.agg [(I Z2), (I Z3), (I Z4), (I Z5)])] (.d (I r)) [] := by
 refine CallOK.of_PW Tryd.func5 rfl (by rw [Tryd.results5]) Tryd.ntmps5 Tryd.call5 ?_
 change PW _ _ _ _ _
 try simp only [go_sem, simprocAttr]
 unfold ref07_CheckPaging at H
 refine PW.seq ?_
 refine PW.regionK fun K hK => OW.run [1] ?_
 simp only [go_sem, simprocAttr, sw0]
 refine OW.nil (hK _ ?_)
 refine PW.seq ?_
 refine PW.seq ?_
 obtain ⟨x1, e1, H⟩ := bnd_some H
 refine PW.regionK fun K hK => OW.run [1, 6] ?_
 simp only [go_sem, simprocAttr, sw0]
 repeat (refine And.intro (by omega) ?_)
 refine OW.call' 4 rfl rfl rfl (by first | exact rfl | ((simp only [go_sem, List.toList_toArray, simprocAttr]); exact rfl)) ?_ (base_Within_ok N _ _ _ _ e1) ?_ ?_ ?_ ?_
 rfl
 exact okD_all rfl
 exact .inl rfl
 (simp only [go_sem, Nat.reduceLT])
 refine OW.run [1, 6] ?_
 simp only [go_sem, simprocAttr, sw0]
 refine OW.nil (hK _ ?_)
 refine PW.cond rfl (fun h1 => ?_) (fun h1 => ?_)
 replace H := br_t h1 H
 refine PW.seq ?_
 refine PW.regionK fun K hK => OW.run [2] ?_
 simp only [go_sem, simprocAttr, sw0]
 refine OW.nil (hK _ ?_)
 refine PW.ret ?_
 change PW.Ends _ _ _ _ _ _
 refine PW.Ends.intro (.inr rfl) ?_
 simp only [go_sem, simprocAttr, sw0]
 obtain rfl := Option.some.inj H
 refine RetOK.data' 4 (by exact trivial) ?_
 rfl
 replace H := br_f h1 H
 refine PW.skip ?_
 refine PW.seq ?_
 refine PW.seq ?_
 obtain ⟨c2, H⟩ := chk_some H
 refine PW.regionK fun K hK => OW.run [1, 10] ?_
 simp only [go_sem, simprocAttr, sw0]
 repeat (refine And.intro (by omega) ?_)
 refine OW.nil (hK _ ?_)
 refine PW.cond rfl (fun h3 => ?_) (fun h3 => ?_)
 replace H := br_t h3 H
 refine PW.seq ?_
 refine PW.regionK fun K hK => OW.run [2] ?_
 simp only [go_sem, simprocAttr, sw0]
 refine OW.nil (hK _ ?_)
 refine PW.ret ?_
 change PW.Ends _ _ _ _ _ _
 refine PW.Ends.intro (.inr rfl) ?_
 simp only [go_sem, simprocAttr, sw0]
 obtain rfl := Option.some.inj H
 refine RetOK.data' 4 (by exact trivial) ?_
 rfl
 replace H := br_f h3 H
 refine PW.skip ?_
 refine PW.seq ?_
 refine PW.seq ?_
 obtain ⟨x2, e2, H⟩ := bnd_some H
 refine PW.regionK fun K hK => OW.run [1, 16] ?_
 simp only [go_sem, simprocAttr, sw0]
 repeat (refine And.intro (by omega) ?_)
 refine OW.call' 4 rfl rfl rfl (by first | exact rfl | ((simp only [go_sem, List.toList_toArray, simprocAttr]); exact rfl)) ?_ (base_Within_ok N _ _ _ _ e2) ?_ ?_ ?_ ?_
 rfl
 exact okD_all rfl
 exact .inl rfl
 (simp only [go_sem, Nat.reduceLT])
 refine OW.run [1, 16] ?_
 simp only [go_sem, simprocAttr, sw0]
 refine OW.nil (hK _ ?_)
 refine PW.cond rfl (fun h4 => ?_) (fun h4 => ?_)
 replace H := br_t h4 H
 refine PW.seq ?_
 refine PW.regionK fun K hK => OW.run [2] ?_
 simp only [go_sem, simprocAttr, sw0]
 refine OW.nil (hK _ ?_)
 refine PW.ret ?_
 change PW.Ends _ _ _ _ _ _
 refine PW.Ends.intro (.inr rfl) ?_
 simp only [go_sem, simprocAttr, sw0]
 obtain rfl := Option.some.inj H
 refine RetOK.data' 4 (by exact trivial) ?_
 rfl
 replace H := br_f h4 H
 refine PW.skip ?_
 refine PW.seq ?_
 refine PW.seq ?_
 obtain ⟨c5, H⟩ := chk_some H
 refine PW.regionK fun K hK => OW.run [1, 22] ?_
 simp only [go_sem, simprocAttr, sw0]
 repeat (refine And.intro (by omega) ?_)
 refine OW.nil (hK _ ?_)
 refine PW.cond rfl (fun h6 => ?_) (fun h6 => ?_)
 replace H := br_t h6 H
 refine PW.seq ?_
 refine PW.regionK fun K hK => OW.run [2] ?_
 simp only [go_sem, simprocAttr, sw0]
 refine OW.nil (hK _ ?_)
 refine PW.ret ?_
 change PW.Ends _ _ _ _ _ _
 refine PW.Ends.intro (.inr rfl) ?_
 simp only [go_sem, simprocAttr, sw0]
 obtain rfl := Option.some.inj H
 refine RetOK.data' 4 (by exact trivial) ?_
 rfl
 replace H := br_f h6 H
 refine PW.skip ?_
 refine PW.seq ?_
 refine PW.seq ?_
 refine PW.regionK fun K hK => OW.run [1, 35] ?_
 simp only [go_sem, simprocAttr, sw0]
 repeat (refine And.intro (by omega) ?_)
 refine OW.nil (hK _ ?_)
 refine PW.cond rfl (fun h7 => ?_) (fun h7 => ?_)
 replace H := br_t h7 H
 refine PW.seq ?_
 refine PW.regionK fun K hK => OW.run [2] ?_
 simp only [go_sem, simprocAttr, sw0]
 refine OW.nil (hK _ ?_)
 refine PW.ret ?_
 change PW.Ends _ _ _ _ _ _
 refine PW.Ends.intro (.inr rfl) ?_
 simp only [go_sem, simprocAttr, sw0]
 obtain rfl := Option.some.inj H
 refine RetOK.data' 4 (by exact trivial) ?_
 rfl
 replace H := br_f h7 H
 refine PW.skip ?_
 refine PW.seq ?_
 refine PW.seq ?_
 obtain ⟨x3, e3, H⟩ := bnd_some H
 refine PW.regionK fun K hK => OW.run [42] ?_
 simp only [go_sem, simprocAttr, sw0]
 repeat (refine And.intro (by omega) ?_)
 refine OW.call' 4 rfl rfl rfl (by first | exact rfl | ((simp only [go_sem, List.toList_toArray, simprocAttr]); exact rfl)) ?_ (base_Within_ok N _ _ _ _ e3) ?_ ?_ ?_ ?_
 rfl
 exact okD_all rfl
 exact .inl rfl
 (simp only [go_sem, Nat.reduceLT])
 refine OW.run [42] ?_
 simp only [go_sem, simprocAttr, sw0]
 refine OW.nil (hK _ ?_)
 refine PW.cond rfl (fun h8 => ?_) (fun h8 => ?_)
 replace H := br_t h8 H
 refine PW.seq ?_
 refine PW.regionK fun K hK => OW.run [2] ?_
 simp only [go_sem, simprocAttr, sw0]
 refine OW.nil (hK _ ?_)
 refine PW.ret ?_
 change PW.Ends _ _ _ _ _ _
 refine PW.Ends.intro (.inr rfl) ?_
 simp only [go_sem, simprocAttr, sw0]
 obtain rfl := Option.some.inj H
 refine RetOK.data' 4 (by exact trivial) ?_
 rfl
 replace H := br_f h8 H
 refine PW.skip ?_
 refine PW.seq ?_
 refine PW.regionK fun K hK => OW.run [2] ?_
 simp only [go_sem, simprocAttr, sw0]
 refine OW.nil (hK _ ?_)
 refine PW.ret ?_
 change PW.Ends _ _ _ _ _ _
 refine PW.Ends.intro (.inr rfl) ?_
 simp only [go_sem, simprocAttr, sw0]
 obtain rfl := Option.some.inj H
 refine RetOK.data' 4 (by exact trivial) ?_
 rfl

theorem ref07_NumberErr_ok (N : Nat) (phone : Int) (r : Int) (H : ref07_NumberErr N phone = some r) : CallOK Tryd.prog 6 [(I phone)] (.d (I r)) [] := by
 refine CallOK.of_PW Tryd.func6 rfl (by rw [Tryd.results6]) Tryd.ntmps6 Tryd.call6 ?_
 change PW _ _ _ _ _
 try simp only [go_sem, simprocAttr]
 unfold ref07_NumberErr at H
 refine PW.seq ?_
 refine PW.regionK fun K hK => OW.run [0] ?_
 simp only [go_sem, simprocAttr, sw0]
 refine OW.nil (hK _ ?_)
 refine PW.seq ?_
 refine PW.seq ?_
 obtain ⟨x1, e1, H⟩ := bnd_some H
 refine PW.regionK fun K hK => OW.run [5] ?_
 simp only [go_sem, simprocAttr, sw0]
 refine OW.call' 4 rfl rfl rfl (by first | exact rfl | ((simp only [go_sem, List.toList_toArray, simprocAttr]); exact rfl)) ?_ (base_Within_ok N _ _ _ _ e1) ?_ ?_ ?_ ?_
 rfl
 exact okD_all rfl
 exact .inl rfl
 (simp only [go_sem, Nat.reduceLT])
 refine OW.run [5] ?_
 simp only [go_sem, simprocAttr, sw0]
 refine OW.nil (hK _ ?_)
 refine PW.cond rfl (fun h1 => ?_) (fun h1 => ?_)
 replace H := br_t h1 H
 refine PW.seq ?_
 refine PW.regionK fun K hK => OW.run [2] ?_
 simp only [go_sem, simprocAttr, sw0]
 refine OW.nil (hK _ ?_)
 refine PW.ret ?_
 change PW.Ends _ _ _ _ _ _
 refine PW.Ends.intro (.inr rfl) ?_
 simp only [go_sem, simprocAttr, sw0]
 obtain rfl := Option.some.inj H
 refine RetOK.data' 4 (by exact trivial) ?_
 rfl
 replace H := br_f h1 H
 refine PW.skip ?_
 refine PW.seq ?_
 refine PW.regionK fun K hK => OW.run [2] ?_
 simp only [go_sem, simprocAttr, sw0]
 refine OW.nil (hK _ ?_)
 refine PW.ret ?_
 change PW.Ends _ _ _ _ _ _
 refine PW.Ends.intro (.inr rfl) ?_
 simp only [go_sem, simprocAttr, sw0]
 obtain rfl := Option.some.inj H
 refine RetOK.data' 4 (by exact trivial) ?_
 rfl

theorem ref07_PowersErr_ok (N : Nat) (Zj : Int) (Zi : Int) (Zm : Int) (r : Int) (H : ref07_PowersErr N Zj Zi Zm = some r) : CallOK Tryd.prog 7 [(.agg [(I Zj), (I Zi), (I Zm)])] (.d (I r)) [] := by
 refine CallOK.of_PW Tryd.func7 rfl (by rw [Tryd.results7]) Tryd.ntmps7 Tryd.call7 ?_
 change PW _ _ _ _ _
 try simp only [go_sem, simprocAttr]
 unfold ref07_PowersErr at H
 refine PW.seq ?_
 refine PW.regionK fun K hK => OW.run [1] ?_
 simp only [go_sem, simprocAttr, sw0]
 refine OW.nil (hK _ ?_)
 refine PW.seq ?_
 refine PW.seq ?_
 obtain ⟨x1, e1, H⟩ := bnd_some H
 obtain ⟨x2, e2, H⟩ := bnd_some H
 obtain ⟨x3, e3, H⟩ := bnd_some H
 refine PW.regionK fun K hK => OW.run [18] ?_
 simp only [go_sem, simprocAttr, sw0]
 repeat (refine And.intro (by omega) ?_)
 refine OW.call' 4 rfl rfl rfl (by first | exact rfl | ((simp only [go_sem, List.toList_toArray, simprocAttr]); exact rfl)) ?_ (base_Within_ok N _ _ _ _ e1) ?_ ?_ ?_ ?_
 rfl
 exact okD_all rfl
 exact .inl rfl
 (simp only [go_sem, Nat.reduceLT])
 refine OW.run [18] ?_
 simp only [go_sem, simprocAttr, sw0]
 repeat (refine And.intro (by omega) ?_)
 refine OW.callG' 4 rfl rfl ?_ (fun hg => by first | rfl | (simp only [go_sem, ↓reduceIte]; rfl)) (fun hg => by ((simp only [go_sem, List.toList_toArray, simprocAttr]); exact rfl)) (fun hg => ?_) (fun hg => (base_Within_ok N _ _ _ _ (grd_t hg e2))) ?_ ?_ ?_ ?_
 simp only [go_sem, simprocAttr]
 rfl
 exact okD_all rfl
 exact .inl rfl
 (simp only [go_sem, Nat.reduceLT])
 refine OW.run [18] ?_
 simp only [go_sem, simprocAttr, sw0]
 repeat (refine And.intro (by omega) ?_)
 refine OW.callG' 4 rfl rfl ?_ (fun hg => by first | rfl | (simp only [go_sem, ↓reduceIte]; rfl)) (fun hg => by ((simp only [go_sem, List.toList_toArray, simprocAttr]); exact rfl)) (fun hg => ?_) (fun hg => (base_Within_ok N _ _ _ _ (grd_t hg e3))) ?_ ?_ ?_ ?_
 simp only [go_sem, simprocAttr]
 rfl
 exact okD_all rfl
 exact .inl rfl
 (simp only [go_sem, Nat.reduceLT])
 refine OW.run [18] ?_
 simp only [go_sem, simprocAttr, sw0]
 refine OW.nil (hK _ ?_)
 refine PW.cond rfl (fun h1 => ?_) (fun h1 => ?_)
 replace H := br_t h1 H
 refine PW.seq ?_
 refine PW.regionK fun K hK => OW.run [2] ?_
 simp only [go_sem, simprocAttr, sw0]
 refine OW.nil (hK _ ?_)
 refine PW.ret ?_
 change PW.Ends _ _ _ _ _ _
 refine PW.Ends.intro (.inr rfl) ?_
 simp only [go_sem, simprocAttr, sw0]
 obtain rfl := Option.some.inj H
 refine RetOK.data' 4 (by exact trivial) ?_
 rfl
 replace H := br_f h1 H
 refine PW.skip ?_
 refine PW.seq ?_
 refine PW.regionK fun K hK => OW.run [2] ?_
 simp only [go_sem, simprocAttr, sw0]
 refine OW.nil (hK _ ?_)
 refine PW.ret ?_
 change PW.Ends _ _ _ _ _ _
 refine PW.Ends.intro (.inr rfl) ?_
 simp only [go_sem, simprocAttr, sw0]
 obtain rfl := Option.some.inj H
 refine RetOK.data' 4 (by exact trivial) ?_
 rfl

theorem access_within_ok (N : Nat) (n : Int) (lo : Int) (hi : Int) (r : Bool) (H : access_within N n lo hi = some r) : CallOK Tryd.prog 29 [(I n), (I lo), (I hi)] (.d (Bo r)) [] := by
 refine CallOK.of_PW Tryd.func29 rfl (by rw [Tryd.results29]) Tryd.ntmps29 Tryd.call29 ?_
 change PW _ _ _ _ _
 try simp only [go_sem, simprocAttr]
 unfold access_within at H
 refine PW.seq ?_
 refine PW.regionK fun K hK => OW.run [0, 1, 2] ?_
 simp only [go_sem, simprocAttr, sw0]
 refine OW.nil (hK _ ?_)
 refine PW.seq ?_
 refine PW.regionK fun K hK => OW.run [6] ?_
 simp only [go_sem, simprocAttr, sw0]
 refine OW.nil (hK _ ?_)
 refine PW.ret ?_
 change PW.Ends _ _ _ _ _ _
 refine PW.Ends.intro (.inr rfl) ?_
 simp only [go_sem, simprocAttr, sw0]
 obtain rfl := Option.some.inj H
 refine RetOK.data' 4 (by exact trivial) ?_
 rfl

theorem access_unless_ok (N : Nat) (is_ : Bool) (e : Int) (r : Int) (H : access_unless N is_ e = some r) : CallOK Tryd.prog 27 [(Bo is_), (I e)] (.d (I r)) [] := by
 refine CallOK.of_PW Tryd.func27 rfl (by rw [Tryd.results27]) Tryd.ntmps27 Tryd.call27 ?_
 change PW _ _ _ _ _
 try simp only [go_sem, simprocAttr]
 unfold access_unless at H
 refine PW.seq ?_
 refine PW.regionK fun K hK => OW.run [0, 1] ?_
 simp only [go_sem, simprocAttr, sw0]
 refine OW.nil (hK _ ?_)
 refine PW.seq ?_
 refine PW.seq ?_
 refine PW.regionK fun K hK => OW.run [1, 5] ?_
 simp only [go_sem, simprocAttr, sw0]
 refine OW.nil (hK _ ?_)
 refine PW.cond rfl (fun h1 => ?_) (fun h1 => ?_)
 replace H := br_t h1 H
 refine PW.seq ?_
 refine PW.regionK fun K hK => OW.run [4] ?_
 simp only [go_sem, simprocAttr, sw0]
 refine OW.nil (hK _ ?_)
 refine PW.ret ?_
 change PW.Ends _ _ _ _ _ _
 refine PW.Ends.intro (.inr rfl) ?_
 simp only [go_sem, simprocAttr, sw0]
 obtain rfl := Option.some.inj H
 refine RetOK.data' 4 (by exact trivial) ?_
 rfl
 replace H := br_f h1 H
 refine PW.skip ?_
 refine PW.seq ?_
 refine PW.regionK fun K hK => OW.run [4] ?_
 simp only [go_sem, simprocAttr, sw0]
 refine OW.nil (hK _ ?_)
 refine PW.ret ?_
 change PW.Ends _ _ _ _ _ _
 refine PW.Ends.intro (.inr rfl) ?_
 simp only [go_sem, simprocAttr, sw0]
 obtain rfl := Option.some.inj H
 refine RetOK.data' 4 (by exact trivial) ?_
 rfl

theorem access_first_ok (N : Nat) (l : List Int) (r : Int) (H : access_first N l = some r) : CallOK Tryd.prog 23 [(L l)] (.d (I r)) [] := by
 refine CallOK.of_PW Tryd.func23 rfl (by rw [Tryd.results23]) Tryd.ntmps23 Tryd.call23 ?_
 change PW _ _ _ _ _
 try simp only [go_sem, simprocAttr]
 unfold access_first at H
 refine PW.seq ?_
 refine PW.regionK fun K hK => OW.run [0] ?_
 simp only [go_sem, simprocAttr, sw0]
 refine OW.nil (hK _ ?_)
 refine PW.joinS (τ := Unit) [] 0 (fun _ => []) (fun _ => []) _ _ r (by exact Nat.le_refl _) H ?_ ?_
 intro K_ H N1 hN1
 refine PW.seq ?_
 refine PW.regionK fun K hK => OW.run [5, 6, 7] ?_
 simp only [go_sem, simprocAttr, sw0]
 refine OW.nil (hK _ ?_)
 refine PW.block ?_
 refine PW.loopS (σ := Int) [5, 6, 7] 0 (fun t7 => [(7, .d (I t7))]) (fun t7 => []) (access_first.b1 N l K_) r N (0 : Int) (by exact Nat.le_refl _) H (by (simp only [sw1, go_sem, simprocAttr]; done)) ?_
 rintro n t7 H N2 hN2
 unfold access_first.b1 at H
 try simp only [go_sem, simprocAttr]
 refine PW.seq ?_
 refine PW.regionK fun K hK => OW.run [5, 6, 7, 8] ?_
 simp only [go_sem, simprocAttr, sw0]
 refine OW.nil (hK _ ?_)
 refine PW.seq ?_
 refine PW.cond rfl (fun h3 => ?_) (fun h3 => ?_)
 replace H := br_t h3 H
 refine PW.skip ?_
 refine PW.seq ?_
 refine PW.block ?_
 refine PW.seq ?_
 obtain ⟨c4, H⟩ := chk_some H
 refine PW.regionK fun K hK => OW.run [4, 5, 6, 7] ?_
 simp only [go_sem, simprocAttr, sw0]
 repeat (refine And.intro (by omega) ?_)
 refine OW.nil (hK _ ?_)
 refine PW.seq ?_
 refine PW.regionK fun K hK => OW.run [4, 5, 6, 7, 12] ?_
 simp only [go_sem, simprocAttr, sw0]
 refine OW.nil (hK _ ?_)
 refine PW.cond rfl (fun h5 => ?_) (fun h5 => ?_)
 replace H := br_t h5 H
 refine PW.seq ?_
 refine PW.regionK fun K hK => OW.run [2] ?_
 simp only [go_sem, simprocAttr, sw0]
 refine OW.nil (hK _ ?_)
 refine PW.ret ?_
 change PW.Ends _ _ _ _ _ _
 refine PW.Ends.intro (.inr rfl) ?_
 simp only [go_sem, simprocAttr, sw0]
 obtain rfl := Option.some.inj H
 refine RetOK.data' 4 (by exact trivial) ?_
 rfl
 replace H := br_f h5 H
 refine PW.skip ?_
 refine PW.regionK fun K hK => OW.run [5, 6, 7] ?_
 simp only [go_sem, simprocAttr, sw0]
 refine OW.nil (hK _ ?_)
 refine hN2 [] (w64 (t7 + (1 : Int))) _ H (by exact trivial) ?_
 simp only [sw1, go_sem, simprocAttr]
 replace H := br_f h3 H
 refine PW.exit ?_
 refine hN1 [] () _ H (by exact trivial) ?_
 simp only [sw1, go_sem, simprocAttr]
 rintro _ H
 try simp only [go_sem, simprocAttr]
 refine PW.seq ?_
 refine PW.regionK fun K hK => OW.run [2] ?_
 simp only [go_sem, simprocAttr, sw0]
 refine OW.nil (hK _ ?_)
 refine PW.ret ?_
 change PW.Ends _ _ _ _ _ _
 refine PW.Ends.intro (.inr rfl) ?_
 simp only [go_sem, simprocAttr, sw0]
 obtain rfl := Option.some.inj H
 refine RetOK.data' 4 (by exact trivial) ?_
 rfl

theorem access_places_ok (N : Nat) (occasions : Int) (r : List Int) (H : access_places N occasions = some r) : CallOK Tryd.prog 42 [(I occasions)] (.d (LN r)) [] := by
 refine CallOK.of_PW Tryd.func42 rfl (by rw [Tryd.results42]) Tryd.ntmps42 Tryd.call42 ?_
 change PW _ _ _ _ _
 try simp only [go_sem, simprocAttr]
 unfold access_places at H
 refine PW.seq ?_
 refine PW.regionK fun K hK => OW.run [0] ?_
 simp only [go_sem, simprocAttr, sw0]
 refine OW.nil (hK _ ?_)
 refine PW.seq ?_
 refine PW.seq ?_
 refine PW.regionK fun K hK => OW.run [3] ?_
 simp only [go_sem, simprocAttr, sw0]
 refine OW.nil (hK _ ?_)
 refine PW.block ?_
 refine PW.seq ?_
 refine PW.regionK fun K hK => OW.run [3, 4] ?_
 simp only [go_sem, simprocAttr, sw0]
 refine OW.nil (hK _ ?_)
 refine PW.cond rfl (fun h1 => ?_) (fun h1 => ?_)
 replace H := br_t h1 H
 refine PW.seq ?_
 refine PW.regionK fun K hK => OW.run [2] ?_
 simp only [go_sem, simprocAttr, sw0]
 refine OW.nil (hK _ ?_)
 refine PW.ret ?_
 obtain ⟨c2, H⟩ := chk_some H
 change PW.Ends _ _ _ _ _ _
 refine PW.Ends.intro (.inr rfl) ?_
 simp only [go_sem, simprocAttr, sw0]
 obtain rfl := Option.some.inj H
 rw [LN_of c2]
 refine RetOK.data' 4 (by (simp only [go_sem, sw2, List.length_set, List.length_replicate, and_true, true_and, Nat.le_refl, simprocAttr]; done)) ?_
 rfl
 replace H := br_f h1 H
 refine PW.seq ?_
 refine PW.regionK fun K hK => OW.run [3, 7] ?_
 simp only [go_sem, simprocAttr, sw0]
 refine OW.nil (hK _ ?_)
 refine PW.cond rfl (fun h3 => ?_) (fun h3 => ?_)
 replace H := br_t h3 H
 refine PW.seq ?_
 refine PW.regionK fun K hK => OW.run [2] ?_
 simp only [go_sem, simprocAttr, sw0]
 refine OW.nil (hK _ ?_)
 refine PW.ret ?_
 obtain ⟨c4, H⟩ := chk_some H
 change PW.Ends _ _ _ _ _ _
 refine PW.Ends.intro (.inr rfl) ?_
 simp only [go_sem, simprocAttr, sw0]
 obtain rfl := Option.some.inj H
 rw [LN_of c4]
 refine RetOK.data' 4 (by (simp only [go_sem, sw2, List.length_set, List.length_replicate, and_true, true_and, Nat.le_refl, simprocAttr]; simp only [seg, go_sem, sw2, List.length_set, List.length_replicate, and_true, true_and, Nat.le_refl, simprocAttr]; done)) ?_
 rfl
 replace H := br_f h3 H
 refine PW.seq ?_
 refine PW.regionK fun K hK => OW.run [10] ?_
 simp only [go_sem, simprocAttr, sw0]
 refine OW.nil (hK _ ?_)
 refine PW.cond rfl (fun h5 => ?_) (fun h5 => ?_)
 replace H := br_t h5 H
 refine PW.seq ?_
 refine PW.regionK fun K hK => OW.run [2] ?_
 simp only [go_sem, simprocAttr, sw0]
 refine OW.nil (hK _ ?_)
 refine PW.ret ?_
 obtain ⟨c6, H⟩ := chk_some H
 change PW.Ends _ _ _ _ _ _
 refine PW.Ends.intro (.inr rfl) ?_
 simp only [go_sem, simprocAttr, sw0]
 obtain rfl := Option.some.inj H
 rw [LN_of c6]
 refine RetOK.data' 4 (by (simp only [go_sem, sw2, List.length_set, List.length_replicate, and_true, true_and, Nat.le_refl, simprocAttr]; simp only [seg, go_sem, sw2, List.length_set, List.length_replicate, and_true, true_and, Nat.le_refl, simprocAttr]; done)) ?_
 rfl
 replace H := br_f h5 H
 refine PW.skip ?_
 refine PW.seq ?_
 refine PW.regionK fun K hK => OW.run [2] ?_
 simp only [go_sem, simprocAttr, sw0]
 refine OW.nil (hK _ ?_)
 refine PW.ret ?_
 change PW.Ends _ _ _ _ _ _
 refine PW.Ends.intro (.inr rfl) ?_
 simp only [go_sem, simprocAttr, sw0]
 obtain rfl := Option.some.inj H
 exact RetOK.keepD

theorem access_CheckPaging_ok (N : Nat) (Z2 : Int) (Z3 : Int) (Z4 : Int) (Z5 : Int) (r : Int) (H : access_CheckPaging N Z2 Z3 Z4 Z5 = some r) : CallOK Tryd.prog 41 [(.agg [(I Z2), (I Z3), (I Z4), (I Z5)])] (.d (I r)) [] := by
 refine CallOK.of_PW Tryd.func41 rfl (by rw [Tryd.results41]) Tryd.ntmps41 Tryd.call41 ?_
 change PW _ _ _ _ _
 try simp only [go_sem, simprocAttr]
 unfold access_CheckPaging at H
 refine PW.seq ?_
 refine PW.regionK fun K hK => OW.run [1] ?_
 simp only [go_sem, simprocAttr, sw0]
 refine OW.nil (hK _ ?_)
 refine PW.seq ?_
 refine PW.seq ?_
 obtain ⟨x1, e1, H⟩ := bnd_some H
 obtain ⟨x2, e2, H⟩ := bnd_some H
 obtain ⟨x3, e3, H⟩ := bnd_some H
 obtain ⟨x4, e4, H⟩ := bnd_some H
 obtain ⟨x5, e5, H⟩ := bnd_some H
 obtain ⟨x6, e6, H⟩ := bnd_some H
 refine PW.drawK 16 mixed (by kernel_rfl) fun K hK => ?_
 change FW _ _ _ _ _
 refine FW.run ?_
 simp only [go_sem, simprocAttr, sw0]
 repeat (refine And.intro (by omega) ?_)
 refine FW.call' 4 rfl rfl rfl (by first | exact rfl | ((simp only [go_sem, List.toList_toArray, simprocAttr]); exact rfl)) ?_ (access_within_ok N _ _ _ _ e1) ?_ ?_ ?_ ?_
 rfl
 exact okD_all rfl
 exact .inl rfl
 (simp only [go_sem, Nat.reduceLT])
 refine FW.run ?_
 simp only [go_sem, simprocAttr, sw0]
 refine FW.call' 4 rfl rfl rfl (by first | exact rfl | ((simp only [go_sem, List.toList_toArray, simprocAttr]); exact rfl)) ?_ (access_unless_ok N _ _ _ e2) ?_ ?_ ?_ ?_
 rfl
 exact okD_all rfl
 exact .inl rfl
 (simp only [go_sem, Nat.reduceLT])
 refine FW.run ?_
 simp only [go_sem, simprocAttr, sw0]
 repeat (refine And.intro (by omega) ?_)
 refine FW.call' 4 rfl rfl rfl (by first | exact rfl | ((simp only [go_sem, List.toList_toArray, simprocAttr]); exact rfl)) ?_ (access_unless_ok N _ _ _ e3) ?_ ?_ ?_ ?_
 rfl
 exact okD_all rfl
 exact .inl rfl
 (simp only [go_sem, Nat.reduceLT])
 refine FW.run ?_
 simp only [go_sem, simprocAttr, sw0]
 repeat (refine And.intro (by omega) ?_)
 refine FW.nil ?_
 change OW _ _ _ _ _ _
 refine OW.run [1, 3] ?_
 simp only [go_sem, simprocAttr, sw0]
 refine OW.call' 4 rfl rfl rfl (by first | exact rfl | ((simp only [go_sem, List.toList_toArray, simprocAttr]); exact rfl)) ?_ (access_within_ok N _ _ _ _ e4) ?_ ?_ ?_ ?_
 rfl
 exact okD_all rfl
 exact .inl rfl
 (simp only [go_sem, Nat.reduceLT])
 refine OW.run [1, 3] ?_
 simp only [go_sem, simprocAttr, sw0]
 refine OW.call' 4 rfl rfl rfl (by first | exact rfl | ((simp only [go_sem, List.toList_toArray, simprocAttr]); exact rfl)) ?_ (access_unless_ok N _ _ _ e5) ?_ ?_ ?_ ?_
 rfl
 exact okD_all rfl
 exact .inl rfl
 (simp only [go_sem, Nat.reduceLT])
 refine OW.run [1, 3] ?_
 simp only [go_sem, simprocAttr, sw0]
 refine OW.call' 4 rfl rfl rfl (by first | exact rfl | ((simp only [go_sem, List.toList_toArray, simprocAttr]); exact rfl)) ?_ (access_first_ok N _ _ e6) ?_ ?_ ?_ ?_
 rfl
 · (refine okAll_intro ?_; (simp only [go_sem, sw2, List.length_set, List.length_replicate, and_true, true_and, Nat.le_refl, simprocAttr]; simp only [seg, go_sem, sw2, List.length_set, List.length_replicate, and_true, true_and, Nat.le_refl, simprocAttr]; done))
 exact .inr ⟨rfl, rfl⟩
 (simp only [go_sem, Nat.reduceLT])
 refine OW.run [1, 3] ?_
 simp only [go_sem, simprocAttr, sw0]
 refine OW.nil (hK _ ?_)
 refine PW.seq ?_
 refine PW.regionK fun K hK => OW.run [1, 3, 25] ?_
 simp only [go_sem, simprocAttr, sw0]
 refine OW.nil (hK _ ?_)
 refine PW.cond rfl (fun h1 => ?_) (fun h1 => ?_)
 replace H := br_t h1 H
 refine PW.seq ?_
 refine PW.regionK fun K hK => OW.run [2] ?_
 simp only [go_sem, simprocAttr, sw0]
 refine OW.nil (hK _ ?_)
 refine PW.ret ?_
 change PW.Ends _ _ _ _ _ _
 refine PW.Ends.intro (.inr rfl) ?_
 simp only [go_sem, simprocAttr, sw0]
 obtain rfl := Option.some.inj H
 refine RetOK.data' 4 (by exact trivial) ?_
 rfl
 replace H := br_f h1 H
 refine PW.skip ?_
 refine PW.seq ?_
 obtain ⟨c2, H⟩ := chk_some H
 obtain ⟨x7, e7, H⟩ := bnd_some H
 obtain ⟨x8, e8, H⟩ := bnd_some H
 obtain ⟨x9, e9, H⟩ := bnd_some H
 obtain ⟨x10, e10, H⟩ := bnd_some H
 obtain ⟨x11, e11, H⟩ := bnd_some H
 obtain ⟨x12, e12, H⟩ := bnd_some H
 refine PW.drawK 17 mixed (by kernel_rfl) fun K hK => ?_
 change FW _ _ _ _ _
 refine FW.run ?_
 simp only [go_sem, simprocAttr, sw0]
 repeat (refine And.intro (by omega) ?_)
 refine FW.call' 4 rfl rfl rfl (by first | exact rfl | ((simp only [go_sem, List.toList_toArray, simprocAttr]); exact rfl)) ?_ (access_unless_ok N _ _ _ e7) ?_ ?_ ?_ ?_
 rfl
 exact okD_all rfl
 exact .inl rfl
 (simp only [go_sem, Nat.reduceLT])
 refine FW.run ?_
 simp only [go_sem, simprocAttr, sw0]
 repeat (refine And.intro (by omega) ?_)
 refine FW.call' 4 rfl rfl rfl (by first | exact rfl | ((simp only [go_sem, List.toList_toArray, simprocAttr]); exact rfl)) ?_ (access_places_ok N _ _ e8) ?_ ?_ ?_ ?_
 rfl
 exact okD_all rfl
 exact .inl rfl
 (simp only [go_sem, Nat.reduceLT])
 refine FW.binLN (l := x8) (.inr rfl) rfl rfl se61 rfl rfl (by (simp only [go_sem, Nat.reduceLT])) ?_
 try simp only [go_sem, simprocAttr]
 refine FW.run ?_
 simp only [go_sem, simprocAttr, sw0]
 refine FW.call' 4 rfl rfl rfl (by first | exact rfl | ((simp only [go_sem, List.toList_toArray, simprocAttr]); exact rfl)) ?_ (access_unless_ok N _ _ _ e9) ?_ ?_ ?_ ?_
 rfl
 exact okD_all rfl
 exact .inl rfl
 (simp only [go_sem, Nat.reduceLT])
 refine FW.run ?_
 simp only [go_sem, simprocAttr, sw0]
 repeat (refine And.intro (by omega) ?_)
 refine FW.nil ?_
 change OW _ _ _ _ _ _
 refine OW.run [2] ?_
 simp only [go_sem, simprocAttr, sw0]
 refine OW.call' 4 rfl rfl rfl (by first | exact rfl | ((simp only [go_sem, List.toList_toArray, simprocAttr]); exact rfl)) ?_ (access_within_ok N _ _ _ _ e10) ?_ ?_ ?_ ?_
 rfl
 exact okD_all rfl
 exact .inl rfl
 (simp only [go_sem, Nat.reduceLT])
 refine OW.run [2] ?_
 simp only [go_sem, simprocAttr, sw0]
 refine OW.call' 4 rfl rfl rfl (by first | exact rfl | ((simp only [go_sem, List.toList_toArray, simprocAttr]); exact rfl)) ?_ (access_unless_ok N _ _ _ e11) ?_ ?_ ?_ ?_
 rfl
 exact okD_all rfl
 exact .inl rfl
 (simp only [go_sem, Nat.reduceLT])
 refine OW.run [2] ?_
 simp only [go_sem, simprocAttr, sw0]
 refine OW.call' 4 rfl rfl rfl (by first | exact rfl | ((simp only [go_sem, List.toList_toArray, simprocAttr]); exact rfl)) ?_ (access_first_ok N _ _ e12) ?_ ?_ ?_ ?_
 rfl
 · (refine okAll_intro ?_; (simp only [go_sem, sw2, List.length_set, List.length_replicate, and_true, true_and, Nat.le_refl, simprocAttr]; simp only [seg, go_sem, sw2, List.length_set, List.length_replicate, and_true, true_and, Nat.le_refl, simprocAttr]; done))
 exact .inr ⟨rfl, rfl⟩
 (simp only [go_sem, Nat.reduceLT])
 refine OW.run [2] ?_
 simp only [go_sem, simprocAttr, sw0]
 refine OW.nil (hK _ ?_)
 refine PW.ret ?_
 change PW.Ends _ _ _ _ _ _
 refine PW.Ends.intro (.inr rfl) ?_
 simp only [go_sem, simprocAttr, sw0]
 obtain rfl := Option.some.inj H
 refine RetOK.data' 4 (by exact trivial) ?_
 rfl

theorem access_pagingErr_ok (N : Nat) (Z2 : Int) (Z3 : Int) (Z4 : Int) (Z5 : Int) (phones : List Int) (r : Int) (H : access_pagingErr N Z2 Z3 Z4 Z5 phones = some r) : CallOK Tryd.prog 21 [(.agg [(I Z2), (I Z3), (I Z4), (I Z5)]), (L phones)] (.d (I r)) [] := by
 refine CallOK.of_PW Tryd.func21 rfl (by rw [Tryd.results21]) Tryd.ntmps21 Tryd.call21 ?_
 change PW _ _ _ _ _
 try simp only [go_sem, simprocAttr]
 unfold access_pagingErr at H
 refine PW.seq ?_
 refine PW.regionK fun K hK => OW.run [1, 2] ?_
 simp only [go_sem, simprocAttr, sw0]
 refine OW.nil (hK _ ?_)
 refine PW.seq ?_
 obtain ⟨x1, e1, H⟩ := bnd_some H
 refine PW.regionK fun K hK => OW.run [1, 5] ?_
 simp only [go_sem, simprocAttr, sw0]
 refine OW.call' 4 rfl rfl rfl (by first | exact rfl | ((simp only [go_sem, List.toList_toArray, simprocAttr]); exact rfl)) ?_ (access_CheckPaging_ok N _ _ _ _ _ e1) ?_ ?_ ?_ ?_
 rfl
 · (refine okAll_intro ?_; (simp only [go_sem, sw2, List.length_set, List.length_replicate, and_true, true_and, Nat.le_refl, simprocAttr]; done))
 exact .inl rfl
 (simp only [go_sem, Nat.reduceLT])
 refine OW.run [1, 5] ?_
 simp only [go_sem, simprocAttr, sw0]
 refine OW.nil (hK _ ?_)
 refine PW.joinS (τ := Int) [5] 0 (fun e => [(5, .d (I e))]) (fun e => []) _ _ r (by exact Nat.le_refl _) H ?_ ?_
 intro K_ H N1 hN1
 refine PW.seq ?_
 refine PW.regionK fun K hK => OW.run [5, 10, 11, 12] ?_
 simp only [go_sem, simprocAttr, sw0]
 refine OW.nil (hK _ ?_)
 refine PW.block ?_
 refine PW.loopS (σ := Int × Int) [5, 10, 11, 12] 1 (fun (e1, t12) => [(5, .d (I e1)), (12, .d (I t12))]) (fun (e1, t12) => [{ cells := [.d (I Z2), .d (I Z3), .d (I Z4), .d (I Z5)], e := 23 }]) (access_pagingErr.b1 N phones K_) r N (x1, (0 : Int)) (by exact Nat.zero_le _) H (by (simp only [sw1, go_sem, simprocAttr]; done)) ?_
 rintro n ⟨e1, t12⟩ H N2 hN2
 unfold access_pagingErr.b1 at H
 try simp only [go_sem, simprocAttr]
 refine PW.seq ?_
 refine PW.regionK fun K hK => OW.run [5, 10, 11, 12, 13] ?_
 simp only [go_sem, simprocAttr, sw0]
 refine OW.nil (hK _ ?_)
 refine PW.seq ?_
 refine PW.cond rfl (fun h3 => ?_) (fun h3 => ?_)
 replace H := br_t h3 H
 refine PW.skip ?_
 refine PW.seq ?_
 refine PW.block ?_
 refine PW.seq ?_
 obtain ⟨c4, H⟩ := chk_some H
 refine PW.regionK fun K hK => OW.run [5, 7, 10, 11, 12] ?_
 simp only [go_sem, simprocAttr, sw0]
 repeat (refine And.intro (by omega) ?_)
 refine OW.nil (hK _ ?_)
 change PW _ _ _ _ _
 obtain ⟨x2, e2, H⟩ := bnd_some H
 obtain ⟨x3, e3, H⟩ := bnd_some H
 obtain ⟨x4, e4, H⟩ := bnd_some H
 refine PW.regionK fun K hK => OW.run [5, 10, 11, 12] ?_
 simp only [go_sem, simprocAttr, sw0]
 refine OW.call' 4 rfl rfl rfl (by first | exact rfl | ((simp only [go_sem, List.toList_toArray, simprocAttr]); exact rfl)) ?_ (access_within_ok N _ _ _ _ e2) ?_ ?_ ?_ ?_
 rfl
 exact okD_all rfl
 exact .inl rfl
 (simp only [go_sem, Nat.reduceLT])
 refine OW.run [5, 10, 11, 12] ?_
 simp only [go_sem, simprocAttr, sw0]
 refine OW.call' 4 rfl rfl rfl (by first | exact rfl | ((simp only [go_sem, List.toList_toArray, simprocAttr]); exact rfl)) ?_ (access_unless_ok N _ _ _ e3) ?_ ?_ ?_ ?_
 rfl
 exact okD_all rfl
 exact .inl rfl
 (simp only [go_sem, Nat.reduceLT])
 refine OW.run [5, 10, 11, 12] ?_
 simp only [go_sem, simprocAttr, sw0]
 refine OW.call' 4 rfl rfl rfl (by first | exact rfl | ((simp only [go_sem, List.toList_toArray, simprocAttr]); exact rfl)) ?_ (access_first_ok N _ _ e4) ?_ ?_ ?_ ?_
 rfl
 · (refine okAll_intro ?_; (simp only [go_sem, sw2, List.length_set, List.length_replicate, and_true, true_and, Nat.le_refl, simprocAttr]; simp only [seg, go_sem, sw2, List.length_set, List.length_replicate, and_true, true_and, Nat.le_refl, simprocAttr]; done))
 exact .inr ⟨rfl, rfl⟩
 (simp only [go_sem, Nat.reduceLT])
 refine OW.run [5, 10, 11, 12] ?_
 simp only [go_sem, simprocAttr, sw0]
 refine OW.nil (hK _ ?_)
 refine PW.regionK fun K hK => OW.run [5, 10, 11, 12] ?_
 simp only [go_sem, simprocAttr, sw0]
 refine OW.nil (hK _ ?_)
 refine hN2 [] (x4, w64 (t12 + (1 : Int))) _ H (by exact trivial) ?_
 simp only [sw1, go_sem, simprocAttr]
 replace H := br_f h3 H
 refine PW.exit ?_
 refine hN1 [] e1 _ H (by exact trivial) ?_
 simp only [sw1, go_sem, simprocAttr]
 rintro e H
 try simp only [go_sem, simprocAttr]
 refine PW.seq ?_
 refine PW.regionK fun K hK => OW.run [4] ?_
 simp only [go_sem, simprocAttr, sw0]
 refine OW.nil (hK _ ?_)
 refine PW.ret ?_
 change PW.Ends _ _ _ _ _ _
 refine PW.Ends.intro (.inr rfl) ?_
 simp only [go_sem, simprocAttr, sw0]
 obtain rfl := Option.some.inj H
 refine RetOK.data' 4 (by exact trivial) ?_
 rfl

theorem access_occasion_ok (N : Nat) (Z2 : Int) (Z3 : Int) (Z4 : Int) (Z5 : Int) (phone : Int) (r : Int × Int) (H : access_occasion N Z2 Z3 Z4 Z5 phone = some r) : CallOK Tryd.prog 22 [(.agg [(I Z2), (I Z3), (I Z4), (I Z5)]), (I phone)] (.d (.agg [(I r.1), (I r.2)])) [] := by
 refine CallOK.of_PW Tryd.func22 rfl (by rw [Tryd.results22]) Tryd.ntmps22 Tryd.call22 ?_
 change PW _ _ _ _ _
 try simp only [go_sem, simprocAttr]
 unfold access_occasion at H
 refine PW.seq ?_
 refine PW.regionK fun K hK => OW.run [1, 2, 4] ?_
 simp only [go_sem, simprocAttr, sw0]
 refine OW.nil (hK _ ?_)
 refine PW.seq ?_
 obtain ⟨x1, e1, H⟩ := bnd_some H
 refine PW.regionK fun K hK => OW.run [1, 2, 4, 5] ?_
 simp only [go_sem, simprocAttr, sw0]
 repeat (refine And.intro (by omega) ?_)
 refine OW.call' 4 rfl rfl rfl (by first | exact rfl | ((simp only [go_sem, List.toList_toArray, simprocAttr]); exact rfl)) ?_ (access_places_ok N _ _ e1) ?_ ?_ ?_ ?_
 rfl
 exact okD_all rfl
 exact .inl rfl
 (simp only [go_sem, Nat.reduceLT])
 refine OW.run [1, 2, 4, 5] ?_
 simp only [go_sem, simprocAttr, sw0]
 refine OW.nil (hK _ ?_)
 refine PW.seq ?_
 obtain ⟨c1, H⟩ := chk_some H
 obtain ⟨c2, H⟩ := chk_some H
 refine PW.drawK 9 mixed (by kernel_rfl) fun K hK => ?_
 change FW _ _ _ _ _
 refine FW.run ?_
 simp only [go_sem, simprocAttr, sw0]
 repeat (refine And.intro (by omega) ?_)
 refine FW.nil ?_
 change OW _ _ _ _ _ _
 refine OW.run [1, 2, 4, 5, 6] ?_
 simp only [go_sem, simprocAttr, sw0]
 refine OW.nil (hK _ ?_)
 refine PW.seq ?_
 obtain ⟨c3, H⟩ := chk_some H
 obtain ⟨c4, H⟩ := chk_some H
 obtain ⟨c5, H⟩ := chk_some H
 obtain ⟨c6, H⟩ := chk_some H
 refine PW.drawK 20 mixed (by kernel_rfl) fun K hK => ?_
 change FW _ _ _ _ _
 refine FW.run ?_
 (simp only [go_sem, simprocAttr, sw0, LN_of (l := x1) (by omega)])
 repeat (refine And.intro (by omega) ?_)
 refine FW.nil ?_
 change OW _ _ _ _ _ _
 refine OW.run [4] ?_
 (simp only [go_sem, simprocAttr, sw0, LN_of (l := x1) (by omega)])
 refine OW.nil (hK _ ?_)
 refine PW.ret ?_
 change PW.Ends _ _ _ _ _ _
 refine PW.Ends.intro (.inr rfl) ?_
 simp only [go_sem, simprocAttr, sw0]
 obtain rfl := Option.some.inj H
 refine RetOK.data' 4 (by exact okD_all rfl) ?_
 rfl

theorem access_OccasionOf_ok (N : Nat) (Z2 : Int) (Z3 : Int) (Z4 : Int) (Z5 : Int) (phone : Int) (r : Int × Int × Int) (H : access_OccasionOf N Z2 Z3 Z4 Z5 phone = some r) : CallOK Tryd.prog 8 [(.agg [(I Z2), (I Z3), (I Z4), (I Z5)]), (I phone)] (.d (.tup [(.agg [(I r.1), (I r.2.1)]), (I r.2.2)])) [] := by
 refine CallOK.of_PW Tryd.func8 rfl (by rw [Tryd.results8]) Tryd.ntmps8 Tryd.call8 ?_
 change PW _ _ _ _ _
 try simp only [go_sem, simprocAttr]
 unfold access_OccasionOf at H
 refine PW.seq ?_
 refine PW.regionK fun K hK => OW.run [1, 2, 4] ?_
 simp only [go_sem, simprocAttr, sw0]
 refine OW.nil (hK _ ?_)
 refine PW.seq ?_
 refine PW.seq ?_
 obtain ⟨x1, e1, H⟩ := bnd_some H
 refine PW.regionK fun K hK => OW.run [1, 2, 4, 6] ?_
 simp only [go_sem, simprocAttr, sw0]
 refine OW.call' 4 rfl rfl rfl (by first | exact rfl | ((simp only [go_sem, List.toList_toArray, simprocAttr]); exact rfl)) ?_ (access_pagingErr_ok N _ _ _ _ _ _ e1) ?_ ?_ ?_ ?_
 rfl
 · (refine okAll_intro ?_; (simp only [go_sem, sw2, List.length_set, List.length_replicate, and_true, true_and, Nat.le_refl, simprocAttr]; done))
 exact .inr ⟨rfl, rfl⟩
 (simp only [go_sem, Nat.reduceLT])
 refine OW.run [1, 2, 4, 6] ?_
 simp only [go_sem, simprocAttr, sw0]
 refine OW.nil (hK _ ?_)
 refine PW.seq ?_
 refine PW.regionK fun K hK => OW.run [1, 2, 4, 6, 12] ?_
 simp only [go_sem, simprocAttr, sw0]
 refine OW.nil (hK _ ?_)
 refine PW.cond rfl (fun h1 => ?_) (fun h1 => ?_)
 replace H := br_t h1 H
 refine PW.seq ?_
 refine PW.regionK fun K hK => OW.run [4, 5] ?_
 simp only [go_sem, simprocAttr, sw0]
 refine OW.nil (hK _ ?_)
 refine PW.ret ?_
 change PW.Ends _ _ _ _ _ _
 refine PW.Ends.intro (.inr rfl) ?_
 simp only [go_sem, simprocAttr, sw0]
 obtain rfl := Option.some.inj H
 refine RetOK.data' 4 (by (refine okAll_intro ?_; (simp only [go_sem, sw2, List.length_set, List.length_replicate, and_true, true_and, Nat.le_refl, simprocAttr]; done))) ?_
 rfl
 replace H := br_f h1 H
 refine PW.skip ?_
 refine PW.seq ?_
 obtain ⟨⟨x2, x21⟩, e2, H⟩ := bnd_some H
 refine PW.regionK fun K hK => OW.run [4, 5] ?_
 simp only [go_sem, simprocAttr, sw0]
 refine OW.call' 4 rfl rfl rfl (by first | exact rfl | ((simp only [go_sem, List.toList_toArray, simprocAttr]); exact rfl)) ?_ (access_occasion_ok N _ _ _ _ _ _ e2) ?_ ?_ ?_ ?_
 rfl
 · (refine okAll_intro ?_; (simp only [go_sem, sw2, List.length_set, List.length_replicate, and_true, true_and, Nat.le_refl, simprocAttr]; done))
 exact .inl rfl
 (simp only [go_sem, Nat.reduceLT])
 refine OW.run [4, 5] ?_
 simp only [go_sem, simprocAttr, sw0]
 refine OW.nil (hK _ ?_)
 refine PW.ret ?_
 change PW.Ends _ _ _ _ _ _
 refine PW.Ends.intro (.inr rfl) ?_
 simp only [go_sem, simprocAttr, sw0]
 obtain rfl := Option.some.inj H
 refine RetOK.data' 4 (by (refine okAll_intro ?_; (simp only [go_sem, sw2, List.length_set, List.length_replicate, and_true, true_and, Nat.le_refl, simprocAttr]; done))) ?_
 rfl

theorem access_SleepOf_ok (N : Nat) (Z2 : Int) (Z3 : Int) (Z4 : Int) (Z5 : Int) (phone : Int) (r : Int × Int × Int × Int × Int) (H : access_SleepOf N Z2 Z3 Z4 Z5 phone = some r) : CallOK Tryd.prog 9 [(.agg [(I Z2), (I Z3), (I Z4), (I Z5)]), (I phone)] (.d (.tup [(.agg [(I r.1), (I r.2.1), (I r.2.2.1), (I r.2.2.2.1)]), (I r.2.2.2.2)])) [] := by
 refine CallOK.of_PW Tryd.func9 rfl (by rw [Tryd.results9]) Tryd.ntmps9 Tryd.call9 ?_
 change PW _ _ _ _ _
 try simp only [go_sem, simprocAttr]
 unfold access_SleepOf at H
 refine PW.seq ?_
 refine PW.regionK fun K hK => OW.run [1, 2, 4] ?_
 simp only [go_sem, simprocAttr, sw0]
 refine OW.nil (hK _ ?_)
 refine PW.seq ?_
 refine PW.seq ?_
 obtain ⟨x1, e1, H⟩ := bnd_some H
 refine PW.regionK fun K hK => OW.run [1, 2, 4, 6] ?_
 simp only [go_sem, simprocAttr, sw0]
 refine OW.call' 4 rfl rfl rfl (by first | exact rfl | ((simp only [go_sem, List.toList_toArray, simprocAttr]); exact rfl)) ?_ (access_pagingErr_ok N _ _ _ _ _ _ e1) ?_ ?_ ?_ ?_
 rfl
 · (refine okAll_intro ?_; (simp only [go_sem, sw2, List.length_set, List.length_replicate, and_true, true_and, Nat.le_refl, simprocAttr]; done))
 exact .inr ⟨rfl, rfl⟩
 (simp only [go_sem, Nat.reduceLT])
 refine OW.run [1, 2, 4, 6] ?_
 simp only [go_sem, simprocAttr, sw0]
 refine OW.nil (hK _ ?_)
 refine PW.seq ?_
 refine PW.regionK fun K hK => OW.run [1, 2, 4, 6, 13] ?_
 simp only [go_sem, simprocAttr, sw0]
 refine OW.nil (hK _ ?_)
 refine PW.cond rfl (fun h1 => ?_) (fun h1 => ?_)
 replace H := br_t h1 H
 refine PW.seq ?_
 refine PW.regionK fun K hK => OW.run [4, 5] ?_
 simp only [go_sem, simprocAttr, sw0]
 refine OW.nil (hK _ ?_)
 refine PW.ret ?_
 change PW.Ends _ _ _ _ _ _
 refine PW.Ends.intro (.inr rfl) ?_
 simp only [go_sem, simprocAttr, sw0]
 obtain rfl := Option.some.inj H
 refine RetOK.data' 4 (by (refine okAll_intro ?_; (simp only [go_sem, sw2, List.length_set, List.length_replicate, and_true, true_and, Nat.le_refl, simprocAttr]; done))) ?_
 rfl
 replace H := br_f h1 H
 refine PW.skip ?_
 refine PW.seq ?_
 obtain ⟨⟨x2, x21⟩, e2, H⟩ := bnd_some H
 refine PW.regionK fun K hK => OW.run [2, 4, 7] ?_
 simp only [go_sem, simprocAttr, sw0]
 refine OW.call' 4 rfl rfl rfl (by first | exact rfl | ((simp only [go_sem, List.toList_toArray, simprocAttr]); exact rfl)) ?_ (access_occasion_ok N _ _ _ _ _ _ e2) ?_ ?_ ?_ ?_
 rfl
 · (refine okAll_intro ?_; (simp only [go_sem, sw2, List.length_set, List.length_replicate, and_true, true_and, Nat.le_refl, simprocAttr]; done))
 exact .inl rfl
 (simp only [go_sem, Nat.reduceLT])
 refine OW.run [2, 4, 7] ?_
 simp only [go_sem, simprocAttr, sw0]
 refine OW.nil (hK _ ?_)
 refine PW.seq ?_
 refine PW.regionK fun K hK => OW.run [4, 5] ?_
 simp only [go_sem, simprocAttr, sw0]
 repeat (refine And.intro (by omega) ?_)
 refine OW.nil (hK _ ?_)
 refine PW.ret ?_
 change PW.Ends _ _ _ _ _ _
 refine PW.Ends.intro (.inr rfl) ?_
 simp only [go_sem, simprocAttr, sw0]
 obtain rfl := Option.some.inj H
 refine RetOK.data' 4 (by (refine okAll_intro ?_; (simp only [go_sem, sw2, List.length_set, List.length_replicate, and_true, true_and, Nat.le_refl, simprocAttr]; done))) ?_
 rfl

theorem access_Together_ok (N : Nat) (Z2 : Int) (Z3 : Int) (Z4 : Int) (Z5 : Int) (a : Int) (b : Int) (r : Bool × Int) (H : access_Together N Z2 Z3 Z4 Z5 a b = some r) : CallOK Tryd.prog 10 [(.agg [(I Z2), (I Z3), (I Z4), (I Z5)]), (I a), (I b)] (.d (.tup [(Bo r.1), (I r.2)])) [] := by
 refine CallOK.of_PW Tryd.func10 rfl (by rw [Tryd.results10]) Tryd.ntmps10 Tryd.call10 ?_
 change PW _ _ _ _ _
 try simp only [go_sem, simprocAttr]
 unfold access_Together at H
 refine PW.seq ?_
 refine PW.regionK fun K hK => OW.run [1, 2, 3] ?_
 simp only [go_sem, simprocAttr, sw0]
 refine OW.nil (hK _ ?_)
 refine PW.seq ?_
 refine PW.seq ?_
 obtain ⟨x1, e1, H⟩ := bnd_some H
 refine PW.regionK fun K hK => OW.run [1, 2, 3, 8] ?_
 simp only [go_sem, simprocAttr, sw0]
 refine OW.call' 4 rfl rfl rfl (by first | exact rfl | ((simp only [go_sem, List.toList_toArray, simprocAttr]); exact rfl)) ?_ (access_pagingErr_ok N _ _ _ _ _ _ e1) ?_ ?_ ?_ ?_
 rfl
 · (refine okAll_intro ?_; (simp only [go_sem, sw2, List.length_set, List.length_replicate, and_true, true_and, Nat.le_refl, simprocAttr]; simp only [seg, go_sem, sw2, List.length_set, List.length_replicate, and_true, true_and, Nat.le_refl, simprocAttr]; done))
 exact .inr ⟨rfl, rfl⟩
 (simp only [go_sem, Nat.reduceLT])
 refine OW.run [1, 2, 3, 8] ?_
 simp only [go_sem, simprocAttr, sw0]
 refine OW.nil (hK _ ?_)
 refine PW.seq ?_
 refine PW.regionK fun K hK => OW.run [1, 2, 3, 8, 15] ?_
 simp only [go_sem, simprocAttr, sw0]
 refine OW.nil (hK _ ?_)
 refine PW.cond rfl (fun h1 => ?_) (fun h1 => ?_)
 replace H := br_t h1 H
 refine PW.seq ?_
 refine PW.regionK fun K hK => OW.run [6, 7] ?_
 simp only [go_sem, simprocAttr, sw0]
 refine OW.nil (hK _ ?_)
 refine PW.ret ?_
 change PW.Ends _ _ _ _ _ _
 refine PW.Ends.intro (.inr rfl) ?_
 simp only [go_sem, simprocAttr, sw0]
 obtain rfl := Option.some.inj H
 refine RetOK.data' 4 (by exact okD_all rfl) ?_
 rfl
 replace H := br_f h1 H
 refine PW.skip ?_
 refine PW.seq ?_
 obtain ⟨⟨x2, x21⟩, e2, H⟩ := bnd_some H
 obtain ⟨⟨x3, x31⟩, e3, H⟩ := bnd_some H
 refine PW.drawK 5 mixed (by kernel_rfl) fun K hK => ?_
 change FW _ _ _ _ _
 refine FW.run ?_
 simp only [go_sem, simprocAttr, sw0]
 refine FW.call' 4 rfl rfl rfl (by first | exact rfl | ((simp only [go_sem, List.toList_toArray, simprocAttr]); exact rfl)) ?_ (access_occasion_ok N _ _ _ _ _ _ e2) ?_ ?_ ?_ ?_
 rfl
 · (refine okAll_intro ?_; (simp only [go_sem, sw2, List.length_set, List.length_replicate, and_true, true_and, Nat.le_refl, simprocAttr]; done))
 exact .inl rfl
 (simp only [go_sem, Nat.reduceLT])
 refine FW.run ?_
 simp only [go_sem, simprocAttr, sw0]
 refine FW.nil ?_
 change OW _ _ _ _ _ _
 refine OW.run [6, 7] ?_
 simp only [go_sem, simprocAttr, sw0]
 refine OW.call' 4 rfl rfl rfl (by first | exact rfl | ((simp only [go_sem, List.toList_toArray, simprocAttr]); exact rfl)) ?_ (access_occasion_ok N _ _ _ _ _ _ e3) ?_ ?_ ?_ ?_
 rfl
 · (refine okAll_intro ?_; (simp only [go_sem, sw2, List.length_set, List.length_replicate, and_true, true_and, Nat.le_refl, simprocAttr]; done))
 exact .inl rfl
 (simp only [go_sem, Nat.reduceLT])
 refine OW.run [6, 7] ?_
 simp only [go_sem, simprocAttr, sw0]
 refine OW.nil (hK _ ?_)
 refine PW.ret ?_
 change PW.Ends _ _ _ _ _ _
 refine PW.Ends.intro (.inr rfl) ?_
 simp only [go_sem, simprocAttr, sw0]
 obtain rfl := Option.some.inj H
 refine RetOK.data' 4 (by exact okD_all rfl) ?_
 rfl

theorem ref07_OccasionErr_ok (N : Nat) (Z0 : Int) (Z1 : Int) (r : Int) (H : ref07_OccasionErr N Z0 Z1 = some r) : CallOK Tryd.prog 11 [(.agg [(I Z0), (I Z1)])] (.d (I r)) [] := by
 refine CallOK.of_PW Tryd.func11 rfl (by rw [Tryd.results11]) Tryd.ntmps11 Tryd.call11 ?_
 change PW _ _ _ _ _
 try simp only [go_sem, simprocAttr]
 unfold ref07_OccasionErr at H
 refine PW.seq ?_
 refine PW.regionK fun K hK => OW.run [1] ?_
 simp only [go_sem, simprocAttr, sw0]
 refine OW.nil (hK _ ?_)
 refine PW.seq ?_
 refine PW.seq ?_
 obtain ⟨x1, e1, H⟩ := bnd_some H
 obtain ⟨x2, e2, H⟩ := bnd_some H
 refine PW.regionK fun K hK => OW.run [12] ?_
 simp only [go_sem, simprocAttr, sw0]
 repeat (refine And.intro (by omega) ?_)
 refine OW.call' 4 rfl rfl rfl (by first | exact rfl | ((simp only [go_sem, List.toList_toArray, simprocAttr]); exact rfl)) ?_ (base_Within_ok N _ _ _ _ e1) ?_ ?_ ?_ ?_
 rfl
 exact okD_all rfl
 exact .inl rfl
 (simp only [go_sem, Nat.reduceLT])
 refine OW.run [12] ?_
 simp only [go_sem, simprocAttr, sw0]
 repeat (refine And.intro (by omega) ?_)
 refine OW.callG' 4 rfl rfl ?_ (fun hg => by first | rfl | (simp only [go_sem, ↓reduceIte]; rfl)) (fun hg => by ((simp only [go_sem, List.toList_toArray, simprocAttr]); exact rfl)) (fun hg => ?_) (fun hg => (base_Within_ok N _ _ _ _ (grd_t hg e2))) ?_ ?_ ?_ ?_
 simp only [go_sem, simprocAttr]
 rfl
 exact okD_all rfl
 exact .inl rfl
 (simp only [go_sem, Nat.reduceLT])
 refine OW.run [12] ?_
 simp only [go_sem, simprocAttr, sw0]
 refine OW.nil (hK _ ?_)
 refine PW.cond rfl (fun h1 => ?_) (fun h1 => ?_)
 replace H := br_t h1 H
 refine PW.seq ?_
 refine PW.regionK fun K hK => OW.run [2] ?_
 simp only [go_sem, simprocAttr, sw0]
 refine OW.nil (hK _ ?_)
 refine PW.ret ?_
 change PW.Ends _ _ _ _ _ _
 refine PW.Ends.intro (.inr rfl) ?_
 simp only [go_sem, simprocAttr, sw0]
 obtain rfl := Option.some.inj H
 refine RetOK.data' 4 (by exact trivial) ?_
 rfl
 replace H := br_f h1 H
 refine PW.skip ?_
 refine PW.seq ?_
 refine PW.regionK fun K hK => OW.run [2] ?_
 simp only [go_sem, simprocAttr, sw0]
 refine OW.nil (hK _ ?_)
 refine PW.ret ?_
 change PW.Ends _ _ _ _ _ _
 refine PW.Ends.intro (.inr rfl) ?_
 simp only [go_sem, simprocAttr, sw0]
 obtain rfl := Option.some.inj H
 refine RetOK.data' 4 (by exact trivial) ?_
 rfl

theorem ref07_CheckSleep_ok (N : Nat) (Zc : Int) (Zf : Int) (Ze : Int) (Zd : Int) (r : Int) (H : ref07_CheckSleep N Zc Zf Ze Zd = some r) : CallOK Tryd.prog 12 [(.agg [(I Zc), (I Zf), (I Ze), (I Zd)])] (.d (I r)) [] := by
 refine CallOK.of_PW Tryd.func12 rfl (by rw [Tryd.results12]) Tryd.ntmps12 Tryd.call12 ?_
 change PW _ _ _ _ _
 try simp only [go_sem, simprocAttr]
 unfold ref07_CheckSleep at H
 refine PW.seq ?_
 refine PW.regionK fun K hK => OW.run [1] ?_
 simp only [go_sem, simprocAttr, sw0]
 refine OW.nil (hK _ ?_)
 refine PW.seq ?_
 refine PW.seq ?_
 obtain ⟨x1, e1, H⟩ := bnd_some H
 obtain ⟨x2, e2, H⟩ := bnd_some H
 obtain ⟨x3, e3, H⟩ := bnd_some H
 obtain ⟨x4, e4, H⟩ := bnd_some H
 refine PW.regionK fun K hK => OW.run [29] ?_
 simp only [go_sem, simprocAttr, sw0]
 repeat (refine And.intro (by omega) ?_)
 refine OW.call' 4 rfl rfl rfl (by first | exact rfl | ((simp only [go_sem, List.toList_toArray, simprocAttr]); exact rfl)) ?_ (base_Within_ok N _ _ _ _ e1) ?_ ?_ ?_ ?_
 rfl
 exact okD_all rfl
 exact .inl rfl
 (simp only [go_sem, Nat.reduceLT])
 refine OW.run [29] ?_
 simp only [go_sem, simprocAttr, sw0]
 repeat (refine And.intro (by omega) ?_)
 refine OW.callG' 4 rfl rfl ?_ (fun hg => by first | rfl | (simp only [go_sem, ↓reduceIte]; rfl)) (fun hg => by ((simp only [go_sem, List.toList_toArray, simprocAttr]); exact rfl)) (fun hg => ?_) (fun hg => (base_Within_ok N _ _ _ _ (grd_t hg e2))) ?_ ?_ ?_ ?_
 simp only [go_sem, simprocAttr]
 rfl
 exact okD_all rfl
 exact .inl rfl
 (simp only [go_sem, Nat.reduceLT])
 refine OW.run [29] ?_
 simp only [go_sem, simprocAttr, sw0]
 repeat (refine And.intro (by omega) ?_)
 refine OW.callG' 4 rfl rfl ?_ (fun hg => by first | rfl | (simp only [go_sem, ↓reduceIte]; rfl)) (fun hg => by ((simp only [go_sem, List.toList_toArray, simprocAttr]); exact rfl)) (fun hg => ?_) (fun hg => (base_Within_ok N _ _ _ _ (grd_t hg e3))) ?_ ?_ ?_ ?_
 simp only [go_sem, simprocAttr]
 rfl
 exact okD_all rfl
 exact .inl rfl
 (simp only [go_sem, Nat.reduceLT])
 refine OW.run [29] ?_
 simp only [go_sem, simprocAttr, sw0]
 repeat (refine And.intro (by omega) ?_)
 refine OW.callG' 4 rfl rfl ?_ (fun hg => by first | rfl | (simp only [go_sem, ↓reduceIte]; rfl)) (fun hg => by ((simp only [go_sem, List.toList_toArray, simprocAttr]); exact rfl)) (fun hg => ?_) (fun hg => (base_Within_ok N _ _ _ _ (grd_t hg e4))) ?_ ?_ ?_ ?_
 simp only [go_sem, simprocAttr]
 rfl
 exact okD_all rfl
 exact .inl rfl
 (simp only [go_sem, Nat.reduceLT])
 refine OW.run [29] ?_
 simp only [go_sem, simprocAttr, sw0]
 refine OW.nil (hK _ ?_)
 refine PW.cond rfl (fun h1 => ?_) (fun h1 => ?_)
 replace H := br_t h1 H
 refine PW.seq ?_
 refine PW.regionK fun K hK => OW.run [2] ?_
 simp only [go_sem, simprocAttr, sw0]
 refine OW.nil (hK _ ?_)
 refine PW.ret ?_
 change PW.Ends _ _ _ _ _ _
 refine PW.Ends.intro (.inr rfl) ?_
 simp only [go_sem, simprocAttr, sw0]
 obtain rfl := Option.some.inj H
 refine RetOK.data' 4 (by exact trivial) ?_
 rfl
 replace H := br_f h1 H
 refine PW.skip ?_
 refine PW.seq ?_
 refine PW.regionK fun K hK => OW.run [2] ?_
 simp only [go_sem, simprocAttr, sw0]
 refine OW.nil (hK _ ?_)
 refine PW.ret ?_
 change PW.Ends _ _ _ _ _ _
 refine PW.Ends.intro (.inr rfl) ?_
 simp only [go_sem, simprocAttr, sw0]
 obtain rfl := Option.some.inj H
 refine RetOK.data' 4 (by exact trivial) ?_
 rfl

theorem access_occasionErr_ok (N : Nat) (Zk : Int) (Zl : Int) (r : Int) (H : access_occasionErr N Zk Zl = some r) : CallOK Tryd.prog 24 [(.agg [(I Zk), (I Zl)])] (.d (I r)) [] := by
 refine CallOK.of_PW Tryd.func24 rfl (by rw [Tryd.results24]) Tryd.ntmps24 Tryd.call24 ?_
 change PW _ _ _ _ _
 try simp only [go_sem, simprocAttr]
 unfold access_occasionErr at H
 refine PW.seq ?_
 refine PW.regionK fun K hK => OW.run [1] ?_
 simp only [go_sem, simprocAttr, sw0]
 refine OW.nil (hK _ ?_)
 refine PW.seq ?_
 obtain ⟨x1, e1, H⟩ := bnd_some H
 obtain ⟨x2, e2, H⟩ := bnd_some H
 obtain ⟨x3, e3, H⟩ := bnd_some H
 refine PW.regionK fun K hK => OW.run [2] ?_
 simp only [go_sem, simprocAttr, sw0]
 repeat (refine And.intro (by omega) ?_)
 refine OW.call' 4 rfl rfl rfl (by first | exact rfl | ((simp only [go_sem, List.toList_toArray, simprocAttr]); exact rfl)) ?_ (access_within_ok N _ _ _ _ e1) ?_ ?_ ?_ ?_
 rfl
 exact okD_all rfl
 exact .inl rfl
 (simp only [go_sem, Nat.reduceLT])
 refine OW.run [2] ?_
 simp only [go_sem, simprocAttr, sw0]
 repeat (refine And.intro (by omega) ?_)
 refine OW.callG' 4 rfl rfl ?_ (fun hg => by first | rfl | (simp only [go_sem, ↓reduceIte]; rfl)) (fun hg => by ((simp only [go_sem, List.toList_toArray, simprocAttr]); exact rfl)) (fun hg => ?_) (fun hg => (access_within_ok N _ _ _ _ (grd_t hg e2))) ?_ ?_ ?_ ?_
 simp only [go_sem, simprocAttr]
 rfl
 exact okD_all rfl
 exact .inl rfl
 (simp only [go_sem, Nat.reduceLT])
 refine OW.run [2] ?_
 simp only [go_sem, simprocAttr, sw0]
 refine OW.call' 4 rfl rfl rfl (by first | exact rfl | ((simp only [go_sem, List.toList_toArray, simprocAttr]); exact rfl)) ?_ (access_unless_ok N _ _ _ e3) ?_ ?_ ?_ ?_
 rfl
 exact okD_all rfl
 exact .inl rfl
 (simp only [go_sem, Nat.reduceLT])
 refine OW.run [2] ?_
 simp only [go_sem, simprocAttr, sw0]
 refine OW.nil (hK _ ?_)
 refine PW.ret ?_
 change PW.Ends _ _ _ _ _ _
 refine PW.Ends.intro (.inr rfl) ?_
 simp only [go_sem, simprocAttr, sw0]
 obtain rfl := Option.some.inj H
 refine RetOK.data' 4 (by exact trivial) ?_
 rfl

theorem access_IsOccasion_ok (N : Nat) (Z2 : Int) (Z3 : Int) (Z4 : Int) (Z5 : Int) (phone : Int) (Z0 : Int) (Z1 : Int) (r : Bool × Int) (H : access_IsOccasion N Z2 Z3 Z4 Z5 phone Z0 Z1 = some r) : CallOK Tryd.prog 14 [(.agg [(I Z2), (I Z3), (I Z4), (I Z5)]), (I phone), (.agg [(I Z0), (I Z1)])] (.d (.tup [(Bo r.1), (I r.2)])) [] := by
 refine CallOK.of_PW Tryd.func14 rfl (by rw [Tryd.results14]) Tryd.ntmps14 Tryd.call14 ?_
 change PW _ _ _ _ _
 try simp only [go_sem, simprocAttr]
 unfold access_IsOccasion at H
 refine PW.seq ?_
 refine PW.regionK fun K hK => OW.run [1, 3, 5] ?_
 simp only [go_sem, simprocAttr, sw0]
 refine OW.nil (hK _ ?_)
 refine PW.seq ?_
 refine PW.seq ?_
 obtain ⟨x1, e1, H⟩ := bnd_some H
 obtain ⟨x2, e2, H⟩ := bnd_some H
 obtain ⟨x3, e3, H⟩ := bnd_some H
 refine PW.drawK 5 mixed (by kernel_rfl) fun K hK => ?_
 change FW _ _ _ _ _
 refine FW.run ?_
 simp only [go_sem, simprocAttr, sw0]
 refine FW.call' 4 rfl rfl rfl (by first | exact rfl | ((simp only [go_sem, List.toList_toArray, simprocAttr]); exact rfl)) ?_ (access_pagingErr_ok N _ _ _ _ _ _ e1) ?_ ?_ ?_ ?_
 rfl
 · (refine okAll_intro ?_; (simp only [go_sem, sw2, List.length_set, List.length_replicate, and_true, true_and, Nat.le_refl, simprocAttr]; done))
 exact .inl rfl
 (simp only [go_sem, Nat.reduceLT])
 refine FW.run ?_
 simp only [go_sem, simprocAttr, sw0]
 refine FW.nil ?_
 change OW _ _ _ _ _ _
 refine OW.run [1, 3, 5, 8] ?_
 simp only [go_sem, simprocAttr, sw0]
 refine OW.call' 4 rfl rfl rfl (by first | exact rfl | ((simp only [go_sem, List.toList_toArray, simprocAttr]); exact rfl)) ?_ (access_occasionErr_ok N _ _ _ e2) ?_ ?_ ?_ ?_
 rfl
 · (refine okAll_intro ?_; (simp only [go_sem, sw2, List.length_set, List.length_replicate, and_true, true_and, Nat.le_refl, simprocAttr]; done))
 exact .inl rfl
 (simp only [go_sem, Nat.reduceLT])
 refine OW.run [1, 3, 5, 8] ?_
 simp only [go_sem, simprocAttr, sw0]
 refine OW.call' 4 rfl rfl rfl (by first | exact rfl | ((simp only [go_sem, List.toList_toArray, simprocAttr]); exact rfl)) ?_ (access_first_ok N _ _ e3) ?_ ?_ ?_ ?_
 rfl
 · (refine okAll_intro ?_; (simp only [go_sem, sw2, List.length_set, List.length_replicate, and_true, true_and, Nat.le_refl, simprocAttr]; simp only [seg, go_sem, sw2, List.length_set, List.length_replicate, and_true, true_and, Nat.le_refl, simprocAttr]; done))
 exact .inr ⟨rfl, rfl⟩
 (simp only [go_sem, Nat.reduceLT])
 refine OW.run [1, 3, 5, 8] ?_
 simp only [go_sem, simprocAttr, sw0]
 refine OW.nil (hK _ ?_)
 refine PW.seq ?_
 refine PW.regionK fun K hK => OW.run [1, 3, 5, 8, 18] ?_
 simp only [go_sem, simprocAttr, sw0]
 refine OW.nil (hK _ ?_)
 refine PW.cond rfl (fun h1 => ?_) (fun h1 => ?_)
 replace H := br_t h1 H
 refine PW.seq ?_
 refine PW.regionK fun K hK => OW.run [6, 7] ?_
 simp only [go_sem, simprocAttr, sw0]
 refine OW.nil (hK _ ?_)
 refine PW.ret ?_
 change PW.Ends _ _ _ _ _ _
 refine PW.Ends.intro (.inr rfl) ?_
 simp only [go_sem, simprocAttr, sw0]
 obtain rfl := Option.some.inj H
 refine RetOK.data' 4 (by exact okD_all rfl) ?_
 rfl
 replace H := br_f h1 H
 refine PW.skip ?_
 refine PW.seq ?_
 obtain ⟨c2, H⟩ := chk_some H
 refine PW.regionK fun K hK => OW.run [1, 3, 5] ?_
 simp only [go_sem, simprocAttr, sw0]
 repeat (refine And.intro (by omega) ?_)
 refine OW.nil (hK _ ?_)
 refine PW.seq ?_
 obtain ⟨⟨x4, x41⟩, e4, H⟩ := bnd_some H
 refine PW.drawK 4 mixed (by kernel_rfl) fun K hK => ?_
 change FW _ _ _ _ _
 refine FW.run ?_
 simp only [go_sem, simprocAttr, sw0]
 refine FW.call' 4 rfl rfl rfl (by first | exact rfl | ((simp only [go_sem, List.toList_toArray, simprocAttr]); exact rfl)) ?_ (access_occasion_ok N _ _ _ _ _ _ e4) ?_ ?_ ?_ ?_
 rfl
 · (refine okAll_intro ?_; (simp only [go_sem, sw2, List.length_set, List.length_replicate, and_true, true_and, Nat.le_refl, simprocAttr]; done))
 exact .inl rfl
 (simp only [go_sem, Nat.reduceLT])
 refine FW.run ?_
 simp only [go_sem, simprocAttr, sw0]
 refine FW.nil ?_
 change OW _ _ _ _ _ _
 refine OW.run [6, 7] ?_
 simp only [go_sem, simprocAttr, sw0]
 refine OW.nil (hK _ ?_)
 refine PW.ret ?_
 change PW.Ends _ _ _ _ _ _
 refine PW.Ends.intro (.inr rfl) ?_
 simp only [go_sem, simprocAttr, sw0]
 obtain rfl := Option.some.inj H
 refine RetOK.data' 4 (by exact okD_all rfl) ?_
 rfl

theorem access_CheckSleep_ok (N : Nat) (Zc : Int) (Zf : Int) (Ze : Int) (Zd : Int) (r : Int) (H : access_CheckSleep N Zc Zf Ze Zd = some r) : CallOK Tryd.prog 25 [(.agg [(I Zc), (I Zf), (I Ze), (I Zd)])] (.d (I r)) [] := by
 refine CallOK.of_PW Tryd.func25 rfl (by rw [Tryd.results25]) Tryd.ntmps25 Tryd.call25 ?_
 change PW _ _ _ _ _
 try simp only [go_sem, simprocAttr]
 unfold access_CheckSleep at H
 refine PW.seq ?_
 refine PW.regionK fun K hK => OW.run [1] ?_
 simp only [go_sem, simprocAttr, sw0]
 refine OW.nil (hK _ ?_)
 refine PW.seq ?_
 obtain ⟨x1, e1, H⟩ := bnd_some H
 obtain ⟨x2, e2, H⟩ := bnd_some H
 obtain ⟨x3, e3, H⟩ := bnd_some H
 obtain ⟨x4, e4, H⟩ := bnd_some H
 refine PW.regionK fun K hK => OW.run [3] ?_
 simp only [go_sem, simprocAttr, sw0]
 repeat (refine And.intro (by omega) ?_)
 refine OW.call' 4 rfl rfl rfl (by first | exact rfl | ((simp only [go_sem, List.toList_toArray, simprocAttr]); exact rfl)) ?_ (access_within_ok N _ _ _ _ e1) ?_ ?_ ?_ ?_
 rfl
 exact okD_all rfl
 exact .inl rfl
 (simp only [go_sem, Nat.reduceLT])
 refine OW.run [3] ?_
 simp only [go_sem, simprocAttr, sw0]
 repeat (refine And.intro (by omega) ?_)
 refine OW.callG' 4 rfl rfl ?_ (fun hg => by first | rfl | (simp only [go_sem, ↓reduceIte]; rfl)) (fun hg => by ((simp only [go_sem, List.toList_toArray, simprocAttr]); exact rfl)) (fun hg => ?_) (fun hg => (access_within_ok N _ _ _ _ (grd_t hg e2))) ?_ ?_ ?_ ?_
 simp only [go_sem, simprocAttr]
 rfl
 exact okD_all rfl
 exact .inl rfl
 (simp only [go_sem, Nat.reduceLT])
 refine OW.run [3] ?_
 simp only [go_sem, simprocAttr, sw0]
 repeat (refine And.intro (by omega) ?_)
 refine OW.callG' 4 rfl rfl ?_ (fun hg => by first | rfl | (simp only [go_sem, ↓reduceIte]; rfl)) (fun hg => by ((simp only [go_sem, List.toList_toArray, simprocAttr]); exact rfl)) (fun hg => ?_) (fun hg => (access_within_ok N _ _ _ _ (grd_t hg e3))) ?_ ?_ ?_ ?_
 simp only [go_sem, simprocAttr]
 rfl
 exact okD_all rfl
 exact .inl rfl
 (simp only [go_sem, Nat.reduceLT])
 refine OW.run [3] ?_
 simp only [go_sem, simprocAttr, sw0]
 repeat (refine And.intro (by omega) ?_)
 refine OW.callG' 4 rfl rfl ?_ (fun hg => by first | rfl | (simp only [go_sem, ↓reduceIte]; rfl)) (fun hg => by ((simp only [go_sem, List.toList_toArray, simprocAttr]); exact rfl)) (fun hg => ?_) (fun hg => (access_within_ok N _ _ _ _ (grd_t hg e4))) ?_ ?_ ?_ ?_
 simp only [go_sem, simprocAttr]
 rfl
 exact okD_all rfl
 exact .inl rfl
 (simp only [go_sem, Nat.reduceLT])
 refine OW.run [3] ?_
 simp only [go_sem, simprocAttr, sw0]
 refine OW.nil (hK _ ?_)
 refine PW.seq ?_
 obtain ⟨x5, e5, H⟩ := bnd_some H
 refine PW.regionK fun K hK => OW.run [2] ?_
 simp only [go_sem, simprocAttr, sw0]
 refine OW.call' 4 rfl rfl rfl (by first | exact rfl | ((simp only [go_sem, List.toList_toArray, simprocAttr]); exact rfl)) ?_ (access_unless_ok N _ _ _ e5) ?_ ?_ ?_ ?_
 rfl
 exact okD_all rfl
 exact .inl rfl
 (simp only [go_sem, Nat.reduceLT])
 refine OW.run [2] ?_
 simp only [go_sem, simprocAttr, sw0]
 refine OW.nil (hK _ ?_)
 refine PW.ret ?_
 change PW.Ends _ _ _ _ _ _
 refine PW.Ends.intro (.inr rfl) ?_
 simp only [go_sem, simprocAttr, sw0]
 obtain rfl := Option.some.inj H
 refine RetOK.data' 4 (by exact trivial) ?_
 rfl

theorem access_isTick_ok (N : Nat) (n : Int) (r : Bool) (H : access_isTick N n = some r) : CallOK Tryd.prog 28 [(I n)] (.d (Bo r)) [] := by
 refine CallOK.of_PW Tryd.func28 rfl (by rw [Tryd.results28]) Tryd.ntmps28 Tryd.call28 ?_
 change PW _ _ _ _ _
 try simp only [go_sem, simprocAttr]
 unfold access_isTick at H
 refine PW.seq ?_
 refine PW.regionK fun K hK => OW.run [0] ?_
 simp only [go_sem, simprocAttr, sw0]
 refine OW.nil (hK _ ?_)
 refine PW.seq ?_
 obtain ⟨x1, e1, H⟩ := bnd_some H
 refine PW.regionK fun K hK => OW.run [2] ?_
 simp only [go_sem, simprocAttr, sw0]
 refine OW.call' 4 rfl rfl rfl (by first | exact rfl | ((simp only [go_sem, List.toList_toArray, simprocAttr]); exact rfl)) ?_ (access_within_ok N _ _ _ _ e1) ?_ ?_ ?_ ?_
 rfl
 exact okD_all rfl
 exact .inl rfl
 (simp only [go_sem, Nat.reduceLT])
 refine OW.run [2] ?_
 simp only [go_sem, simprocAttr, sw0]
 refine OW.nil (hK _ ?_)
 refine PW.ret ?_
 change PW.Ends _ _ _ _ _ _
 refine PW.Ends.intro (.inr rfl) ?_
 simp only [go_sem, simprocAttr, sw0]
 obtain rfl := Option.some.inj H
 refine RetOK.data' 4 (by exact trivial) ?_
 rfl

theorem access_tickErr_ok (N : Nat) (n : Int) (r : Int) (H : access_tickErr N n = some r) : CallOK Tryd.prog 26 [(I n)] (.d (I r)) [] := by
 refine CallOK.of_PW Tryd.func26 rfl (by rw [Tryd.results26]) Tryd.ntmps26 Tryd.call26 ?_
 change PW _ _ _ _ _
 try simp only [go_sem, simprocAttr]
 unfold access_tickErr at H
 refine PW.seq ?_
 refine PW.regionK fun K hK => OW.run [0] ?_
 simp only [go_sem, simprocAttr, sw0]
 refine OW.nil (hK _ ?_)
 refine PW.seq ?_
 obtain ⟨x1, e1, H⟩ := bnd_some H
 obtain ⟨x2, e2, H⟩ := bnd_some H
 refine PW.regionK fun K hK => OW.run [2] ?_
 simp only [go_sem, simprocAttr, sw0]
 refine OW.call' 4 rfl rfl rfl (by first | exact rfl | ((simp only [go_sem, List.toList_toArray, simprocAttr]); exact rfl)) ?_ (access_isTick_ok N _ _ e1) ?_ ?_ ?_ ?_
 rfl
 exact okD_all rfl
 exact .inl rfl
 (simp only [go_sem, Nat.reduceLT])
 refine OW.run [2] ?_
 simp only [go_sem, simprocAttr, sw0]
 refine OW.call' 4 rfl rfl rfl (by first | exact rfl | ((simp only [go_sem, List.toList_toArray, simprocAttr]); exact rfl)) ?_ (access_unless_ok N _ _ _ e2) ?_ ?_ ?_ ?_
 rfl
 exact okD_all rfl
 exact .inl rfl
 (simp only [go_sem, Nat.reduceLT])
 refine OW.run [2] ?_
 simp only [go_sem, simprocAttr, sw0]
 refine OW.nil (hK _ ?_)
 refine PW.ret ?_
 change PW.Ends _ _ _ _ _ _
 refine PW.Ends.intro (.inr rfl) ?_
 simp only [go_sem, simprocAttr, sw0]
 obtain rfl := Option.some.inj H
 refine RetOK.data' 4 (by exact trivial) ?_
 rfl

theorem access_sleep_since_ok (N : Nat) (Z8 : Int) (Zb : Int) (Za : Int) (Z9 : Int) (tick : Int) (r : Int) (H : access_sleep_since N Z8 Zb Za Z9 tick = some r) : CallOK Tryd.prog 43 [(.agg [(I Z8), (I Zb), (I Za), (I Z9)]), (I tick)] (.d (I r)) [] := by
 refine CallOK.of_PW Tryd.func43 rfl (by rw [Tryd.results43]) Tryd.ntmps43 Tryd.call43 ?_
 change PW _ _ _ _ _
 try simp only [go_sem, simprocAttr]
 unfold access_sleep_since at H
 refine PW.seq ?_
 refine PW.regionK fun K hK => OW.run [1, 2] ?_
 simp only [go_sem, simprocAttr, sw0]
 refine OW.nil (hK _ ?_)
 refine PW.seq ?_
 obtain ⟨c1, H⟩ := chk_some H
 obtain ⟨c2, H⟩ := chk_some H
 refine PW.drawK 16 mixed (by kernel_rfl) fun K hK => ?_
 change FW _ _ _ _ _
 refine FW.run ?_
 simp only [go_sem, simprocAttr, sw0]
 repeat (refine And.intro (by omega) ?_)
 refine FW.nil ?_
 change OW _ _ _ _ _ _
 refine OW.run [4] ?_
 simp only [go_sem, simprocAttr, sw0]
 repeat (refine And.intro (by omega) ?_)
 refine OW.nil (hK _ ?_)
 refine PW.ret ?_
 change PW.Ends _ _ _ _ _ _
 refine PW.Ends.intro (.inr rfl) ?_
 simp only [go_sem, simprocAttr, sw0]
 obtain rfl := Option.some.inj H
 refine RetOK.data' 4 (by exact trivial) ?_
 rfl

theorem access_sleep_on_ok (N : Nat) (Z8 : Int) (Zb : Int) (Za : Int) (Z9 : Int) (tick : Int) (r : Bool) (H : access_sleep_on N Z8 Zb Za Z9 tick = some r) : CallOK Tryd.prog 30 [(.agg [(I Z8), (I Zb), (I Za), (I Z9)]), (I tick)] (.d (Bo r)) [] := by
 refine CallOK.of_PW Tryd.func30 rfl (by rw [Tryd.results30]) Tryd.ntmps30 Tryd.call30 ?_
 change PW _ _ _ _ _
 try simp only [go_sem, simprocAttr]
 unfold access_sleep_on at H
 refine PW.seq ?_
 refine PW.regionK fun K hK => OW.run [1, 2] ?_
 simp only [go_sem, simprocAttr, sw0]
 refine OW.nil (hK _ ?_)
 refine PW.seq ?_
 obtain ⟨x1, e1, H⟩ := bnd_some H
 refine PW.drawK 6 mixed (by kernel_rfl) fun K hK => ?_
 change FW _ _ _ _ _
 refine FW.run ?_
 simp only [go_sem, simprocAttr, sw0]
 refine FW.call' 4 rfl rfl rfl (by first | exact rfl | ((simp only [go_sem, List.toList_toArray, simprocAttr]); exact rfl)) ?_ (access_sleep_since_ok N _ _ _ _ _ _ e1) ?_ ?_ ?_ ?_
 rfl
 · (refine okAll_intro ?_; (simp only [go_sem, sw2, List.length_set, List.length_replicate, and_true, true_and, Nat.le_refl, simprocAttr]; done))
 exact .inl rfl
 (simp only [go_sem, Nat.reduceLT])
 refine FW.run ?_
 simp only [go_sem, simprocAttr, sw0]
 repeat (refine And.intro (by omega) ?_)
 refine FW.nil ?_
 change OW _ _ _ _ _ _
 refine OW.run [4] ?_
 simp only [go_sem, simprocAttr, sw0]
 refine OW.nil (hK _ ?_)
 refine PW.ret ?_
 change PW.Ends _ _ _ _ _ _
 refine PW.Ends.intro (.inr rfl) ?_
 simp only [go_sem, simprocAttr, sw0]
 obtain rfl := Option.some.inj H
 refine RetOK.data' 4 (by exact trivial) ?_
 rfl

theorem access_AwakeAt_ok (N : Nat) (Zc : Int) (Zf : Int) (Ze : Int) (Zd : Int) (tick : Int) (last : Int) (r : Bool × Int) (H : access_AwakeAt N Zc Zf Ze Zd tick last = some r) : CallOK Tryd.prog 15 [(.agg [(I Zc), (I Zf), (I Ze), (I Zd)]), (I tick), (I last)] (.d (.tup [(Bo r.1), (I r.2)])) [] := by
 refine CallOK.of_PW Tryd.func15 rfl (by rw [Tryd.results15]) Tryd.ntmps15 Tryd.call15 ?_
 change PW _ _ _ _ _
 try simp only [go_sem, simprocAttr]
 unfold access_AwakeAt at H
 refine PW.seq ?_
 refine PW.regionK fun K hK => OW.run [1, 2, 3] ?_
 simp only [go_sem, simprocAttr, sw0]
 refine OW.nil (hK _ ?_)
 refine PW.seq ?_
 refine PW.seq ?_
 obtain ⟨x1, e1, H⟩ := bnd_some H
 obtain ⟨x2, e2, H⟩ := bnd_some H
 obtain ⟨x3, e3, H⟩ := bnd_some H
 obtain ⟨x4, e4, H⟩ := bnd_some H
 obtain ⟨x5, e5, H⟩ := bnd_some H
 refine PW.regionK fun K hK => OW.run [1, 2, 3, 8] ?_
 simp only [go_sem, simprocAttr, sw0]
 refine OW.call' 4 rfl rfl rfl (by first | exact rfl | ((simp only [go_sem, List.toList_toArray, simprocAttr]); exact rfl)) ?_ (access_CheckSleep_ok N _ _ _ _ _ e1) ?_ ?_ ?_ ?_
 rfl
 · (refine okAll_intro ?_; (simp only [go_sem, sw2, List.length_set, List.length_replicate, and_true, true_and, Nat.le_refl, simprocAttr]; done))
 exact .inl rfl
 (simp only [go_sem, Nat.reduceLT])
 refine OW.run [1, 2, 3, 8] ?_
 simp only [go_sem, simprocAttr, sw0]
 refine OW.call' 4 rfl rfl rfl (by first | exact rfl | ((simp only [go_sem, List.toList_toArray, simprocAttr]); exact rfl)) ?_ (access_tickErr_ok N _ _ e2) ?_ ?_ ?_ ?_
 rfl
 exact okD_all rfl
 exact .inl rfl
 (simp only [go_sem, Nat.reduceLT])
 refine OW.run [1, 2, 3, 8] ?_
 simp only [go_sem, simprocAttr, sw0]
 refine OW.callG' 4 rfl rfl ?_ (fun hg => by first | rfl | (simp only [go_sem, ↓reduceIte]; rfl)) (fun hg => by ((simp only [go_sem, List.toList_toArray, simprocAttr]); exact rfl)) (fun hg => ?_) (fun hg => (access_isTick_ok N _ _ (grd_t hg e3))) ?_ ?_ ?_ ?_
 simp only [go_sem, simprocAttr]
 rfl
 exact okD_all rfl
 exact .inl rfl
 (simp only [go_sem, Nat.reduceLT])
 refine OW.run [1, 2, 3, 8] ?_
 simp only [go_sem, simprocAttr, sw0]
 refine OW.call' 4 rfl rfl rfl (by first | exact rfl | ((simp only [go_sem, List.toList_toArray, simprocAttr]); exact rfl)) ?_ (access_unless_ok N _ _ _ e4) ?_ ?_ ?_ ?_
 rfl
 exact okD_all rfl
 exact .inl rfl
 (simp only [go_sem, Nat.reduceLT])
 refine OW.run [1, 2, 3, 8] ?_
 simp only [go_sem, simprocAttr, sw0]
 refine OW.call' 4 rfl rfl rfl (by first | exact rfl | ((simp only [go_sem, List.toList_toArray, simprocAttr]); exact rfl)) ?_ (access_first_ok N _ _ e5) ?_ ?_ ?_ ?_
 rfl
 · (refine okAll_intro ?_; (simp only [go_sem, sw2, List.length_set, List.length_replicate, and_true, true_and, Nat.le_refl, simprocAttr]; simp only [seg, go_sem, sw2, List.length_set, List.length_replicate, and_true, true_and, Nat.le_refl, simprocAttr]; done))
 exact .inr ⟨rfl, rfl⟩
 (simp only [go_sem, Nat.reduceLT])
 refine OW.run [1, 2, 3, 8] ?_
 simp only [go_sem, simprocAttr, sw0]
 refine OW.nil (hK _ ?_)
 refine PW.seq ?_
 refine PW.regionK fun K hK => OW.run [1, 2, 3, 8, 24] ?_
 simp only [go_sem, simprocAttr, sw0]
 refine OW.nil (hK _ ?_)
 refine PW.cond rfl (fun h1 => ?_) (fun h1 => ?_)
 replace H := br_t h1 H
 refine PW.seq ?_
 refine PW.regionK fun K hK => OW.run [6, 7] ?_
 simp only [go_sem, simprocAttr, sw0]
 refine OW.nil (hK _ ?_)
 refine PW.ret ?_
 change PW.Ends _ _ _ _ _ _
 refine PW.Ends.intro (.inr rfl) ?_
 simp only [go_sem, simprocAttr, sw0]
 obtain rfl := Option.some.inj H
 refine RetOK.data' 4 (by exact okD_all rfl) ?_
 rfl
 replace H := br_f h1 H
 refine PW.skip ?_
 refine PW.seq ?_
 obtain ⟨x6, e6, H⟩ := bnd_some H
 refine PW.regionK fun K hK => OW.run [1, 3, 9] ?_
 simp only [go_sem, simprocAttr, sw0]
 repeat (refine And.intro (by omega) ?_)
 refine OW.callG' 4 rfl rfl ?_ (fun hg => by first | rfl | (simp only [go_sem, ↓reduceIte]; rfl)) (fun hg => by ((simp only [go_sem, List.toList_toArray, simprocAttr]); exact rfl)) (fun hg => ?_) (fun hg => (access_within_ok N _ _ _ _ (grd_t hg e6))) ?_ ?_ ?_ ?_
 simp only [go_sem, simprocAttr]
 rfl
 exact okD_all rfl
 exact .inl rfl
 (simp only [go_sem, Nat.reduceLT])
 refine OW.run [1, 3, 9] ?_
 simp only [go_sem, simprocAttr, sw0]
 refine OW.nil (hK _ ?_)
 refine PW.seq ?_
 obtain ⟨x7, e7, H⟩ := bnd_some H
 refine PW.regionK fun K hK => ?_
 refine OW.step rfl ?_
 simp only [go_sem, simprocAttr, sw0]
 refine OW.step rfl ?_
 simp only [go_sem, simprocAttr, sw0]
 refine OW.opA (g := (!((last != (-1 : Int)) && x6))) rfl ?_ (fun hg => ?_) (by (simp only [go_sem, Nat.reduceLT])) ?_
 simp only [go_sem, simprocAttr]
 · (first | decide | ((simp only [go_sem, simprocAttr, sw0]); done) | ((simp only [go_sem, simprocAttr, sw0]); (repeat (refine And.intro (by (first | omega | assumption | rfl | decide | (simp only [List.length_map, List.length_replicate, List.length_append, List.length_take, List.length_drop, List.length_set, List.length_cons, List.length_nil, Nat.zero_add, Int.toNat_natCast] at *; omega) | (simp only [List.length_map, List.length_replicate, List.length_append, List.length_take, List.length_drop, List.length_set, List.length_cons, List.length_nil, Nat.zero_add, Int.toNat_natCast]; done) | trivial)) ?_)); done) | ((simp only [go_sem, simprocAttr, sw0]); repeat (first | omega | rfl | trivial | refine ⟨?_, ?_⟩)))
 try simp only [go_sem, simprocAttr]
 refine OW.opA (g := (!((last != (-1 : Int)) && x6))) rfl ?_ (fun hg => ?_) (by (simp only [go_sem, Nat.reduceLT])) ?_
 simp only [go_sem, simprocAttr]
 · (first | decide | ((simp only [go_sem, simprocAttr, sw0]); done) | ((simp only [go_sem, simprocAttr, sw0]); (repeat (refine And.intro (by (first | omega | assumption | rfl | decide | (simp only [List.length_map, List.length_replicate, List.length_append, List.length_take, List.length_drop, List.length_set, List.length_cons, List.length_nil, Nat.zero_add, Int.toNat_natCast] at *; omega) | (simp only [List.length_map, List.length_replicate, List.length_append, List.length_take, List.length_drop, List.length_set, List.length_cons, List.length_nil, Nat.zero_add, Int.toNat_natCast]; done) | trivial)) ?_)); done) | ((simp only [go_sem, simprocAttr, sw0]); repeat (first | omega | rfl | trivial | refine ⟨?_, ?_⟩)))
 try simp only [go_sem, simprocAttr]
 refine OW.run [6, 7] ?_
 simp only [go_sem, simprocAttr, sw0]
 refine OW.callG' 4 rfl rfl ?_ (fun hg => by first | rfl | (simp only [go_sem, ↓reduceIte]; rfl)) (fun hg => by ((simp only [go_sem, List.toList_toArray, simprocAttr]); exact rfl)) (fun hg => ?_) (fun hg => (access_sleep_on_ok N _ _ _ _ _ _ (grd_t hg e7))) ?_ ?_ ?_ ?_
 simp only [go_sem, simprocAttr]
 rfl
 · (refine okAll_intro ?_; (simp only [go_sem, sw2, List.length_set, List.length_replicate, and_true, true_and, Nat.le_refl, simprocAttr]; done))
 exact .inl rfl
 (simp only [go_sem, Nat.reduceLT])
 refine OW.run [6, 7] ?_
 simp only [go_sem, simprocAttr, sw0]
 refine OW.nil (hK _ ?_)
 refine PW.ret ?_
 change PW.Ends _ _ _ _ _ _
 refine PW.Ends.intro (.inr rfl) ?_
 simp only [go_sem, simprocAttr, sw0]
 obtain rfl := Option.some.inj H
 refine RetOK.data' 4 (by exact okD_all rfl) ?_
 rfl

theorem access_NextOccasion_ok (N : Nat) (Z2 : Int) (Z3 : Int) (Z4 : Int) (Z5 : Int) (phone : Int) (Z0 : Int) (Z1 : Int) (r : Int × Int × Int) (H : access_NextOccasion N Z2 Z3 Z4 Z5 phone Z0 Z1 = some r) : CallOK Tryd.prog 16 [(.agg [(I Z2), (I Z3), (I Z4), (I Z5)]), (I phone), (.agg [(I Z0), (I Z1)])] (.d (.tup [(.agg [(I r.1), (I r.2.1)]), (I r.2.2)])) [] := by
 refine CallOK.of_PW Tryd.func16 rfl (by rw [Tryd.results16]) Tryd.ntmps16 Tryd.call16 ?_
 change PW _ _ _ _ _
 try simp only [go_sem, simprocAttr]
 unfold access_NextOccasion at H
 refine PW.seq ?_
 refine PW.regionK fun K hK => OW.run [1, 3, 5, 6] ?_
 simp only [go_sem, simprocAttr, sw0]
 refine OW.nil (hK _ ?_)
 refine PW.seq ?_
 refine PW.seq ?_
 obtain ⟨x1, e1, H⟩ := bnd_some H
 obtain ⟨x2, e2, H⟩ := bnd_some H
 obtain ⟨x3, e3, H⟩ := bnd_some H
 refine PW.drawK 5 mixed (by kernel_rfl) fun K hK => ?_
 change FW _ _ _ _ _
 refine FW.run ?_
 simp only [go_sem, simprocAttr, sw0]
 refine FW.call' 4 rfl rfl rfl (by first | exact rfl | ((simp only [go_sem, List.toList_toArray, simprocAttr]); exact rfl)) ?_ (access_pagingErr_ok N _ _ _ _ _ _ e1) ?_ ?_ ?_ ?_
 rfl
 · (refine okAll_intro ?_; (simp only [go_sem, sw2, List.length_set, List.length_replicate, and_true, true_and, Nat.le_refl, simprocAttr]; done))
 exact .inl rfl
 (simp only [go_sem, Nat.reduceLT])
 refine FW.run ?_
 simp only [go_sem, simprocAttr, sw0]
 refine FW.nil ?_
 change OW _ _ _ _ _ _
 refine OW.run [1, 3, 5, 6, 8] ?_
 simp only [go_sem, simprocAttr, sw0]
 refine OW.call' 4 rfl rfl rfl (by first | exact rfl | ((simp only [go_sem, List.toList_toArray, simprocAttr]); exact rfl)) ?_ (access_occasionErr_ok N _ _ _ e2) ?_ ?_ ?_ ?_
 rfl
 · (refine okAll_intro ?_; (simp only [go_sem, sw2, List.length_set, List.length_replicate, and_true, true_and, Nat.le_refl, simprocAttr]; done))
 exact .inl rfl
 (simp only [go_sem, Nat.reduceLT])
 refine OW.run [1, 3, 5, 6, 8] ?_
 simp only [go_sem, simprocAttr, sw0]
 refine OW.call' 4 rfl rfl rfl (by first | exact rfl | ((simp only [go_sem, List.toList_toArray, simprocAttr]); exact rfl)) ?_ (access_first_ok N _ _ e3) ?_ ?_ ?_ ?_
 rfl
 · (refine okAll_intro ?_; (simp only [go_sem, sw2, List.length_set, List.length_replicate, and_true, true_and, Nat.le_refl, simprocAttr]; simp only [seg, go_sem, sw2, List.length_set, List.length_replicate, and_true, true_and, Nat.le_refl, simprocAttr]; done))
 exact .inr ⟨rfl, rfl⟩
 (simp only [go_sem, Nat.reduceLT])
 refine OW.run [1, 3, 5, 6, 8] ?_
 simp only [go_sem, simprocAttr, sw0]
 refine OW.nil (hK _ ?_)
 refine PW.seq ?_
 refine PW.regionK fun K hK => OW.run [1, 3, 5, 6, 8, 20] ?_
 simp only [go_sem, simprocAttr, sw0]
 refine OW.nil (hK _ ?_)
 refine PW.cond rfl (fun h1 => ?_) (fun h1 => ?_)
 replace H := br_t h1 H
 refine PW.seq ?_
 refine PW.regionK fun K hK => OW.run [6, 7] ?_
 simp only [go_sem, simprocAttr, sw0]
 refine OW.nil (hK _ ?_)
 refine PW.ret ?_
 change PW.Ends _ _ _ _ _ _
 refine PW.Ends.intro (.inr rfl) ?_
 simp only [go_sem, simprocAttr, sw0]
 obtain rfl := Option.some.inj H
 refine RetOK.data' 4 (by (refine okAll_intro ?_; (simp only [go_sem, sw2, List.length_set, List.length_replicate, and_true, true_and, Nat.le_refl, simprocAttr]; done))) ?_
 rfl
 replace H := br_f h1 H
 refine PW.skip ?_
 refine PW.seq ?_
 obtain ⟨⟨x4, x41⟩, e4, H⟩ := bnd_some H
 refine PW.regionK fun K hK => OW.run [3, 5, 6, 9] ?_
 simp only [go_sem, simprocAttr, sw0]
 refine OW.call' 4 rfl rfl rfl (by first | exact rfl | ((simp only [go_sem, List.toList_toArray, simprocAttr]); exact rfl)) ?_ (access_occasion_ok N _ _ _ _ _ _ e4) ?_ ?_ ?_ ?_
 rfl
 · (refine okAll_intro ?_; (simp only [go_sem, sw2, List.length_set, List.length_replicate, and_true, true_and, Nat.le_refl, simprocAttr]; done))
 exact .inl rfl
 (simp only [go_sem, Nat.reduceLT])
 refine OW.run [3, 5, 6, 9] ?_
 simp only [go_sem, simprocAttr, sw0]
 refine OW.nil (hK _ ?_)
 refine PW.seq ?_
 refine PW.regionK fun K hK => OW.run [3, 5, 6, 9, 10] ?_
 simp only [go_sem, simprocAttr, sw0]
 repeat (refine And.intro (by omega) ?_)
 refine OW.nil (hK _ ?_)
 refine PW.seq ?_
 refine PW.seq ?_
 refine PW.regionK fun K hK => OW.run [3, 6, 9, 10, 32] ?_
 simp only [go_sem, simprocAttr, sw0]
 repeat (refine And.intro (by omega) ?_)
 refine OW.nil (hK _ ?_)
 refine PW.cond rfl (fun h2 => ?_) (fun h2 => ?_)
 replace H := br_t h2 H
 refine PW.regionK fun K hK => OW.run [3, 6, 9, 10] ?_
 simp only [go_sem, simprocAttr, sw0]
 refine OW.nil (hK _ ?_)
 refine PW.seq ?_
 obtain ⟨c3, H⟩ := chk_some H
 obtain ⟨c4, H⟩ := chk_some H
 refine PW.drawK 14 mixed (by kernel_rfl) fun K hK => ?_
 change FW _ _ _ _ _
 refine FW.run ?_
 simp only [go_sem, simprocAttr, sw0]
 repeat (refine And.intro (by omega) ?_)
 refine FW.nil ?_
 change OW _ _ _ _ _ _
 refine OW.run [6, 9, 10] ?_
 simp only [go_sem, simprocAttr, sw0]
 refine OW.nil (hK _ ?_)
 refine PW.seq ?_
 refine PW.regionK fun K hK => OW.run [6, 7] ?_
 simp only [go_sem, simprocAttr, sw0]
 repeat (refine And.intro (by omega) ?_)
 refine OW.nil (hK _ ?_)
 refine PW.ret ?_
 change PW.Ends _ _ _ _ _ _
 refine PW.Ends.intro (.inr rfl) ?_
 simp only [go_sem, simprocAttr, sw0]
 obtain rfl := Option.some.inj H
 refine RetOK.data' 4 (by (refine okAll_intro ?_; (simp only [go_sem, sw2, List.length_set, List.length_replicate, and_true, true_and, Nat.le_refl, simprocAttr]; done))) ?_
 rfl
 replace H := br_f h2 H
 refine PW.skip ?_
 refine PW.seq ?_
 obtain ⟨c5, H⟩ := chk_some H
 obtain ⟨c6, H⟩ := chk_some H
 refine PW.drawK 14 mixed (by kernel_rfl) fun K hK => ?_
 change FW _ _ _ _ _
 refine FW.run ?_
 simp only [go_sem, simprocAttr, sw0]
 repeat (refine And.intro (by omega) ?_)
 refine FW.nil ?_
 change OW _ _ _ _ _ _
 refine OW.run [6, 9, 10] ?_
 simp only [go_sem, simprocAttr, sw0]
 refine OW.nil (hK _ ?_)
 refine PW.seq ?_
 refine PW.regionK fun K hK => OW.run [6, 7] ?_
 simp only [go_sem, simprocAttr, sw0]
 repeat (refine And.intro (by omega) ?_)
 refine OW.nil (hK _ ?_)
 refine PW.ret ?_
 change PW.Ends _ _ _ _ _ _
 refine PW.Ends.intro (.inr rfl) ?_
 simp only [go_sem, simprocAttr, sw0]
 obtain rfl := Option.some.inj H
 refine RetOK.data' 4 (by (refine okAll_intro ?_; (simp only [go_sem, sw2, List.length_set, List.length_replicate, and_true, true_and, Nat.le_refl, simprocAttr]; done))) ?_
 rfl

theorem access_ticksErr_ok (N : Nat) (Z7 : Int) (Z6 : Int) (r : Int) (H : access_ticksErr N Z7 Z6 = some r) : CallOK Tryd.prog 31 [(.agg [(I Z7), (I Z6)])] (.d (I r)) [] := by
 refine CallOK.of_PW Tryd.func31 rfl (by rw [Tryd.results31]) Tryd.ntmps31 Tryd.call31 ?_
 change PW _ _ _ _ _
 try simp only [go_sem, simprocAttr]
 unfold access_ticksErr at H
 refine PW.seq ?_
 refine PW.regionK fun K hK => OW.run [1] ?_
 simp only [go_sem, simprocAttr, sw0]
 refine OW.nil (hK _ ?_)
 refine PW.seq ?_
 obtain ⟨x1, e1, H⟩ := bnd_some H
 obtain ⟨x2, e2, H⟩ := bnd_some H
 obtain ⟨x3, e3, H⟩ := bnd_some H
 obtain ⟨x4, e4, H⟩ := bnd_some H
 refine PW.drawK 11 mixed (by kernel_rfl) fun K hK => ?_
 change FW _ _ _ _ _
 refine FW.run ?_
 simp only [go_sem, simprocAttr, sw0]
 repeat (refine And.intro (by omega) ?_)
 refine FW.call' 4 rfl rfl rfl (by first | exact rfl | ((simp only [go_sem, List.toList_toArray, simprocAttr]); exact rfl)) ?_ (access_tickErr_ok N _ _ e1) ?_ ?_ ?_ ?_
 rfl
 exact okD_all rfl
 exact .inl rfl
 (simp only [go_sem, Nat.reduceLT])
 refine FW.run ?_
 simp only [go_sem, simprocAttr, sw0]
 repeat (refine And.intro (by omega) ?_)
 refine FW.call' 4 rfl rfl rfl (by first | exact rfl | ((simp only [go_sem, List.toList_toArray, simprocAttr]); exact rfl)) ?_ (access_tickErr_ok N _ _ e2) ?_ ?_ ?_ ?_
 rfl
 exact okD_all rfl
 exact .inl rfl
 (simp only [go_sem, Nat.reduceLT])
 refine FW.run ?_
 simp only [go_sem, simprocAttr, sw0]
 repeat (refine And.intro (by omega) ?_)
 refine FW.nil ?_
 change OW _ _ _ _ _ _
 refine OW.run [2] ?_
 simp only [go_sem, simprocAttr, sw0]
 refine OW.call' 4 rfl rfl rfl (by first | exact rfl | ((simp only [go_sem, List.toList_toArray, simprocAttr]); exact rfl)) ?_ (access_unless_ok N _ _ _ e3) ?_ ?_ ?_ ?_
 rfl
 exact okD_all rfl
 exact .inl rfl
 (simp only [go_sem, Nat.reduceLT])
 refine OW.run [2] ?_
 simp only [go_sem, simprocAttr, sw0]
 refine OW.call' 4 rfl rfl rfl (by first | exact rfl | ((simp only [go_sem, List.toList_toArray, simprocAttr]); exact rfl)) ?_ (access_first_ok N _ _ e4) ?_ ?_ ?_ ?_
 rfl
 · (refine okAll_intro ?_; (simp only [go_sem, sw2, List.length_set, List.length_replicate, and_true, true_and, Nat.le_refl, simprocAttr]; simp only [seg, go_sem, sw2, List.length_set, List.length_replicate, and_true, true_and, Nat.le_refl, simprocAttr]; done))
 exact .inr ⟨rfl, rfl⟩
 (simp only [go_sem, Nat.reduceLT])
 refine OW.run [2] ?_
 simp only [go_sem, simprocAttr, sw0]
 refine OW.nil (hK _ ?_)
 refine PW.ret ?_
 change PW.Ends _ _ _ _ _ _
 refine PW.Ends.intro (.inr rfl) ?_
 simp only [go_sem, simprocAttr, sw0]
 obtain rfl := Option.some.inj H
 refine RetOK.data' 4 (by exact trivial) ?_
 rfl

theorem access_sleep_before_ok (N : Nat) (Z8 : Int) (Zb : Int) (Za : Int) (Z9 : Int) (tick : Int) (r : Int) (H : access_sleep_before N Z8 Zb Za Z9 tick = some r) : CallOK Tryd.prog 44 [(.agg [(I Z8), (I Zb), (I Za), (I Z9)]), (I tick)] (.d (I r)) [] := by
 refine CallOK.of_PW Tryd.func44 rfl (by rw [Tryd.results44]) Tryd.ntmps44 Tryd.call44 ?_
 change PW _ _ _ _ _
 try simp only [go_sem, simprocAttr]
 unfold access_sleep_before at H
 refine PW.seq ?_
 refine PW.regionK fun K hK => OW.run [1, 2] ?_
 simp only [go_sem, simprocAttr, sw0]
 refine OW.nil (hK _ ?_)
 refine PW.seq ?_
 obtain ⟨c1, H⟩ := chk_some H
 refine PW.drawK 8 mixed (by kernel_rfl) fun K hK => ?_
 change FW _ _ _ _ _
 refine FW.run ?_
 simp only [go_sem, simprocAttr, sw0]
 repeat (refine And.intro (by omega) ?_)
 refine FW.nil ?_
 change OW _ _ _ _ _ _
 refine OW.run [1, 2, 5] ?_
 simp only [go_sem, simprocAttr, sw0]
 refine OW.nil (hK _ ?_)
 refine PW.joinS (τ := Int) [5] 0 (fun n => [(5, .d (I n))]) (fun n => []) _ _ r (by exact Nat.le_refl _) H ?_ ?_
 intro K_ H N2 hN2
 refine PW.seq ?_
 obtain ⟨c3, H⟩ := chk_some H
 refine PW.regionK fun K hK => OW.run [2, 5, 20, 21] ?_
 simp only [go_sem, simprocAttr, sw0]
 repeat (refine And.intro (by omega) ?_)
 refine OW.nil (hK _ ?_)
 refine PW.block ?_
 refine PW.loopS (σ := Int × Int) [2, 5, 20, 21] 1 (fun (n1, t21) => [(5, .d (I n1)), (21, .d (I t21))]) (fun (n1, t21) => [{ cells := [.d (I Z8), .d (I Zb), .d (I Za), .d (I Z9)], e := 75 }]) (access_sleep_before.b1 N Z8 Zb Za Z9 tick K_) r N (w64 ((w64 (tick.tdiv Z8)) * Za), (0 : Int)) (by exact Nat.zero_le _) H (by (simp only [sw1, go_sem, simprocAttr]; done)) ?_
 rintro n ⟨n1, t21⟩ H N4 hN4
 unfold access_sleep_before.b1 at H
 try simp only [go_sem, simprocAttr]
 refine PW.seq ?_
 refine PW.regionK fun K hK => OW.run [2, 5, 20, 21, 22] ?_
 simp only [go_sem, simprocAttr, sw0]
 refine OW.nil (hK _ ?_)
 refine PW.seq ?_
 refine PW.cond rfl (fun h5 => ?_) (fun h5 => ?_)
 replace H := br_t h5 H
 refine PW.skip ?_
 refine PW.seq ?_
 refine PW.block ?_
 refine PW.seq ?_
 refine PW.regionK fun K hK => OW.run [2, 5, 6, 20, 21] ?_
 simp only [go_sem, simprocAttr, sw0]
 refine OW.nil (hK _ ?_)
 refine PW.seq ?_
 obtain ⟨x1, e1, H⟩ := bnd_some H
 refine PW.regionK fun K hK => OW.run [2, 5, 20, 21, 26] ?_
 simp only [go_sem, simprocAttr, sw0]
 refine OW.call' 4 rfl rfl rfl (by first | exact rfl | ((simp only [go_sem, List.toList_toArray, simprocAttr]); exact rfl)) ?_ (access_sleep_on_ok N _ _ _ _ _ _ e1) ?_ ?_ ?_ ?_
 rfl
 · (refine okAll_intro ?_; (simp only [go_sem, sw2, List.length_set, List.length_replicate, and_true, true_and, Nat.le_refl, simprocAttr]; done))
 exact .inl rfl
 (simp only [go_sem, Nat.reduceLT])
 refine OW.run [2, 5, 20, 21, 26] ?_
 simp only [go_sem, simprocAttr, sw0]
 refine OW.nil (hK _ ?_)
 refine PW.cond rfl (fun h6 => ?_) (fun h6 => ?_)
 replace H := br_t h6 H
 refine PW.regionK fun K hK => OW.run [2, 5, 20, 21] ?_
 simp only [go_sem, simprocAttr, sw0]
 refine OW.nil (hK _ ?_)
 refine PW.regionK fun K hK => OW.run [2, 5, 20, 21] ?_
 simp only [go_sem, simprocAttr, sw0]
 refine OW.nil (hK _ ?_)
 refine hN4 [] (w64 (n1 + (1 : Int)), w64 (t21 + (1 : Int))) _ H (by exact trivial) ?_
 simp only [sw1, go_sem, simprocAttr]
 replace H := br_f h6 H
 refine PW.skip ?_
 refine PW.regionK fun K hK => OW.run [2, 5, 20, 21] ?_
 simp only [go_sem, simprocAttr, sw0]
 refine OW.nil (hK _ ?_)
 refine hN4 [] (n1, w64 (t21 + (1 : Int))) _ H (by exact trivial) ?_
 simp only [sw1, go_sem, simprocAttr]
 replace H := br_f h5 H
 refine PW.exit ?_
 refine hN2 [] n1 _ H (by exact trivial) ?_
 simp only [sw1, go_sem, simprocAttr]
 rintro n H
 try simp only [go_sem, simprocAttr]
 refine PW.seq ?_
 refine PW.regionK fun K hK => OW.run [4] ?_
 simp only [go_sem, simprocAttr, sw0]
 refine OW.nil (hK _ ?_)
 refine PW.ret ?_
 change PW.Ends _ _ _ _ _ _
 refine PW.Ends.intro (.inr rfl) ?_
 simp only [go_sem, simprocAttr, sw0]
 obtain rfl := Option.some.inj H
 refine RetOK.data' 4 (by exact trivial) ?_
 rfl

theorem access_sleep_awakeIn_ok (N : Nat) (Z8 : Int) (Zb : Int) (Za : Int) (Z9 : Int) (Z7 : Int) (Z6 : Int) (r : Int) (H : access_sleep_awakeIn N Z8 Zb Za Z9 Z7 Z6 = some r) : CallOK Tryd.prog 32 [(.agg [(I Z8), (I Zb), (I Za), (I Z9)]), (.agg [(I Z7), (I Z6)])] (.d (I r)) [] := by
 refine CallOK.of_PW Tryd.func32 rfl (by rw [Tryd.results32]) Tryd.ntmps32 Tryd.call32 ?_
 change PW _ _ _ _ _
 try simp only [go_sem, simprocAttr]
 unfold access_sleep_awakeIn at H
 refine PW.seq ?_
 refine PW.regionK fun K hK => OW.run [2, 3] ?_
 simp only [go_sem, simprocAttr, sw0]
 refine OW.nil (hK _ ?_)
 refine PW.seq ?_
 obtain ⟨x1, e1, H⟩ := bnd_some H
 obtain ⟨x2, e2, H⟩ := bnd_some H
 refine PW.drawK 8 mixed (by kernel_rfl) fun K hK => ?_
 change FW _ _ _ _ _
 refine FW.run ?_
 simp only [go_sem, simprocAttr, sw0]
 repeat (refine And.intro (by omega) ?_)
 refine FW.call' 4 rfl rfl rfl (by first | exact rfl | ((simp only [go_sem, List.toList_toArray, simprocAttr]); exact rfl)) ?_ (access_sleep_before_ok N _ _ _ _ _ _ e1) ?_ ?_ ?_ ?_
 rfl
 · (refine okAll_intro ?_; (simp only [go_sem, sw2, List.length_set, List.length_replicate, and_true, true_and, Nat.le_refl, simprocAttr]; done))
 exact .inl rfl
 (simp only [go_sem, Nat.reduceLT])
 refine FW.run ?_
 simp only [go_sem, simprocAttr, sw0]
 repeat (refine And.intro (by omega) ?_)
 refine FW.nil ?_
 change OW _ _ _ _ _ _
 refine OW.run [4] ?_
 simp only [go_sem, simprocAttr, sw0]
 refine OW.call' 4 rfl rfl rfl (by first | exact rfl | ((simp only [go_sem, List.toList_toArray, simprocAttr]); exact rfl)) ?_ (access_sleep_before_ok N _ _ _ _ _ _ e2) ?_ ?_ ?_ ?_
 rfl
 · (refine okAll_intro ?_; (simp only [go_sem, sw2, List.length_set, List.length_replicate, and_true, true_and, Nat.le_refl, simprocAttr]; done))
 exact .inl rfl
 (simp only [go_sem, Nat.reduceLT])
 refine OW.run [4] ?_
 simp only [go_sem, simprocAttr, sw0]
 refine OW.nil (hK _ ?_)
 refine PW.ret ?_
 change PW.Ends _ _ _ _ _ _
 refine PW.Ends.intro (.inr rfl) ?_
 simp only [go_sem, simprocAttr, sw0]
 obtain rfl := Option.some.inj H
 refine RetOK.data' 4 (by exact trivial) ?_
 rfl

theorem access_AwakeIn_ok (N : Nat) (Zc : Int) (Zf : Int) (Ze : Int) (Zd : Int) (Zh : Int) (Zg : Int) (r : Int × Int) (H : access_AwakeIn N Zc Zf Ze Zd Zh Zg = some r) : CallOK Tryd.prog 17 [(.agg [(I Zc), (I Zf), (I Ze), (I Zd)]), (.agg [(I Zh), (I Zg)])] (.d (.tup [(I r.1), (I r.2)])) [] := by
 refine CallOK.of_PW Tryd.func17 rfl (by rw [Tryd.results17]) Tryd.ntmps17 Tryd.call17 ?_
 change PW _ _ _ _ _
 try simp only [go_sem, simprocAttr]
 unfold access_AwakeIn at H
 refine PW.seq ?_
 refine PW.regionK fun K hK => OW.run [2, 3] ?_
 simp only [go_sem, simprocAttr, sw0]
 refine OW.nil (hK _ ?_)
 refine PW.seq ?_
 refine PW.seq ?_
 obtain ⟨x1, e1, H⟩ := bnd_some H
 obtain ⟨x2, e2, H⟩ := bnd_some H
 obtain ⟨x3, e3, H⟩ := bnd_some H
 refine PW.drawK 3 mixed (by kernel_rfl) fun K hK => ?_
 change FW _ _ _ _ _
 refine FW.run ?_
 simp only [go_sem, simprocAttr, sw0]
 refine FW.call' 4 rfl rfl rfl (by first | exact rfl | ((simp only [go_sem, List.toList_toArray, simprocAttr]); exact rfl)) ?_ (access_CheckSleep_ok N _ _ _ _ _ e1) ?_ ?_ ?_ ?_
 rfl
 · (refine okAll_intro ?_; (simp only [go_sem, sw2, List.length_set, List.length_replicate, and_true, true_and, Nat.le_refl, simprocAttr]; done))
 exact .inl rfl
 (simp only [go_sem, Nat.reduceLT])
 refine FW.run ?_
 simp only [go_sem, simprocAttr, sw0]
 refine FW.nil ?_
 change OW _ _ _ _ _ _
 refine OW.run [2, 3, 6] ?_
 simp only [go_sem, simprocAttr, sw0]
 refine OW.call' 4 rfl rfl rfl (by first | exact rfl | ((simp only [go_sem, List.toList_toArray, simprocAttr]); exact rfl)) ?_ (access_ticksErr_ok N _ _ _ e2) ?_ ?_ ?_ ?_
 rfl
 · (refine okAll_intro ?_; (simp only [go_sem, sw2, List.length_set, List.length_replicate, and_true, true_and, Nat.le_refl, simprocAttr]; done))
 exact .inl rfl
 (simp only [go_sem, Nat.reduceLT])
 refine OW.run [2, 3, 6] ?_
 simp only [go_sem, simprocAttr, sw0]
 refine OW.call' 4 rfl rfl rfl (by first | exact rfl | ((simp only [go_sem, List.toList_toArray, simprocAttr]); exact rfl)) ?_ (access_first_ok N _ _ e3) ?_ ?_ ?_ ?_
 rfl
 · (refine okAll_intro ?_; (simp only [go_sem, sw2, List.length_set, List.length_replicate, and_true, true_and, Nat.le_refl, simprocAttr]; simp only [seg, go_sem, sw2, List.length_set, List.length_replicate, and_true, true_and, Nat.le_refl, simprocAttr]; done))
 exact .inr ⟨rfl, rfl⟩
 (simp only [go_sem, Nat.reduceLT])
 refine OW.run [2, 3, 6] ?_
 simp only [go_sem, simprocAttr, sw0]
 refine OW.nil (hK _ ?_)
 refine PW.seq ?_
 refine PW.regionK fun K hK => OW.run [2, 3, 6, 14] ?_
 simp only [go_sem, simprocAttr, sw0]
 refine OW.nil (hK _ ?_)
 refine PW.cond rfl (fun h1 => ?_) (fun h1 => ?_)
 replace H := br_t h1 H
 refine PW.seq ?_
 refine PW.regionK fun K hK => OW.run [4, 5] ?_
 simp only [go_sem, simprocAttr, sw0]
 refine OW.nil (hK _ ?_)
 refine PW.ret ?_
 change PW.Ends _ _ _ _ _ _
 refine PW.Ends.intro (.inr rfl) ?_
 simp only [go_sem, simprocAttr, sw0]
 obtain rfl := Option.some.inj H
 refine RetOK.data' 4 (by exact okD_all rfl) ?_
 rfl
 replace H := br_f h1 H
 refine PW.skip ?_
 refine PW.seq ?_
 obtain ⟨x4, e4, H⟩ := bnd_some H
 refine PW.regionK fun K hK => OW.run [4, 5] ?_
 simp only [go_sem, simprocAttr, sw0]
 refine OW.call' 4 rfl rfl rfl (by first | exact rfl | ((simp only [go_sem, List.toList_toArray, simprocAttr]); exact rfl)) ?_ (access_sleep_awakeIn_ok N _ _ _ _ _ _ _ e4) ?_ ?_ ?_ ?_
 rfl
 · (refine okAll_intro ?_; (simp only [go_sem, sw2, List.length_set, List.length_replicate, and_true, true_and, Nat.le_refl, simprocAttr]; done))
 exact .inl rfl
 (simp only [go_sem, Nat.reduceLT])
 refine OW.run [4, 5] ?_
 simp only [go_sem, simprocAttr, sw0]
 refine OW.nil (hK _ ?_)
 refine PW.ret ?_
 change PW.Ends _ _ _ _ _ _
 refine PW.Ends.intro (.inr rfl) ?_
 simp only [go_sem, simprocAttr, sw0]
 obtain rfl := Option.some.inj H
 refine RetOK.data' 4 (by exact okD_all rfl) ?_
 rfl

theorem access_EnergyOf_1_ok (N : Nat) (n : Int) (r : Bool) (H : access_EnergyOf_1 N n = some r) : CallOK Tryd.prog 33 [(I n)] (.d (Bo r)) [] := by
 refine CallOK.of_PW Tryd.func33 rfl (by rw [Tryd.results33]) Tryd.ntmps33 Tryd.call33 ?_
 change PW _ _ _ _ _
 try simp only [go_sem, simprocAttr]
 unfold access_EnergyOf_1 at H
 refine PW.seq ?_
 refine PW.regionK fun K hK => OW.run [0] ?_
 simp only [go_sem, simprocAttr, sw0]
 refine OW.nil (hK _ ?_)
 refine PW.seq ?_
 obtain ⟨x1, e1, H⟩ := bnd_some H
 refine PW.regionK fun K hK => OW.run [2] ?_
 simp only [go_sem, simprocAttr, sw0]
 refine OW.call' 4 rfl rfl rfl (by first | exact rfl | ((simp only [go_sem, List.toList_toArray, simprocAttr]); exact rfl)) ?_ (access_within_ok N _ _ _ _ e1) ?_ ?_ ?_ ?_
 rfl
 exact okD_all rfl
 exact .inl rfl
 (simp only [go_sem, Nat.reduceLT])
 refine OW.run [2] ?_
 simp only [go_sem, simprocAttr, sw0]
 refine OW.nil (hK _ ?_)
 refine PW.ret ?_
 change PW.Ends _ _ _ _ _ _
 refine PW.Ends.intro (.inr rfl) ?_
 simp only [go_sem, simprocAttr, sw0]
 obtain rfl := Option.some.inj H
 refine RetOK.data' 4 (by exact trivial) ?_
 rfl

theorem access_sleep_wakes_ok (N : Nat) (Z8 : Int) (Zb : Int) (Za : Int) (Z9 : Int) (Z7 : Int) (Z6 : Int) (r : Int) (H : access_sleep_wakes N Z8 Zb Za Z9 Z7 Z6 = some r) : CallOK Tryd.prog 34 [(.agg [(I Z8), (I Zb), (I Za), (I Z9)]), (.agg [(I Z7), (I Z6)])] (.d (I r)) [] := by
 refine CallOK.of_PW Tryd.func34 rfl (by rw [Tryd.results34]) Tryd.ntmps34 Tryd.call34 ?_
 change PW _ _ _ _ _
 try simp only [go_sem, simprocAttr]
 unfold access_sleep_wakes at H
 refine PW.seq ?_
 refine PW.regionK fun K hK => OW.run [2, 3] ?_
 simp only [go_sem, simprocAttr, sw0]
 refine OW.nil (hK _ ?_)
 refine PW.seq ?_
 refine PW.regionK fun K hK => OW.run [2, 3, 5] ?_
 simp only [go_sem, simprocAttr, sw0]
 refine OW.nil (hK _ ?_)
 refine PW.joinS (τ := Int) [2, 3, 5] 2 (fun n => [(5, .d (I n))]) (fun n => [{ cells := [.d (I Z8), .d (I Zb), .d (I Za), .d (I Z9)], e := 75 }, { cells := [.d (I Z7), .d (I Z6)], e := 49 }]) _ _ r (by exact Nat.zero_le _) H ?_ ?_
 intro K_ H N1 hN1
 refine PW.seq ?_
 obtain ⟨x1, e1, H⟩ := bnd_some H
 refine PW.regionK fun K hK => OW.run [2, 3, 5, 10] ?_
 simp only [go_sem, simprocAttr, sw0]
 repeat (refine And.intro (by omega) ?_)
 refine OW.call' 4 rfl rfl rfl (by first | exact rfl | ((simp only [go_sem, List.toList_toArray, simprocAttr]); exact rfl)) ?_ (access_sleep_on_ok N _ _ _ _ _ _ e1) ?_ ?_ ?_ ?_
 rfl
 · (refine okAll_intro ?_; (simp only [go_sem, sw2, List.length_set, List.length_replicate, and_true, true_and, Nat.le_refl, simprocAttr]; done))
 exact .inl rfl
 (simp only [go_sem, Nat.reduceLT])
 refine OW.run [2, 3, 5, 10] ?_
 simp only [go_sem, simprocAttr, sw0]
 refine OW.nil (hK _ ?_)
 refine PW.cond rfl (fun h2 => ?_) (fun h2 => ?_)
 replace H := br_t h2 H
 refine PW.regionK fun K hK => OW.run [2, 3, 5] ?_
 simp only [go_sem, simprocAttr, sw0]
 refine OW.nil (hK _ ?_)
 refine hN1 [] (1 : Int) _ H (by exact trivial) ?_
 simp only [sw1, go_sem, simprocAttr]
 replace H := br_f h2 H
 refine PW.skip ?_
 refine hN1 [] (0 : Int) _ H (by exact trivial) ?_
 simp only [sw1, go_sem, simprocAttr]
 rintro n H
 try simp only [go_sem, simprocAttr]
 refine PW.seq ?_
 refine PW.seq ?_
 refine PW.regionK fun K hK => OW.run [2, 3, 5, 17] ?_
 simp only [go_sem, simprocAttr, sw0]
 repeat (refine And.intro (by omega) ?_)
 refine OW.nil (hK _ ?_)
 refine PW.cond rfl (fun h3 => ?_) (fun h3 => ?_)
 replace H := br_t h3 H
 refine PW.seq ?_
 refine PW.regionK fun K hK => OW.run [4] ?_
 simp only [go_sem, simprocAttr, sw0]
 refine OW.nil (hK _ ?_)
 refine PW.ret ?_
 change PW.Ends _ _ _ _ _ _
 refine PW.Ends.intro (.inr rfl) ?_
 simp only [go_sem, simprocAttr, sw0]
 obtain rfl := Option.some.inj H
 refine RetOK.data' 4 (by exact trivial) ?_
 rfl
 replace H := br_f h3 H
 refine PW.skip ?_
 refine PW.seq ?_
 obtain ⟨x2, e2, H⟩ := bnd_some H
 refine PW.drawK 10 mixed (by kernel_rfl) fun K hK => ?_
 change FW _ _ _ _ _
 refine FW.run ?_
 simp only [go_sem, simprocAttr, sw0]
 repeat (refine And.intro (by omega) ?_)
 refine FW.call' 4 rfl rfl rfl (by first | exact rfl | ((simp only [go_sem, List.toList_toArray, simprocAttr]); exact rfl)) ?_ (access_sleep_since_ok N _ _ _ _ _ _ e2) ?_ ?_ ?_ ?_
 rfl
 · (refine okAll_intro ?_; (simp only [go_sem, sw2, List.length_set, List.length_replicate, and_true, true_and, Nat.le_refl, simprocAttr]; done))
 exact .inl rfl
 (simp only [go_sem, Nat.reduceLT])
 refine FW.run ?_
 simp only [go_sem, simprocAttr, sw0]
 refine FW.nil ?_
 change OW _ _ _ _ _ _
 refine OW.run [2, 3, 5, 6] ?_
 simp only [go_sem, simprocAttr, sw0]
 refine OW.nil (hK _ ?_)
 refine PW.seq ?_
 refine PW.seq ?_
 refine PW.regionK fun K hK => OW.run [2, 3, 5, 6, 33] ?_
 simp only [go_sem, simprocAttr, sw0]
 repeat (refine And.intro (by omega) ?_)
 refine OW.nil (hK _ ?_)
 refine PW.cond rfl (fun h4 => ?_) (fun h4 => ?_)
 replace H := br_t h4 H
 obtain ⟨c5, H⟩ := chk_some H
 refine PW.regionK fun K hK => OW.run [5] ?_
 simp only [go_sem, simprocAttr, sw0]
 repeat (refine And.intro (by omega) ?_)
 refine OW.nil (hK _ ?_)
 refine PW.seq ?_
 refine PW.regionK fun K hK => OW.run [4] ?_
 simp only [go_sem, simprocAttr, sw0]
 refine OW.nil (hK _ ?_)
 refine PW.ret ?_
 change PW.Ends _ _ _ _ _ _
 refine PW.Ends.intro (.inr rfl) ?_
 simp only [go_sem, simprocAttr, sw0]
 obtain rfl := Option.some.inj H
 refine RetOK.data' 4 (by exact trivial) ?_
 rfl
 replace H := br_f h4 H
 refine PW.skip ?_
 refine PW.seq ?_
 refine PW.regionK fun K hK => OW.run [4] ?_
 simp only [go_sem, simprocAttr, sw0]
 refine OW.nil (hK _ ?_)
 refine PW.ret ?_
 change PW.Ends _ _ _ _ _ _
 refine PW.Ends.intro (.inr rfl) ?_
 simp only [go_sem, simprocAttr, sw0]
 obtain rfl := Option.some.inj H
 refine RetOK.data' 4 (by exact trivial) ?_
 rfl

theorem access_EnergyOf_ok (N : Nat) (Zc : Int) (Zf : Int) (Ze : Int) (Zd : Int) (Zh : Int) (Zg : Int) (Zj : Int) (Zi : Int) (Zm : Int) (r : Int × Int) (H : access_EnergyOf N Zc Zf Ze Zd Zh Zg Zj Zi Zm = some r) : CallOK Tryd.prog 18 [(.agg [(I Zc), (I Zf), (I Ze), (I Zd)]), (.agg [(I Zh), (I Zg)]), (.agg [(I Zj), (I Zi), (I Zm)])] (.d (.tup [(I r.1), (I r.2)])) [] := by
 refine CallOK.of_PW Tryd.func18 rfl (by rw [Tryd.results18]) Tryd.ntmps18 Tryd.call18 ?_
 change PW _ _ _ _ _
 try simp only [go_sem, simprocAttr]
 unfold access_EnergyOf at H
 refine PW.seq ?_
 refine PW.regionK fun K hK => OW.run [3, 4, 5] ?_
 simp only [go_sem, simprocAttr, sw0]
 refine OW.nil (hK _ ?_)
 refine PW.seq ?_
 refine PW.regionK fun K hK => OW.run [3, 4, 5, 8] ?_
 simp only [go_sem, simprocAttr, sw0]
 refine OW.nil (hK _ ?_)
 refine PW.seq ?_
 refine PW.seq ?_
 obtain ⟨x1, e1, H⟩ := bnd_some H
 obtain ⟨x2, e2, H⟩ := bnd_some H
 obtain ⟨x3, e3, H⟩ := bnd_some H
 obtain ⟨x4, e4, H⟩ := bnd_some H
 obtain ⟨x5, e5, H⟩ := bnd_some H
 obtain ⟨x6, e6, H⟩ := bnd_some H
 obtain ⟨x7, e7, H⟩ := bnd_some H
 refine PW.drawK 18 mixed (by kernel_rfl) fun K hK => ?_
 change FW _ _ _ _ _
 refine FW.run ?_
 simp only [go_sem, simprocAttr, sw0]
 refine FW.call' 4 rfl rfl rfl (by first | exact rfl | ((simp only [go_sem, List.toList_toArray, simprocAttr]); exact rfl)) ?_ (access_CheckSleep_ok N _ _ _ _ _ e1) ?_ ?_ ?_ ?_
 rfl
 · (refine okAll_intro ?_; (simp only [go_sem, sw2, List.length_set, List.length_replicate, and_true, true_and, Nat.le_refl, simprocAttr]; done))
 exact .inl rfl
 (simp only [go_sem, Nat.reduceLT])
 refine FW.run ?_
 simp only [go_sem, simprocAttr, sw0]
 refine FW.call' 4 rfl rfl rfl (by first | exact rfl | ((simp only [go_sem, List.toList_toArray, simprocAttr]); exact rfl)) ?_ (access_ticksErr_ok N _ _ _ e2) ?_ ?_ ?_ ?_
 rfl
 · (refine okAll_intro ?_; (simp only [go_sem, sw2, List.length_set, List.length_replicate, and_true, true_and, Nat.le_refl, simprocAttr]; done))
 exact .inl rfl
 (simp only [go_sem, Nat.reduceLT])
 refine FW.run ?_
 simp only [go_sem, simprocAttr, sw0]
 repeat (refine And.intro (by omega) ?_)
 refine FW.call' 4 rfl rfl rfl (by first | exact rfl | ((simp only [go_sem, List.toList_toArray, simprocAttr]); exact rfl)) ?_ (access_EnergyOf_1_ok N _ _ e3) ?_ ?_ ?_ ?_
 rfl
 exact okD_all rfl
 exact .inl rfl
 (simp only [go_sem, Nat.reduceLT])
 refine FW.run ?_
 simp only [go_sem, simprocAttr, sw0]
 repeat (refine And.intro (by omega) ?_)
 refine FW.callG' 4 rfl rfl ?_ (fun hg => by first | rfl | (simp only [go_sem, ↓reduceIte]; rfl)) (fun hg => by ((simp only [go_sem, List.toList_toArray, simprocAttr]); exact rfl)) (fun hg => ?_) (fun hg => (access_EnergyOf_1_ok N _ _ (grd_t hg e4))) ?_ ?_ ?_ ?_
 simp only [go_sem, simprocAttr]
 rfl
 exact okD_all rfl
 exact .inl rfl
 (simp only [go_sem, Nat.reduceLT])
 refine FW.run ?_
 simp only [go_sem, simprocAttr, sw0]
 repeat (refine And.intro (by omega) ?_)
 refine FW.nil ?_
 change OW _ _ _ _ _ _
 refine OW.run [3, 4, 5, 9] ?_
 simp only [go_sem, simprocAttr, sw0]
 refine OW.callG' 4 rfl rfl ?_ (fun hg => by first | rfl | (simp only [go_sem, ↓reduceIte]; rfl)) (fun hg => by ((simp only [go_sem, List.toList_toArray, simprocAttr]); exact rfl)) (fun hg => ?_) (fun hg => (access_EnergyOf_1_ok N _ _ (grd_t hg e5))) ?_ ?_ ?_ ?_
 simp only [go_sem, simprocAttr]
 rfl
 exact okD_all rfl
 exact .inl rfl
 (simp only [go_sem, Nat.reduceLT])
 refine OW.run [3, 4, 5, 9] ?_
 simp only [go_sem, simprocAttr, sw0]
 refine OW.call' 4 rfl rfl rfl (by first | exact rfl | ((simp only [go_sem, List.toList_toArray, simprocAttr]); exact rfl)) ?_ (access_unless_ok N _ _ _ e6) ?_ ?_ ?_ ?_
 rfl
 exact okD_all rfl
 exact .inl rfl
 (simp only [go_sem, Nat.reduceLT])
 refine OW.run [3, 4, 5, 9] ?_
 simp only [go_sem, simprocAttr, sw0]
 refine OW.call' 4 rfl rfl rfl (by first | exact rfl | ((simp only [go_sem, List.toList_toArray, simprocAttr]); exact rfl)) ?_ (access_first_ok N _ _ e7) ?_ ?_ ?_ ?_
 rfl
 · (refine okAll_intro ?_; (simp only [go_sem, sw2, List.length_set, List.length_replicate, and_true, true_and, Nat.le_refl, simprocAttr]; simp only [seg, go_sem, sw2, List.length_set, List.length_replicate, and_true, true_and, Nat.le_refl, simprocAttr]; done))
 exact .inr ⟨rfl, rfl⟩
 (simp only [go_sem, Nat.reduceLT])
 refine OW.run [3, 4, 5, 9] ?_
 simp only [go_sem, simprocAttr, sw0]
 refine OW.nil (hK _ ?_)
 refine PW.seq ?_
 refine PW.regionK fun K hK => OW.run [3, 4, 5, 9, 36] ?_
 simp only [go_sem, simprocAttr, sw0]
 refine OW.nil (hK _ ?_)
 refine PW.cond rfl (fun h1 => ?_) (fun h1 => ?_)
 replace H := br_t h1 H
 refine PW.seq ?_
 refine PW.regionK fun K hK => OW.run [6, 7] ?_
 simp only [go_sem, simprocAttr, sw0]
 refine OW.nil (hK _ ?_)
 refine PW.ret ?_
 change PW.Ends _ _ _ _ _ _
 refine PW.Ends.intro (.inr rfl) ?_
 simp only [go_sem, simprocAttr, sw0]
 obtain rfl := Option.some.inj H
 refine RetOK.data' 4 (by exact okD_all rfl) ?_
 rfl
 replace H := br_f h1 H
 refine PW.skip ?_
 refine PW.seq ?_
 obtain ⟨x8, e8, H⟩ := bnd_some H
 refine PW.regionK fun K hK => OW.run [3, 4, 5, 10] ?_
 simp only [go_sem, simprocAttr, sw0]
 refine OW.call' 4 rfl rfl rfl (by first | exact rfl | ((simp only [go_sem, List.toList_toArray, simprocAttr]); exact rfl)) ?_ (access_sleep_awakeIn_ok N _ _ _ _ _ _ _ e8) ?_ ?_ ?_ ?_
 rfl
 · (refine okAll_intro ?_; (simp only [go_sem, sw2, List.length_set, List.length_replicate, and_true, true_and, Nat.le_refl, simprocAttr]; done))
 exact .inl rfl
 (simp only [go_sem, Nat.reduceLT])
 refine OW.run [3, 4, 5, 10] ?_
 simp only [go_sem, simprocAttr, sw0]
 refine OW.nil (hK _ ?_)
 refine PW.seq ?_
 refine PW.regionK fun K hK => OW.run [3, 4, 5, 10, 11] ?_
 simp only [go_sem, simprocAttr, sw0]
 repeat (refine And.intro (by omega) ?_)
 refine OW.nil (hK _ ?_)
 refine PW.seq ?_
 obtain ⟨x9, e9, H⟩ := bnd_some H
 refine PW.drawK 16 mixed (by kernel_rfl) fun K hK => ?_
 change FW _ _ _ _ _
 refine FW.run ?_
 simp only [go_sem, simprocAttr, sw0]
 repeat (refine And.intro (by omega) ?_)
 refine FW.call' 4 rfl rfl rfl (by first | exact rfl | ((simp only [go_sem, List.toList_toArray, simprocAttr]); exact rfl)) ?_ (access_sleep_wakes_ok N _ _ _ _ _ _ _ e9) ?_ ?_ ?_ ?_
 rfl
 · (refine okAll_intro ?_; (simp only [go_sem, sw2, List.length_set, List.length_replicate, and_true, true_and, Nat.le_refl, simprocAttr]; done))
 exact .inl rfl
 (simp only [go_sem, Nat.reduceLT])
 refine FW.run ?_
 simp only [go_sem, simprocAttr, sw0]
 repeat (refine And.intro (by omega) ?_)
 refine FW.nil ?_
 change OW _ _ _ _ _ _
 refine OW.run [6, 7] ?_
 simp only [go_sem, simprocAttr, sw0]
 refine OW.nil (hK _ ?_)
 refine PW.ret ?_
 change PW.Ends _ _ _ _ _ _
 refine PW.Ends.intro (.inr rfl) ?_
 simp only [go_sem, simprocAttr, sw0]
 obtain rfl := Option.some.inj H
 refine RetOK.data' 4 (by exact okD_all rfl) ?_
 rfl
end Go.Proofs.YtbndgoeahoadlaaDoor
