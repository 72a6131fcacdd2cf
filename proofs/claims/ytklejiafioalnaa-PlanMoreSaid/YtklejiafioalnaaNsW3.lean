import Derived.Test.YtklejiafioalnaaNsBase
import Derived.Test.YtklejiafioalnaaNsW1
import Derived.Test.YtklejiafioalnaaNsW2
set_option linter.all false
namespace Go.Proofs.Ytklejiafioalnaa
open Go.PW Go.Sh

set_option maxRecDepth 20000
set_option maxHeartbeats 8000000
def z0W3a := flatMap_length 7 (fun (x : ByteArray × Int × Int × Int × Int × Int × Int) => [(Sx x.1), (I x.2.1), (I x.2.2.1), (I x.2.2.2.1), (I x.2.2.2.2.1), (I x.2.2.2.2.2.1), (I x.2.2.2.2.2.2)]) (fun _ => rfl)
def z1W3a := sub_el 7 (fun (x : ByteArray × Int × Int × Int × Int × Int × Int) => [(Sx x.1), (I x.2.1), (I x.2.2.1), (I x.2.2.2.1), (I x.2.2.2.2.1), (I x.2.2.2.2.2.1), (I x.2.2.2.2.2.2)]) (fun _ => rfl)
theorem plan_field_of_okf (N : Nat) (Zl : List (List Int)) (Zh : List (ByteArray × Int × Int × Int × Int × Int × Int)) (Zk : List (Int × Int)) (Zi : Int) (Zm : Int) (Zj : Int) (f_width : Int) (f_levels : List (List (Int × Bool))) (Ze : ByteArray) (Zc : Int) (Za : Int) (Zb : Int) (Zd : Int) (Zf : Int) (Zg : Int) (r : (List (Int × Bool))) (H : plan_field_of N Zl Zh Zk Zi Zm Zj f_width f_levels Ze Zc Za Zb Zd Zf Zg = some r) : CallF Try.prog 112 [(.ref [(.list Zl.length (Zl.map L)), (.list Zh.length (Zh.flatMap (fun (x : ByteArray × Int × Int × Int × Int × Int × Int) => [(Sx x.1), (I x.2.1), (I x.2.2.1), (I x.2.2.2.1), (I x.2.2.2.2.1), (I x.2.2.2.2.2.1), (I x.2.2.2.2.2.2)]))), (.list Zk.length (Zk.flatMap (fun (x : Int × Int) => [(I x.1), (I x.2)]))), (I Zi), (I Zm), (I Zj), (I f_width), (.list f_levels.length (f_levels.map (fun (x : List (Int × Bool)) => (.list x.length (x.flatMap (fun (x : Int × Bool) => [(I x.1), (Bo x.2)]))))))]), (.agg [(Sx Ze), (I Zc), (I Za), (I Zb), (I Zd), (I Zf), (I Zg)])] ((.list r.length (r.flatMap (fun (x : Int × Bool) => [(I x.1), (Bo x.2)])))) := by
 refine CallF.of_PWt Try.func112 rfl (by rw [Try.results112]) Try.ntmps112 Try.call112 ?_
 change PW _ _ _ _ _
 try simp only [go_sem, simprocAttr]
 unfold plan_field_of at H
 refine PW.seq ?_
 refine PW.regionK fun K hK => OW.run [0, 3] ?_
 simp only [go_sem, simprocAttr, sw0]
 refine OW.nil (hK _ ?_)
 refine PW.seq ?_
 refine PW.regionK fun K hK => OW.run [0, 3, 5] ?_
 simp only [go_sem, simprocAttr, sw0]
 refine OW.nil (hK _ ?_)
 refine PW.joinS (τ := (List (Int × Bool))) [5] 2 (fun b1 => [(5, .own 1 0 b1.length 2)]) (fun b1 => [{ cells := [.d (Sx Ze), .d (I Zc), .d (I Za), .d (I Zb), .d (I Zd), .d (I Zf), .d (I Zg)], e := 57 }, { cells := (b1.flatMap (fun (x : Int × Bool) => [(I x.1), (Bo x.2)])).map .d, e := 130 }]) _ _ r (by exact Nat.zero_le _) H ?_ ?_
 intro K_ H N1 hN1
 refine PW.seq ?_
 obtain ⟨x1, e1, H⟩ := bnd_some H
 refine PW.regionK fun K hK => OW.run [0, 3, 5, 11, 12] ?_
 simp only [go_sem, simprocAttr, sw0]
 refine OW.call' 4 rfl rfl rfl (by first | exact rfl | ((simp only [go_sem, List.toList_toArray, simprocAttr]); exact rfl)) ?_ (plan_field_points_ok N _ _ _ _ _ _ _ _ _ e1) ?_ ?_ ?_ ?_
 rfl
 exact okD_all rfl
 exact .inl rfl
 (simp only [go_sem, Nat.reduceLT])
 refine OW.run [0, 3, 5, 11, 12] ?_
 simp only [go_sem, simprocAttr, sw0]
 refine OW.nil (hK _ ?_)
 refine PW.block ?_
 refine PW.virt 5 130 2 rfl ?_
 try simp only [go_sem, simprocAttr]
 refine PW.loopS (σ := Int × (List (Int × Bool))) [0, 3, 5, 11, 12] 2 (fun (t12, b11) => [(5, .own 1 0 b11.length 2), (12, .d (I t12))]) (fun (t12, b11) => [{ cells := [.d (Sx Ze), .d (I Zc), .d (I Za), .d (I Zb), .d (I Zd), .d (I Zf), .d (I Zg)], e := 57 }, { cells := (b11.flatMap (fun (x : Int × Bool) => [(I x.1), (Bo x.2)])).map .d, e := 130 }]) (plan_field_of.b1 N Zl Zh Zk Zi Zm Zj f_width f_levels Ze Zc Za Zb Zd Zf Zg K_ x1) r N ((0 : Int), ([] : List (Int × Bool))) (by exact Nat.zero_le _) H (by (simp only [sw1, go_sem, simprocAttr]; rfl)) ?_
 rintro n ⟨t12, b11⟩ H N2 hN2
 unfold plan_field_of.b1 at H
 try simp only [go_sem, simprocAttr]
 refine PW.seq ?_
 refine PW.regionK fun K hK => OW.run [0, 3, 5, 11, 12, 13] ?_
 simp only [go_sem, simprocAttr, sw0]
 refine OW.nil (hK _ ?_)
 refine PW.seq ?_
 refine PW.cond rfl (fun h3 => ?_) (fun h3 => ?_)
 replace H := br_t h3 H
 refine PW.skip ?_
 refine PW.seq ?_
 refine PW.block ?_
 refine PW.seq ?_
 refine PW.regionK fun K hK => OW.run [0, 3, 5, 6, 11, 12] ?_
 simp only [go_sem, simprocAttr, sw0]
 refine OW.nil (hK _ ?_)
 refine PW.seq ?_
 obtain ⟨⟨x2, x21⟩, e2, H⟩ := bnd_some H
 refine PW.regionK fun K hK => OW.run [0, 3, 5, 7, 11, 12] ?_
 simp only [go_sem, simprocAttr, sw0]
 refine OW.call' 4 rfl rfl rfl (by first | exact rfl | ((simp only [go_sem, List.toList_toArray, simprocAttr]); exact rfl)) ?_ (plan_field_point_ok N _ _ _ _ _ _ _ _ _ _ e2) ?_ ?_ ?_ ?_
 rfl
 exact okD_all rfl
 exact .inl rfl
 (simp only [go_sem, Nat.reduceLT])
 refine OW.run [0, 3, 5, 7, 11, 12] ?_
 simp only [go_sem, simprocAttr, sw0]
 refine OW.nil (hK _ ?_)
 refine PW.seq ?_
 obtain ⟨x3, e3, H⟩ := bnd_some H
 refine PW.regionK fun K hK => OW.run [0, 3, 5, 7, 8, 11, 12] ?_
 simp only [go_sem, simprocAttr, sw0]
 repeat (refine And.intro (by omega) ?_)
 refine OW.call' 4 rfl rfl rfl (by first | exact rfl | ((simp only [go_sem, List.toList_toArray, simprocAttr]); exact rfl)) ?_ (slices_IndexFunc_api_PlanLoss_api_PlanLoss_ok N _ 127 [(.ref [(Sx Ze), (I Zc), (I Za), (I Zb), (I Zd), (I Zf), (I Zg)]), (.ref [(I x2), (I x21)])] (fun y0 y1 => plan_field_of_1 N y0 y1 Ze Zc Za Zb Zd Zf Zg x2 x21) (fun y0 y1 r h => plan_field_of_1_ok N y0 y1 _ _ _ _ _ _ _ _ _ r h) _ e3) ?_ ?_ ?_ ?_
 rfl
 · (refine okAll_intro ?_; (simp only [go_sem, sw2, List.length_set, List.length_replicate, and_true, true_and, Nat.le_refl, simprocAttr]; done))
 exact .inr ⟨rfl, rfl⟩
 (simp only [go_sem, Nat.reduceLT])
 refine OW.run [0, 3, 5, 7, 8, 11, 12] ?_
 simp only [go_sem, simprocAttr, sw0]
 refine OW.nil (hK _ ?_)
 refine PW.seq ?_
 refine PW.seq ?_
 refine PW.regionK fun K hK => OW.run [0, 3, 5, 7, 8, 11, 12, 26] ?_
 simp only [go_sem, simprocAttr, sw0]
 refine OW.nil (hK _ ?_)
 refine PW.cond rfl (fun h4 => ?_) (fun h4 => ?_)
 replace H := br_t h4 H
 refine PW.seq ?_
 obtain ⟨c5, H⟩ := chk_some H
 refine PW.regionK fun K hK => OW.run [0, 3, 5, 11, 12] ?_
 (simp only [go_sem, simprocAttr, sw0, flatMap_length 2 (fun (x : Int × Bool) => [(I x.1), (Bo x.2)]) (fun _ => rfl)])
 repeat (refine And.intro (by first | rfl | omega) ?_)
 refine OW.nil (hK _ ?_)
 refine PW.exit ?_
 refine PW.regionK fun K hK => OW.run [0, 3, 5, 11, 12] ?_
 simp only [go_sem, simprocAttr, sw0]
 refine OW.nil (hK _ ?_)
 refine hN2 [] (w64 (t12 + (1 : Int)), (b11 ++ ([((0 : Int), false)] : List (Int × Bool)))) _ H (by exact trivial) ?_
 (simp only [sw1, go_sem, simprocAttr]; simp only [List.length_set, List.length_append, List.length_cons, List.length_nil, Nat.zero_add, List.map_set, List.map_append, List.map_cons, List.map_nil, List.flatMap_append, List.flatMap_cons, List.flatMap_nil, List.append_nil, List.cons_append, List.nil_append]; rfl)
 replace H := br_f h4 H
 refine PW.skip ?_
 refine PW.seq ?_
 obtain ⟨c6, H⟩ := chk_some H
 obtain ⟨x4, e4, H⟩ := bnd_some H
 obtain ⟨x5, e5, H⟩ := bnd_some H
 refine PW.drawK 27 mixed (by kernel_rfl) fun K hK => ?_
 change FW _ _ _ _ _
 refine FW.run ?_
 (simp only [go_sem, simprocAttr, sw0, flatMap_length 2 (fun (x : Int × Int) => [(I x.1), (I x.2)]) (fun _ => rfl), sub_el 2 (fun (x : Int × Int) => [(I x.1), (I x.2)]) (fun _ => rfl) Zk x3.toNat (by omega)])
 repeat (refine And.intro (by omega) ?_)
 refine FW.call' 4 rfl rfl rfl (by first | exact rfl | ((simp only [go_sem, List.toList_toArray, simprocAttr]); exact rfl)) ?_ (plan_steps_ok N _ _ _ _ _ e4) ?_ ?_ ?_ ?_
 rfl
 · (refine okAll_intro ?_; (simp only [go_sem, sw2, List.length_set, List.length_replicate, and_true, true_and, Nat.le_refl, simprocAttr]; done))
 exact .inl rfl
 (simp only [go_sem, Nat.reduceLT])
 refine FW.run ?_
 (simp only [go_sem, simprocAttr, sw0, flatMap_length 2 (fun (x : Int × Int) => [(I x.1), (I x.2)]) (fun _ => rfl), sub_el 2 (fun (x : Int × Int) => [(I x.1), (I x.2)]) (fun _ => rfl) Zk x3.toNat (by omega)])
 refine FW.call' 4 rfl rfl rfl (by first | exact rfl | ((simp only [go_sem, List.toList_toArray, simprocAttr]); exact rfl)) ?_ (plan_size_ok N _ _ e5) ?_ ?_ ?_ ?_
 rfl
 exact okD_all rfl
 exact .inl rfl
 (simp only [go_sem, Nat.reduceLT])
 refine FW.run ?_
 (simp only [go_sem, simprocAttr, sw0, flatMap_length 2 (fun (x : Int × Int) => [(I x.1), (I x.2)]) (fun _ => rfl), sub_el 2 (fun (x : Int × Int) => [(I x.1), (I x.2)]) (fun _ => rfl) Zk x3.toNat (by omega)])
 refine FW.nil ?_
 change OW _ _ _ _ _ _
 refine OW.run [0, 3, 5, 7, 9, 11, 12] ?_
 (simp only [go_sem, simprocAttr, sw0, flatMap_length 2 (fun (x : Int × Int) => [(I x.1), (I x.2)]) (fun _ => rfl), sub_el 2 (fun (x : Int × Int) => [(I x.1), (I x.2)]) (fun _ => rfl) Zk x3.toNat (by omega)])
 refine OW.nil (hK _ ?_)
 refine PW.seq ?_
 refine PW.seq ?_
 obtain ⟨x6, e6, H⟩ := bnd_some H
 refine PW.drawK 7 mixed (by kernel_rfl) fun K hK => ?_
 change FW _ _ _ _ _
 refine FW.run ?_
 simp only [go_sem, simprocAttr, sw0]
 repeat (refine And.intro (by omega) ?_)
 refine FW.nil ?_
 change OW _ _ _ _ _ _
 refine OW.run [0, 3, 5, 9, 11, 12, 67] ?_
 simp only [go_sem, simprocAttr, sw0]
 refine OW.call' 4 rfl rfl rfl (by first | exact rfl | ((simp only [go_sem, List.toList_toArray, simprocAttr]); exact rfl)) ?_ (plan_sees_ok N _ _ _ _ _ _ _ _ _ _ _ e6) ?_ ?_ ?_ ?_
 rfl
 · (refine okAll_intro ?_; (simp only [go_sem, sw2, List.length_set, List.length_replicate, and_true, true_and, Nat.le_refl, simprocAttr]; done))
 exact .inl rfl
 (simp only [go_sem, Nat.reduceLT])
 refine OW.run [0, 3, 5, 9, 11, 12, 67] ?_
 simp only [go_sem, simprocAttr, sw0]
 refine OW.nil (hK _ ?_)
 refine PW.cond rfl (fun h7 => ?_) (fun h7 => ?_)
 replace H := br_t h7 H
 refine PW.regionK fun K hK => OW.run [0, 3, 5, 9, 11, 12] ?_
 simp only [go_sem, simprocAttr, sw0]
 repeat (refine And.intro (by omega) ?_)
 refine OW.nil (hK _ ?_)
 change PW _ _ _ _ _
 obtain ⟨c8, H⟩ := chk_some H
 refine PW.regionK fun K hK => OW.run [0, 3, 5, 11, 12] ?_
 (simp only [go_sem, simprocAttr, sw0, flatMap_length 2 (fun (x : Int × Bool) => [(I x.1), (Bo x.2)]) (fun _ => rfl)])
 repeat (refine And.intro (by first | rfl | omega) ?_)
 refine OW.nil (hK _ ?_)
 refine PW.regionK fun K hK => OW.run [0, 3, 5, 11, 12] ?_
 simp only [go_sem, simprocAttr, sw0]
 refine OW.nil (hK _ ?_)
 refine hN2 [] (w64 (t12 + (1 : Int)), (b11 ++ ([(w64 ((w64 ((w64 (Zf - ((Zk.getD x3.toNat default).2))) - (w64 (Zm * x5)))) - Zi), true)] : List (Int × Bool)))) _ H (by exact trivial) ?_
 (simp only [sw1, go_sem, simprocAttr]; simp only [List.length_set, List.length_append, List.length_cons, List.length_nil, Nat.zero_add, List.map_set, List.map_append, List.map_cons, List.map_nil, List.flatMap_append, List.flatMap_cons, List.flatMap_nil, List.append_nil, List.cons_append, List.nil_append]; rfl)
 replace H := br_f h7 H
 refine PW.skip ?_
 change PW _ _ _ _ _
 obtain ⟨c9, H⟩ := chk_some H
 refine PW.regionK fun K hK => OW.run [0, 3, 5, 11, 12] ?_
 (simp only [go_sem, simprocAttr, sw0, flatMap_length 2 (fun (x : Int × Bool) => [(I x.1), (Bo x.2)]) (fun _ => rfl)])
 repeat (refine And.intro (by first | rfl | omega) ?_)
 refine OW.nil (hK _ ?_)
 refine PW.regionK fun K hK => OW.run [0, 3, 5, 11, 12] ?_
 simp only [go_sem, simprocAttr, sw0]
 refine OW.nil (hK _ ?_)
 refine hN2 [] (w64 (t12 + (1 : Int)), (b11 ++ ([(w64 ((w64 (Zf - ((Zk.getD x3.toNat default).2))) - (w64 (Zm * x5))), true)] : List (Int × Bool)))) _ H (by exact trivial) ?_
 (simp only [sw1, go_sem, simprocAttr]; simp only [List.length_set, List.length_append, List.length_cons, List.length_nil, Nat.zero_add, List.map_set, List.map_append, List.map_cons, List.map_nil, List.flatMap_append, List.flatMap_cons, List.flatMap_nil, List.append_nil, List.cons_append, List.nil_append]; rfl)
 replace H := br_f h3 H
 refine PW.exit ?_
 refine hN1 [] b11 _ H (by exact trivial) ?_
 simp only [sw1, go_sem, simprocAttr]
 ·
  rintro b1 H
  try simp only [go_sem, simprocAttr]
  refine PW.seq ?_
  refine PW.regionK fun K hK => OW.run [4] ?_
  simp only [go_sem, simprocAttr, sw0]
  refine OW.nil (hK _ ?_)
  refine PW.ret ?_
  change EndsF _ _ _ _ _
  refine EndsF.intro (.inr rfl) ?_
  simp only [go_sem, simprocAttr, sw0]
  obtain rfl := Option.some.inj H
  have hl0 := flatMap_length 2 (fun (x : Int × Bool) => [(I x.1), (Bo x.2)]) (fun _ => rfl) b1
  have hn0 : (b1.flatMap (fun (x : Int × Bool) => [(I x.1), (Bo x.2)])).map nz = b1.flatMap (fun (x : Int × Bool) => [(I x.1), (Bo x.2)]) := map_nz_flat (fun _ => rfl) _
  have ht0 : (b1.flatMap (fun (x : Int × Bool) => [(I x.1), (Bo x.2)])).take (b1.length * 2) = b1.flatMap (fun (x : Int × Bool) => [(I x.1), (Bo x.2)]) := take_flat _ (fun _ => rfl) rfl
  refine FrOK.data 4 (by (simp only [go_sem, sw2, List.length_set, List.length_replicate, and_true, true_and, Nat.le_refl, simprocAttr]; omega)) (by (refine freshO rfl ?_; simp only [List.all_flatMap, List.all_cons, List.all_nil, isValD, Bool.and_true, Bool.and_self]; first | rfl | exact List.all_eq_true.2 fun _ _ => rfl)) ?_
  (((simp only [go_sem, sw1, simprocAttr]; try simp only [seg, go_sem, simprocAttr])); (repeat' (first | rfl | (refine list_congr ?_; simp only [List.length_take, List.length_drop, List.length_set, List.length_replicate] <;> omega) | (refine congr (congrArg List.cons ?_) ?_) | (refine congrArg D.agg ?_) | (refine congrArg D.tup ?_) | (refine congrArg D.ref ?_) | (refine congrArg (D.list _) ?_) | (refine congrArg (D.clo _) ?_))))
  all_goals (first | rw [ht0, hn0] | simp only [ht0, hn0])
theorem plan_field_server_ok (N : Nat) (Zl : List (List Int)) (Zh : List (ByteArray × Int × Int × Int × Int × Int × Int)) (Zk : List (Int × Int)) (Zi : Int) (Zm : Int) (Zj : Int) (f_width : Int) (f_levels : List (List (Int × Bool))) (n : Int) (r : Int × Int × Bool) (H : plan_field_server N Zl Zh Zk Zi Zm Zj f_width f_levels n = some r) : CallOK Try.prog 75 [(.ref [(.list Zl.length (Zl.map L)), (.list Zh.length (Zh.flatMap (fun (x : ByteArray × Int × Int × Int × Int × Int × Int) => [(Sx x.1), (I x.2.1), (I x.2.2.1), (I x.2.2.2.1), (I x.2.2.2.2.1), (I x.2.2.2.2.2.1), (I x.2.2.2.2.2.2)]))), (.list Zk.length (Zk.flatMap (fun (x : Int × Int) => [(I x.1), (I x.2)]))), (I Zi), (I Zm), (I Zj), (I f_width), (.list f_levels.length (f_levels.map (fun (x : List (Int × Bool)) => (.list x.length (x.flatMap (fun (x : Int × Bool) => [(I x.1), (Bo x.2)]))))))]), (I n)] (.d (.tup [(I r.1), (.agg [(I r.2.1), (Bo r.2.2)])])) [] := by
 refine CallOK.of_PW Try.func75 rfl (by rw [Try.results75]) Try.ntmps75 Try.call75 ?_
 change PW _ _ _ _ _
 try simp only [go_sem, simprocAttr]
 unfold plan_field_server at H
 refine PW.seq ?_
 refine PW.regionK fun K hK => OW.run [0, 1, 5] ?_
 simp only [go_sem, simprocAttr, sw0]
 refine OW.nil (hK _ ?_)
 refine PW.seq ?_
 refine PW.regionK fun K hK => OW.run [0, 1, 5, 6] ?_
 simp only [go_sem, simprocAttr, sw0]
 refine OW.nil (hK _ ?_)
 refine PW.seq ?_
 refine PW.regionK fun K hK => OW.run [0, 1, 5, 6, 7] ?_
 simp only [go_sem, simprocAttr, sw0]
 refine OW.nil (hK _ ?_)
 refine PW.joinS (τ := Int × Int × Bool) [5, 6, 7] 2 (fun (cell, b1, b11) => [(7, .d (I cell))]) (fun (cell, b1, b11) => [{ cells := [.d (I (0 : Int)), .d (Bo false)], e := 130 }, { cells := [.d (I b1), .d (Bo b11)], e := 130 }]) _ _ r (by exact Nat.zero_le _) H ?_ ?_
 intro K_ H N1 hN1
 refine PW.seq ?_
 refine PW.regionK fun K hK => OW.run [1, 5, 6, 7, 13, 14, 15] ?_
 simp only [go_sem, simprocAttr, sw0]
 repeat (refine And.intro (by omega) ?_)
 refine OW.nil (hK _ ?_)
 refine PW.block ?_
 refine PW.loopS (σ := Int × Int × Int × Bool) [1, 5, 6, 7, 13, 14, 15] 2 (fun (cell1, t15, b12, b13) => [(7, .d (I cell1)), (15, .d (I t15))]) (fun (cell1, t15, b12, b13) => [{ cells := [.d (I (0 : Int)), .d (Bo false)], e := 130 }, { cells := [.d (I b12), .d (Bo b13)], e := 130 }]) (plan_field_server.b1 N f_levels n K_) r N ((-1 : Int), (0 : Int), (0 : Int), false) (by exact Nat.zero_le _) H (by (simp only [sw1, go_sem, simprocAttr]; done)) ?_
 rintro n_ ⟨cell1, t15, b12, b13⟩ H N2 hN2
 unfold plan_field_server.b1 at H
 try simp only [go_sem, simprocAttr]
 refine PW.seq ?_
 refine PW.regionK fun K hK => OW.run [1, 5, 6, 7, 13, 14, 15, 16] ?_
 simp only [go_sem, simprocAttr, sw0]
 refine OW.nil (hK _ ?_)
 refine PW.seq ?_
 refine PW.cond rfl (fun h3 => ?_) (fun h3 => ?_)
 replace H := br_t h3 H
 refine PW.skip ?_
 refine PW.seq ?_
 refine PW.block ?_
 refine PW.seq ?_
 obtain ⟨c4, H⟩ := chk_some H
 refine PW.regionK fun K hK => OW.run [1, 5, 6, 7, 8, 9, 13, 14, 15] ?_
 (simp only [go_sem, simprocAttr, sw0, getD_mapF (fun (x : List (Int × Bool)) => (.list x.length (x.flatMap (fun (x : Int × Bool) => [(I x.1), (Bo x.2)])))) f_levels t15.toNat default (by omega)])
 repeat (refine And.intro (by omega) ?_)
 refine OW.nil (hK _ ?_)
 refine PW.seq ?_
 obtain ⟨c5, H⟩ := chk_some H
 obtain ⟨c6, H⟩ := chk_some H
 refine PW.drawK 17 mixed (by kernel_rfl) fun K hK => ?_
 change FW _ _ _ _ _
 refine FW.toS [(1, .d (I n)), (5, .ptr 0 0), (6, .ptr 1 0), (7, .d (I cell1)), (8, .d (I t15)), (9, .d (.list (f_levels.getD t15.toNat default).length ((f_levels.getD t15.toNat default).flatMap (fun (x : Int × Bool) => [(I x.1), (Bo x.2)])))), (13, .d (.list f_levels.length (f_levels.map (fun (x : List (Int × Bool)) => (.list x.length (x.flatMap (fun (x : Int × Bool) => [(I x.1), (Bo x.2)]))))))), (14, .d (I (f_levels.length : Int))), (15, .d (I t15)), (39, .d (Bo ((((f_levels.getD t15.toNat default).getD n.toNat default).2) && ((!b13) || (decide (((f_levels.getD t15.toNat default).getD n.toNat default).1 > b12))))))] [{ cells := [.d (I (0 : Int)), .d (Bo false)], e := 130 }, { cells := [.d (I b12), .d (Bo b13)], e := 130 }] ?_ (hK _ ?_)
 intro K hKE
 rcases Bool.eq_false_or_eq_true ((((f_levels.getD t15.toNat default).getD n.toNat default).2)) with ha0 | ha0
 rcases Bool.eq_false_or_eq_true (b13) with ha1 | ha1
 ·
  try simp only [ha0, ha1, sb0, true_implies, false_implies, forall_const] at c6
  refine FW.run ?_
  (simp only [go_sem, simprocAttr, sw0, flatMap_length 2 (fun (x : Int × Bool) => [(I x.1), (Bo x.2)]) (fun _ => rfl), sub_el 2 (fun (x : Int × Bool) => [(I x.1), (Bo x.2)]) (fun _ => rfl) (f_levels.getD t15.toNat default) n.toNat (by omega), ha0, ha1])
  repeat (refine And.intro (by first | omega | (intro hg; have hq := c6 (by first | exact hg | simpa using hg); first | omega | exact hq | (simp only [List.length_map]; omega)) | (first | omega | assumption | rfl | decide | (simp only [List.length_map, List.length_replicate, List.length_append, List.length_take, List.length_drop, List.length_set, List.length_cons, List.length_nil, Nat.zero_add, Int.toNat_natCast] at *; omega) | (simp only [List.length_map, List.length_replicate, List.length_append, List.length_take, List.length_drop, List.length_set, List.length_cons, List.length_nil, Nat.zero_add, Int.toNat_natCast]; done) | trivial)) ?_)
  refine FW.nil ?_
  change OW _ _ _ _ _ _
  refine OW.run [1, 5, 6, 7, 8, 9, 13, 14, 15, 39] ?_
  (simp only [go_sem, simprocAttr, sw0, flatMap_length 2 (fun (x : Int × Bool) => [(I x.1), (Bo x.2)]) (fun _ => rfl), sub_el 2 (fun (x : Int × Bool) => [(I x.1), (Bo x.2)]) (fun _ => rfl) (f_levels.getD t15.toNat default) n.toNat (by omega), ha0, ha1])
  repeat (refine And.intro (by first | omega | (intro hg; have hq := c6 (by first | exact hg | simpa using hg); first | omega | exact hq | (simp only [List.length_map]; omega)) | (first | omega | assumption | rfl | decide | (simp only [List.length_map, List.length_replicate, List.length_append, List.length_take, List.length_drop, List.length_set, List.length_cons, List.length_nil, Nat.zero_add, Int.toNat_natCast] at *; omega) | (simp only [List.length_map, List.length_replicate, List.length_append, List.length_take, List.length_drop, List.length_set, List.length_cons, List.length_nil, Nat.zero_add, Int.toNat_natCast]; done) | trivial)) ?_)
  refine OW.nil ((congrArg K ?_).mpr hKE)
  · (first | rfl | (simp only [go_sem, simprocAttr, ha0, ha1]; done) | (simp only [go_sem, simprocAttr, ha0, ha1]; rfl))
 ·
  try simp only [ha0, ha1, sb0, true_implies, false_implies, forall_const] at c6
  refine FW.run ?_
  (simp only [go_sem, simprocAttr, sw0, flatMap_length 2 (fun (x : Int × Bool) => [(I x.1), (Bo x.2)]) (fun _ => rfl), sub_el 2 (fun (x : Int × Bool) => [(I x.1), (Bo x.2)]) (fun _ => rfl) (f_levels.getD t15.toNat default) n.toNat (by omega), ha0, ha1])
  repeat (refine And.intro (by first | omega | (intro hg; have hq := c6 (by first | exact hg | simpa using hg); first | omega | exact hq | (simp only [List.length_map]; omega)) | (first | omega | assumption | rfl | decide | (simp only [List.length_map, List.length_replicate, List.length_append, List.length_take, List.length_drop, List.length_set, List.length_cons, List.length_nil, Nat.zero_add, Int.toNat_natCast] at *; omega) | (simp only [List.length_map, List.length_replicate, List.length_append, List.length_take, List.length_drop, List.length_set, List.length_cons, List.length_nil, Nat.zero_add, Int.toNat_natCast]; done) | trivial)) ?_)
  refine FW.nil ?_
  change OW _ _ _ _ _ _
  refine OW.run [1, 5, 6, 7, 8, 9, 13, 14, 15, 39] ?_
  (simp only [go_sem, simprocAttr, sw0, flatMap_length 2 (fun (x : Int × Bool) => [(I x.1), (Bo x.2)]) (fun _ => rfl), sub_el 2 (fun (x : Int × Bool) => [(I x.1), (Bo x.2)]) (fun _ => rfl) (f_levels.getD t15.toNat default) n.toNat (by omega), ha0, ha1])
  repeat (refine And.intro (by first | omega | (intro hg; have hq := c6 (by first | exact hg | simpa using hg); first | omega | exact hq | (simp only [List.length_map]; omega)) | (first | omega | assumption | rfl | decide | (simp only [List.length_map, List.length_replicate, List.length_append, List.length_take, List.length_drop, List.length_set, List.length_cons, List.length_nil, Nat.zero_add, Int.toNat_natCast] at *; omega) | (simp only [List.length_map, List.length_replicate, List.length_append, List.length_take, List.length_drop, List.length_set, List.length_cons, List.length_nil, Nat.zero_add, Int.toNat_natCast]; done) | trivial)) ?_)
  refine OW.nil ((congrArg K ?_).mpr hKE)
  · (first | rfl | (simp only [go_sem, simprocAttr, ha0, ha1]; done) | (simp only [go_sem, simprocAttr, ha0, ha1]; rfl))
 ·
  try simp only [ha0, sb0, true_implies, false_implies, forall_const] at c6
  refine FW.run ?_
  (simp only [go_sem, simprocAttr, sw0, flatMap_length 2 (fun (x : Int × Bool) => [(I x.1), (Bo x.2)]) (fun _ => rfl), sub_el 2 (fun (x : Int × Bool) => [(I x.1), (Bo x.2)]) (fun _ => rfl) (f_levels.getD t15.toNat default) n.toNat (by omega), ha0])
  repeat (refine And.intro (by first | omega | (intro hg; have hq := c6 (by first | exact hg | simpa using hg); first | omega | exact hq | (simp only [List.length_map]; omega)) | (first | omega | assumption | rfl | decide | (simp only [List.length_map, List.length_replicate, List.length_append, List.length_take, List.length_drop, List.length_set, List.length_cons, List.length_nil, Nat.zero_add, Int.toNat_natCast] at *; omega) | (simp only [List.length_map, List.length_replicate, List.length_append, List.length_take, List.length_drop, List.length_set, List.length_cons, List.length_nil, Nat.zero_add, Int.toNat_natCast]; done) | trivial)) ?_)
  refine FW.nil ?_
  change OW _ _ _ _ _ _
  refine OW.run [1, 5, 6, 7, 8, 9, 13, 14, 15, 39] ?_
  (simp only [go_sem, simprocAttr, sw0, flatMap_length 2 (fun (x : Int × Bool) => [(I x.1), (Bo x.2)]) (fun _ => rfl), sub_el 2 (fun (x : Int × Bool) => [(I x.1), (Bo x.2)]) (fun _ => rfl) (f_levels.getD t15.toNat default) n.toNat (by omega), ha0])
  repeat (refine And.intro (by first | omega | (intro hg; have hq := c6 (by first | exact hg | simpa using hg); first | omega | exact hq | (simp only [List.length_map]; omega)) | (first | omega | assumption | rfl | decide | (simp only [List.length_map, List.length_replicate, List.length_append, List.length_take, List.length_drop, List.length_set, List.length_cons, List.length_nil, Nat.zero_add, Int.toNat_natCast] at *; omega) | (simp only [List.length_map, List.length_replicate, List.length_append, List.length_take, List.length_drop, List.length_set, List.length_cons, List.length_nil, Nat.zero_add, Int.toNat_natCast]; done) | trivial)) ?_)
  refine OW.nil ((congrArg K ?_).mpr hKE)
  · (first | rfl | (simp only [go_sem, simprocAttr, ha0]; done) | (simp only [go_sem, simprocAttr, ha0]; rfl))
 clear hK K
 refine PW.cond rfl (fun h7 => ?_) (fun h7 => ?_)
 replace H := br_t h7 H
 obtain ⟨c8, H⟩ := chk_some H
 refine PW.drawK 6 mixed (by kernel_rfl) fun K hK => ?_
 change FW _ _ _ _ _
 refine FW.run ?_
 (simp only [go_sem, simprocAttr, sw0, flatMap_length 2 (fun (x : Int × Bool) => [(I x.1), (Bo x.2)]) (fun _ => rfl), sub_el 2 (fun (x : Int × Bool) => [(I x.1), (Bo x.2)]) (fun _ => rfl) (f_levels.getD t15.toNat default) n.toNat (by omega)])
 repeat (refine And.intro (by omega) ?_)
 refine FW.nil ?_
 change OW _ _ _ _ _ _
 refine OW.run [1, 5, 6, 7, 13, 14, 15] ?_
 (simp only [go_sem, simprocAttr, sw0, flatMap_length 2 (fun (x : Int × Bool) => [(I x.1), (Bo x.2)]) (fun _ => rfl), sub_el 2 (fun (x : Int × Bool) => [(I x.1), (Bo x.2)]) (fun _ => rfl) (f_levels.getD t15.toNat default) n.toNat (by omega)])
 refine OW.nil (hK _ ?_)
 refine PW.regionK fun K hK => OW.run [1, 5, 6, 7, 13, 14, 15] ?_
 simp only [go_sem, simprocAttr, sw0]
 refine OW.nil (hK _ ?_)
 refine hN2 [] (t15, w64 (t15 + (1 : Int)), ((f_levels.getD t15.toNat default).getD n.toNat default).1, ((f_levels.getD t15.toNat default).getD n.toNat default).2) _ H (by exact trivial) ?_
 simp only [sw1, go_sem, simprocAttr]
 replace H := br_f h7 H
 refine PW.skip ?_
 refine PW.regionK fun K hK => OW.run [1, 5, 6, 7, 13, 14, 15] ?_
 simp only [go_sem, simprocAttr, sw0]
 refine OW.nil (hK _ ?_)
 refine hN2 [] (cell1, w64 (t15 + (1 : Int)), b12, b13) _ H (by exact trivial) ?_
 simp only [sw1, go_sem, simprocAttr]
 replace H := br_f h3 H
 refine PW.exit ?_
 refine hN1 [] (cell1, b12, b13) _ H (by exact trivial) ?_
 simp only [sw1, go_sem, simprocAttr]
 rintro ⟨cell, b1, b11⟩ H
 try simp only [go_sem, simprocAttr]
 refine PW.seq ?_
 refine PW.drawK 3 mixed (by kernel_rfl) fun K hK => ?_
 change FW _ _ _ _ _
 refine FW.run ?_
 simp only [go_sem, simprocAttr, sw0]
 refine FW.nil ?_
 change OW _ _ _ _ _ _
 refine OW.run [4, 5] ?_
 simp only [go_sem, simprocAttr, sw0]
 refine OW.nil (hK _ ?_)
 refine PW.ret ?_
 change PW.Ends _ _ _ _ _ _
 refine PW.Ends.intro (.inr rfl) ?_
 simp only [go_sem, simprocAttr, sw0]
 obtain rfl := Option.some.inj H
 refine RetOK.data' 4 (by (refine okAll_intro ?_; (simp only [go_sem, sw2, List.length_set, List.length_replicate, and_true, true_and, Nat.le_refl, simprocAttr]; done))) ?_
 rfl

theorem plan_field_covers_ok (N : Nat) (Zl : List (List Int)) (Zh : List (ByteArray × Int × Int × Int × Int × Int × Int)) (Zk : List (Int × Int)) (Zi : Int) (Zm : Int) (Zj : Int) (f_width : Int) (f_levels : List (List (Int × Bool))) (l_n : Int) (l_is : Bool) (r : Bool) (H : plan_field_covers N Zl Zh Zk Zi Zm Zj f_width f_levels l_n l_is = some r) : CallOK Try.prog 76 [(.ref [(.list Zl.length (Zl.map L)), (.list Zh.length (Zh.flatMap (fun (x : ByteArray × Int × Int × Int × Int × Int × Int) => [(Sx x.1), (I x.2.1), (I x.2.2.1), (I x.2.2.2.1), (I x.2.2.2.2.1), (I x.2.2.2.2.2.1), (I x.2.2.2.2.2.2)]))), (.list Zk.length (Zk.flatMap (fun (x : Int × Int) => [(I x.1), (I x.2)]))), (I Zi), (I Zm), (I Zj), (I f_width), (.list f_levels.length (f_levels.map (fun (x : List (Int × Bool)) => (.list x.length (x.flatMap (fun (x : Int × Bool) => [(I x.1), (Bo x.2)]))))))]), (.agg [(I l_n), (Bo l_is)])] (.d (Bo r)) [] := by
 refine CallOK.of_PW Try.func76 rfl (by rw [Try.results76]) Try.ntmps76 Try.call76 ?_
 change PW _ _ _ _ _
 try simp only [go_sem, simprocAttr]
 unfold plan_field_covers at H
 refine PW.seq ?_
 refine PW.regionK fun K hK => OW.run [0, 3] ?_
 simp only [go_sem, simprocAttr, sw0]
 refine OW.nil (hK _ ?_)
 refine PW.seq ?_
 refine PW.drawK 10 mixed (by kernel_rfl) fun K hK => ?_
 change FW _ _ _ _ _
 refine FW.run ?_
 simp only [go_sem, simprocAttr, sw0]
 repeat (refine And.intro (by omega) ?_)
 refine FW.nil ?_
 change OW _ _ _ _ _ _
 refine OW.run [4] ?_
 simp only [go_sem, simprocAttr, sw0]
 refine OW.nil (hK _ ?_)
 refine PW.ret ?_
 change PW.Ends _ _ _ _ _ _
 refine PW.Ends.intro (.inr rfl) ?_
 simp only [go_sem, simprocAttr, sw0]
 obtain rfl := Option.some.inj H
 refine RetOK.data' 4 (by exact trivial) ?_
 rfl

theorem plan_Holes_okf (N : Nat) (Z12 : List (List Int)) (Zy : List (ByteArray × Int × Int × Int × Int × Int × Int)) (Z11 : List (Int × Int)) (Zz : Int) (Z13 : Int) (Z10 : Int) (r : (List (Int × Int)) × Int) (H : plan_Holes N Z12 Zy Z11 Zz Z13 Z10 = some r) : CallF Try.prog 28 [(.agg [(.list Z12.length (Z12.map L)), (.list Zy.length (Zy.flatMap (fun (x : ByteArray × Int × Int × Int × Int × Int × Int) => [(Sx x.1), (I x.2.1), (I x.2.2.1), (I x.2.2.2.1), (I x.2.2.2.2.1), (I x.2.2.2.2.2.1), (I x.2.2.2.2.2.2)]))), (.list Z11.length (Z11.flatMap (fun (x : Int × Int) => [(I x.1), (I x.2)]))), (I Zz), (I Z13), (I Z10)])] ((.tup [(.list r.1.length (r.1.flatMap (fun (x : Int × Int) => [(I x.1), (I x.2)]))), (I r.2)])) := by
 refine CallF.of_PWt Try.func28 rfl (by rw [Try.results28]) Try.ntmps28 Try.call28 ?_
 change PW _ _ _ _ _
 try simp only [go_sem, simprocAttr]
 unfold plan_Holes at H
 refine PW.seq ?_
 refine PW.regionK fun K hK => OW.run [1] ?_
 simp only [go_sem, simprocAttr, sw0]
 refine OW.nil (hK _ ?_); clear hK K
 refine PW.seq ?_
 refine PW.regionK fun K hK => OW.run [4, 5] ?_
 simp only [go_sem, simprocAttr, sw0]
 refine OW.inline rfl rfl rfl (by first | exact rfl | ((simp only [go_sem, List.toList_toArray, simprocAttr]); exact rfl)) Try.func73 rfl (by rw [Try.results73]) Try.ntmps73 Try.call73 (by (simp only [go_sem, Nat.reduceLT])) ?_
 intro us p
 change PW _ _ _ _ _
 try simp only [go_sem, simprocAttr]
 refine PW.seq ?_
 refine PW.regionK fun K hK => OW.run [1] ?_
 simp only [go_sem, simprocAttr, sw0]
 refine OW.nil (hK _ ?_); clear hK K
 refine PW.seq ?_
 refine PW.seq ?_
 obtain ⟨x1, e1, H⟩ := bnd_some H
 refine PW.regionK fun K hK => OW.run [1, 4] ?_
 simp only [go_sem, simprocAttr, sw0]
 refine OW.call' 4 rfl rfl rfl (by first | exact rfl | ((simp only [go_sem, List.toList_toArray, simprocAttr]); exact rfl)) ?_ (plan_planErr_ok N _ _ _ _ _ _ _ e1) ?_ ?_ ?_ ?_
 rfl
 · (refine okAll_intro ?_; (simp only [go_sem, sw2, List.length_set, List.length_replicate, and_true, true_and, Nat.le_refl, simprocAttr]; done))
 exact .inl rfl
 (simp only [go_sem, Nat.reduceLT])
 refine OW.run [1, 4] ?_
 simp only [go_sem, simprocAttr, sw0]
 refine OW.nil (hK _ ?_); clear hK K
 refine PW.seq ?_
 refine PW.regionK fun K hK => OW.run [1, 4, 11] ?_
 simp only [go_sem, simprocAttr, sw0]
 refine OW.nil (hK _ ?_); clear hK K
 refine PW.cond rfl (fun h1 => ?_) (fun h1 => ?_)
 replace H := br_t h1 H
 refine PW.seq ?_
 refine PW.regionK fun K hK => OW.run [2, 3] ?_
 simp only [go_sem, simprocAttr, sw0]
 refine OW.nil (hK _ ?_); clear hK K
 refine PW.ret ?_
 refine ⟨.inr rfl, rfl, rfl, ?_⟩
 simp only [go_sem, simprocAttr, sw0]
 change OW _ _ _ _ _ _
 refine OW.run [4, 5] ?_
 simp only [go_sem, simprocAttr, sw0]
 refine OW.nil (hK _ ?_); clear hK K
 refine PW.seq ?_
 refine PW.seq ?_
 refine PW.regionK fun K hK => OW.run [4, 5, 16] ?_
 simp only [go_sem, simprocAttr, sw0]
 refine OW.nil (hK _ ?_); clear hK K
 refine PW.cond rfl (fun h2 => ?_) (fun h2 => ?_)
 refine PW.seq ?_
 refine PW.regionK fun K hK => OW.run [2, 3] ?_
 simp only [go_sem, simprocAttr, sw0]
 refine OW.nil (hK _ ?_); clear hK K
 refine PW.ret ?_
 change EndsF _ _ _ _ _
 refine EndsF.intro (.inr rfl) ?_
 simp only [go_sem, simprocAttr, sw0]
 obtain rfl := Option.some.inj H
 refine FrOK.data 4 (by exact okD_all rfl) (by rfl) ?_
 rfl
 exact absurd (h2.symm.trans h1) (by decide)
 replace H := br_f h1 H
 refine PW.skip ?_
 refine PW.seq ?_
 obtain ⟨c3, H⟩ := chk_some H
 refine PW.drawK 7 mixed (by kernel_rfl) fun K hK => ?_
 change FW _ _ _ _ _
 refine FW.run ?_
 (simp only [go_sem, simprocAttr, sw0, getD_mapF L Z12 0 default (by omega)])
 repeat (refine And.intro (by omega) ?_)
 refine FW.nil ?_
 change OW _ _ _ _ _ _
 refine OW.run [1, 5] ?_
 (simp only [go_sem, simprocAttr, sw0, getD_mapF L Z12 0 default (by omega)])
 refine OW.nil (hK _ ?_); clear hK K
 refine PW.joinS (τ := (List (List (Int × Bool)))) [5] 4 (fun b3 => []) (fun b3 => [{ cells := [.d (.list Z12.length (Z12.map L)), .d (.list Zy.length (Zy.flatMap (fun (x : ByteArray × Int × Int × Int × Int × Int × Int) => [(Sx x.1), (I x.2.1), (I x.2.2.1), (I x.2.2.2.1), (I x.2.2.2.2.1), (I x.2.2.2.2.2.1), (I x.2.2.2.2.2.2)]))), .d (.list Z11.length (Z11.flatMap (fun (x : Int × Int) => [(I x.1), (I x.2)]))), .d (I Zz), .d (I Z13), .d (I Z10)], e := 55 }, { cells := [.d (.list Z12.length (Z12.map L)), .d (.list Zy.length (Zy.flatMap (fun (x : ByteArray × Int × Int × Int × Int × Int × Int) => [(Sx x.1), (I x.2.1), (I x.2.2.1), (I x.2.2.2.1), (I x.2.2.2.2.1), (I x.2.2.2.2.2.1), (I x.2.2.2.2.2.2)]))), .d (.list Z11.length (Z11.flatMap (fun (x : Int × Int) => [(I x.1), (I x.2)]))), .d (I Zz), .d (I Z13), .d (I Z10)], e := 55 }, { cells := [.d (.list Z12.length (Z12.map L)), .d (.list Zy.length (Zy.flatMap (fun (x : ByteArray × Int × Int × Int × Int × Int × Int) => [(Sx x.1), (I x.2.1), (I x.2.2.1), (I x.2.2.2.1), (I x.2.2.2.2.1), (I x.2.2.2.2.2.1), (I x.2.2.2.2.2.2)]))), .d (.list Z11.length (Z11.flatMap (fun (x : Int × Int) => [(I x.1), (I x.2)]))), .d (I Zz), .d (I Z13), .d (I Z10), .d (I ((Z12.getD 0 default).length : Int)), .own 3 0 b3.length 1], e := 151 }, { cells := (b3.map (fun (x : List (Int × Bool)) => (.list x.length (x.flatMap (fun (x : Int × Bool) => [(I x.1), (Bo x.2)]))))).map .d, e := 148 }]) _ _ r (by (simp only [go_sem]; omega)) H ?_ ?_
 intro K_ H N4 hN4
 refine PW.seq ?_
 refine PW.regionK fun K hK => OW.run [5, 23, 24, 25] ?_
 simp only [go_sem, simprocAttr, sw0]
 repeat (refine And.intro (by omega) ?_)
 refine OW.nil (hK _ ?_); clear hK K
 refine PW.block ?_
 refine PW.virtC 2 7 148 1 _ rfl rfl ?_
 try simp only [go_sem, simprocAttr]
 refine PW.loopS (σ := Int × (List (List (Int × Bool)))) [5, 23, 24, 25] 4 (fun (t25, b31) => [(25, .d (I t25))]) (fun (t25, b31) => [{ cells := [.d (.list Z12.length (Z12.map L)), .d (.list Zy.length (Zy.flatMap (fun (x : ByteArray × Int × Int × Int × Int × Int × Int) => [(Sx x.1), (I x.2.1), (I x.2.2.1), (I x.2.2.2.1), (I x.2.2.2.2.1), (I x.2.2.2.2.2.1), (I x.2.2.2.2.2.2)]))), .d (.list Z11.length (Z11.flatMap (fun (x : Int × Int) => [(I x.1), (I x.2)]))), .d (I Zz), .d (I Z13), .d (I Z10)], e := 55 }, { cells := [.d (.list Z12.length (Z12.map L)), .d (.list Zy.length (Zy.flatMap (fun (x : ByteArray × Int × Int × Int × Int × Int × Int) => [(Sx x.1), (I x.2.1), (I x.2.2.1), (I x.2.2.2.1), (I x.2.2.2.2.1), (I x.2.2.2.2.2.1), (I x.2.2.2.2.2.2)]))), .d (.list Z11.length (Z11.flatMap (fun (x : Int × Int) => [(I x.1), (I x.2)]))), .d (I Zz), .d (I Z13), .d (I Z10)], e := 55 }, { cells := [.d (.list Z12.length (Z12.map L)), .d (.list Zy.length (Zy.flatMap (fun (x : ByteArray × Int × Int × Int × Int × Int × Int) => [(Sx x.1), (I x.2.1), (I x.2.2.1), (I x.2.2.2.1), (I x.2.2.2.2.1), (I x.2.2.2.2.2.1), (I x.2.2.2.2.2.2)]))), .d (.list Z11.length (Z11.flatMap (fun (x : Int × Int) => [(I x.1), (I x.2)]))), .d (I Zz), .d (I Z13), .d (I Z10), .d (I ((Z12.getD 0 default).length : Int)), .own 3 0 b31.length 1], e := 151 }, { cells := (b31.map (fun (x : List (Int × Bool)) => (.list x.length (x.flatMap (fun (x : Int × Bool) => [(I x.1), (Bo x.2)]))))).map .d, e := 148 }]) (plan_Holes.b1 N Z12 Zy Z11 Zz Z13 Z10 K_) r N ((0 : Int), ([] : List (List (Int × Bool)))) (by (simp only [go_sem]; omega)) H (by (simp only [sw1, go_sem, simprocAttr]; done)) ?_
 rintro n ⟨t25, b31⟩ H N5 hN5
 unfold plan_Holes.b1 at H
 try simp only [go_sem, simprocAttr]
 refine PW.seq ?_
 refine PW.regionK fun K hK => OW.run [5, 23, 24, 25, 26] ?_
 simp only [go_sem, simprocAttr, sw0]
 refine OW.nil (hK _ ?_); clear hK K
 refine PW.seq ?_
 refine PW.cond rfl (fun h6 => ?_) (fun h6 => ?_)
 ·
  replace H := br_t h6 H
  refine PW.skip ?_
  refine PW.seq ?_
  refine PW.block ?_
  refine PW.seq ?_
  obtain ⟨c7, H⟩ := chk_some H
  refine PW.regionK fun K hK => OW.run [5, 7, 23, 24, 25] ?_
  (simp only [go_sem, simprocAttr, sw0, z0W3a, z1W3a Zy t25.toNat (by omega)])
  repeat (refine And.intro (by omega) ?_)
  refine OW.nil (hK _ ?_); clear hK K
  change PW _ _ _ _ _
  obtain ⟨x2, e2, H⟩ := bnd_some H
  obtain ⟨c8, H⟩ := chk_some H
  refine PW.drawX 10 [9] (fun j => List.getD [[{ cells := [.d (.list Z12.length (Z12.map L)), .d (.list Zy.length (Zy.flatMap (fun (x : ByteArray × Int × Int × Int × Int × Int × Int) => [(Sx x.1), (I x.2.1), (I x.2.2.1), (I x.2.2.2.1), (I x.2.2.2.2.1), (I x.2.2.2.2.2.1), (I x.2.2.2.2.2.2)]))), .d (.list Z11.length (Z11.flatMap (fun (x : Int × Int) => [(I x.1), (I x.2)]))), .d (I Zz), .d (I Z13), .d (I Z10)], e := 55 }, { cells := [.d (.list Z12.length (Z12.map L)), .d (.list Zy.length (Zy.flatMap (fun (x : ByteArray × Int × Int × Int × Int × Int × Int) => [(Sx x.1), (I x.2.1), (I x.2.2.1), (I x.2.2.2.1), (I x.2.2.2.2.1), (I x.2.2.2.2.2.1), (I x.2.2.2.2.2.2)]))), .d (.list Z11.length (Z11.flatMap (fun (x : Int × Int) => [(I x.1), (I x.2)]))), .d (I Zz), .d (I Z13), .d (I Z10)], e := 55 }, { cells := [.d (.list Z12.length (Z12.map L)), .d (.list Zy.length (Zy.flatMap (fun (x : ByteArray × Int × Int × Int × Int × Int × Int) => [(Sx x.1), (I x.2.1), (I x.2.2.1), (I x.2.2.2.1), (I x.2.2.2.2.1), (I x.2.2.2.2.2.1), (I x.2.2.2.2.2.2)]))), .d (.list Z11.length (Z11.flatMap (fun (x : Int × Int) => [(I x.1), (I x.2)]))), .d (I Zz), .d (I Z13), .d (I Z10), .d (I ((Z12.getD 0 default).length : Int)), .own 3 0 b31.length 1], e := 151 }, { cells := (b31.map (fun (x : List (Int × Bool)) => (.list x.length (x.flatMap (fun (x : Int × Bool) => [(I x.1), (Bo x.2)]))))).map .d, e := 148 }, { cells := [.d (Sx ((Zy.getD t25.toNat default).1)), .d (I ((Zy.getD t25.toNat default).2.1)), .d (I ((Zy.getD t25.toNat default).2.2.1)), .d (I ((Zy.getD t25.toNat default).2.2.2.1)), .d (I ((Zy.getD t25.toNat default).2.2.2.2.1)), .d (I ((Zy.getD t25.toNat default).2.2.2.2.2.1)), .d (I ((Zy.getD t25.toNat default).2.2.2.2.2.2))], e := 57 }], [{ cells := [.d (.list Z12.length (Z12.map L)), .d (.list Zy.length (Zy.flatMap (fun (x : ByteArray × Int × Int × Int × Int × Int × Int) => [(Sx x.1), (I x.2.1), (I x.2.2.1), (I x.2.2.2.1), (I x.2.2.2.2.1), (I x.2.2.2.2.2.1), (I x.2.2.2.2.2.2)]))), .d (.list Z11.length (Z11.flatMap (fun (x : Int × Int) => [(I x.1), (I x.2)]))), .d (I Zz), .d (I Z13), .d (I Z10)], e := 55 }, { cells := [.d (.list Z12.length (Z12.map L)), .d (.list Zy.length (Zy.flatMap (fun (x : ByteArray × Int × Int × Int × Int × Int × Int) => [(Sx x.1), (I x.2.1), (I x.2.2.1), (I x.2.2.2.1), (I x.2.2.2.2.1), (I x.2.2.2.2.2.1), (I x.2.2.2.2.2.2)]))), .d (.list Z11.length (Z11.flatMap (fun (x : Int × Int) => [(I x.1), (I x.2)]))), .d (I Zz), .d (I Z13), .d (I Z10)], e := 55 }, { cells := [.d (.list Z12.length (Z12.map L)), .d (.list Zy.length (Zy.flatMap (fun (x : ByteArray × Int × Int × Int × Int × Int × Int) => [(Sx x.1), (I x.2.1), (I x.2.2.1), (I x.2.2.2.1), (I x.2.2.2.2.1), (I x.2.2.2.2.2.1), (I x.2.2.2.2.2.2)]))), .d (.list Z11.length (Z11.flatMap (fun (x : Int × Int) => [(I x.1), (I x.2)]))), .d (I Zz), .d (I Z13), .d (I Z10), .d (I ((Z12.getD 0 default).length : Int)), .dead], e := 151 }, { cells := ((b31 ++ ([x2] : List (List (Int × Bool)))).map (fun (x : List (Int × Bool)) => (.list x.length (x.flatMap (fun (x : Int × Bool) => [(I x.1), (Bo x.2)]))))).map .d, e := 148 }, { cells := [.d (Sx ((Zy.getD t25.toNat default).1)), .d (I ((Zy.getD t25.toNat default).2.1)), .d (I ((Zy.getD t25.toNat default).2.2.1)), .d (I ((Zy.getD t25.toNat default).2.2.2.1)), .d (I ((Zy.getD t25.toNat default).2.2.2.2.1)), .d (I ((Zy.getD t25.toNat default).2.2.2.2.2.1)), .d (I ((Zy.getD t25.toNat default).2.2.2.2.2.2))], e := 57 }]] j []) (κL [(0, 3)]) mixed (by kernel_rfl) (by decide) (by ((refine ⟨by decide, ?_⟩; intro k i i' h1 h2 o ho; match k, h1, h2 with | 0, h1, h2 => (simp at h1 h2 <;> first | (cases h2; done) | (subst h1; subst h2; simp at ho; subst ho; simp [Region.binds]; done)) | 1, h1, h2 => (simp at h1 h2 <;> first | (cases h2; done) | (subst h1; subst h2; simp at ho; subst ho; simp [Region.binds]; done)) | 2, h1, h2 => (simp at h1 h2 <;> first | (cases h2; done) | (subst h1; subst h2; simp at ho; subst ho; simp [Region.binds]; done)) | k + 3, h1, h2 => (simp at h2; done)))) (κL_dead _) (by decide) (freshL rfl) rfl rfl fun K hK => ?_
  change FWX _ _ _ _ _ _ _ _ _ _
  refine FWX.op (by decide) rfl (.ptr 2 0) 0 1 (.inl rfl) (.inl rfl) ?_ ?_ (by (simp only [go_sem, Nat.reduceLT])) ?_
  ·
   intro j hj1 hj2
   have hj : j = 0 ∨ j = 1 := by omega
   rcases hj with rfl | rfl
   all_goals (refine ⟨?_, ?_⟩)
   all_goals (first | rfl | trivial | ((simp only [go_sem, simprocAttr, sw0, allOne_mapF (fun (x : List (Int × Bool)) => (.list x.length (x.flatMap (fun (x : Int × Bool) => [(I x.1), (Bo x.2)])))) (fun _ => rfl)]); first | done | rfl | omega | assumption | decide | (simp only [List.append_assoc, List.cons_append, List.nil_append]; done) | ((repeat (refine And.intro (by first | rfl | omega | assumption | decide) ?_)); first | rfl | omega | assumption | decide)))
  refine KeptX.free [33, 38] (by first | rfl | (simp only [V.kill]; exact if_neg (by omega))) ?_ (by kernel_rfl) ?_
  · repeat (first | exact fun _ h => absurd h List.not_mem_nil | (refine List.forall_mem_cons.2 (And.intro ?_ ?_); · first | exact .inr rfl | (left; simp; done) | (right; simp only [V.kill, ↓reduceIte]; first | rfl | exact if_neg (by omega) | (simp only [V.kill, V.kill.kills, ↓reduceIte]; done))))
  exact KeptX.nil
  try simp only [go_sem, simprocAttr]
  refine FWX.op (by decide) rfl (.ptr 2 0) 0 1 (.inl rfl) (.inl rfl) ?_ ?_ (by (simp only [go_sem, Nat.reduceLT])) ?_
  ·
   intro j hj1 hj2
   have hj : j = 0 ∨ j = 1 := by omega
   rcases hj with rfl | rfl
   all_goals (refine ⟨?_, ?_⟩)
   all_goals (first | rfl | trivial | ((simp only [go_sem, simprocAttr, sw0, allOne_mapF (fun (x : List (Int × Bool)) => (.list x.length (x.flatMap (fun (x : Int × Bool) => [(I x.1), (Bo x.2)])))) (fun _ => rfl)]); first | done | rfl | omega | assumption | decide | (simp only [List.append_assoc, List.cons_append, List.nil_append]; done) | ((repeat (refine And.intro (by first | rfl | omega | assumption | decide) ?_)); first | rfl | omega | assumption | decide)))
  refine KeptX.free [33, 38] (by first | rfl | (simp only [V.kill]; exact if_neg (by omega))) ?_ (by kernel_rfl) ?_
  · repeat (first | exact fun _ h => absurd h List.not_mem_nil | (refine List.forall_mem_cons.2 (And.intro ?_ ?_); · first | exact .inr rfl | (left; simp; done) | (right; simp only [V.kill, ↓reduceIte]; first | rfl | exact if_neg (by omega) | (simp only [V.kill, V.kill.kills, ↓reduceIte]; done))))
  exact KeptX.nil
  try simp only [go_sem, simprocAttr]
  refine FWX.op (by decide) rfl (.ptr 2 0) 0 1 (.inl rfl) (.inl rfl) ?_ ?_ (by (simp only [go_sem, Nat.reduceLT])) ?_
  ·
   intro j hj1 hj2
   have hj : j = 0 ∨ j = 1 := by omega
   rcases hj with rfl | rfl
   all_goals (refine ⟨?_, ?_⟩)
   all_goals (first | rfl | trivial | ((simp only [go_sem, simprocAttr, sw0, allOne_mapF (fun (x : List (Int × Bool)) => (.list x.length (x.flatMap (fun (x : Int × Bool) => [(I x.1), (Bo x.2)])))) (fun _ => rfl)]); first | done | rfl | omega | assumption | decide | (simp only [List.append_assoc, List.cons_append, List.nil_append]; done) | ((repeat (refine And.intro (by first | rfl | omega | assumption | decide) ?_)); first | rfl | omega | assumption | decide)))
  refine KeptX.free [33, 38] (by first | rfl | (simp only [V.kill]; exact if_neg (by omega))) ?_ (by kernel_rfl) ?_
  · repeat (first | exact fun _ h => absurd h List.not_mem_nil | (refine List.forall_mem_cons.2 (And.intro ?_ ?_); · first | exact .inr rfl | (left; simp; done) | (right; simp only [V.kill, ↓reduceIte]; first | rfl | exact if_neg (by omega) | (simp only [V.kill, V.kill.kills, ↓reduceIte]; done))))
  exact KeptX.nil
  try simp only [go_sem, simprocAttr]
  refine FWX.op (by decide) rfl (.ptr 2 7) 0 1 (.inl rfl) (.inl rfl) ?_ ?_ (by (simp only [go_sem, Nat.reduceLT])) ?_
  ·
   intro j hj1 hj2
   have hj : j = 0 ∨ j = 1 := by omega
   rcases hj with rfl | rfl
   all_goals (refine ⟨?_, ?_⟩)
   all_goals (first | rfl | trivial | ((simp only [go_sem, simprocAttr, sw0, allOne_mapF (fun (x : List (Int × Bool)) => (.list x.length (x.flatMap (fun (x : Int × Bool) => [(I x.1), (Bo x.2)])))) (fun _ => rfl)]); first | done | rfl | omega | assumption | decide | (simp only [List.append_assoc, List.cons_append, List.nil_append]; done) | ((repeat (refine And.intro (by first | rfl | omega | assumption | decide) ?_)); first | rfl | omega | assumption | decide)))
  refine KeptX.free [33, 38] (by first | rfl | (simp only [V.kill]; exact if_neg (by omega))) ?_ (by kernel_rfl) ?_
  · repeat (first | exact fun _ h => absurd h List.not_mem_nil | (refine List.forall_mem_cons.2 (And.intro ?_ ?_); · first | exact .inr rfl | (left; simp; done) | (right; simp only [V.kill, ↓reduceIte]; first | rfl | exact if_neg (by omega) | (simp only [V.kill, V.kill.kills, ↓reduceIte]; done))))
  exact KeptX.nil
  try simp only [go_sem, simprocAttr]
  refine FWX.op (by decide) rfl (.own 3 0 b31.length 1) 0 0 (.inl rfl) (.inr ⟨_, _, { on := 4, ground := .data }, rfl, rfl, by simp, rfl, rfl⟩) ?_ ?_ (by (simp only [go_sem, Nat.reduceLT])) ?_
  ·
   intro j hj1 hj2
   have hj : j = 0 := by omega
   subst hj
   all_goals (refine ⟨?_, ?_⟩)
   all_goals (first | rfl | trivial | ((simp only [go_sem, simprocAttr, sw0, allOne_mapF (fun (x : List (Int × Bool)) => (.list x.length (x.flatMap (fun (x : Int × Bool) => [(I x.1), (Bo x.2)])))) (fun _ => rfl)]); first | done | rfl | omega | assumption | decide | (simp only [List.append_assoc, List.cons_append, List.nil_append]; done) | ((repeat (refine And.intro (by first | rfl | omega | assumption | decide) ?_)); first | rfl | omega | assumption | decide)))
  refine KeptX.dep rfl rfl ⟨{ on := 4, ground := .data }, by simp, rfl, rfl⟩ ?_
  exact KeptX.nil
  try simp only [go_sem, simprocAttr]
  refine FWX.op (by decide) rfl (.ptr 2 0) 0 1 (.inl rfl) (.inl rfl) ?_ ?_ (by (simp only [go_sem, Nat.reduceLT])) ?_
  ·
   intro j hj1 hj2
   have hj : j = 0 ∨ j = 1 := by omega
   rcases hj with rfl | rfl
   all_goals (refine ⟨?_, ?_⟩)
   all_goals (first | rfl | trivial | ((simp only [go_sem, simprocAttr, sw0, allOne_mapF (fun (x : List (Int × Bool)) => (.list x.length (x.flatMap (fun (x : Int × Bool) => [(I x.1), (Bo x.2)])))) (fun _ => rfl)]); first | done | rfl | omega | assumption | decide | (simp only [List.append_assoc, List.cons_append, List.nil_append]; done) | ((repeat (refine And.intro (by first | rfl | omega | assumption | decide) ?_)); first | rfl | omega | assumption | decide)))
  refine KeptX.free [33, 38] (by first | rfl | (simp only [V.kill]; exact if_neg (by omega))) ?_ (by kernel_rfl) ?_
  · repeat (first | exact fun _ h => absurd h List.not_mem_nil | (refine List.forall_mem_cons.2 (And.intro ?_ ?_); · first | exact .inr rfl | (left; simp; done) | (right; simp only [V.kill, ↓reduceIte]; first | rfl | exact if_neg (by omega) | (simp only [V.kill, V.kill.kills, ↓reduceIte]; done))))
  exact KeptX.nil
  try simp only [go_sem, simprocAttr]
  refine FWX.op (by decide) rfl (.agg [.d (Sx ((Zy.getD t25.toNat default).1)), .d (I ((Zy.getD t25.toNat default).2.1)), .d (I ((Zy.getD t25.toNat default).2.2.1)), .d (I ((Zy.getD t25.toNat default).2.2.2.1)), .d (I ((Zy.getD t25.toNat default).2.2.2.2.1)), .d (I ((Zy.getD t25.toNat default).2.2.2.2.2.1)), .d (I ((Zy.getD t25.toNat default).2.2.2.2.2.2))]) 0 1 (.inl rfl) (.inl rfl) ?_ ?_ (by (simp only [go_sem, Nat.reduceLT])) ?_
  ·
   intro j hj1 hj2
   have hj : j = 0 ∨ j = 1 := by omega
   rcases hj with rfl | rfl
   all_goals (refine ⟨?_, ?_⟩)
   all_goals (first | rfl | trivial | ((simp only [go_sem, simprocAttr, sw0, allOne_mapF (fun (x : List (Int × Bool)) => (.list x.length (x.flatMap (fun (x : Int × Bool) => [(I x.1), (Bo x.2)])))) (fun _ => rfl)]); first | done | rfl | omega | assumption | decide | (simp only [List.append_assoc, List.cons_append, List.nil_append]; done) | ((repeat (refine And.intro (by first | rfl | omega | assumption | decide) ?_)); first | rfl | omega | assumption | decide)))
  refine KeptX.free [33, 38] (by first | rfl | (simp only [V.kill]; exact if_neg (by omega))) ?_ (by kernel_rfl) ?_
  · repeat (first | exact fun _ h => absurd h List.not_mem_nil | (refine List.forall_mem_cons.2 (And.intro ?_ ?_); · first | exact .inr rfl | (left; simp; done) | (right; simp only [V.kill, ↓reduceIte]; first | rfl | exact if_neg (by omega) | (simp only [V.kill, V.kill.kills, ↓reduceIte]; done))))
  exact KeptX.nil
  try simp only [go_sem, simprocAttr]
  refine FWX.callF (by decide) rfl rfl 4 0 0 (.inl rfl) (.inr ⟨_, _, { on := 7, ground := .chain }, rfl, rfl, by simp, rfl, rfl⟩) rfl (by first | exact rfl | ((simp only [go_sem, List.toList_toArray, simprocAttr]); exact rfl)) (plan_field_of_okf N _ _ _ _ _ _ _ _ _ _ _ _ _ _ _ _ e2) ?_ ?_ (by (simp only [go_sem, Nat.reduceLT])) ?_
  ·
   intro j hj1 hj2
   have hj : j = 0 := by omega
   subst hj
   all_goals (refine ⟨?_, ?_⟩)
   any_goals try simp only [go_sem, simprocAttr]
   all_goals first | ((refine okAll_intro ?_; (simp only [go_sem, sw2, List.length_set, List.length_replicate, and_true, true_and, Nat.le_refl, simprocAttr]; done)); done) | ((((simp only [go_sem, sw1, simprocAttr]; try simp only [seg, go_sem, simprocAttr])); done); done)
  refine KeptX.dep rfl rfl ⟨{ on := 7, ground := .chain }, by simp, rfl, rfl⟩ ?_
  exact KeptX.nil
  try simp only [go_sem, simprocAttr]
  refine FWX.op (by decide) rfl (.d (.list ([x2] : List (List (Int × Bool))).length (([x2] : List (List (Int × Bool))).map (fun (x : List (Int × Bool)) => (.list x.length (x.flatMap (fun (x : Int × Bool) => [(I x.1), (Bo x.2)]))))))) 0 0 (.inl rfl) (.inr ⟨_, _, { on := 8, ground := .data }, rfl, rfl, by simp, rfl, rfl⟩) ?_ ?_ (by (simp only [go_sem, Nat.reduceLT])) ?_
  ·
   intro j hj1 hj2
   have hj : j = 0 := by omega
   subst hj
   all_goals (refine ⟨?_, ?_⟩)
   all_goals (first | rfl | trivial | ((simp only [go_sem, simprocAttr, sw0, allOne_mapF (fun (x : List (Int × Bool)) => (.list x.length (x.flatMap (fun (x : Int × Bool) => [(I x.1), (Bo x.2)])))) (fun _ => rfl)]); first | done | rfl | omega | assumption | decide | (simp only [List.append_assoc, List.cons_append, List.nil_append]; done) | ((repeat (refine And.intro (by first | rfl | omega | assumption | decide) ?_)); first | rfl | omega | assumption | decide)))
  refine KeptX.dep rfl rfl ⟨{ on := 8, ground := .data }, by simp, rfl, rfl⟩ ?_
  exact KeptX.nil
  try simp only [go_sem, simprocAttr]
  refine FWX.append 3 (q := 0) (by decide) rfl rfl rfl rfl (Nat.le_of_ble_eq_true rfl) rfl (by first | decide | (first | exact Nat.le_refl _ | exact Nat.zero_le _ | (simp only [go_sem]; omega))) (.own 3 0 ((b31 ++ ([x2] : List (List (Int × Bool)))).length) 1) ?_ rfl ?_ ?_ ?_
  ·
   refine FreeX.of' rfl [33] ?_ (by kernel_rfl)
   · repeat (first | exact fun _ h => absurd h List.not_mem_nil | (refine List.forall_mem_cons.2 (And.intro ?_ ?_); · first | exact .inr rfl | (left; simp; done) | (right; simp only [V.kill, ↓reduceIte]; first | rfl | exact if_neg (by omega) | (simp only [V.kill, V.kill.kills, ↓reduceIte]; done))))
  · first | trivial | ((simp only [go_sem, simprocAttr, sw0, allOne_mapF (fun (x : List (Int × Bool)) => (.list x.length (x.flatMap (fun (x : Int × Bool) => [(I x.1), (Bo x.2)])))) (fun _ => rfl)]); done) | ((simp only [go_sem, simprocAttr, sw0, allOne_mapF (fun (x : List (Int × Bool)) => (.list x.length (x.flatMap (fun (x : Int × Bool) => [(I x.1), (Bo x.2)])))) (fun _ => rfl)]); first | omega | (repeat (refine And.intro (by (first | omega | assumption | rfl | decide | (simp only [List.length_map, List.length_replicate, List.length_append, List.length_take, List.length_drop, List.length_set, List.length_cons, List.length_nil, Nat.zero_add, Int.toNat_natCast] at *; omega) | (simp only [List.length_map, List.length_replicate, List.length_append, List.length_take, List.length_drop, List.length_set, List.length_cons, List.length_nil, Nat.zero_add, Int.toNat_natCast]; done) | trivial)) ?_); (first | omega | assumption | rfl | decide | (simp only [List.length_map, List.length_replicate, List.length_append, List.length_take, List.length_drop, List.length_set, List.length_cons, List.length_nil, Nat.zero_add, Int.toNat_natCast] at *; omega) | (simp only [List.length_map, List.length_replicate, List.length_append, List.length_take, List.length_drop, List.length_set, List.length_cons, List.length_nil, Nat.zero_add, Int.toNat_natCast]; done) | trivial)))
  · first | rfl | ((simp only [go_sem, simprocAttr, sw0, allOne_mapF (fun (x : List (Int × Bool)) => (.list x.length (x.flatMap (fun (x : Int × Bool) => [(I x.1), (Bo x.2)])))) (fun _ => rfl)]); done) | ((simp only [go_sem, simprocAttr, sw0, allOne_mapF (fun (x : List (Int × Bool)) => (.list x.length (x.flatMap (fun (x : Int × Bool) => [(I x.1), (Bo x.2)])))) (fun _ => rfl)]); rfl) | ((simp only [go_sem, simprocAttr, sw0, allOne_mapF (fun (x : List (Int × Bool)) => (.list x.length (x.flatMap (fun (x : Int × Bool) => [(I x.1), (Bo x.2)])))) (fun _ => rfl)]); simp only [List.append_assoc, List.cons_append, List.nil_append]; done)
  try (simp only [go_sem, simprocAttr, sw0, allOne_mapF (fun (x : List (Int × Bool)) => (.list x.length (x.flatMap (fun (x : Int × Bool) => [(I x.1), (Bo x.2)])))) (fun _ => rfl)])
  refine FWX.nil ?_
  change OW _ _ _ _ _ _
  change OW _ _ _ _ _ _
  refine OW.run [5, 23, 24, 25] ?_
  (simp only [go_sem, simprocAttr, sw0, allOne_mapF (fun (x : List (Int × Bool)) => (.list x.length (x.flatMap (fun (x : Int × Bool) => [(I x.1), (Bo x.2)])))) (fun _ => rfl)])
  repeat (refine And.intro (by omega) ?_)
  refine OW.nil (hK _ ?_); clear hK K
  refine PW.regionK fun K hK => OW.run [5, 23, 24, 25] ?_
  simp only [go_sem, simprocAttr, sw0]
  refine OW.nil (hK _ ?_); clear hK K
  refine hN5 [] (w64 (t25 + (1 : Int)), (b31 ++ ([x2] : List (List (Int × Bool))))) _ H (by exact trivial) ?_
  simp only [sw1, go_sem, simprocAttr]
 replace H := br_f h6 H
 refine PW.exit ?_
 refine hN4 [] b31 _ H (by exact trivial) ?_
 simp only [sw1, go_sem, simprocAttr]
 rintro b3 H
 try simp only [go_sem, simprocAttr]
 refine PW.seq ?_
 refine PW.regionK fun K hK => OW.run [2, 3] ?_
 simp only [go_sem, simprocAttr, sw0]
 refine OW.nil (hK _ ?_); clear hK K
 refine PW.ret ?_
 refine ⟨.inr rfl, rfl, rfl, ?_⟩
 simp only [go_sem, simprocAttr, sw0]
 change OW _ _ _ _ _ _
 refine OW.run [4, 5] ?_
 simp only [go_sem, simprocAttr, sw0]
 refine OW.nil (hK _ ?_); clear hK K
 refine PW.seq ?_
 refine PW.seq ?_
 refine PW.regionK fun K hK => OW.run [4, 5, 16] ?_
 simp only [go_sem, simprocAttr, sw0]
 refine OW.nil (hK _ ?_); clear hK K
 refine PW.cond rfl (fun h9 => ?_) (fun h9 => ?_)
 exact absurd h9 (by decide)
 refine PW.skip ?_
 refine PW.seq ?_
 refine PW.regionK fun K hK => OW.run [4, 6] ?_
 simp only [go_sem, simprocAttr, sw0]
 refine OW.nil (hK _ ?_); clear hK K
 refine PW.joinS (τ := (List (Int × Int))) [6] 5 (fun b4 => [(6, .own 4 0 b4.length 2)]) (fun b4 => [{ cells := [.d (.list Z12.length (Z12.map L)), .d (.list Zy.length (Zy.flatMap (fun (x : ByteArray × Int × Int × Int × Int × Int × Int) => [(Sx x.1), (I x.2.1), (I x.2.2.1), (I x.2.2.2.1), (I x.2.2.2.2.1), (I x.2.2.2.2.2.1), (I x.2.2.2.2.2.2)]))), .d (.list Z11.length (Z11.flatMap (fun (x : Int × Int) => [(I x.1), (I x.2)]))), .d (I Zz), .d (I Z13), .d (I Z10)], e := 55 }, { cells := [.d (.list Z12.length (Z12.map L)), .d (.list Zy.length (Zy.flatMap (fun (x : ByteArray × Int × Int × Int × Int × Int × Int) => [(Sx x.1), (I x.2.1), (I x.2.2.1), (I x.2.2.2.1), (I x.2.2.2.2.1), (I x.2.2.2.2.2.1), (I x.2.2.2.2.2.2)]))), .d (.list Z11.length (Z11.flatMap (fun (x : Int × Int) => [(I x.1), (I x.2)]))), .d (I Zz), .d (I Z13), .d (I Z10)], e := 55 }, { cells := [.d (.list Z12.length (Z12.map L)), .d (.list Zy.length (Zy.flatMap (fun (x : ByteArray × Int × Int × Int × Int × Int × Int) => [(Sx x.1), (I x.2.1), (I x.2.2.1), (I x.2.2.2.1), (I x.2.2.2.2.1), (I x.2.2.2.2.2.1), (I x.2.2.2.2.2.2)]))), .d (.list Z11.length (Z11.flatMap (fun (x : Int × Int) => [(I x.1), (I x.2)]))), .d (I Zz), .d (I Z13), .d (I Z10), .d (I ((Z12.getD 0 default).length : Int)), .own 3 0 b3.length 1], e := 151 }, { cells := (b3.map (fun (x : List (Int × Bool)) => (.list x.length (x.flatMap (fun (x : Int × Bool) => [(I x.1), (Bo x.2)]))))).map .d, e := 148 }, { cells := (b4.flatMap (fun (x : Int × Int) => [(I x.1), (I x.2)])).map .d, e := 42 }]) _ _ r (by exact Nat.zero_le _) H ?_ ?_
 intro K_1 H N10 hN10
 refine PW.seq ?_
 obtain ⟨x3, e3, H⟩ := bnd_some H
 refine PW.regionK fun K hK => OW.run [4, 6, 19, 20] ?_
 simp only [go_sem, simprocAttr, sw0]
 refine OW.call' 4 rfl rfl rfl (by first | exact rfl | ((simp only [go_sem, List.toList_toArray, simprocAttr]); exact rfl)) ?_ (plan_field_points_ok N _ _ _ _ _ _ _ _ _ e3) ?_ ?_ ?_ ?_
 · (((simp only [go_sem, sw1, simprocAttr]; try simp only [seg, go_sem, simprocAttr])); done)
 · (refine okAll_intro ?_; (simp only [go_sem, sw2, List.length_set, List.length_replicate, and_true, true_and, Nat.le_refl, simprocAttr]; done))
 exact .inr ⟨rfl, rfl⟩
 (simp only [go_sem, Nat.reduceLT])
 refine OW.run [4, 6, 19, 20] ?_
 simp only [go_sem, simprocAttr, sw0]
 refine OW.nil (hK _ ?_); clear hK K
 refine PW.block ?_
 refine PW.virt 6 42 2 rfl ?_
 try simp only [go_sem, simprocAttr]
 refine PW.loopS (σ := Int × (List (Int × Int))) [4, 6, 19, 20] 5 (fun (t20, b41) => [(6, .own 4 0 b41.length 2), (20, .d (I t20))]) (fun (t20, b41) => [{ cells := [.d (.list Z12.length (Z12.map L)), .d (.list Zy.length (Zy.flatMap (fun (x : ByteArray × Int × Int × Int × Int × Int × Int) => [(Sx x.1), (I x.2.1), (I x.2.2.1), (I x.2.2.2.1), (I x.2.2.2.2.1), (I x.2.2.2.2.2.1), (I x.2.2.2.2.2.2)]))), .d (.list Z11.length (Z11.flatMap (fun (x : Int × Int) => [(I x.1), (I x.2)]))), .d (I Zz), .d (I Z13), .d (I Z10)], e := 55 }, { cells := [.d (.list Z12.length (Z12.map L)), .d (.list Zy.length (Zy.flatMap (fun (x : ByteArray × Int × Int × Int × Int × Int × Int) => [(Sx x.1), (I x.2.1), (I x.2.2.1), (I x.2.2.2.1), (I x.2.2.2.2.1), (I x.2.2.2.2.2.1), (I x.2.2.2.2.2.2)]))), .d (.list Z11.length (Z11.flatMap (fun (x : Int × Int) => [(I x.1), (I x.2)]))), .d (I Zz), .d (I Z13), .d (I Z10)], e := 55 }, { cells := [.d (.list Z12.length (Z12.map L)), .d (.list Zy.length (Zy.flatMap (fun (x : ByteArray × Int × Int × Int × Int × Int × Int) => [(Sx x.1), (I x.2.1), (I x.2.2.1), (I x.2.2.2.1), (I x.2.2.2.2.1), (I x.2.2.2.2.2.1), (I x.2.2.2.2.2.2)]))), .d (.list Z11.length (Z11.flatMap (fun (x : Int × Int) => [(I x.1), (I x.2)]))), .d (I Zz), .d (I Z13), .d (I Z10), .d (I ((Z12.getD 0 default).length : Int)), .own 3 0 b3.length 1], e := 151 }, { cells := (b3.map (fun (x : List (Int × Bool)) => (.list x.length (x.flatMap (fun (x : Int × Bool) => [(I x.1), (Bo x.2)]))))).map .d, e := 148 }, { cells := (b41.flatMap (fun (x : Int × Int) => [(I x.1), (I x.2)])).map .d, e := 42 }]) (plan_Holes.b2 N Z12 Zy Z11 Zz Z13 Z10 b3 K_1 x3) r N ((0 : Int), ([] : List (Int × Int))) (by exact Nat.zero_le _) H (by (simp only [sw1, go_sem, simprocAttr]; rfl)) ?_
 rintro n ⟨t20, b41⟩ H N11 hN11
 unfold plan_Holes.b2 at H
 try simp only [go_sem, simprocAttr]
 refine PW.seq ?_
 refine PW.regionK fun K hK => OW.run [4, 6, 19, 20, 21] ?_
 simp only [go_sem, simprocAttr, sw0]
 refine OW.nil (hK _ ?_); clear hK K
 refine PW.seq ?_
 refine PW.cond rfl (fun h12 => ?_) (fun h12 => ?_)
 replace H := br_t h12 H
 refine PW.skip ?_
 refine PW.seq ?_
 refine PW.block ?_
 refine PW.seq ?_
 refine PW.regionK fun K hK => OW.run [4, 6, 7, 19, 20] ?_
 simp only [go_sem, simprocAttr, sw0]
 refine OW.nil (hK _ ?_); clear hK K
 refine PW.seq ?_
 obtain ⟨⟨x4, x41, x42⟩, e4, H⟩ := bnd_some H
 refine PW.regionK fun K hK => OW.run [4, 6, 7, 9, 19, 20] ?_
 simp only [go_sem, simprocAttr, sw0]
 refine OW.call' 4 rfl rfl rfl (by first | exact rfl | ((simp only [go_sem, List.toList_toArray, simprocAttr]); exact rfl)) ?_ (plan_field_server_ok N _ _ _ _ _ _ _ _ _ _ e4) ?_ ?_ ?_ ?_
 · (((simp only [go_sem, sw1, simprocAttr]; try simp only [seg, go_sem, simprocAttr])); done)
 · (refine okAll_intro ?_; (simp only [go_sem, sw2, List.length_set, List.length_replicate, and_true, true_and, Nat.le_refl, simprocAttr]; done))
 exact .inr ⟨rfl, rfl⟩
 (simp only [go_sem, Nat.reduceLT])
 refine OW.run [4, 6, 7, 9, 19, 20] ?_
 simp only [go_sem, simprocAttr, sw0]
 refine OW.nil (hK _ ?_); clear hK K
 refine PW.seq ?_
 obtain ⟨x5, e5, H⟩ := bnd_some H
 refine PW.regionK fun K hK => OW.run [4, 6, 7, 19, 20, 32] ?_
 simp only [go_sem, simprocAttr, sw0]
 refine OW.call' 4 rfl rfl rfl (by first | exact rfl | ((simp only [go_sem, List.toList_toArray, simprocAttr]); exact rfl)) ?_ (plan_field_covers_ok N _ _ _ _ _ _ _ _ _ _ _ e5) ?_ ?_ ?_ ?_
 · (((simp only [go_sem, sw1, simprocAttr]; try simp only [seg, go_sem, simprocAttr])); done)
 · (refine okAll_intro ?_; (simp only [go_sem, sw2, List.length_set, List.length_replicate, and_true, true_and, Nat.le_refl, simprocAttr]; done))
 exact .inr ⟨rfl, rfl⟩
 (simp only [go_sem, Nat.reduceLT])
 refine OW.run [4, 6, 7, 19, 20, 32] ?_
 simp only [go_sem, simprocAttr, sw0]
 refine OW.nil (hK _ ?_); clear hK K
 refine PW.cond rfl (fun h13 => ?_) (fun h13 => ?_)
 replace H := br_t h13 H
 obtain ⟨⟨x6, x61⟩, e6, H⟩ := bnd_some H
 obtain ⟨c14, H⟩ := chk_some H
 refine PW.regionK fun K hK => OW.run [4, 6, 19, 20] ?_
 (simp only [go_sem, simprocAttr, sw0, flatMap_length 2 (fun (x : Int × Int) => [(I x.1), (I x.2)]) (fun _ => rfl)])
 refine OW.call' 4 rfl rfl rfl (by first | exact rfl | ((simp only [go_sem, List.toList_toArray, simprocAttr]); exact rfl)) ?_ (plan_field_point_ok N _ _ _ _ _ _ _ _ _ _ e6) ?_ ?_ ?_ ?_
 · (((simp only [go_sem, sw1, simprocAttr]; try simp only [seg, go_sem, simprocAttr])); done)
 · (refine okAll_intro ?_; (simp only [go_sem, sw2, List.length_set, List.length_replicate, and_true, true_and, Nat.le_refl, simprocAttr]; done))
 exact .inr ⟨rfl, rfl⟩
 (simp only [go_sem, Nat.reduceLT])
 refine OW.run [4, 6, 19, 20] ?_
 (simp only [go_sem, simprocAttr, sw0, flatMap_length 2 (fun (x : Int × Int) => [(I x.1), (I x.2)]) (fun _ => rfl)])
 repeat (refine And.intro (by first | rfl | omega) ?_)
 refine OW.nil (hK _ ?_); clear hK K
 refine PW.regionK fun K hK => OW.run [4, 6, 19, 20] ?_
 simp only [go_sem, simprocAttr, sw0]
 refine OW.nil (hK _ ?_); clear hK K
 refine hN11 [] (w64 (t20 + (1 : Int)), (b41 ++ ([(x6, x61)] : List (Int × Int)))) _ H (by exact trivial) ?_
 (simp only [sw1, go_sem, simprocAttr]; simp only [List.length_set, List.length_append, List.length_cons, List.length_nil, Nat.zero_add, List.map_set, List.map_append, List.map_cons, List.map_nil, List.flatMap_append, List.flatMap_cons, List.flatMap_nil, List.append_nil, List.cons_append, List.nil_append]; rfl)
 replace H := br_f h13 H
 refine PW.skip ?_
 refine PW.regionK fun K hK => OW.run [4, 6, 19, 20] ?_
 simp only [go_sem, simprocAttr, sw0]
 refine OW.nil (hK _ ?_); clear hK K
 refine hN11 [] (w64 (t20 + (1 : Int)), b41) _ H (by exact trivial) ?_
 simp only [sw1, go_sem, simprocAttr]
 replace H := br_f h12 H
 refine PW.exit ?_
 refine hN10 [] b41 _ H (by exact trivial) ?_
 simp only [sw1, go_sem, simprocAttr]
 ·
  rintro b4 H
  try simp only [go_sem, simprocAttr]
  refine PW.seq ?_
  refine PW.regionK fun K hK => OW.run [2, 3] ?_
  simp only [go_sem, simprocAttr, sw0]
  refine OW.nil (hK _ ?_); clear hK K
  refine PW.ret ?_
  change EndsF _ _ _ _ _
  refine EndsF.intro (.inr rfl) ?_
  simp only [go_sem, simprocAttr, sw0]
  obtain rfl := Option.some.inj H
  have hl0 := flatMap_length 2 (fun (x : Int × Int) => [(I x.1), (I x.2)]) (fun _ => rfl) b4
  have hn0 : (b4.flatMap (fun (x : Int × Int) => [(I x.1), (I x.2)])).map nz = b4.flatMap (fun (x : Int × Int) => [(I x.1), (I x.2)]) := map_nz_flat (fun _ => rfl) _
  have ht0 : (b4.flatMap (fun (x : Int × Int) => [(I x.1), (I x.2)])).take (b4.length * 2) = b4.flatMap (fun (x : Int × Int) => [(I x.1), (I x.2)]) := take_flat _ (fun _ => rfl) rfl
  refine FrOK.data 4 (by (refine okAll_intro ?_; (simp only [go_sem, sw2, List.length_set, List.length_replicate, and_true, true_and, Nat.le_refl, simprocAttr]; omega))) (by (refine freshT ?_; first | exact freshO rfl (all_valI _) | (refine freshO rfl ?_; simp only [List.all_flatMap, List.all_cons, List.all_nil, isValD, Bool.and_true, Bool.and_self]; first | rfl | exact List.all_eq_true.2 fun _ _ => rfl))) ?_
  (((simp only [go_sem, sw1, simprocAttr]; try simp only [seg, go_sem, simprocAttr])); (repeat' (first | rfl | (refine list_congr ?_; simp only [List.length_take, List.length_drop, List.length_set, List.length_replicate] <;> omega) | (refine congr (congrArg List.cons ?_) ?_) | (refine congrArg D.agg ?_) | (refine congrArg D.tup ?_) | (refine congrArg D.ref ?_) | (refine congrArg (D.list _) ?_) | (refine congrArg (D.clo _) ?_))))
  all_goals (first | rw [ht0, hn0] | simp only [ht0, hn0])
theorem law09_subset_ok (N : Nat) (a : List (Int × Int)) (b : List (Int × Int)) (r : Bool) (H : law09_subset N a b = some r) : CallOK Try.prog 31 [(.list a.length (a.flatMap (fun (x : Int × Int) => [(I x.1), (I x.2)]))), (.list b.length (b.flatMap (fun (x : Int × Int) => [(I x.1), (I x.2)])))] (.d (Bo r)) [] := by
 refine CallOK.of_PW Try.func31 rfl (by rw [Try.results31]) Try.ntmps31 Try.call31 ?_
 change PW _ _ _ _ _
 try simp only [go_sem, simprocAttr]
 unfold law09_subset at H
 refine PW.seq ?_
 refine PW.regionK fun K hK => OW.run [0, 1] ?_
 simp only [go_sem, simprocAttr, sw0]
 refine OW.nil (hK _ ?_)
 refine PW.joinS (τ := Unit) [] 0 (fun _ => []) (fun _ => []) _ _ r (by exact Nat.le_refl _) H ?_ ?_
 intro K_ H N1 hN1
 refine PW.seq ?_
 refine PW.regionK fun K hK => OW.run [0, 1, 5] ?_
 simp only [go_sem, simprocAttr, sw0]
 refine OW.nil (hK _ ?_)
 refine PW.block ?_
 refine PW.loopS (σ := Int) [0, 1, 5] 0 (fun i => [(5, .d (I i))]) (fun i => []) (law09_subset.b1 N a b K_) r N (0 : Int) (by exact Nat.le_refl _) H (by (simp only [sw1, go_sem, simprocAttr]; done)) ?_
 rintro n i H N2 hN2
 unfold law09_subset.b1 at H
 try simp only [go_sem, simprocAttr]
 refine PW.seq ?_
 refine PW.seq ?_
 refine PW.regionK fun K hK => OW.run [0, 1, 5, 11] ?_
 simp only [go_sem, simprocAttr, sw0]
 refine OW.nil (hK _ ?_)
 refine PW.cond rfl (fun h3 => ?_) (fun h3 => ?_)
 replace H := br_t h3 H
 refine PW.skip ?_
 refine PW.joinS (τ := Unit) [0, 1, 5] 0 (fun _ => []) (fun _ => []) _ _ r (by exact Nat.le_refl _) H ?_ ?_
 intro K_1 H N4 hN4
 refine PW.block ?_
 refine PW.seq ?_
 refine PW.regionK fun K hK => OW.run [0, 1, 5, 6] ?_
 simp only [go_sem, simprocAttr, sw0]
 refine OW.nil (hK _ ?_)
 refine PW.joinS (τ := Bool) [0, 1, 5, 6] 0 (fun has => [(6, .d (Bo has))]) (fun has => []) _ _ r (by exact Nat.le_refl _) H ?_ ?_
 intro K_2 H N5 hN5
 refine PW.seq ?_
 refine PW.regionK fun K hK => OW.run [0, 1, 5, 6, 7] ?_
 simp only [go_sem, simprocAttr, sw0]
 refine OW.nil (hK _ ?_)
 refine PW.block ?_
 refine PW.loopS (σ := Bool × Int) [0, 1, 5, 6, 7] 0 (fun (has1, k) => [(6, .d (Bo has1)), (7, .d (I k))]) (fun (has1, k) => []) (law09_subset.b2 N a b i K_2) r N (false, (0 : Int)) (by exact Nat.le_refl _) H (by (simp only [sw1, go_sem, simprocAttr]; done)) ?_
 rintro n ⟨has1, k⟩ H N6 hN6
 unfold law09_subset.b2 at H
 try simp only [go_sem, simprocAttr]
 refine PW.seq ?_
 refine PW.seq ?_
 refine PW.regionK fun K hK => OW.run [0, 1, 5, 6, 7, 17] ?_
 simp only [go_sem, simprocAttr, sw0]
 refine OW.nil (hK _ ?_)
 refine PW.cond rfl (fun h7 => ?_) (fun h7 => ?_)
 replace H := br_t h7 H
 refine PW.skip ?_
 refine PW.seq ?_
 refine PW.block ?_
 obtain ⟨c8, H⟩ := chk_some H
 obtain ⟨c9, H⟩ := chk_some H
 refine PW.drawK 10 mixed (by kernel_rfl) fun K hK => ?_
 change FW _ _ _ _ _
 refine FW.toS [(0, .d (.list a.length (a.flatMap (fun (x : Int × Int) => [(I x.1), (I x.2)])))), (1, .d (.list b.length (b.flatMap (fun (x : Int × Int) => [(I x.1), (I x.2)])))), (5, .d (I i)), (6, .d (Bo (has1 || (((a.getD i.toNat default).1 == (b.getD k.toNat default).1) && ((a.getD i.toNat default).2 == (b.getD k.toNat default).2))))), (7, .d (I k))] [] ?_ (hK _ ?_)
 intro K hKE
 rcases Bool.eq_false_or_eq_true (has1) with ha0 | ha0
 ·
  try simp only [ha0, sb0, true_implies, false_implies, forall_const] at c8
  try simp only [ha0, sb0, true_implies, false_implies, forall_const] at c9
  refine FW.run ?_
  (simp only [go_sem, simprocAttr, sw0, ha0])
  repeat (refine And.intro (by first | omega | (intro hg; have hq := c8 (by first | exact hg | simpa using hg); first | omega | exact hq | (simp only [List.length_map]; omega)) | (intro hg; have hq := c9 (by first | exact hg | simpa using hg); first | omega | exact hq | (simp only [List.length_map]; omega)) | (first | omega | assumption | rfl | decide | (simp only [List.length_map, List.length_replicate, List.length_append, List.length_take, List.length_drop, List.length_set, List.length_cons, List.length_nil, Nat.zero_add, Int.toNat_natCast] at *; omega) | (simp only [List.length_map, List.length_replicate, List.length_append, List.length_take, List.length_drop, List.length_set, List.length_cons, List.length_nil, Nat.zero_add, Int.toNat_natCast]; done) | trivial)) ?_)
  refine FW.nil ?_
  change OW _ _ _ _ _ _
  refine OW.run [0, 1, 5, 6, 7] ?_
  (simp only [go_sem, simprocAttr, sw0, ha0])
  repeat (refine And.intro (by first | omega | (intro hg; have hq := c8 (by first | exact hg | simpa using hg); first | omega | exact hq | (simp only [List.length_map]; omega)) | (intro hg; have hq := c9 (by first | exact hg | simpa using hg); first | omega | exact hq | (simp only [List.length_map]; omega)) | (first | omega | assumption | rfl | decide | (simp only [List.length_map, List.length_replicate, List.length_append, List.length_take, List.length_drop, List.length_set, List.length_cons, List.length_nil, Nat.zero_add, Int.toNat_natCast] at *; omega) | (simp only [List.length_map, List.length_replicate, List.length_append, List.length_take, List.length_drop, List.length_set, List.length_cons, List.length_nil, Nat.zero_add, Int.toNat_natCast]; done) | trivial)) ?_)
  refine OW.nil ((congrArg K ?_).mpr hKE)
  · (first | rfl | (simp only [go_sem, simprocAttr, ha0]; done) | (simp only [go_sem, simprocAttr, ha0]; rfl))
 ·
  try simp only [ha0, sb0, true_implies, false_implies, forall_const] at c8
  try simp only [ha0, sb0, true_implies, false_implies, forall_const] at c9
  refine FW.run ?_
  (simp only [go_sem, simprocAttr, sw0, flatMap_length 2 (fun (x : Int × Int) => [(I x.1), (I x.2)]) (fun _ => rfl), sub_el 2 (fun (x : Int × Int) => [(I x.1), (I x.2)]) (fun _ => rfl) a i.toNat (by omega), sub_el 2 (fun (x : Int × Int) => [(I x.1), (I x.2)]) (fun _ => rfl) b k.toNat (by omega), ha0])
  repeat (refine And.intro (by first | omega | (intro hg; have hq := c8 (by first | exact hg | simpa using hg); first | omega | exact hq | (simp only [List.length_map]; omega)) | (intro hg; have hq := c9 (by first | exact hg | simpa using hg); first | omega | exact hq | (simp only [List.length_map]; omega)) | (first | omega | assumption | rfl | decide | (simp only [List.length_map, List.length_replicate, List.length_append, List.length_take, List.length_drop, List.length_set, List.length_cons, List.length_nil, Nat.zero_add, Int.toNat_natCast] at *; omega) | (simp only [List.length_map, List.length_replicate, List.length_append, List.length_take, List.length_drop, List.length_set, List.length_cons, List.length_nil, Nat.zero_add, Int.toNat_natCast]; done) | trivial)) ?_)
  refine FW.nil ?_
  change OW _ _ _ _ _ _
  refine OW.run [0, 1, 5, 6, 7] ?_
  (simp only [go_sem, simprocAttr, sw0, flatMap_length 2 (fun (x : Int × Int) => [(I x.1), (I x.2)]) (fun _ => rfl), sub_el 2 (fun (x : Int × Int) => [(I x.1), (I x.2)]) (fun _ => rfl) a i.toNat (by omega), sub_el 2 (fun (x : Int × Int) => [(I x.1), (I x.2)]) (fun _ => rfl) b k.toNat (by omega), ha0])
  repeat (refine And.intro (by first | omega | (intro hg; have hq := c8 (by first | exact hg | simpa using hg); first | omega | exact hq | (simp only [List.length_map]; omega)) | (intro hg; have hq := c9 (by first | exact hg | simpa using hg); first | omega | exact hq | (simp only [List.length_map]; omega)) | (first | omega | assumption | rfl | decide | (simp only [List.length_map, List.length_replicate, List.length_append, List.length_take, List.length_drop, List.length_set, List.length_cons, List.length_nil, Nat.zero_add, Int.toNat_natCast] at *; omega) | (simp only [List.length_map, List.length_replicate, List.length_append, List.length_take, List.length_drop, List.length_set, List.length_cons, List.length_nil, Nat.zero_add, Int.toNat_natCast]; done) | trivial)) ?_)
  refine OW.nil ((congrArg K ?_).mpr hKE)
  · (first | rfl | (simp only [go_sem, simprocAttr, ha0]; done) | (simp only [go_sem, simprocAttr, ha0]; rfl))
 clear hK K
 refine PW.regionK fun K hK => OW.run [0, 1, 5, 6, 7] ?_
 simp only [go_sem, simprocAttr, sw0]
 refine OW.nil (hK _ ?_)
 refine hN6 [] ((has1 || (((a.getD i.toNat default).1 == (b.getD k.toNat default).1) && ((a.getD i.toNat default).2 == (b.getD k.toNat default).2))), w64 (k + (1 : Int))) _ H (by exact trivial) ?_
 simp only [sw1, go_sem, simprocAttr]
 replace H := br_f h7 H
 refine PW.exit ?_
 refine hN5 [] has1 _ H (by exact trivial) ?_
 simp only [sw1, go_sem, simprocAttr]
 rintro has H
 try simp only [go_sem, simprocAttr]
 refine PW.seq ?_
 refine PW.regionK fun K hK => OW.run [0, 1, 5, 33] ?_
 simp only [go_sem, simprocAttr, sw0]
 refine OW.nil (hK _ ?_)
 refine PW.cond rfl (fun h10 => ?_) (fun h10 => ?_)
 replace H := br_t h10 H
 refine PW.seq ?_
 refine PW.regionK fun K hK => OW.run [4] ?_
 simp only [go_sem, simprocAttr, sw0]
 refine OW.nil (hK _ ?_)
 refine PW.ret ?_
 change PW.Ends _ _ _ _ _ _
 refine PW.Ends.intro (.inr rfl) ?_
 simp only [go_sem, simprocAttr, sw0]
 obtain rfl := Option.some.inj H
 refine RetOK.data' 4 (by exact trivial) ?_
 rfl
 replace H := br_f h10 H
 refine PW.skip ?_
 refine hN4 [] () _ H (by exact trivial) ?_
 simp only [sw1, go_sem, simprocAttr]
 rintro _ H
 try simp only [go_sem, simprocAttr]
 refine PW.regionK fun K hK => OW.run [0, 1, 5] ?_
 simp only [go_sem, simprocAttr, sw0]
 refine OW.nil (hK _ ?_)
 refine hN2 [] (w64 (i + (1 : Int))) _ H (by exact trivial) ?_
 simp only [sw1, go_sem, simprocAttr]
 replace H := br_f h3 H
 refine PW.exit ?_
 refine hN1 [] () _ H (by exact trivial) ?_
 simp only [sw1, go_sem, simprocAttr]
 rintro _ H
 try simp only [go_sem, simprocAttr]
 refine PW.seq ?_
 refine PW.regionK fun K hK => OW.run [4] ?_
 simp only [go_sem, simprocAttr, sw0]
 refine OW.nil (hK _ ?_)
 refine PW.ret ?_
 change PW.Ends _ _ _ _ _ _
 refine PW.Ends.intro (.inr rfl) ?_
 simp only [go_sem, simprocAttr, sw0]
 obtain rfl := Option.some.inj H
 refine RetOK.data' 4 (by exact trivial) ?_
 rfl
end Go.Proofs.Ytklejiafioalnaa
