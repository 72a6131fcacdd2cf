import Derived.Test.YtklejiafioalnaaGreatZsBase
import Derived.Test.YtklejiafioalnaaGreatZsW0
import Derived.Test.YtklejiafioalnaaGreatZsW1
import Derived.Test.YtklejiafioalnaaGreatZsW2
import Derived.Test.YtklejiafioalnaaGreatZsW3
set_option linter.all false
namespace Go.Proofs.YtklejiafioalnaaGreat
open Go.PW Go.Sh

set_option maxRecDepth 20000
set_option maxHeartbeats 8000000
def z0W4a := flatMap_length 7 (fun (x : ByteArray × Int × Int × Int × Int × Int × Int) => [(Sx x.1), (I x.2.1), (I x.2.2.1), (I x.2.2.2.1), (I x.2.2.2.2.1), (I x.2.2.2.2.2.1), (I x.2.2.2.2.2.2)]) (fun _ => rfl)
def z1W4a := sub_el 7 (fun (x : ByteArray × Int × Int × Int × Int × Int × Int) => [(Sx x.1), (I x.2.1), (I x.2.2.1), (I x.2.2.2.1), (I x.2.2.2.2.1), (I x.2.2.2.2.2.1), (I x.2.2.2.2.2.2)]) (fun _ => rfl)
theorem ref09_LevelAt_ok (N : Nat) (Zy : List (List Int)) (Zu : List (ByteArray × Int × Int × Int × Int × Int × Int)) (Zx : List (Int × Int)) (Zv : Int) (Zz : Int) (Zw : Int) (cell : Int) (at_0 : Int) (at_1 : Int) (r : Int × Bool) (H : ref09_LevelAt N Zy Zu Zx Zv Zz Zw cell at_0 at_1 = some r) : CallOK Tryz.prog 30 [(.agg [(.list Zy.length (Zy.map L)), (.list Zu.length (Zu.flatMap (fun (x : ByteArray × Int × Int × Int × Int × Int × Int) => [(Sx x.1), (I x.2.1), (I x.2.2.1), (I x.2.2.2.1), (I x.2.2.2.2.1), (I x.2.2.2.2.2.1), (I x.2.2.2.2.2.2)]))), (.list Zx.length (Zx.flatMap (fun (x : Int × Int) => [(I x.1), (I x.2)]))), (I Zv), (I Zz), (I Zw)]), (I cell), (.agg [(I at_0), (I at_1)])] (.d (.tup [(I r.1), (Bo r.2)])) [] := by
 refine CallOK.of_PW Tryz.func30 rfl (by rw [Tryz.results30]) Tryz.ntmps30 Tryz.call30 ?_
 change PW _ _ _ _ _
 try simp only [go_sem, simprocAttr]
 unfold ref09_LevelAt at H
 refine PW.seq ?_
 refine PW.regionK fun K hK => OW.run [1, 3, 5] ?_
 simp only [go_sem, simprocAttr, sw0]
 refine OW.nil (hK _ ?_)
 refine PW.seq ?_
 obtain ⟨c1, H⟩ := chk_some H
 refine PW.regionK fun K hK => OW.run [3, 5, 8] ?_
 (simp only [go_sem, simprocAttr, sw0, z0W4a, z1W4a Zu cell.toNat (by omega)])
 repeat (refine And.intro (by omega) ?_)
 refine OW.nil (hK _ ?_)
 refine PW.seq ?_
 refine PW.drawK 13 mixed (by kernel_rfl) fun K hK => ?_
 change FW _ _ _ _ _
 refine FW.run ?_
 simp only [go_sem, simprocAttr, sw0]
 repeat (refine And.intro (by omega) ?_)
 refine FW.nil ?_
 change OW _ _ _ _ _ _
 refine OW.run [3, 5, 8, 9, 10] ?_
 simp only [go_sem, simprocAttr, sw0]
 refine OW.nil (hK _ ?_)
 refine PW.joinS (τ := Unit) [] 0 (fun _ => []) (fun _ => []) _ _ r (by exact Nat.le_refl _) H ?_ ?_
 intro K_ H N2 hN2
 refine PW.seq ?_
 refine PW.regionK fun K hK => OW.run [3, 5, 8, 9, 10, 11] ?_
 simp only [go_sem, simprocAttr, sw0]
 refine OW.nil (hK _ ?_)
 refine PW.block ?_
 refine PW.loopS (σ := Int) [3, 5, 8, 9, 10, 11] 3 (fun i => [(11, .d (I i))]) (fun i => [{ cells := [.d (.list Zy.length (Zy.map L)), .d (.list Zu.length (Zu.flatMap (fun (x : ByteArray × Int × Int × Int × Int × Int × Int) => [(Sx x.1), (I x.2.1), (I x.2.2.1), (I x.2.2.2.1), (I x.2.2.2.2.1), (I x.2.2.2.2.2.1), (I x.2.2.2.2.2.2)]))), .d (.list Zx.length (Zx.flatMap (fun (x : Int × Int) => [(I x.1), (I x.2)]))), .d (I Zv), .d (I Zz), .d (I Zw)], e := 28 }, { cells := [.d (I at_0), .d (I at_1)], e := 58 }, { cells := [.d (Sx ((Zu.getD cell.toNat default).1)), .d (I ((Zu.getD cell.toNat default).2.1)), .d (I ((Zu.getD cell.toNat default).2.2.1)), .d (I ((Zu.getD cell.toNat default).2.2.2.1)), .d (I ((Zu.getD cell.toNat default).2.2.2.2.1)), .d (I ((Zu.getD cell.toNat default).2.2.2.2.2.1)), .d (I ((Zu.getD cell.toNat default).2.2.2.2.2.2))], e := 78 }]) (ref09_LevelAt.b1 N Zy Zu Zx Zv Zz cell at_0 at_1 K_) r N (0 : Int) (by exact Nat.zero_le _) H (by (simp only [sw1, go_sem, simprocAttr]; done)) ?_
 rintro n i H N3 hN3
 unfold ref09_LevelAt.b1 at H
 try simp only [go_sem, simprocAttr]
 refine PW.seq ?_
 refine PW.seq ?_
 refine PW.regionK fun K hK => OW.run [3, 5, 8, 9, 10, 11, 34] ?_
 simp only [go_sem, simprocAttr, sw0]
 repeat (refine And.intro (by omega) ?_)
 refine OW.nil (hK _ ?_)
 refine PW.cond rfl (fun h4 => ?_) (fun h4 => ?_)
 replace H := br_t h4 H
 refine PW.skip ?_
 refine PW.seq ?_
 refine PW.block ?_
 refine PW.seq ?_
 refine PW.seq ?_
 obtain ⟨c5, H⟩ := chk_some H
 refine PW.regionK fun K hK => OW.run [3, 5, 8, 9, 10, 11, 50] ?_
 (simp only [go_sem, simprocAttr, sw0, flatMap_length 2 (fun (x : Int × Int) => [(I x.1), (I x.2)]) (fun _ => rfl), sub_el 2 (fun (x : Int × Int) => [(I x.1), (I x.2)]) (fun _ => rfl) Zx i.toNat (by omega)])
 repeat (refine And.intro (by omega) ?_)
 refine OW.nil (hK _ ?_)
 refine PW.cond rfl (fun h6 => ?_) (fun h6 => ?_)
 replace H := br_t h6 H
 refine PW.exit ?_
 refine PW.regionK fun K hK => OW.run [3, 5, 8, 9, 10, 11] ?_
 simp only [go_sem, simprocAttr, sw0]
 refine OW.nil (hK _ ?_)
 refine hN3 [] (w64 (i + (1 : Int))) _ H (by exact trivial) ?_
 simp only [sw1, go_sem, simprocAttr]
 replace H := br_f h6 H
 refine PW.skip ?_
 refine PW.seq ?_
 obtain ⟨c7, H⟩ := chk_some H
 obtain ⟨x1, e1, H⟩ := bnd_some H
 obtain ⟨x2, e2, H⟩ := bnd_some H
 refine PW.drawK 21 mixed (by kernel_rfl) fun K hK => ?_
 change FW _ _ _ _ _
 refine FW.run ?_
 (simp only [go_sem, simprocAttr, sw0, flatMap_length 2 (fun (x : Int × Int) => [(I x.1), (I x.2)]) (fun _ => rfl), sub_el 2 (fun (x : Int × Int) => [(I x.1), (I x.2)]) (fun _ => rfl) Zx i.toNat (by omega)])
 repeat (refine And.intro (by omega) ?_)
 refine FW.call' 4 rfl rfl rfl (by first | exact rfl | ((simp only [go_sem, List.toList_toArray, simprocAttr]); exact rfl)) ?_ (ref09_Steps_ok N _ _ _ _ _ e1) ?_ ?_ ?_ ?_
 rfl
 · (refine okAll_intro ?_; (simp only [go_sem, sw2, List.length_set, List.length_replicate, and_true, true_and, Nat.le_refl, simprocAttr]; done))
 exact .inl rfl
 (simp only [go_sem, Nat.reduceLT])
 refine FW.run ?_
 (simp only [go_sem, simprocAttr, sw0, flatMap_length 2 (fun (x : Int × Int) => [(I x.1), (I x.2)]) (fun _ => rfl), sub_el 2 (fun (x : Int × Int) => [(I x.1), (I x.2)]) (fun _ => rfl) Zx i.toNat (by omega)])
 refine FW.call' 4 rfl rfl rfl (by first | exact rfl | ((simp only [go_sem, List.toList_toArray, simprocAttr]); exact rfl)) ?_ (base_Size_ok N _ _ e2) ?_ ?_ ?_ ?_
 rfl
 exact okD_all rfl
 exact .inl rfl
 (simp only [go_sem, Nat.reduceLT])
 refine FW.run ?_
 (simp only [go_sem, simprocAttr, sw0, flatMap_length 2 (fun (x : Int × Int) => [(I x.1), (I x.2)]) (fun _ => rfl), sub_el 2 (fun (x : Int × Int) => [(I x.1), (I x.2)]) (fun _ => rfl) Zx i.toNat (by omega)])
 refine FW.nil ?_
 change OW _ _ _ _ _ _
 refine OW.run [3, 5, 8, 12] ?_
 (simp only [go_sem, simprocAttr, sw0, flatMap_length 2 (fun (x : Int × Int) => [(I x.1), (I x.2)]) (fun _ => rfl), sub_el 2 (fun (x : Int × Int) => [(I x.1), (I x.2)]) (fun _ => rfl) Zx i.toNat (by omega)])
 refine OW.nil (hK _ ?_)
 refine PW.seq ?_
 refine PW.seq ?_
 obtain ⟨x3, e3, H⟩ := bnd_some H
 refine PW.regionK fun K hK => OW.run [3, 12, 78] ?_
 simp only [go_sem, simprocAttr, sw0]
 repeat (refine And.intro (by omega) ?_)
 refine OW.call' 4 rfl rfl rfl (by first | exact rfl | ((simp only [go_sem, List.toList_toArray, simprocAttr]); exact rfl)) ?_ (ref09_Sees_ok N _ _ _ _ _ _ _ _ _ _ _ e3) ?_ ?_ ?_ ?_
 rfl
 · (refine okAll_intro ?_; (simp only [go_sem, sw2, List.length_set, List.length_replicate, and_true, true_and, Nat.le_refl, simprocAttr]; done))
 exact .inl rfl
 (simp only [go_sem, Nat.reduceLT])
 refine OW.run [3, 12, 78] ?_
 simp only [go_sem, simprocAttr, sw0]
 refine OW.nil (hK _ ?_)
 refine PW.cond rfl (fun h8 => ?_) (fun h8 => ?_)
 replace H := br_t h8 H
 refine PW.regionK fun K hK => OW.run [12] ?_
 simp only [go_sem, simprocAttr, sw0]
 repeat (refine And.intro (by omega) ?_)
 refine OW.nil (hK _ ?_)
 refine PW.seq ?_
 refine PW.regionK fun K hK => OW.run [6, 7] ?_
 simp only [go_sem, simprocAttr, sw0]
 refine OW.nil (hK _ ?_)
 refine PW.ret ?_
 change PW.Ends _ _ _ _ _ _
 refine PW.Ends.intro (.inr rfl) ?_
 simp only [go_sem, simprocAttr, sw0]
 obtain rfl := Option.some.inj H
 refine RetOK.data' 4 (by exact okD_all rfl) ?_
 rfl
 replace H := br_f h8 H
 refine PW.skip ?_
 refine PW.seq ?_
 refine PW.regionK fun K hK => OW.run [6, 7] ?_
 simp only [go_sem, simprocAttr, sw0]
 refine OW.nil (hK _ ?_)
 refine PW.ret ?_
 change PW.Ends _ _ _ _ _ _
 refine PW.Ends.intro (.inr rfl) ?_
 simp only [go_sem, simprocAttr, sw0]
 obtain rfl := Option.some.inj H
 refine RetOK.data' 4 (by exact okD_all rfl) ?_
 rfl
 replace H := br_f h4 H
 refine PW.exit ?_
 refine hN2 [] () _ H (by exact trivial) ?_
 simp only [sw1, go_sem, simprocAttr]
 rintro _ H
 try simp only [go_sem, simprocAttr]
 refine PW.seq ?_
 refine PW.regionK fun K hK => OW.run [6, 7] ?_
 simp only [go_sem, simprocAttr, sw0]
 refine OW.nil (hK _ ?_)
 refine PW.ret ?_
 change PW.Ends _ _ _ _ _ _
 refine PW.Ends.intro (.inr rfl) ?_
 simp only [go_sem, simprocAttr, sw0]
 obtain rfl := Option.some.inj H
 refine RetOK.data' 4 (by exact okD_all rfl) ?_
 rfl

theorem ref09_ServerAt_ok (N : Nat) (Zy : List (List Int)) (Zu : List (ByteArray × Int × Int × Int × Int × Int × Int)) (Zx : List (Int × Int)) (Zv : Int) (Zz : Int) (Zw : Int) (on : List Bool) (at_0 : Int) (at_1 : Int) (r : Int × Int × Bool) (H : ref09_ServerAt N Zy Zu Zx Zv Zz Zw on at_0 at_1 = some r) : CallOK Tryz.prog 27 [(.agg [(.list Zy.length (Zy.map L)), (.list Zu.length (Zu.flatMap (fun (x : ByteArray × Int × Int × Int × Int × Int × Int) => [(Sx x.1), (I x.2.1), (I x.2.2.1), (I x.2.2.2.1), (I x.2.2.2.2.1), (I x.2.2.2.2.2.1), (I x.2.2.2.2.2.2)]))), (.list Zx.length (Zx.flatMap (fun (x : Int × Int) => [(I x.1), (I x.2)]))), (I Zv), (I Zz), (I Zw)]), (.list on.length (on.map Bo)), (.agg [(I at_0), (I at_1)])] (.d (.tup [(I r.1), (I r.2.1), (Bo r.2.2)])) [] := by
 refine CallOK.of_PW Tryz.func27 rfl (by rw [Tryz.results27]) Tryz.ntmps27 Tryz.call27 ?_
 change PW _ _ _ _ _
 try simp only [go_sem, simprocAttr]
 unfold ref09_ServerAt at H
 refine PW.seq ?_
 refine PW.regionK fun K hK => OW.run [1, 3, 5] ?_
 simp only [go_sem, simprocAttr, sw0]
 refine OW.nil (hK _ ?_)
 refine PW.seq ?_
 refine PW.regionK fun K hK => OW.run [1, 3, 5, 9, 10, 11] ?_
 simp only [go_sem, simprocAttr, sw0]
 refine OW.nil (hK _ ?_)
 refine PW.joinS (τ := Int × Int × Bool) [9, 10, 11] 0 (fun (cell, most, some_) => [(9, .d (I cell)), (10, .d (I most)), (11, .d (Bo some_))]) (fun (cell, most, some_) => []) _ _ r (by exact Nat.le_refl _) H ?_ ?_
 intro K_ H N1 hN1
 refine PW.seq ?_
 refine PW.regionK fun K hK => OW.run [1, 3, 5, 9, 10, 11, 12] ?_
 simp only [go_sem, simprocAttr, sw0]
 refine OW.nil (hK _ ?_)
 refine PW.block ?_
 refine PW.loopS (σ := Int × Int × Bool × Int) [1, 3, 5, 9, 10, 11, 12] 2 (fun (cell1, most1, some_1, i) => [(9, .d (I cell1)), (10, .d (I most1)), (11, .d (Bo some_1)), (12, .d (I i))]) (fun (cell1, most1, some_1, i) => [{ cells := [.d (.list Zy.length (Zy.map L)), .d (.list Zu.length (Zu.flatMap (fun (x : ByteArray × Int × Int × Int × Int × Int × Int) => [(Sx x.1), (I x.2.1), (I x.2.2.1), (I x.2.2.2.1), (I x.2.2.2.2.1), (I x.2.2.2.2.2.1), (I x.2.2.2.2.2.2)]))), .d (.list Zx.length (Zx.flatMap (fun (x : Int × Int) => [(I x.1), (I x.2)]))), .d (I Zv), .d (I Zz), .d (I Zw)], e := 28 }, { cells := [.d (I at_0), .d (I at_1)], e := 58 }]) (ref09_ServerAt.b1 N Zy Zu Zx Zv Zz Zw on at_0 at_1 K_) r N ((0 : Int), (0 : Int), false, (0 : Int)) (by exact Nat.zero_le _) H (by (simp only [sw1, go_sem, simprocAttr]; done)) ?_
 rintro n ⟨cell1, most1, some_1, i⟩ H N2 hN2
 unfold ref09_ServerAt.b1 at H
 try simp only [go_sem, simprocAttr]
 refine PW.seq ?_
 refine PW.seq ?_
 refine PW.regionK fun K hK => OW.run [1, 3, 5, 9, 10, 11, 12, 19] ?_
 simp only [go_sem, simprocAttr, sw0]
 repeat (refine And.intro (by omega) ?_)
 refine OW.nil (hK _ ?_)
 refine PW.cond rfl (fun h3 => ?_) (fun h3 => ?_)
 replace H := br_t h3 H
 refine PW.skip ?_
 refine PW.seq ?_
 refine PW.block ?_
 refine PW.seq ?_
 obtain ⟨⟨x1, x11⟩, e1, H⟩ := bnd_some H
 refine PW.regionK fun K hK => OW.run [1, 3, 5, 9, 10, 11, 12, 13, 14] ?_
 simp only [go_sem, simprocAttr, sw0]
 refine OW.call' 4 rfl rfl rfl (by first | exact rfl | ((simp only [go_sem, List.toList_toArray, simprocAttr]); exact rfl)) ?_ (ref09_LevelAt_ok N _ _ _ _ _ _ _ _ _ _ e1) ?_ ?_ ?_ ?_
 rfl
 · (refine okAll_intro ?_; (simp only [go_sem, sw2, List.length_set, List.length_replicate, and_true, true_and, Nat.le_refl, simprocAttr]; done))
 exact .inl rfl
 (simp only [go_sem, Nat.reduceLT])
 refine OW.run [1, 3, 5, 9, 10, 11, 12, 13, 14] ?_
 simp only [go_sem, simprocAttr, sw0]
 refine OW.nil (hK _ ?_)
 refine PW.seq ?_
 obtain ⟨c4, H⟩ := chk_some H
 refine PW.regionK fun K hK => ?_
 refine OW.toS [(1, .d (.list on.length (on.map Bo))), (3, .ptr 0 0), (5, .ptr 1 0), (9, .d (I cell1)), (10, .d (I most1)), (11, .d (Bo some_1)), (12, .d (I i)), (13, .d (I x1)), (44, .d (Bo (((on.getD i.toNat default) && x11) && ((!some_1) || (decide (x1 > most1))))))] [{ cells := [.d (.list Zy.length (Zy.map L)), .d (.list Zu.length (Zu.flatMap (fun (x : ByteArray × Int × Int × Int × Int × Int × Int) => [(Sx x.1), (I x.2.1), (I x.2.2.1), (I x.2.2.2.1), (I x.2.2.2.2.1), (I x.2.2.2.2.2.1), (I x.2.2.2.2.2.2)]))), .d (.list Zx.length (Zx.flatMap (fun (x : Int × Int) => [(I x.1), (I x.2)]))), .d (I Zv), .d (I Zz), .d (I Zw)], e := 28 }, { cells := [.d (I at_0), .d (I at_1)], e := 58 }] ?_ (hK _ ?_)
 intro K hKE
 rcases Bool.eq_false_or_eq_true ((on.getD i.toNat default)) with ha0 | ha0
 rcases Bool.eq_false_or_eq_true (x11) with ha1 | ha1
 rcases Bool.eq_false_or_eq_true (some_1) with ha2 | ha2
 refine OW.run [1, 3, 5, 9, 10, 11, 12, 13, 44] ?_
 (simp only [go_sem, simprocAttr, sw0, getD_mapF Bo on i.toNat default (by omega), ha0, ha1, ha2])
 repeat (refine And.intro (by omega) ?_)
 refine OW.nil ((congrArg K ?_).mpr hKE)
 · (first | rfl | (simp only [go_sem, simprocAttr, ha0, ha1, ha2]; done) | (simp only [go_sem, simprocAttr, ha0, ha1, ha2]; rfl))
 refine OW.run [1, 3, 5, 9, 10, 11, 12, 13, 44] ?_
 (simp only [go_sem, simprocAttr, sw0, getD_mapF Bo on i.toNat default (by omega), ha0, ha1, ha2])
 repeat (refine And.intro (by omega) ?_)
 refine OW.nil ((congrArg K ?_).mpr hKE)
 · (first | rfl | (simp only [go_sem, simprocAttr, ha0, ha1, ha2]; done) | (simp only [go_sem, simprocAttr, ha0, ha1, ha2]; rfl))
 refine OW.run [1, 3, 5, 9, 10, 11, 12, 13, 44] ?_
 (simp only [go_sem, simprocAttr, sw0, getD_mapF Bo on i.toNat default (by omega), ha0, ha1])
 repeat (refine And.intro (by omega) ?_)
 refine OW.nil ((congrArg K ?_).mpr hKE)
 · (first | rfl | (simp only [go_sem, simprocAttr, ha0, ha1]; done) | (simp only [go_sem, simprocAttr, ha0, ha1]; rfl))
 refine OW.run [1, 3, 5, 9, 10, 11, 12, 13, 44] ?_
 (simp only [go_sem, simprocAttr, sw0, getD_mapF Bo on i.toNat default (by omega), ha0])
 repeat (refine And.intro (by omega) ?_)
 refine OW.nil ((congrArg K ?_).mpr hKE)
 · (first | rfl | (simp only [go_sem, simprocAttr, ha0]; done) | (simp only [go_sem, simprocAttr, ha0]; rfl))
 clear hK K
 refine PW.cond rfl (fun h5 => ?_) (fun h5 => ?_)
 replace H := br_t h5 H
 refine PW.regionK fun K hK => OW.run [1, 3, 5, 9, 10, 11, 12] ?_
 simp only [go_sem, simprocAttr, sw0]
 refine OW.nil (hK _ ?_)
 refine PW.regionK fun K hK => OW.run [1, 3, 5, 9, 10, 11, 12] ?_
 simp only [go_sem, simprocAttr, sw0]
 refine OW.nil (hK _ ?_)
 refine hN2 [] (i, x1, true, w64 (i + (1 : Int))) _ H (by exact trivial) ?_
 simp only [sw1, go_sem, simprocAttr]
 replace H := br_f h5 H
 refine PW.skip ?_
 refine PW.regionK fun K hK => OW.run [1, 3, 5, 9, 10, 11, 12] ?_
 simp only [go_sem, simprocAttr, sw0]
 refine OW.nil (hK _ ?_)
 refine hN2 [] (cell1, most1, some_1, w64 (i + (1 : Int))) _ H (by exact trivial) ?_
 simp only [sw1, go_sem, simprocAttr]
 replace H := br_f h3 H
 refine PW.exit ?_
 refine hN1 [] (cell1, most1, some_1) _ H (by exact trivial) ?_
 simp only [sw1, go_sem, simprocAttr]
 rintro ⟨cell, most, some_⟩ H
 try simp only [go_sem, simprocAttr]
 refine PW.seq ?_
 refine PW.regionK fun K hK => OW.run [6, 7, 8] ?_
 simp only [go_sem, simprocAttr, sw0]
 refine OW.nil (hK _ ?_)
 refine PW.ret ?_
 change PW.Ends _ _ _ _ _ _
 refine PW.Ends.intro (.inr rfl) ?_
 simp only [go_sem, simprocAttr, sw0]
 obtain rfl := Option.some.inj H
 refine RetOK.data' 4 (by exact okD_all rfl) ?_
 rfl

theorem law09_PlanLevels_ok (N : Nat) (Zy : List (List Int)) (Zu : List (ByteArray × Int × Int × Int × Int × Int × Int)) (Zx : List (Int × Int)) (Zv : Int) (Zz : Int) (Zw : Int) (cell : Int) (at_0 : Int) (at_1 : Int) (r : Bool) (H : law09_PlanLevels N Zy Zu Zx Zv Zz Zw cell at_0 at_1 = some r) : CallOK Tryz.prog 5 [(.agg [(.list Zy.length (Zy.map L)), (.list Zu.length (Zu.flatMap (fun (x : ByteArray × Int × Int × Int × Int × Int × Int) => [(Sx x.1), (I x.2.1), (I x.2.2.1), (I x.2.2.2.1), (I x.2.2.2.2.1), (I x.2.2.2.2.2.1), (I x.2.2.2.2.2.2)]))), (.list Zx.length (Zx.flatMap (fun (x : Int × Int) => [(I x.1), (I x.2)]))), (I Zv), (I Zz), (I Zw)]), (I cell), (.agg [(I at_0), (I at_1)])] (.d (Bo r)) [] := by
 refine CallOK.of_PW Tryz.func5 rfl (by rw [Tryz.results5]) Tryz.ntmps5 Tryz.call5 ?_
 change PW _ _ _ _ _
 try simp only [go_sem, simprocAttr]
 unfold law09_PlanLevels at H
 refine PW.seq ?_
 refine PW.regionK fun K hK => OW.run [1, 3, 5] ?_
 simp only [go_sem, simprocAttr, sw0]
 refine OW.nil (hK _ ?_)
 refine PW.seq ?_
 refine PW.seq ?_
 obtain ⟨x1, e1, H⟩ := bnd_some H
 refine PW.regionK fun K hK => OW.run [1, 3, 5, 20] ?_
 simp only [go_sem, simprocAttr, sw0]
 refine OW.call' 4 rfl rfl rfl (by first | exact rfl | ((simp only [go_sem, List.toList_toArray, simprocAttr]); exact rfl)) ?_ (law09_awake_ok N  _ e1) ?_ ?_ ?_ ?_
 rfl
 exact okD_all rfl
 exact .inl rfl
 (simp only [go_sem, Nat.reduceLT])
 refine OW.run [1, 3, 5, 20] ?_
 simp only [go_sem, simprocAttr, sw0]
 refine OW.nil (hK _ ?_)
 refine PW.cond rfl (fun h1 => ?_) (fun h1 => ?_)
 replace H := br_t h1 H
 refine PW.seq ?_
 refine PW.regionK fun K hK => OW.run [6] ?_
 simp only [go_sem, simprocAttr, sw0]
 refine OW.nil (hK _ ?_)
 refine PW.ret ?_
 change PW.Ends _ _ _ _ _ _
 refine PW.Ends.intro (.inr rfl) ?_
 simp only [go_sem, simprocAttr, sw0]
 obtain rfl := Option.some.inj H
 refine RetOK.data' 4 (by exact trivial) ?_
 rfl
 replace H := br_f h1 H
 refine PW.skip ?_
 refine PW.seq ?_
 refine PW.seq ?_
 obtain ⟨x2, e2, H⟩ := bnd_some H
 refine PW.regionK fun K hK => OW.run [1, 3, 5, 23] ?_
 simp only [go_sem, simprocAttr, sw0]
 refine OW.call' 4 rfl rfl rfl (by first | exact rfl | ((simp only [go_sem, List.toList_toArray, simprocAttr]); exact rfl)) ?_ (law09_Few_ok N _ _ _ _ _ _ _ e2) ?_ ?_ ?_ ?_
 rfl
 · (refine okAll_intro ?_; (simp only [go_sem, sw2, List.length_set, List.length_replicate, and_true, true_and, Nat.le_refl, simprocAttr]; done))
 exact .inl rfl
 (simp only [go_sem, Nat.reduceLT])
 refine OW.run [1, 3, 5, 23] ?_
 simp only [go_sem, simprocAttr, sw0]
 refine OW.nil (hK _ ?_)
 refine PW.cond rfl (fun h2 => ?_) (fun h2 => ?_)
 replace H := br_t h2 H
 refine PW.seq ?_
 refine PW.regionK fun K hK => OW.run [6] ?_
 simp only [go_sem, simprocAttr, sw0]
 refine OW.nil (hK _ ?_)
 refine PW.ret ?_
 change PW.Ends _ _ _ _ _ _
 refine PW.Ends.intro (.inr rfl) ?_
 simp only [go_sem, simprocAttr, sw0]
 obtain rfl := Option.some.inj H
 refine RetOK.data' 4 (by exact trivial) ?_
 rfl
 replace H := br_f h2 H
 refine PW.skip ?_
 refine PW.seq ?_
 obtain ⟨⟨x3, x31, x32, x33, x34, x35⟩, e3, H⟩ := bnd_some H
 obtain ⟨⟨x4, x41⟩, e4, H⟩ := bnd_some H
 refine PW.drawK 9 mixed (by kernel_rfl) fun K hK => ?_
 change FW _ _ _ _ _
 refine FW.run ?_
 simp only [go_sem, simprocAttr, sw0]
 refine FW.call' 4 rfl rfl rfl (by first | exact rfl | ((simp only [go_sem, List.toList_toArray, simprocAttr]); exact rfl)) ?_ (ref09_Copy_ok N _ _ _ _ _ _ _ e3) ?_ ?_ ?_ ?_
 rfl
 · (refine okAll_intro ?_; (simp only [go_sem, sw2, List.length_set, List.length_replicate, and_true, true_and, Nat.le_refl, simprocAttr]; done))
 exact .inl rfl
 (simp only [go_sem, Nat.reduceLT])
 refine FW.run ?_
 simp only [go_sem, simprocAttr, sw0]
 refine FW.call' 4 rfl rfl rfl (by first | exact rfl | ((simp only [go_sem, List.toList_toArray, simprocAttr]); exact rfl)) ?_ (plan_LevelAt_ok N _ _ _ _ _ _ _ _ _ _ e4) ?_ ?_ ?_ ?_
 rfl
 · (refine okAll_intro ?_; (simp only [go_sem, sw2, List.length_set, List.length_replicate, and_true, true_and, Nat.le_refl, simprocAttr]; done))
 exact .inl rfl
 (simp only [go_sem, Nat.reduceLT])
 refine FW.run ?_
 simp only [go_sem, simprocAttr, sw0]
 refine FW.nil ?_
 change OW _ _ _ _ _ _
 refine OW.run [1, 3, 5, 7, 8] ?_
 simp only [go_sem, simprocAttr, sw0]
 refine OW.nil (hK _ ?_)
 refine PW.seq ?_
 obtain ⟨⟨x5, x51, x52, x53, x54, x55⟩, e5, H⟩ := bnd_some H
 obtain ⟨⟨x6, x61, x62⟩, e6, H⟩ := bnd_some H
 refine PW.drawK 10 mixed (by kernel_rfl) fun K hK => ?_
 change FW _ _ _ _ _
 refine FW.run ?_
 simp only [go_sem, simprocAttr, sw0]
 refine FW.call' 4 rfl rfl rfl (by first | exact rfl | ((simp only [go_sem, List.toList_toArray, simprocAttr]); exact rfl)) ?_ (ref09_Copy_ok N _ _ _ _ _ _ _ e5) ?_ ?_ ?_ ?_
 rfl
 · (refine okAll_intro ?_; (simp only [go_sem, sw2, List.length_set, List.length_replicate, and_true, true_and, Nat.le_refl, simprocAttr]; done))
 exact .inl rfl
 (simp only [go_sem, Nat.reduceLT])
 refine FW.run ?_
 simp only [go_sem, simprocAttr, sw0]
 refine FW.call' 4 rfl rfl rfl (by first | exact rfl | ((simp only [go_sem, List.toList_toArray, simprocAttr]); exact rfl)) ?_ (plan_ServerAt_ok N _ _ _ _ _ _ _ _ _ e6) ?_ ?_ ?_ ?_
 rfl
 · (refine okAll_intro ?_; (simp only [go_sem, sw2, List.length_set, List.length_replicate, and_true, true_and, Nat.le_refl, simprocAttr]; done))
 exact .inl rfl
 (simp only [go_sem, Nat.reduceLT])
 refine FW.run ?_
 simp only [go_sem, simprocAttr, sw0]
 refine FW.nil ?_
 change OW _ _ _ _ _ _
 refine OW.run [1, 3, 5, 7, 8, 9, 10, 11] ?_
 simp only [go_sem, simprocAttr, sw0]
 refine OW.nil (hK _ ?_)
 refine PW.seq ?_
 refine PW.seq ?_
 obtain ⟨x7, e7, H⟩ := bnd_some H
 refine PW.regionK fun K hK => OW.run [1, 3, 5, 7, 8, 9, 10, 11, 12] ?_
 simp only [go_sem, simprocAttr, sw0]
 refine OW.call' 4 rfl rfl rfl (by first | exact rfl | ((simp only [go_sem, List.toList_toArray, simprocAttr]); exact rfl)) ?_ (ref09_PlanErr_ok N _ _ _ _ _ _ _ e7) ?_ ?_ ?_ ?_
 rfl
 · (refine okAll_intro ?_; (simp only [go_sem, sw2, List.length_set, List.length_replicate, and_true, true_and, Nat.le_refl, simprocAttr]; done))
 exact .inl rfl
 (simp only [go_sem, Nat.reduceLT])
 refine OW.run [1, 3, 5, 7, 8, 9, 10, 11, 12] ?_
 simp only [go_sem, simprocAttr, sw0]
 refine OW.nil (hK _ ?_)
 refine PW.seq ?_
 refine PW.regionK fun K hK => OW.run [1, 3, 5, 7, 8, 9, 10, 11, 12, 43] ?_
 simp only [go_sem, simprocAttr, sw0]
 refine OW.nil (hK _ ?_)
 refine PW.cond rfl (fun h3 => ?_) (fun h3 => ?_)
 replace H := br_t h3 H
 refine PW.seq ?_
 refine PW.regionK fun K hK => OW.run [6] ?_
 simp only [go_sem, simprocAttr, sw0]
 refine OW.nil (hK _ ?_)
 refine PW.ret ?_
 change PW.Ends _ _ _ _ _ _
 refine PW.Ends.intro (.inr rfl) ?_
 simp only [go_sem, simprocAttr, sw0]
 obtain rfl := Option.some.inj H
 refine RetOK.data' 4 (by exact trivial) ?_
 rfl
 replace H := br_f h3 H
 refine PW.skip ?_
 refine PW.seq ?_
 refine PW.seq ?_
 obtain ⟨x8, e8, H⟩ := bnd_some H
 refine PW.regionK fun K hK => OW.run [1, 3, 5, 7, 8, 9, 10, 11, 13] ?_
 simp only [go_sem, simprocAttr, sw0]
 repeat (refine And.intro (by omega) ?_)
 refine OW.call' 4 rfl rfl rfl (by first | exact rfl | ((simp only [go_sem, List.toList_toArray, simprocAttr]); exact rfl)) ?_ (ref09_PointErr_ok N _ _ _ _ e8) ?_ ?_ ?_ ?_
 rfl
 · (refine okAll_intro ?_; (simp only [go_sem, sw2, List.length_set, List.length_replicate, and_true, true_and, Nat.le_refl, simprocAttr]; done))
 exact .inl rfl
 (simp only [go_sem, Nat.reduceLT])
 refine OW.run [1, 3, 5, 7, 8, 9, 10, 11, 13] ?_
 simp only [go_sem, simprocAttr, sw0]
 refine OW.nil (hK _ ?_)
 refine PW.seq ?_
 refine PW.regionK fun K hK => OW.run [1, 3, 5, 7, 8, 9, 10, 11, 13, 69] ?_
 simp only [go_sem, simprocAttr, sw0]
 refine OW.nil (hK _ ?_)
 refine PW.cond rfl (fun h4 => ?_) (fun h4 => ?_)
 replace H := br_t h4 H
 refine PW.seq ?_
 refine PW.regionK fun K hK => OW.run [6] ?_
 simp only [go_sem, simprocAttr, sw0]
 refine OW.nil (hK _ ?_)
 refine PW.ret ?_
 change PW.Ends _ _ _ _ _ _
 refine PW.Ends.intro (.inr rfl) ?_
 simp only [go_sem, simprocAttr, sw0]
 obtain rfl := Option.some.inj H
 refine RetOK.data' 4 (by exact trivial) ?_
 rfl
 replace H := br_f h4 H
 refine PW.skip ?_
 refine PW.seq ?_
 obtain ⟨x9, e9, H⟩ := bnd_some H
 obtain ⟨⟨x10, x101, x102⟩, e10, H⟩ := bnd_some H
 refine PW.drawK 11 mixed (by kernel_rfl) fun K hK => ?_
 change FW _ _ _ _ _
 refine FW.run ?_
 simp only [go_sem, simprocAttr, sw0]
 refine FW.call' 4 rfl rfl rfl (by first | exact rfl | ((simp only [go_sem, List.toList_toArray, simprocAttr]); exact rfl)) ?_ (ref09_Without_ok N _ _ _ _ _ _ _ _ e9) ?_ ?_ ?_ ?_
 rfl
 · (refine okAll_intro ?_; (simp only [go_sem, sw2, List.length_set, List.length_replicate, and_true, true_and, Nat.le_refl, simprocAttr]; done))
 exact .inl rfl
 (simp only [go_sem, Nat.reduceLT])
 refine FW.run ?_
 simp only [go_sem, simprocAttr, sw0]
 refine FW.call' 4 rfl rfl rfl (by first | exact rfl | ((simp only [go_sem, List.toList_toArray, simprocAttr]); exact rfl)) ?_ (ref09_ServerAt_ok N _ _ _ _ _ _ _ _ _ _ e10) ?_ ?_ ?_ ?_
 rfl
 · (refine okAll_intro ?_; (simp only [go_sem, sw2, List.length_set, List.length_replicate, and_true, true_and, Nat.le_refl, simprocAttr]; done))
 exact .inl rfl
 (simp only [go_sem, Nat.reduceLT])
 refine FW.run ?_
 simp only [go_sem, simprocAttr, sw0]
 refine FW.nil ?_
 change OW _ _ _ _ _ _
 refine OW.run [1, 3, 5, 7, 8, 9, 10, 11, 14, 15, 16] ?_
 simp only [go_sem, simprocAttr, sw0]
 refine OW.nil (hK _ ?_)
 refine PW.seq ?_
 refine PW.seq ?_
 refine PW.regionK fun K hK => ?_
 refine OW.toS [(1, .d (I cell)), (3, .ptr 0 0), (5, .ptr 1 0), (7, .d (I x4)), (8, .d (I x41)), (128, .d (Bo ((x102 && (((x62 != (0 : Int)) || (x6 != x10)) || (x61 != x101))) || ((!x102) && (((x62 != (12 : Int)) || (x6 != (0 : Int))) || (x61 != (0 : Int)))))))] [{ cells := [.d (.list Zy.length (Zy.map L)), .d (.list Zu.length (Zu.flatMap (fun (x : ByteArray × Int × Int × Int × Int × Int × Int) => [(Sx x.1), (I x.2.1), (I x.2.2.1), (I x.2.2.2.1), (I x.2.2.2.2.1), (I x.2.2.2.2.2.1), (I x.2.2.2.2.2.2)]))), .d (.list Zx.length (Zx.flatMap (fun (x : Int × Int) => [(I x.1), (I x.2)]))), .d (I Zv), .d (I Zz), .d (I Zw)], e := 28 }, { cells := [.d (I at_0), .d (I at_1)], e := 58 }] ?_ (hK _ ?_)
 intro K hKE
 rcases Bool.eq_false_or_eq_true (x102) with ha0 | ha0
 rcases Bool.eq_false_or_eq_true ((x62 != (0 : Int))) with ha1 | ha1
 refine OW.run [1, 3, 5, 7, 8, 128] ?_
 (simp only [go_sem, simprocAttr, sw0, ha0, ha1])
 refine OW.nil ((congrArg K ?_).mpr hKE)
 · (first | rfl | (simp only [go_sem, simprocAttr, ha0, ha1]; done) | (simp only [go_sem, simprocAttr, ha0, ha1]; rfl))
 rcases Bool.eq_false_or_eq_true ((x6 != x10)) with ha2 | ha2
 refine OW.run [1, 3, 5, 7, 8, 128] ?_
 (simp only [go_sem, simprocAttr, sw0, ha0, ha1, ha2])
 refine OW.nil ((congrArg K ?_).mpr hKE)
 · (first | rfl | (simp only [go_sem, simprocAttr, ha0, ha1, ha2]; done) | (simp only [go_sem, simprocAttr, ha0, ha1, ha2]; rfl))
 rcases Bool.eq_false_or_eq_true ((x61 != x101)) with ha3 | ha3
 refine OW.run [1, 3, 5, 7, 8, 128] ?_
 (simp only [go_sem, simprocAttr, sw0, ha0, ha1, ha2, ha3])
 refine OW.nil ((congrArg K ?_).mpr hKE)
 · (first | rfl | (simp only [go_sem, simprocAttr, ha0, ha1, ha2, ha3]; done) | (simp only [go_sem, simprocAttr, ha0, ha1, ha2, ha3]; rfl))
 refine OW.run [1, 3, 5, 7, 8, 128] ?_
 (simp only [go_sem, simprocAttr, sw0, ha0, ha1, ha2, ha3])
 refine OW.nil ((congrArg K ?_).mpr hKE)
 · (first | rfl | (simp only [go_sem, simprocAttr, ha0, ha1, ha2, ha3]; done) | (simp only [go_sem, simprocAttr, ha0, ha1, ha2, ha3]; rfl))
 rcases Bool.eq_false_or_eq_true ((x62 != (0 : Int))) with ha1 | ha1
 rcases Bool.eq_false_or_eq_true ((x6 != x10)) with ha2 | ha2
 rcases Bool.eq_false_or_eq_true ((x61 != x101)) with ha3 | ha3
 rcases Bool.eq_false_or_eq_true ((x62 != (12 : Int))) with ha4 | ha4
 refine OW.run [1, 3, 5, 7, 8, 128] ?_
 (simp only [go_sem, simprocAttr, sw0, ha0, ha1, ha2, ha3, ha4])
 refine OW.nil ((congrArg K ?_).mpr hKE)
 · (first | rfl | (simp only [go_sem, simprocAttr, ha0, ha1, ha2, ha3, ha4]; done) | (simp only [go_sem, simprocAttr, ha0, ha1, ha2, ha3, ha4]; rfl))
 rcases Bool.eq_false_or_eq_true ((x6 != (0 : Int))) with ha5 | ha5
 refine OW.run [1, 3, 5, 7, 8, 128] ?_
 (simp only [go_sem, simprocAttr, sw0, ha0, ha1, ha2, ha3, ha4, ha5])
 refine OW.nil ((congrArg K ?_).mpr hKE)
 · (first | rfl | (simp only [go_sem, simprocAttr, ha0, ha1, ha2, ha3, ha4, ha5]; done) | (simp only [go_sem, simprocAttr, ha0, ha1, ha2, ha3, ha4, ha5]; rfl))
 refine OW.run [1, 3, 5, 7, 8, 128] ?_
 (simp only [go_sem, simprocAttr, sw0, ha0, ha1, ha2, ha3, ha4, ha5])
 refine OW.nil ((congrArg K ?_).mpr hKE)
 · (first | rfl | (simp only [go_sem, simprocAttr, ha0, ha1, ha2, ha3, ha4, ha5]; done) | (simp only [go_sem, simprocAttr, ha0, ha1, ha2, ha3, ha4, ha5]; rfl))
 rcases Bool.eq_false_or_eq_true ((x62 != (12 : Int))) with ha4 | ha4
 refine OW.run [1, 3, 5, 7, 8, 128] ?_
 (simp only [go_sem, simprocAttr, sw0, ha0, ha1, ha2, ha3, ha4])
 refine OW.nil ((congrArg K ?_).mpr hKE)
 · (first | rfl | (simp only [go_sem, simprocAttr, ha0, ha1, ha2, ha3, ha4]; done) | (simp only [go_sem, simprocAttr, ha0, ha1, ha2, ha3, ha4]; rfl))
 rcases Bool.eq_false_or_eq_true ((x6 != (0 : Int))) with ha5 | ha5
 refine OW.run [1, 3, 5, 7, 8, 128] ?_
 (simp only [go_sem, simprocAttr, sw0, ha0, ha1, ha2, ha3, ha4, ha5])
 refine OW.nil ((congrArg K ?_).mpr hKE)
 · (first | rfl | (simp only [go_sem, simprocAttr, ha0, ha1, ha2, ha3, ha4, ha5]; done) | (simp only [go_sem, simprocAttr, ha0, ha1, ha2, ha3, ha4, ha5]; rfl))
 refine OW.run [1, 3, 5, 7, 8, 128] ?_
 (simp only [go_sem, simprocAttr, sw0, ha0, ha1, ha2, ha3, ha4, ha5])
 refine OW.nil ((congrArg K ?_).mpr hKE)
 · (first | rfl | (simp only [go_sem, simprocAttr, ha0, ha1, ha2, ha3, ha4, ha5]; done) | (simp only [go_sem, simprocAttr, ha0, ha1, ha2, ha3, ha4, ha5]; rfl))
 rcases Bool.eq_false_or_eq_true ((x61 != x101)) with ha3 | ha3
 rcases Bool.eq_false_or_eq_true ((x62 != (12 : Int))) with ha4 | ha4
 refine OW.run [1, 3, 5, 7, 8, 128] ?_
 (simp only [go_sem, simprocAttr, sw0, ha0, ha1, ha2, ha3, ha4])
 refine OW.nil ((congrArg K ?_).mpr hKE)
 · (first | rfl | (simp only [go_sem, simprocAttr, ha0, ha1, ha2, ha3, ha4]; done) | (simp only [go_sem, simprocAttr, ha0, ha1, ha2, ha3, ha4]; rfl))
 rcases Bool.eq_false_or_eq_true ((x6 != (0 : Int))) with ha5 | ha5
 refine OW.run [1, 3, 5, 7, 8, 128] ?_
 (simp only [go_sem, simprocAttr, sw0, ha0, ha1, ha2, ha3, ha4, ha5])
 refine OW.nil ((congrArg K ?_).mpr hKE)
 · (first | rfl | (simp only [go_sem, simprocAttr, ha0, ha1, ha2, ha3, ha4, ha5]; done) | (simp only [go_sem, simprocAttr, ha0, ha1, ha2, ha3, ha4, ha5]; rfl))
 refine OW.run [1, 3, 5, 7, 8, 128] ?_
 (simp only [go_sem, simprocAttr, sw0, ha0, ha1, ha2, ha3, ha4, ha5])
 refine OW.nil ((congrArg K ?_).mpr hKE)
 · (first | rfl | (simp only [go_sem, simprocAttr, ha0, ha1, ha2, ha3, ha4, ha5]; done) | (simp only [go_sem, simprocAttr, ha0, ha1, ha2, ha3, ha4, ha5]; rfl))
 rcases Bool.eq_false_or_eq_true ((x62 != (12 : Int))) with ha4 | ha4
 refine OW.run [1, 3, 5, 7, 8, 128] ?_
 (simp only [go_sem, simprocAttr, sw0, ha0, ha1, ha2, ha3, ha4])
 refine OW.nil ((congrArg K ?_).mpr hKE)
 · (first | rfl | (simp only [go_sem, simprocAttr, ha0, ha1, ha2, ha3, ha4]; done) | (simp only [go_sem, simprocAttr, ha0, ha1, ha2, ha3, ha4]; rfl))
 rcases Bool.eq_false_or_eq_true ((x6 != (0 : Int))) with ha5 | ha5
 refine OW.run [1, 3, 5, 7, 8, 128] ?_
 (simp only [go_sem, simprocAttr, sw0, ha0, ha1, ha2, ha3, ha4, ha5])
 refine OW.nil ((congrArg K ?_).mpr hKE)
 · (first | rfl | (simp only [go_sem, simprocAttr, ha0, ha1, ha2, ha3, ha4, ha5]; done) | (simp only [go_sem, simprocAttr, ha0, ha1, ha2, ha3, ha4, ha5]; rfl))
 refine OW.run [1, 3, 5, 7, 8, 128] ?_
 (simp only [go_sem, simprocAttr, sw0, ha0, ha1, ha2, ha3, ha4, ha5])
 refine OW.nil ((congrArg K ?_).mpr hKE)
 · (first | rfl | (simp only [go_sem, simprocAttr, ha0, ha1, ha2, ha3, ha4, ha5]; done) | (simp only [go_sem, simprocAttr, ha0, ha1, ha2, ha3, ha4, ha5]; rfl))
 rcases Bool.eq_false_or_eq_true ((x6 != x10)) with ha2 | ha2
 rcases Bool.eq_false_or_eq_true ((x61 != x101)) with ha3 | ha3
 rcases Bool.eq_false_or_eq_true ((x62 != (12 : Int))) with ha4 | ha4
 refine OW.run [1, 3, 5, 7, 8, 128] ?_
 (simp only [go_sem, simprocAttr, sw0, ha0, ha1, ha2, ha3, ha4])
 refine OW.nil ((congrArg K ?_).mpr hKE)
 · (first | rfl | (simp only [go_sem, simprocAttr, ha0, ha1, ha2, ha3, ha4]; done) | (simp only [go_sem, simprocAttr, ha0, ha1, ha2, ha3, ha4]; rfl))
 rcases Bool.eq_false_or_eq_true ((x6 != (0 : Int))) with ha5 | ha5
 refine OW.run [1, 3, 5, 7, 8, 128] ?_
 (simp only [go_sem, simprocAttr, sw0, ha0, ha1, ha2, ha3, ha4, ha5])
 refine OW.nil ((congrArg K ?_).mpr hKE)
 · (first | rfl | (simp only [go_sem, simprocAttr, ha0, ha1, ha2, ha3, ha4, ha5]; done) | (simp only [go_sem, simprocAttr, ha0, ha1, ha2, ha3, ha4, ha5]; rfl))
 refine OW.run [1, 3, 5, 7, 8, 128] ?_
 (simp only [go_sem, simprocAttr, sw0, ha0, ha1, ha2, ha3, ha4, ha5])
 refine OW.nil ((congrArg K ?_).mpr hKE)
 · (first | rfl | (simp only [go_sem, simprocAttr, ha0, ha1, ha2, ha3, ha4, ha5]; done) | (simp only [go_sem, simprocAttr, ha0, ha1, ha2, ha3, ha4, ha5]; rfl))
 rcases Bool.eq_false_or_eq_true ((x62 != (12 : Int))) with ha4 | ha4
 refine OW.run [1, 3, 5, 7, 8, 128] ?_
 (simp only [go_sem, simprocAttr, sw0, ha0, ha1, ha2, ha3, ha4])
 refine OW.nil ((congrArg K ?_).mpr hKE)
 · (first | rfl | (simp only [go_sem, simprocAttr, ha0, ha1, ha2, ha3, ha4]; done) | (simp only [go_sem, simprocAttr, ha0, ha1, ha2, ha3, ha4]; rfl))
 rcases Bool.eq_false_or_eq_true ((x6 != (0 : Int))) with ha5 | ha5
 refine OW.run [1, 3, 5, 7, 8, 128] ?_
 (simp only [go_sem, simprocAttr, sw0, ha0, ha1, ha2, ha3, ha4, ha5])
 refine OW.nil ((congrArg K ?_).mpr hKE)
 · (first | rfl | (simp only [go_sem, simprocAttr, ha0, ha1, ha2, ha3, ha4, ha5]; done) | (simp only [go_sem, simprocAttr, ha0, ha1, ha2, ha3, ha4, ha5]; rfl))
 refine OW.run [1, 3, 5, 7, 8, 128] ?_
 (simp only [go_sem, simprocAttr, sw0, ha0, ha1, ha2, ha3, ha4, ha5])
 refine OW.nil ((congrArg K ?_).mpr hKE)
 · (first | rfl | (simp only [go_sem, simprocAttr, ha0, ha1, ha2, ha3, ha4, ha5]; done) | (simp only [go_sem, simprocAttr, ha0, ha1, ha2, ha3, ha4, ha5]; rfl))
 rcases Bool.eq_false_or_eq_true ((x61 != x101)) with ha3 | ha3
 rcases Bool.eq_false_or_eq_true ((x62 != (12 : Int))) with ha4 | ha4
 refine OW.run [1, 3, 5, 7, 8, 128] ?_
 (simp only [go_sem, simprocAttr, sw0, ha0, ha1, ha2, ha3, ha4])
 refine OW.nil ((congrArg K ?_).mpr hKE)
 · (first | rfl | (simp only [go_sem, simprocAttr, ha0, ha1, ha2, ha3, ha4]; done) | (simp only [go_sem, simprocAttr, ha0, ha1, ha2, ha3, ha4]; rfl))
 rcases Bool.eq_false_or_eq_true ((x6 != (0 : Int))) with ha5 | ha5
 refine OW.run [1, 3, 5, 7, 8, 128] ?_
 (simp only [go_sem, simprocAttr, sw0, ha0, ha1, ha2, ha3, ha4, ha5])
 refine OW.nil ((congrArg K ?_).mpr hKE)
 · (first | rfl | (simp only [go_sem, simprocAttr, ha0, ha1, ha2, ha3, ha4, ha5]; done) | (simp only [go_sem, simprocAttr, ha0, ha1, ha2, ha3, ha4, ha5]; rfl))
 refine OW.run [1, 3, 5, 7, 8, 128] ?_
 (simp only [go_sem, simprocAttr, sw0, ha0, ha1, ha2, ha3, ha4, ha5])
 refine OW.nil ((congrArg K ?_).mpr hKE)
 · (first | rfl | (simp only [go_sem, simprocAttr, ha0, ha1, ha2, ha3, ha4, ha5]; done) | (simp only [go_sem, simprocAttr, ha0, ha1, ha2, ha3, ha4, ha5]; rfl))
 rcases Bool.eq_false_or_eq_true ((x62 != (12 : Int))) with ha4 | ha4
 refine OW.run [1, 3, 5, 7, 8, 128] ?_
 (simp only [go_sem, simprocAttr, sw0, ha0, ha1, ha2, ha3, ha4])
 refine OW.nil ((congrArg K ?_).mpr hKE)
 · (first | rfl | (simp only [go_sem, simprocAttr, ha0, ha1, ha2, ha3, ha4]; done) | (simp only [go_sem, simprocAttr, ha0, ha1, ha2, ha3, ha4]; rfl))
 rcases Bool.eq_false_or_eq_true ((x6 != (0 : Int))) with ha5 | ha5
 refine OW.run [1, 3, 5, 7, 8, 128] ?_
 (simp only [go_sem, simprocAttr, sw0, ha0, ha1, ha2, ha3, ha4, ha5])
 refine OW.nil ((congrArg K ?_).mpr hKE)
 · (first | rfl | (simp only [go_sem, simprocAttr, ha0, ha1, ha2, ha3, ha4, ha5]; done) | (simp only [go_sem, simprocAttr, ha0, ha1, ha2, ha3, ha4, ha5]; rfl))
 refine OW.run [1, 3, 5, 7, 8, 128] ?_
 (simp only [go_sem, simprocAttr, sw0, ha0, ha1, ha2, ha3, ha4, ha5])
 refine OW.nil ((congrArg K ?_).mpr hKE)
 · (first | rfl | (simp only [go_sem, simprocAttr, ha0, ha1, ha2, ha3, ha4, ha5]; done) | (simp only [go_sem, simprocAttr, ha0, ha1, ha2, ha3, ha4, ha5]; rfl))
 clear hK K
 refine PW.cond rfl (fun h5 => ?_) (fun h5 => ?_)
 replace H := br_t h5 H
 refine PW.seq ?_
 refine PW.regionK fun K hK => OW.run [6] ?_
 simp only [go_sem, simprocAttr, sw0]
 refine OW.nil (hK _ ?_)
 refine PW.ret ?_
 change PW.Ends _ _ _ _ _ _
 refine PW.Ends.intro (.inr rfl) ?_
 simp only [go_sem, simprocAttr, sw0]
 obtain rfl := Option.some.inj H
 refine RetOK.data' 4 (by exact trivial) ?_
 rfl
 replace H := br_f h5 H
 refine PW.skip ?_
 refine PW.seq ?_
 refine PW.seq ?_
 obtain ⟨x11, e11, H⟩ := bnd_some H
 refine PW.regionK fun K hK => OW.run [1, 3, 5, 7, 8, 135] ?_
 simp only [go_sem, simprocAttr, sw0]
 repeat (refine And.intro (by omega) ?_)
 refine OW.call' 4 rfl rfl rfl (by first | exact rfl | ((simp only [go_sem, List.toList_toArray, simprocAttr]); exact rfl)) ?_ (base_Within_ok N _ _ _ _ e11) ?_ ?_ ?_ ?_
 rfl
 exact okD_all rfl
 exact .inl rfl
 (simp only [go_sem, Nat.reduceLT])
 refine OW.run [1, 3, 5, 7, 8, 135] ?_
 simp only [go_sem, simprocAttr, sw0]
 refine OW.nil (hK _ ?_)
 refine PW.cond rfl (fun h6 => ?_) (fun h6 => ?_)
 replace H := br_t h6 H
 refine PW.seq ?_
 refine PW.regionK fun K hK => OW.run [6] ?_
 simp only [go_sem, simprocAttr, sw0]
 refine OW.nil (hK _ ?_)
 refine PW.ret ?_
 change PW.Ends _ _ _ _ _ _
 refine PW.Ends.intro (.inr rfl) ?_
 simp only [go_sem, simprocAttr, sw0]
 obtain rfl := Option.some.inj H
 refine RetOK.data' 4 (by exact trivial) ?_
 rfl
 replace H := br_f h6 H
 refine PW.skip ?_
 refine PW.seq ?_
 obtain ⟨⟨x12, x121⟩, e12, H⟩ := bnd_some H
 refine PW.regionK fun K hK => OW.run [7, 8, 17, 18] ?_
 simp only [go_sem, simprocAttr, sw0]
 refine OW.call' 4 rfl rfl rfl (by first | exact rfl | ((simp only [go_sem, List.toList_toArray, simprocAttr]); exact rfl)) ?_ (ref09_LevelAt_ok N _ _ _ _ _ _ _ _ _ _ e12) ?_ ?_ ?_ ?_
 rfl
 · (refine okAll_intro ?_; (simp only [go_sem, sw2, List.length_set, List.length_replicate, and_true, true_and, Nat.le_refl, simprocAttr]; done))
 exact .inl rfl
 (simp only [go_sem, Nat.reduceLT])
 refine OW.run [7, 8, 17, 18] ?_
 simp only [go_sem, simprocAttr, sw0]
 refine OW.nil (hK _ ?_)
 refine PW.seq ?_
 refine PW.regionK fun K hK => ?_
 refine OW.toS [(6, .d (Bo (((x121 && (x41 == (0 : Int))) && (x4 == x12)) || (((!x121) && (x41 == (12 : Int))) && (x4 == (0 : Int))))))] [{ cells := [.d (.list Zy.length (Zy.map L)), .d (.list Zu.length (Zu.flatMap (fun (x : ByteArray × Int × Int × Int × Int × Int × Int) => [(Sx x.1), (I x.2.1), (I x.2.2.1), (I x.2.2.2.1), (I x.2.2.2.2.1), (I x.2.2.2.2.2.1), (I x.2.2.2.2.2.2)]))), .d (.list Zx.length (Zx.flatMap (fun (x : Int × Int) => [(I x.1), (I x.2)]))), .d (I Zv), .d (I Zz), .d (I Zw)], e := 28 }, { cells := [.d (I at_0), .d (I at_1)], e := 58 }] ?_ (hK _ ?_)
 intro K hKE
 rcases Bool.eq_false_or_eq_true (x121) with ha0 | ha0
 rcases Bool.eq_false_or_eq_true ((x41 == (0 : Int))) with ha1 | ha1
 rcases Bool.eq_false_or_eq_true ((x4 == x12)) with ha2 | ha2
 refine OW.run [6] ?_
 (simp only [go_sem, simprocAttr, sw0, ha0, ha1, ha2])
 refine OW.nil ((congrArg K ?_).mpr hKE)
 · (first | rfl | (simp only [go_sem, simprocAttr, ha0, ha1, ha2]; done) | (simp only [go_sem, simprocAttr, ha0, ha1, ha2]; rfl))
 refine OW.run [6] ?_
 (simp only [go_sem, simprocAttr, sw0, ha0, ha1, ha2])
 refine OW.nil ((congrArg K ?_).mpr hKE)
 · (first | rfl | (simp only [go_sem, simprocAttr, ha0, ha1, ha2]; done) | (simp only [go_sem, simprocAttr, ha0, ha1, ha2]; rfl))
 refine OW.run [6] ?_
 (simp only [go_sem, simprocAttr, sw0, ha0, ha1])
 refine OW.nil ((congrArg K ?_).mpr hKE)
 · (first | rfl | (simp only [go_sem, simprocAttr, ha0, ha1]; done) | (simp only [go_sem, simprocAttr, ha0, ha1]; rfl))
 rcases Bool.eq_false_or_eq_true ((x41 == (0 : Int))) with ha1 | ha1
 rcases Bool.eq_false_or_eq_true ((x4 == x12)) with ha2 | ha2
 rcases Bool.eq_false_or_eq_true ((x41 == (12 : Int))) with ha3 | ha3
 refine OW.run [6] ?_
 (simp only [go_sem, simprocAttr, sw0, ha0, ha1, ha2, ha3])
 refine OW.nil ((congrArg K ?_).mpr hKE)
 · (first | rfl | (simp only [go_sem, simprocAttr, ha0, ha1, ha2, ha3]; done) | (simp only [go_sem, simprocAttr, ha0, ha1, ha2, ha3]; rfl))
 refine OW.run [6] ?_
 (simp only [go_sem, simprocAttr, sw0, ha0, ha1, ha2, ha3])
 refine OW.nil ((congrArg K ?_).mpr hKE)
 · (first | rfl | (simp only [go_sem, simprocAttr, ha0, ha1, ha2, ha3]; done) | (simp only [go_sem, simprocAttr, ha0, ha1, ha2, ha3]; rfl))
 rcases Bool.eq_false_or_eq_true ((x41 == (12 : Int))) with ha3 | ha3
 refine OW.run [6] ?_
 (simp only [go_sem, simprocAttr, sw0, ha0, ha1, ha2, ha3])
 refine OW.nil ((congrArg K ?_).mpr hKE)
 · (first | rfl | (simp only [go_sem, simprocAttr, ha0, ha1, ha2, ha3]; done) | (simp only [go_sem, simprocAttr, ha0, ha1, ha2, ha3]; rfl))
 refine OW.run [6] ?_
 (simp only [go_sem, simprocAttr, sw0, ha0, ha1, ha2, ha3])
 refine OW.nil ((congrArg K ?_).mpr hKE)
 · (first | rfl | (simp only [go_sem, simprocAttr, ha0, ha1, ha2, ha3]; done) | (simp only [go_sem, simprocAttr, ha0, ha1, ha2, ha3]; rfl))
 rcases Bool.eq_false_or_eq_true ((x4 == x12)) with ha2 | ha2
 rcases Bool.eq_false_or_eq_true ((x41 == (12 : Int))) with ha3 | ha3
 refine OW.run [6] ?_
 (simp only [go_sem, simprocAttr, sw0, ha0, ha1, ha2, ha3])
 refine OW.nil ((congrArg K ?_).mpr hKE)
 · (first | rfl | (simp only [go_sem, simprocAttr, ha0, ha1, ha2, ha3]; done) | (simp only [go_sem, simprocAttr, ha0, ha1, ha2, ha3]; rfl))
 refine OW.run [6] ?_
 (simp only [go_sem, simprocAttr, sw0, ha0, ha1, ha2, ha3])
 refine OW.nil ((congrArg K ?_).mpr hKE)
 · (first | rfl | (simp only [go_sem, simprocAttr, ha0, ha1, ha2, ha3]; done) | (simp only [go_sem, simprocAttr, ha0, ha1, ha2, ha3]; rfl))
 rcases Bool.eq_false_or_eq_true ((x41 == (12 : Int))) with ha3 | ha3
 refine OW.run [6] ?_
 (simp only [go_sem, simprocAttr, sw0, ha0, ha1, ha2, ha3])
 refine OW.nil ((congrArg K ?_).mpr hKE)
 · (first | rfl | (simp only [go_sem, simprocAttr, ha0, ha1, ha2, ha3]; done) | (simp only [go_sem, simprocAttr, ha0, ha1, ha2, ha3]; rfl))
 refine OW.run [6] ?_
 (simp only [go_sem, simprocAttr, sw0, ha0, ha1, ha2, ha3])
 refine OW.nil ((congrArg K ?_).mpr hKE)
 · (first | rfl | (simp only [go_sem, simprocAttr, ha0, ha1, ha2, ha3]; done) | (simp only [go_sem, simprocAttr, ha0, ha1, ha2, ha3]; rfl))
 clear hK K
 refine PW.ret ?_
 change PW.Ends _ _ _ _ _ _
 refine PW.Ends.intro (.inr rfl) ?_
 simp only [go_sem, simprocAttr, sw0]
 obtain rfl := Option.some.inj H
 refine RetOK.data' 4 (by exact trivial) ?_
 rfl

end Go.Proofs.YtklejiafioalnaaGreat
