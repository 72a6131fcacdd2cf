import Derived.Test.YtklejiafioalnaaGreatZsBase
import Derived.Test.YtklejiafioalnaaGreatZsW0
import Derived.Test.YtklejiafioalnaaGreatZsW1
import Derived.Test.YtklejiafioalnaaGreatZsW2
import Derived.Test.YtklejiafioalnaaGreatZsW3
set_option linter.all false
namespace Go.Proofs.YtklejiafioalnaaGreat
open Go.PW Go.Sh

set_option maxRecDepth 20000
set_option maxHeartbeats 8000000
def z0W4a := flatMap_length 7 (fun (x : ByteArray × Int × Int × Int × Int × Int × Int) => [(Sx x.1), (I x.2.1), (I x.2.2.1), (I x.2.2.2.1), (I x.2.2.2.2.1), (I x.2.2.2.2.2.1), (I x.2.2.2.2.2.2)]) (fun _ => rfl)
def z1W4a := sub_el 7 (fun (x : ByteArray × Int × Int × Int × Int × Int × Int) => [(Sx x.1), (I x.2.1), (I x.2.2.1), (I x.2.2.2.1), (I x.2.2.2.2.1), (I x.2.2.2.2.2.1), (I x.2.2.2.2.2.2)]) (fun _ => rfl)
theorem ref09_LevelAt_ok (N : Nat) (Zy : List (List Int)) (Zu : List (ByteArray × Int × Int × Int × Int × Int × Int)) (Zx : List (Int × Int)) (Zv : Int) (Zz : Int) (Zw : Int) (cell : Int) (at_0 : Int) (at_1 : Int) (r : Int × Bool) (H : ref09_LevelAt N Zy Zu Zx Zv Zz Zw cell at_0 at_1 = some r) : CallOK Tryz.prog 30 [(.agg [(.list Zy.length (Zy.map L)), (.list Zu.length (Zu.flatMap (fun (x : ByteArray × Int × Int × Int × Int × Int × Int) => [(Sx x.1), (I x.2.1), (I x.2.2.1), (I x.2.2.2.1), (I x.2.2.2.2.1), (I x.2.2.2.2.2.1), (I x.2.2.2.2.2.2)]))), (.list Zx.length (Zx.flatMap (fun (x : Int × Int) => [(I x.1), (I x.2)]))), (I Zv), (I Zz), (I Zw)]), (I cell), (.agg [(I at_0), (I at_1)])] (.d (.tup [(I r.1), (Bo r.2)])) [] := by
 refine CallOK.of_PW Tryz.func30 rfl (by rw [Tryz.results30]) Tryz.ntmps30 Tryz.call30 ?_
 change PW _ _ _ _ _
 try simp only [go_sem, simprocAttr]
 unfold ref09_LevelAt at H
 refine PW.seq ?_
 refine PW.regionK fun K hK => OW.run [1, 3, 5] ?_
 simp only [go_sem, simprocAttr, sw0]
 refine OW.nil (hK _ ?_)
 refine PW.seq ?_
 obtain ⟨c1, H⟩ := chk_some H
 refine PW.regionK fun K hK => OW.run [3, 5, 8] ?_
 (simp only [go_sem, simprocAttr, sw0, z0W4a, z1W4a Zu cell.toNat (by omega)])
 repeat (refine And.intro (by omega) ?_)
 refine OW.nil (hK _ ?_)
 refine PW.seq ?_
 refine PW.drawK 13 mixed (by kernel_rfl) fun K hK => ?_
 change FW _ _ _ _ _
 refine FW.run ?_
 simp only [go_sem, simprocAttr, sw0]
 repeat (refine And.intro (by omega) ?_)
 refine FW.nil ?_
 change OW _ _ _ _ _ _
 refine OW.run [3, 5, 8, 9, 10] ?_
 simp only [go_sem, simprocAttr, sw0]
 refine OW.nil (hK _ ?_)
 refine PW.joinS (τ := Unit) [] 0 (fun _ => []) (fun _ => []) _ _ r (by exact Nat.le_refl _) H ?_ ?_
 intro K_ H N2 hN2
 refine PW.seq ?_
 refine PW.regionK fun K hK => OW.run [3, 5, 8, 9, 10, 11] ?_
 simp only [go_sem, simprocAttr, sw0]
 refine OW.nil (hK _ ?_)
 refine PW.block ?_
 refine PW.loopS (σ := Int) [3, 5, 8, 9, 10, 11] 3 (fun i => [(11, .d (I i))]) (fun i => [{ cells := [.d (.list Zy.length (Zy.map L)), .d (.list Zu.length (Zu.flatMap (fun (x : ByteArray × Int × Int × Int × Int × Int × Int) => [(Sx x.1), (I x.2.1), (I x.2.2.1), (I x.2.2.2.1), (I x.2.2.2.2.1), (I x.2.2.2.2.2.1), (I x.2.2.2.2.2.2)]))), .d (.list Zx.length (Zx.flatMap (fun (x : Int × Int) => [(I x.1), (I x.2)]))), .d (I Zv), .d (I Zz), .d (I Zw)], e := 28 }, { cells := [.d (I at_0), .d (I at_1)], e := 58 }, { cells := [.d (Sx ((Zu.getD cell.toNat default).1)), .d (I ((Zu.getD cell.toNat default).2.1)), .d (I ((Zu.getD cell.toNat default).2.2.1)), .d (I ((Zu.getD cell.toNat default).2.2.2.1)), .d (I ((Zu.getD cell.toNat default).2.2.2.2.1)), .d (I ((Zu.getD cell.toNat default).2.2.2.2.2.1)), .d (I ((Zu.getD cell.toNat default).2.2.2.2.2.2))], e := 78 }]) (ref09_LevelAt.b1 N Zy Zu Zx Zv Zz cell at_0 at_1 K_) r N (0 : Int) (by exact Nat.zero_le _) H (by (simp only [sw1, go_sem, simprocAttr]; done)) ?_
 rintro n i H N3 hN3
 unfold ref09_LevelAt.b1 at H
 try simp only [go_sem, simprocAttr]
 refine PW.seq ?_
 refine PW.seq ?_
 refine PW.regionK fun K hK => OW.run [3, 5, 8, 9, 10, 11, 34] ?_
 simp only [go_sem, simprocAttr, sw0]
 repeat (refine And.intro (by omega) ?_)
 refine OW.nil (hK _ ?_)
 refine PW.cond rfl (fun h4 => ?_) (fun h4 => ?_)
 replace H := br_t h4 H
 refine PW.skip ?_
 refine PW.seq ?_
 refine PW.block ?_
 refine PW.seq ?_
 refine PW.seq ?_
 obtain ⟨c5, H⟩ := chk_some H
 refine PW.regionK fun K hK => OW.run [3, 5, 8, 9, 10, 11, 50] ?_
 (simp only [go_sem, simprocAttr, sw0, flatMap_length 2 (fun (x : Int × Int) => [(I x.1), (I x.2)]) (fun _ => rfl), sub_el 2 (fun (x : Int × Int) => [(I x.1), (I x.2)]) (fun _ => rfl) Zx i.toNat (by omega)])
 repeat (refine And.intro (by omega) ?_)
 refine OW.nil (hK _ ?_)
 refine PW.cond rfl (fun h6 => ?_) (fun h6 => ?_)
 replace H := br_t h6 H
 refine PW.exit ?_
 refine PW.regionK fun K hK => OW.run [3, 5, 8, 9, 10, 11] ?_
 simp only [go_sem, simprocAttr, sw0]
 refine OW.nil (hK _ ?_)
 refine hN3 [] (w64 (i + (1 : Int))) _ H (by exact trivial) ?_
 simp only [sw1, go_sem, simprocAttr]
 replace H := br_f h6 H
 refine PW.skip ?_
 refine PW.seq ?_
 obtain ⟨c7, H⟩ := chk_some H
 obtain ⟨x1, e1, H⟩ := bnd_some H
 obtain ⟨x2, e2, H⟩ := bnd_some H
 refine PW.drawK 21 mixed (by kernel_rfl) fun K hK => ?_
 change FW _ _ _ _ _
 refine FW.run ?_
 (simp only [go_sem, simprocAttr, sw0, flatMap_length 2 (fun (x : Int × Int) => [(I x.1), (I x.2)]) (fun _ => rfl), sub_el 2 (fun (x : Int × Int) => [(I x.1), (I x.2)]) (fun _ => rfl) Zx i.toNat (by omega)])
 repeat (refine And.intro (by omega) ?_)
 refine FW.call' 4 rfl rfl rfl (by first | exact rfl | ((simp only [go_sem, List.toList_toArray, simprocAttr]); exact rfl)) ?_ (ref09_Steps_ok N _ _ _ _ _ e1) ?_ ?_ ?_ ?_
 rfl
 · (refine okAll_intro ?_; (simp only [go_sem, sw2, List.length_set, List.length_replicate, and_true, true_and, Nat.le_refl, simprocAttr]; done))
 exact .inl rfl
 (simp only [go_sem, Nat.reduceLT])
 refine FW.run ?_
 (simp only [go_sem, simprocAttr, sw0, flatMap_length 2 (fun (x : Int × Int) => [(I x.1), (I x.2)]) (fun _ => rfl), sub_el 2 (fun (x : Int × Int) => [(I x.1), (I x.2)]) (fun _ => rfl) Zx i.toNat (by omega)])
 refine FW.call' 4 rfl rfl rfl (by first | exact rfl | ((simp only [go_sem, List.toList_toArray, simprocAttr]); exact rfl)) ?_ (base_Size_ok N _ _ e2) ?_ ?_ ?_ ?_
 rfl
 exact okD_all rfl
 exact .inl rfl
 (simp only [go_sem, Nat.reduceLT])
 refine FW.run ?_
 (simp only [go_sem, simprocAttr, sw0, flatMap_length 2 (fun (x : Int × Int) => [(I x.1), (I x.2)]) (fun _ => rfl), sub_el 2 (fun (x : Int × Int) => [(I x.1), (I x.2)]) (fun _ => rfl) Zx i.toNat (by omega)])
 refine FW.nil ?_
 change OW _ _ _ _ _ _
 refine OW.run [3, 5, 8, 12] ?_
 (simp only [go_sem, simprocAttr, sw0, flatMap_length 2 (fun (x : Int × Int) => [(I x.1), (I x.2)]) (fun _ => rfl), sub_el 2 (fun (x : Int × Int) => [(I x.1), (I x.2)]) (fun _ => rfl) Zx i.toNat (by omega)])
 refine OW.nil (hK _ ?_)
 refine PW.seq ?_
 refine PW.seq ?_
 obtain ⟨x3, e3, H⟩ := bnd_some H
 refine PW.regionK fun K hK => OW.run [3, 12, 78] ?_
 simp only [go_sem, simprocAttr, sw0]
 repeat (refine And.intro (by omega) ?_)
 refine OW.call' 4 rfl rfl rfl (by first | exact rfl | ((simp only [go_sem, List.toList_toArray, simprocAttr]); exact rfl)) ?_ (ref09_Sees_ok N _ _ _ _ _ _ _ _ _ _ _ e3) ?_ ?_ ?_ ?_
 rfl
 · (refine okAll_intro ?_; (simp only [go_sem, sw2, List.length_set, List.length_replicate, and_true, true_and, Nat.le_refl, simprocAttr]; done))
 exact .inl rfl
 (simp only [go_sem, Nat.reduceLT])
 refine OW.run [3, 12, 78] ?_
 simp only [go_sem, simprocAttr, sw0]
 refine OW.nil (hK _ ?_)
 refine PW.cond rfl (fun h8 => ?_) (fun h8 => ?_)
 replace H := br_t h8 H
 refine PW.regionK fun K hK => OW.run [12] ?_
 simp only [go_sem, simprocAttr, sw0]
 repeat (refine And.intro (by omega) ?_)
 refine OW.nil (hK _ ?_)
 refine PW.seq ?_
 refine PW.regionK fun K hK => OW.run [6, 7] ?_
 simp only [go_sem, simprocAttr, sw0]
 refine OW.nil (hK _ ?_)
 refine PW.ret ?_
 change PW.Ends _ _ _ _ _ _
 refine PW.Ends.intro (.inr rfl) ?_
 simp only [go_sem, simprocAttr, sw0]
 obtain rfl := Option.some.inj H
 refine RetOK.data' 4 (by exact okD_all rfl) ?_
 rfl
 replace H := br_f h8 H
 refine PW.skip ?_
 refine PW.seq ?_
 refine PW.regionK fun K hK => OW.run [6, 7] ?_
 simp only [go_sem, simprocAttr, sw0]
 refine OW.nil (hK _ ?_)
 refine PW.ret ?_
 change PW.Ends _ _ _ _ _ _
 refine PW.Ends.intro (.inr rfl) ?_
 simp only [go_sem, simprocAttr, sw0]
 obtain rfl := Option.some.inj H
 refine RetOK.data' 4 (by exact okD_all rfl) ?_
 rfl
 replace H := br_f h4 H
 refine PW.exit ?_
 refine hN2 [] () _ H (by exact trivial) ?_
 simp only [sw1, go_sem, simprocAttr]
 rintro _ H
 try simp only [go_sem, simprocAttr]
 refine PW.seq ?_
 refine PW.regionK fun K hK => OW.run [6, 7] ?_
 simp only [go_sem, simprocAttr, sw0]
 refine OW.nil (hK _ ?_)
 refine PW.ret ?_
 change PW.Ends _ _ _ _ _ _
 refine PW.Ends.intro (.inr rfl) ?_
 simp only [go_sem, simprocAttr, sw0]
 obtain rfl := Option.some.inj H
 refine RetOK.data' 4 (by exact okD_all rfl) ?_
 rfl

theorem plan_field_covers_ok (N : Nat) (Zj : List (List Int)) (Zf : List (ByteArray × Int × Int × Int × Int × Int × Int)) (Zi : List (Int × Int)) (Zg : Int) (Zk : Int) (Zh : Int) (f_width : Int) (f_levels : List (List (Int × Bool))) (l_n : Int) (l_is : Bool) (r : Bool) (H : plan_field_covers N Zj Zf Zi Zg Zk Zh f_width f_levels l_n l_is = some r) : CallOK Tryz.prog 57 [(.ref [(.list Zj.length (Zj.map L)), (.list Zf.length (Zf.flatMap (fun (x : ByteArray × Int × Int × Int × Int × Int × Int) => [(Sx x.1), (I x.2.1), (I x.2.2.1), (I x.2.2.2.1), (I x.2.2.2.2.1), (I x.2.2.2.2.2.1), (I x.2.2.2.2.2.2)]))), (.list Zi.length (Zi.flatMap (fun (x : Int × Int) => [(I x.1), (I x.2)]))), (I Zg), (I Zk), (I Zh), (I f_width), (.list f_levels.length (f_levels.map (fun (x : List (Int × Bool)) => (.list x.length (x.flatMap (fun (x : Int × Bool) => [(I x.1), (Bo x.2)]))))))]), (.agg [(I l_n), (Bo l_is)])] (.d (Bo r)) [] := by
 refine CallOK.of_PW Tryz.func57 rfl (by rw [Tryz.results57]) Tryz.ntmps57 Tryz.call57 ?_
 change PW _ _ _ _ _
 try simp only [go_sem, simprocAttr]
 unfold plan_field_covers at H
 refine PW.seq ?_
 refine PW.regionK fun K hK => OW.run [0, 3] ?_
 simp only [go_sem, simprocAttr, sw0]
 refine OW.nil (hK _ ?_)
 refine PW.seq ?_
 refine PW.drawK 10 mixed (by kernel_rfl) fun K hK => ?_
 change FW _ _ _ _ _
 refine FW.run ?_
 simp only [go_sem, simprocAttr, sw0]
 repeat (refine And.intro (by omega) ?_)
 refine FW.nil ?_
 change OW _ _ _ _ _ _
 refine OW.run [4] ?_
 simp only [go_sem, simprocAttr, sw0]
 refine OW.nil (hK _ ?_)
 refine PW.ret ?_
 change PW.Ends _ _ _ _ _ _
 refine PW.Ends.intro (.inr rfl) ?_
 simp only [go_sem, simprocAttr, sw0]
 obtain rfl := Option.some.inj H
 refine RetOK.data' 4 (by exact trivial) ?_
 rfl

end Go.Proofs.YtklejiafioalnaaGreat
