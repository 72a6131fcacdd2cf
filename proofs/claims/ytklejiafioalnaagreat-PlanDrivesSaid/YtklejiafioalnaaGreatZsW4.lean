import Derived.Test.YtklejiafioalnaaGreatZsBase
import Derived.Test.YtklejiafioalnaaGreatZsW0
import Derived.Test.YtklejiafioalnaaGreatZsW1
import Derived.Test.YtklejiafioalnaaGreatZsW2
import Derived.Test.YtklejiafioalnaaGreatZsW3
set_option linter.all false
namespace Go.Proofs.YtklejiafioalnaaGreat
open Go.PW Go.Sh

set_option maxRecDepth 20000
set_option maxHeartbeats 8000000
def z0W4a := b5 7 (fun (x : ByteArray × Int × Int × Int × Int × Int × Int) => [(Sx x.1), (I x.2.1), (I x.2.2.1), (I x.2.2.2.1), (I x.2.2.2.2.1), (I x.2.2.2.2.2.1), (I x.2.2.2.2.2.2)]) (fun _ => rfl)
def z1W4a := j7 7 (fun (x : ByteArray × Int × Int × Int × Int × Int × Int) => [(Sx x.1), (I x.2.1), (I x.2.2.1), (I x.2.2.2.1), (I x.2.2.2.2.1), (I x.2.2.2.2.2.1), (I x.2.2.2.2.2.2)]) (fun _ => rfl)
theorem ref09_LevelAt_ok (N : Nat) (Zy : List (List Int)) (Zu : List (ByteArray × Int × Int × Int × Int × Int × Int)) (Zx : List (Int × Int)) (Zv : Int) (Zz : Int) (Zw : Int) (cell : Int) (at_0 : Int) (at_1 : Int) (r : Int × Bool) (H : ref09_LevelAt N Zy Zu Zx Zv Zz Zw cell at_0 at_1 = some r) : CallOK Tryz.prog 30 [(.agg [(.list Zy.length (Zy.map L)), (.list Zu.length (Zu.flatMap (fun (x : ByteArray × Int × Int × Int × Int × Int × Int) => [(Sx x.1), (I x.2.1), (I x.2.2.1), (I x.2.2.2.1), (I x.2.2.2.2.1), (I x.2.2.2.2.2.1), (I x.2.2.2.2.2.2)]))), (.list Zx.length (Zx.flatMap (fun (x : Int × Int) => [(I x.1), (I x.2)]))), (I Zv), (I Zz), (I Zw)]), (I cell), (.agg [(I at_0), (I at_1)])] (.d (.tup [(I r.1), (Bo r.2)])) [] := by
 refine b7 Tryz.func30 rfl (by rw [Tryz.results30]) Tryz.ntmps30 Tryz.call30 ?_
 change PW _ _ _ _ _
 try simp only [go_sem, simprocAttr]
 unfold ref09_LevelAt at H
 refine a6 ?_
 refine a5 fun K hK => OW.run [1, 3, 5] ?_
 simp only [go_sem, simprocAttr, sw0]
 refine OW.nil (hK _ ?_)
 refine a6 ?_
 obtain ⟨c1, H⟩ := d3 H
 refine a5 fun K hK => OW.run [3, 5, 8] ?_
 (simp only [go_sem, simprocAttr, sw0, z0W4a, z1W4a Zu cell.toNat (by omega)])
 repeat (refine And.intro (by omega) ?_)
 refine OW.nil (hK _ ?_)
 refine a6 ?_
 refine g8 13 mixed (by kernel_rfl) fun K hK => ?_
 change FW _ _ _ _ _
 refine FW.run ?_
 simp only [go_sem, simprocAttr, sw0]
 repeat (refine And.intro (by omega) ?_)
 refine FW.nil ?_
 change OW _ _ _ _ _ _
 refine OW.run [3, 5, 8, 9, 10] ?_
 simp only [go_sem, simprocAttr, sw0]
 refine OW.nil (hK _ ?_)
 refine i5 (τ := Unit) [] 0 (fun _ => []) (fun _ => []) _ _ r (by exact Nat.le_refl _) H ?_ ?_
 intro K_ H N2 hN2
 refine a6 ?_
 refine a5 fun K hK => OW.run [3, 5, 8, 9, 10, 11] ?_
 simp only [go_sem, simprocAttr, sw0]
 refine OW.nil (hK _ ?_)
 refine PW.block ?_
 refine j1 (σ := Int) [3, 5, 8, 9, 10, 11] 3 (fun i => [(11, .d (I i))]) (fun i => [{ cells := [.d (.list Zy.length (Zy.map L)), .d (.list Zu.length (Zu.flatMap (fun (x : ByteArray × Int × Int × Int × Int × Int × Int) => [(Sx x.1), (I x.2.1), (I x.2.2.1), (I x.2.2.2.1), (I x.2.2.2.2.1), (I x.2.2.2.2.2.1), (I x.2.2.2.2.2.2)]))), .d (.list Zx.length (Zx.flatMap (fun (x : Int × Int) => [(I x.1), (I x.2)]))), .d (I Zv), .d (I Zz), .d (I Zw)], e := 28 }, { cells := [.d (I at_0), .d (I at_1)], e := 58 }, { cells := [.d (Sx ((Zu.getD cell.toNat default).1)), .d (I ((Zu.getD cell.toNat default).2.1)), .d (I ((Zu.getD cell.toNat default).2.2.1)), .d (I ((Zu.getD cell.toNat default).2.2.2.1)), .d (I ((Zu.getD cell.toNat default).2.2.2.2.1)), .d (I ((Zu.getD cell.toNat default).2.2.2.2.2.1)), .d (I ((Zu.getD cell.toNat default).2.2.2.2.2.2))], e := 78 }]) (t0 N Zy Zu Zx Zv Zz cell at_0 at_1 K_) r N (0 : Int) (by exact Nat.zero_le _) H (by (simp only [sw1, go_sem, simprocAttr]; done)) ?_
 rintro n i H N3 hN3
 unfold t0 at H
 try simp only [go_sem, simprocAttr]
 refine a6 ?_
 refine a6 ?_
 refine a5 fun K hK => OW.run [3, 5, 8, 9, 10, 11, 34] ?_
 simp only [go_sem, simprocAttr, sw0]
 repeat (refine And.intro (by omega) ?_)
 refine OW.nil (hK _ ?_)
 refine b9 rfl (fun h4 => ?_) (fun h4 => ?_)
 replace H := m6 h4 H
 refine d2 ?_
 refine a6 ?_
 refine PW.block ?_
 refine a6 ?_
 refine a6 ?_
 obtain ⟨c5, H⟩ := d3 H
 refine a5 fun K hK => OW.run [3, 5, 8, 9, 10, 11, 50] ?_
 (simp only [go_sem, simprocAttr, sw0, b5 2 (fun (x : Int × Int) => [(I x.1), (I x.2)]) (fun _ => rfl), j7 2 (fun (x : Int × Int) => [(I x.1), (I x.2)]) (fun _ => rfl) Zx i.toNat (by omega)])
 repeat (refine And.intro (by omega) ?_)
 refine OW.nil (hK _ ?_)
 refine b9 rfl (fun h6 => ?_) (fun h6 => ?_)
 replace H := m6 h6 H
 refine j4 ?_
 refine a5 fun K hK => OW.run [3, 5, 8, 9, 10, 11] ?_
 simp only [go_sem, simprocAttr, sw0]
 refine OW.nil (hK _ ?_)
 refine hN3 [] (w64 (i + (1 : Int))) _ H (by exact trivial) ?_
 simp only [sw1, go_sem, simprocAttr]
 replace H := m7 h6 H
 refine d2 ?_
 refine a6 ?_
 obtain ⟨c7, H⟩ := d3 H
 obtain ⟨x1, e1, H⟩ := a9 H
 obtain ⟨x2, e2, H⟩ := a9 H
 refine g8 21 mixed (by kernel_rfl) fun K hK => ?_
 change FW _ _ _ _ _
 refine FW.run ?_
 (simp only [go_sem, simprocAttr, sw0, b5 2 (fun (x : Int × Int) => [(I x.1), (I x.2)]) (fun _ => rfl), j7 2 (fun (x : Int × Int) => [(I x.1), (I x.2)]) (fun _ => rfl) Zx i.toNat (by omega)])
 repeat (refine And.intro (by omega) ?_)
 refine i9 4 rfl rfl rfl (by first | exact rfl | ((simp only [go_sem, List.toList_toArray, simprocAttr]); exact rfl)) ?_ (ref09_Steps_ok N _ _ _ _ _ e1) ?_ ?_ ?_ ?_
 rfl
 · (refine a8 ?_; (simp only [go_sem, sw2, List.length_set, List.length_replicate, and_true, true_and, Nat.le_refl, simprocAttr]; done))
 exact .inl rfl
 (simp only [go_sem, Nat.reduceLT])
 refine FW.run ?_
 (simp only [go_sem, simprocAttr, sw0, b5 2 (fun (x : Int × Int) => [(I x.1), (I x.2)]) (fun _ => rfl), j7 2 (fun (x : Int × Int) => [(I x.1), (I x.2)]) (fun _ => rfl) Zx i.toNat (by omega)])
 refine i9 4 rfl rfl rfl (by first | exact rfl | ((simp only [go_sem, List.toList_toArray, simprocAttr]); exact rfl)) ?_ (base_Size_ok N _ _ e2) ?_ ?_ ?_ ?_
 rfl
 exact d6 rfl
 exact .inl rfl
 (simp only [go_sem, Nat.reduceLT])
 refine FW.run ?_
 (simp only [go_sem, simprocAttr, sw0, b5 2 (fun (x : Int × Int) => [(I x.1), (I x.2)]) (fun _ => rfl), j7 2 (fun (x : Int × Int) => [(I x.1), (I x.2)]) (fun _ => rfl) Zx i.toNat (by omega)])
 refine FW.nil ?_
 change OW _ _ _ _ _ _
 refine OW.run [3, 5, 8, 12] ?_
 (simp only [go_sem, simprocAttr, sw0, b5 2 (fun (x : Int × Int) => [(I x.1), (I x.2)]) (fun _ => rfl), j7 2 (fun (x : Int × Int) => [(I x.1), (I x.2)]) (fun _ => rfl) Zx i.toNat (by omega)])
 refine OW.nil (hK _ ?_)
 refine a6 ?_
 refine a6 ?_
 obtain ⟨x3, e3, H⟩ := a9 H
 refine a5 fun K hK => OW.run [3, 12, 78] ?_
 simp only [go_sem, simprocAttr, sw0]
 repeat (refine And.intro (by omega) ?_)
 refine b8 4 rfl rfl rfl (by first | exact rfl | ((simp only [go_sem, List.toList_toArray, simprocAttr]); exact rfl)) ?_ (ref09_Sees_ok N _ _ _ _ _ _ _ _ _ _ _ e3) ?_ ?_ ?_ ?_
 rfl
 · (refine a8 ?_; (simp only [go_sem, sw2, List.length_set, List.length_replicate, and_true, true_and, Nat.le_refl, simprocAttr]; done))
 exact .inl rfl
 (simp only [go_sem, Nat.reduceLT])
 refine OW.run [3, 12, 78] ?_
 simp only [go_sem, simprocAttr, sw0]
 refine OW.nil (hK _ ?_)
 refine b9 rfl (fun h8 => ?_) (fun h8 => ?_)
 replace H := m6 h8 H
 refine a5 fun K hK => OW.run [12] ?_
 simp only [go_sem, simprocAttr, sw0]
 repeat (refine And.intro (by omega) ?_)
 refine OW.nil (hK _ ?_)
 refine a6 ?_
 refine a5 fun K hK => OW.run [6, 7] ?_
 simp only [go_sem, simprocAttr, sw0]
 refine OW.nil (hK _ ?_)
 refine d5 ?_
 change PW.Ends _ _ _ _ _ _
 refine PW.Ends.intro (.inr rfl) ?_
 simp only [go_sem, simprocAttr, sw0]
 obtain rfl := Option.some.inj H
 refine a7 4 (by exact d6 rfl) ?_
 rfl
 replace H := m7 h8 H
 refine d2 ?_
 refine a6 ?_
 refine a5 fun K hK => OW.run [6, 7] ?_
 simp only [go_sem, simprocAttr, sw0]
 refine OW.nil (hK _ ?_)
 refine d5 ?_
 change PW.Ends _ _ _ _ _ _
 refine PW.Ends.intro (.inr rfl) ?_
 simp only [go_sem, simprocAttr, sw0]
 obtain rfl := Option.some.inj H
 refine a7 4 (by exact d6 rfl) ?_
 rfl
 replace H := m7 h4 H
 refine j4 ?_
 refine hN2 [] () _ H (by exact trivial) ?_
 simp only [sw1, go_sem, simprocAttr]
 rintro _ H
 try simp only [go_sem, simprocAttr]
 refine a6 ?_
 refine a5 fun K hK => OW.run [6, 7] ?_
 simp only [go_sem, simprocAttr, sw0]
 refine OW.nil (hK _ ?_)
 refine d5 ?_
 change PW.Ends _ _ _ _ _ _
 refine PW.Ends.intro (.inr rfl) ?_
 simp only [go_sem, simprocAttr, sw0]
 obtain rfl := Option.some.inj H
 refine a7 4 (by exact d6 rfl) ?_
 rfl

theorem ref09_ServerAt_ok (N : Nat) (Zy : List (List Int)) (Zu : List (ByteArray × Int × Int × Int × Int × Int × Int)) (Zx : List (Int × Int)) (Zv : Int) (Zz : Int) (Zw : Int) (on : List Bool) (at_0 : Int) (at_1 : Int) (r : Int × Int × Bool) (H : ref09_ServerAt N Zy Zu Zx Zv Zz Zw on at_0 at_1 = some r) : CallOK Tryz.prog 27 [(.agg [(.list Zy.length (Zy.map L)), (.list Zu.length (Zu.flatMap (fun (x : ByteArray × Int × Int × Int × Int × Int × Int) => [(Sx x.1), (I x.2.1), (I x.2.2.1), (I x.2.2.2.1), (I x.2.2.2.2.1), (I x.2.2.2.2.2.1), (I x.2.2.2.2.2.2)]))), (.list Zx.length (Zx.flatMap (fun (x : Int × Int) => [(I x.1), (I x.2)]))), (I Zv), (I Zz), (I Zw)]), (.list on.length (on.map Bo)), (.agg [(I at_0), (I at_1)])] (.d (.tup [(I r.1), (I r.2.1), (Bo r.2.2)])) [] := by
 refine b7 Tryz.func27 rfl (by rw [Tryz.results27]) Tryz.ntmps27 Tryz.call27 ?_
 change PW _ _ _ _ _
 try simp only [go_sem, simprocAttr]
 unfold ref09_ServerAt at H
 refine a6 ?_
 refine a5 fun K hK => OW.run [1, 3, 5] ?_
 simp only [go_sem, simprocAttr, sw0]
 refine OW.nil (hK _ ?_)
 refine a6 ?_
 refine a5 fun K hK => OW.run [1, 3, 5, 9, 10, 11] ?_
 simp only [go_sem, simprocAttr, sw0]
 refine OW.nil (hK _ ?_)
 refine i5 (τ := Int × Int × Bool) [9, 10, 11] 0 (fun (cell, most, some_) => [(9, .d (I cell)), (10, .d (I most)), (11, .d (Bo some_))]) (fun (cell, most, some_) => []) _ _ r (by exact Nat.le_refl _) H ?_ ?_
 intro K_ H N1 hN1
 refine a6 ?_
 refine a5 fun K hK => OW.run [1, 3, 5, 9, 10, 11, 12] ?_
 simp only [go_sem, simprocAttr, sw0]
 refine OW.nil (hK _ ?_)
 refine PW.block ?_
 refine j1 (σ := Int × Int × Bool × Int) [1, 3, 5, 9, 10, 11, 12] 2 (fun (cell1, most1, some_1, i) => [(9, .d (I cell1)), (10, .d (I most1)), (11, .d (Bo some_1)), (12, .d (I i))]) (fun (cell1, most1, some_1, i) => [{ cells := [.d (.list Zy.length (Zy.map L)), .d (.list Zu.length (Zu.flatMap (fun (x : ByteArray × Int × Int × Int × Int × Int × Int) => [(Sx x.1), (I x.2.1), (I x.2.2.1), (I x.2.2.2.1), (I x.2.2.2.2.1), (I x.2.2.2.2.2.1), (I x.2.2.2.2.2.2)]))), .d (.list Zx.length (Zx.flatMap (fun (x : Int × Int) => [(I x.1), (I x.2)]))), .d (I Zv), .d (I Zz), .d (I Zw)], e := 28 }, { cells := [.d (I at_0), .d (I at_1)], e := 58 }]) (q5 N Zy Zu Zx Zv Zz Zw on at_0 at_1 K_) r N ((0 : Int), (0 : Int), false, (0 : Int)) (by exact Nat.zero_le _) H (by (simp only [sw1, go_sem, simprocAttr]; done)) ?_
 rintro n ⟨cell1, most1, some_1, i⟩ H N2 hN2
 unfold q5 at H
 try simp only [go_sem, simprocAttr]
 refine a6 ?_
 refine a6 ?_
 refine a5 fun K hK => OW.run [1, 3, 5, 9, 10, 11, 12, 19] ?_
 simp only [go_sem, simprocAttr, sw0]
 repeat (refine And.intro (by omega) ?_)
 refine OW.nil (hK _ ?_)
 refine b9 rfl (fun h3 => ?_) (fun h3 => ?_)
 replace H := m6 h3 H
 refine d2 ?_
 refine a6 ?_
 refine PW.block ?_
 refine a6 ?_
 obtain ⟨⟨x1, x11⟩, e1, H⟩ := a9 H
 refine a5 fun K hK => OW.run [1, 3, 5, 9, 10, 11, 12, 13, 14] ?_
 simp only [go_sem, simprocAttr, sw0]
 refine b8 4 rfl rfl rfl (by first | exact rfl | ((simp only [go_sem, List.toList_toArray, simprocAttr]); exact rfl)) ?_ (ref09_LevelAt_ok N _ _ _ _ _ _ _ _ _ _ e1) ?_ ?_ ?_ ?_
 rfl
 · (refine a8 ?_; (simp only [go_sem, sw2, List.length_set, List.length_replicate, and_true, true_and, Nat.le_refl, simprocAttr]; done))
 exact .inl rfl
 (simp only [go_sem, Nat.reduceLT])
 refine OW.run [1, 3, 5, 9, 10, 11, 12, 13, 14] ?_
 simp only [go_sem, simprocAttr, sw0]
 refine OW.nil (hK _ ?_)
 refine a6 ?_
 obtain ⟨c4, H⟩ := d3 H
 refine a5 fun K hK => ?_
 refine OW.toS [(1, .d (.list on.length (on.map Bo))), (3, .ptr 0 0), (5, .ptr 1 0), (9, .d (I cell1)), (10, .d (I most1)), (11, .d (Bo some_1)), (12, .d (I i)), (13, .d (I x1)), (44, .d (Bo (((on.getD i.toNat default) && x11) && ((!some_1) || (decide (x1 > most1))))))] [{ cells := [.d (.list Zy.length (Zy.map L)), .d (.list Zu.length (Zu.flatMap (fun (x : ByteArray × Int × Int × Int × Int × Int × Int) => [(Sx x.1), (I x.2.1), (I x.2.2.1), (I x.2.2.2.1), (I x.2.2.2.2.1), (I x.2.2.2.2.2.1), (I x.2.2.2.2.2.2)]))), .d (.list Zx.length (Zx.flatMap (fun (x : Int × Int) => [(I x.1), (I x.2)]))), .d (I Zv), .d (I Zz), .d (I Zw)], e := 28 }, { cells := [.d (I at_0), .d (I at_1)], e := 58 }] ?_ (hK _ ?_)
 intro K hKE
 rcases Bool.eq_false_or_eq_true ((on.getD i.toNat default)) with ha0 | ha0
 rcases Bool.eq_false_or_eq_true (x11) with ha1 | ha1
 rcases Bool.eq_false_or_eq_true (some_1) with ha2 | ha2
 refine OW.run [1, 3, 5, 9, 10, 11, 12, 13, 44] ?_
 (simp only [go_sem, simprocAttr, sw0, f4 Bo on i.toNat default (by omega), ha0, ha1, ha2])
 repeat (refine And.intro (by omega) ?_)
 refine OW.nil ((congrArg K ?_).mpr hKE)
 · (first | rfl | (simp only [go_sem, simprocAttr, ha0, ha1, ha2]; done) | (simp only [go_sem, simprocAttr, ha0, ha1, ha2]; rfl))
 refine OW.run [1, 3, 5, 9, 10, 11, 12, 13, 44] ?_
 (simp only [go_sem, simprocAttr, sw0, f4 Bo on i.toNat default (by omega), ha0, ha1, ha2])
 repeat (refine And.intro (by omega) ?_)
 refine OW.nil ((congrArg K ?_).mpr hKE)
 · (first | rfl | (simp only [go_sem, simprocAttr, ha0, ha1, ha2]; done) | (simp only [go_sem, simprocAttr, ha0, ha1, ha2]; rfl))
 refine OW.run [1, 3, 5, 9, 10, 11, 12, 13, 44] ?_
 (simp only [go_sem, simprocAttr, sw0, f4 Bo on i.toNat default (by omega), ha0, ha1])
 repeat (refine And.intro (by omega) ?_)
 refine OW.nil ((congrArg K ?_).mpr hKE)
 · (first | rfl | (simp only [go_sem, simprocAttr, ha0, ha1]; done) | (simp only [go_sem, simprocAttr, ha0, ha1]; rfl))
 refine OW.run [1, 3, 5, 9, 10, 11, 12, 13, 44] ?_
 (simp only [go_sem, simprocAttr, sw0, f4 Bo on i.toNat default (by omega), ha0])
 repeat (refine And.intro (by omega) ?_)
 refine OW.nil ((congrArg K ?_).mpr hKE)
 · (first | rfl | (simp only [go_sem, simprocAttr, ha0]; done) | (simp only [go_sem, simprocAttr, ha0]; rfl))
 clear hK K
 refine b9 rfl (fun h5 => ?_) (fun h5 => ?_)
 replace H := m6 h5 H
 refine a5 fun K hK => OW.run [1, 3, 5, 9, 10, 11, 12] ?_
 simp only [go_sem, simprocAttr, sw0]
 refine OW.nil (hK _ ?_)
 refine a5 fun K hK => OW.run [1, 3, 5, 9, 10, 11, 12] ?_
 simp only [go_sem, simprocAttr, sw0]
 refine OW.nil (hK _ ?_)
 refine hN2 [] (i, x1, true, w64 (i + (1 : Int))) _ H (by exact trivial) ?_
 simp only [sw1, go_sem, simprocAttr]
 replace H := m7 h5 H
 refine d2 ?_
 refine a5 fun K hK => OW.run [1, 3, 5, 9, 10, 11, 12] ?_
 simp only [go_sem, simprocAttr, sw0]
 refine OW.nil (hK _ ?_)
 refine hN2 [] (cell1, most1, some_1, w64 (i + (1 : Int))) _ H (by exact trivial) ?_
 simp only [sw1, go_sem, simprocAttr]
 replace H := m7 h3 H
 refine j4 ?_
 refine hN1 [] (cell1, most1, some_1) _ H (by exact trivial) ?_
 simp only [sw1, go_sem, simprocAttr]
 rintro ⟨cell, most, some_⟩ H
 try simp only [go_sem, simprocAttr]
 refine a6 ?_
 refine a5 fun K hK => OW.run [6, 7, 8] ?_
 simp only [go_sem, simprocAttr, sw0]
 refine OW.nil (hK _ ?_)
 refine d5 ?_
 change PW.Ends _ _ _ _ _ _
 refine PW.Ends.intro (.inr rfl) ?_
 simp only [go_sem, simprocAttr, sw0]
 obtain rfl := Option.some.inj H
 refine a7 4 (by exact d6 rfl) ?_
 rfl

theorem plan_field_covers_ok (N : Nat) (Zj : List (List Int)) (Zf : List (ByteArray × Int × Int × Int × Int × Int × Int)) (Zi : List (Int × Int)) (Zg : Int) (Zk : Int) (Zh : Int) (f_width : Int) (f_levels : List (List (Int × Bool))) (l_n : Int) (l_is : Bool) (r : Bool) (H : v7 N Zj Zf Zi Zg Zk Zh f_width f_levels l_n l_is = some r) : CallOK Tryz.prog 57 [(.ref [(.list Zj.length (Zj.map L)), (.list Zf.length (Zf.flatMap (fun (x : ByteArray × Int × Int × Int × Int × Int × Int) => [(Sx x.1), (I x.2.1), (I x.2.2.1), (I x.2.2.2.1), (I x.2.2.2.2.1), (I x.2.2.2.2.2.1), (I x.2.2.2.2.2.2)]))), (.list Zi.length (Zi.flatMap (fun (x : Int × Int) => [(I x.1), (I x.2)]))), (I Zg), (I Zk), (I Zh), (I f_width), (.list f_levels.length (f_levels.map (fun (x : List (Int × Bool)) => (.list x.length (x.flatMap (fun (x : Int × Bool) => [(I x.1), (Bo x.2)]))))))]), (.agg [(I l_n), (Bo l_is)])] (.d (Bo r)) [] := by
 refine b7 Tryz.func57 rfl (by rw [Tryz.results57]) Tryz.ntmps57 Tryz.call57 ?_
 change PW _ _ _ _ _
 try simp only [go_sem, simprocAttr]
 unfold v7 at H
 refine a6 ?_
 refine a5 fun K hK => OW.run [0, 3] ?_
 simp only [go_sem, simprocAttr, sw0]
 refine OW.nil (hK _ ?_)
 refine a6 ?_
 refine g8 10 mixed (by kernel_rfl) fun K hK => ?_
 change FW _ _ _ _ _
 refine FW.run ?_
 simp only [go_sem, simprocAttr, sw0]
 repeat (refine And.intro (by omega) ?_)
 refine FW.nil ?_
 change OW _ _ _ _ _ _
 refine OW.run [4] ?_
 simp only [go_sem, simprocAttr, sw0]
 refine OW.nil (hK _ ?_)
 refine d5 ?_
 change PW.Ends _ _ _ _ _ _
 refine PW.Ends.intro (.inr rfl) ?_
 simp only [go_sem, simprocAttr, sw0]
 obtain rfl := Option.some.inj H
 refine a7 4 (by exact trivial) ?_
 rfl

end Go.Proofs.YtklejiafioalnaaGreat
