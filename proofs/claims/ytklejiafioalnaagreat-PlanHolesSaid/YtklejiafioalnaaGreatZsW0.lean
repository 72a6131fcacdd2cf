import Derived.Test.YtklejiafioalnaaGreatZsBase
set_option linter.all false
namespace Go.Proofs.YtklejiafioalnaaGreat
open Go.PW Go.Sh

set_option maxRecDepth 20000
set_option maxHeartbeats 8000000
def z0W0a := flatMap_length 7 (fun (x : ByteArray × Int × Int × Int × Int × Int × Int) => [(Sx x.1), (I x.2.1), (I x.2.2.1), (I x.2.2.2.1), (I x.2.2.2.2.1), (I x.2.2.2.2.2.1), (I x.2.2.2.2.2.2)]) (fun _ => rfl)
def z1W0a := sub_el 7 (fun (x : ByteArray × Int × Int × Int × Int × Int × Int) => [(Sx x.1), (I x.2.1), (I x.2.2.1), (I x.2.2.2.1), (I x.2.2.2.2.1), (I x.2.2.2.2.2.1), (I x.2.2.2.2.2.2)]) (fun _ => rfl)
def z2W0a := allOne_flatF (fun (x : ByteArray × Int × Int × Int × Int × Int × Int) => [(Sx x.1), (I x.2.1), (I x.2.2.1), (I x.2.2.2.1), (I x.2.2.2.2.1), (I x.2.2.2.2.2.1), (I x.2.2.2.2.2.2)]) (fun _ => rfl)
theorem law09_raster_ok (N : Nat) (Z10 : List (List Int)) (r : Bool) (H : law09_raster N Z10 = some r) : CallOK Tryz.prog 49 [(.agg [(.list Z10.length (Z10.map L))])] (.d (Bo r)) [] := by
 refine CallOK.of_PW Tryz.func49 rfl (by rw [Tryz.results49]) Tryz.ntmps49 Tryz.call49 ?_
 change PW _ _ _ _ _
 try simp only [go_sem, simprocAttr]
 unfold law09_raster at H
 refine PW.seq ?_
 refine PW.regionK fun K hK => OW.run [1] ?_
 simp only [go_sem, simprocAttr, sw0]
 refine OW.nil (hK _ ?_)
 refine PW.seq ?_
 refine PW.seq ?_
 refine PW.regionK fun K hK => OW.run [1, 19] ?_
 simp only [go_sem, simprocAttr, sw0]
 repeat (refine And.intro (by omega) ?_)
 refine OW.nil (hK _ ?_)
 refine PW.cond rfl (fun h1 => ?_) (fun h1 => ?_)
 replace H := br_t h1 H
 refine PW.seq ?_
 refine PW.regionK fun K hK => OW.run [2] ?_
 simp only [go_sem, simprocAttr, sw0]
 refine OW.nil (hK _ ?_)
 refine PW.ret ?_
 change PW.Ends _ _ _ _ _ _
 refine PW.Ends.intro (.inr rfl) ?_
 simp only [go_sem, simprocAttr, sw0]
 obtain rfl := Option.some.inj H
 refine RetOK.data' 4 (by exact trivial) ?_
 rfl
 replace H := br_f h1 H
 refine PW.skip ?_
 refine PW.joinS (τ := Unit) [] 0 (fun _ => []) (fun _ => []) _ _ r (by exact Nat.le_refl _) H ?_ ?_
 intro K_ H N2 hN2
 refine PW.seq ?_
 refine PW.regionK fun K hK => OW.run [1, 3] ?_
 simp only [go_sem, simprocAttr, sw0]
 refine OW.nil (hK _ ?_)
 refine PW.block ?_
 refine PW.loopS (σ := Int) [1, 3] 1 (fun i => [(3, .d (I i))]) (fun i => [{ cells := [.d (.list Z10.length (Z10.map L))], e := 24 }]) (law09_raster.b1 N Z10 K_) r N (0 : Int) (by exact Nat.zero_le _) H (by (simp only [sw1, go_sem, simprocAttr]; done)) ?_
 rintro n i H N3 hN3
 unfold law09_raster.b1 at H
 try simp only [go_sem, simprocAttr]
 refine PW.seq ?_
 refine PW.seq ?_
 refine PW.regionK fun K hK => OW.run [1, 3, 24] ?_
 simp only [go_sem, simprocAttr, sw0]
 repeat (refine And.intro (by omega) ?_)
 refine OW.nil (hK _ ?_)
 refine PW.cond rfl (fun h4 => ?_) (fun h4 => ?_)
 replace H := br_t h4 H
 refine PW.skip ?_
 refine PW.seq ?_
 refine PW.block ?_
 refine PW.seq ?_
 obtain ⟨c5, H⟩ := chk_some H
 obtain ⟨c6, H⟩ := chk_some H
 obtain ⟨c7, H⟩ := chk_some H
 refine PW.regionK fun K hK => ?_
 refine OW.toS [(1, .ptr 0 0), (3, .d (I i)), (51, .d (Bo (((decide (((Z10.getD i.toNat default).length : Int) > (5 : Int))) && (decide (((Z10.getD i.toNat default).length : Int) ≤ (12 : Int)))) || (decide (((Z10.getD i.toNat default).length : Int) > (14 : Int))))))] [{ cells := [.d (.list Z10.length (Z10.map L))], e := 24 }] ?_ (hK _ ?_)
 intro K hKE
 rcases Bool.eq_false_or_eq_true ((decide (((Z10.getD i.toNat default).length : Int) > (5 : Int)))) with ha0 | ha0
 rcases Bool.eq_false_or_eq_true ((decide (((Z10.getD i.toNat default).length : Int) ≤ (12 : Int)))) with ha1 | ha1
 ·
  try simp only [ha0, ha1, sb0, true_implies, false_implies, forall_const] at c6
  try simp only [ha0, ha1, sb0, true_implies, false_implies, forall_const] at c7
  refine OW.run [1, 3, 51] ?_
  (simp only [go_sem, simprocAttr, sw0, getD_mapF L Z10 i.toNat default (by omega), ha0, ha1])
  repeat (refine And.intro (by first | omega | (intro hg; have hq := c6 (by first | exact hg | simpa using hg); first | omega | exact hq | (simp only [List.length_map]; omega)) | (intro hg; have hq := c7 (by first | exact hg | simpa using hg); first | omega | exact hq | (simp only [List.length_map]; omega)) | (first | omega | assumption | rfl | decide | (simp only [List.length_map, List.length_replicate, List.length_append, List.length_take, List.length_drop, List.length_set, List.length_cons, List.length_nil, Nat.zero_add, Int.toNat_natCast] at *; omega) | (simp only [List.length_map, List.length_replicate, List.length_append, List.length_take, List.length_drop, List.length_set, List.length_cons, List.length_nil, Nat.zero_add, Int.toNat_natCast]; done) | trivial)) ?_)
  refine OW.nil ((congrArg K ?_).mpr hKE)
  · (first | rfl | (simp only [go_sem, simprocAttr, ha0, ha1]; done) | (simp only [go_sem, simprocAttr, ha0, ha1]; rfl))
 ·
  try simp only [ha0, ha1, sb0, true_implies, false_implies, forall_const] at c6
  try simp only [ha0, ha1, sb0, true_implies, false_implies, forall_const] at c7
  refine OW.run [1, 3, 51] ?_
  (simp only [go_sem, simprocAttr, sw0, getD_mapF L Z10 i.toNat default (by omega), ha0, ha1])
  repeat (refine And.intro (by first | omega | (intro hg; have hq := c6 (by first | exact hg | simpa using hg); first | omega | exact hq | (simp only [List.length_map]; omega)) | (intro hg; have hq := c7 (by first | exact hg | simpa using hg); first | omega | exact hq | (simp only [List.length_map]; omega)) | (first | omega | assumption | rfl | decide | (simp only [List.length_map, List.length_replicate, List.length_append, List.length_take, List.length_drop, List.length_set, List.length_cons, List.length_nil, Nat.zero_add, Int.toNat_natCast] at *; omega) | (simp only [List.length_map, List.length_replicate, List.length_append, List.length_take, List.length_drop, List.length_set, List.length_cons, List.length_nil, Nat.zero_add, Int.toNat_natCast]; done) | trivial)) ?_)
  refine OW.nil ((congrArg K ?_).mpr hKE)
  · (first | rfl | (simp only [go_sem, simprocAttr, ha0, ha1]; done) | (simp only [go_sem, simprocAttr, ha0, ha1]; rfl))
 ·
  try simp only [ha0, sb0, true_implies, false_implies, forall_const] at c6
  try simp only [ha0, sb0, true_implies, false_implies, forall_const] at c7
  refine OW.run [1, 3, 51] ?_
  (simp only [go_sem, simprocAttr, sw0, getD_mapF L Z10 i.toNat default (by omega), ha0])
  repeat (refine And.intro (by first | omega | (intro hg; have hq := c6 (by first | exact hg | simpa using hg); first | omega | exact hq | (simp only [List.length_map]; omega)) | (intro hg; have hq := c7 (by first | exact hg | simpa using hg); first | omega | exact hq | (simp only [List.length_map]; omega)) | (first | omega | assumption | rfl | decide | (simp only [List.length_map, List.length_replicate, List.length_append, List.length_take, List.length_drop, List.length_set, List.length_cons, List.length_nil, Nat.zero_add, Int.toNat_natCast] at *; omega) | (simp only [List.length_map, List.length_replicate, List.length_append, List.length_take, List.length_drop, List.length_set, List.length_cons, List.length_nil, Nat.zero_add, Int.toNat_natCast]; done) | trivial)) ?_)
  refine OW.nil ((congrArg K ?_).mpr hKE)
  · (first | rfl | (simp only [go_sem, simprocAttr, ha0]; done) | (simp only [go_sem, simprocAttr, ha0]; rfl))
 clear hK K
 refine PW.cond rfl (fun h8 => ?_) (fun h8 => ?_)
 replace H := br_t h8 H
 refine PW.seq ?_
 refine PW.regionK fun K hK => OW.run [2] ?_
 simp only [go_sem, simprocAttr, sw0]
 refine OW.nil (hK _ ?_)
 refine PW.ret ?_
 change PW.Ends _ _ _ _ _ _
 refine PW.Ends.intro (.inr rfl) ?_
 simp only [go_sem, simprocAttr, sw0]
 obtain rfl := Option.some.inj H
 refine RetOK.data' 4 (by exact trivial) ?_
 rfl
 replace H := br_f h8 H
 refine PW.skip ?_
 refine PW.regionK fun K hK => OW.run [1, 3] ?_
 simp only [go_sem, simprocAttr, sw0]
 refine OW.nil (hK _ ?_)
 refine hN3 [] (w64 (i + (1 : Int))) _ H (by exact trivial) ?_
 simp only [sw1, go_sem, simprocAttr]
 replace H := br_f h4 H
 refine PW.exit ?_
 refine hN2 [] () _ H (by exact trivial) ?_
 simp only [sw1, go_sem, simprocAttr]
 rintro _ H
 try simp only [go_sem, simprocAttr]
 refine PW.seq ?_
 refine PW.regionK fun K hK => OW.run [2] ?_
 simp only [go_sem, simprocAttr, sw0]
 refine OW.nil (hK _ ?_)
 refine PW.ret ?_
 change PW.Ends _ _ _ _ _ _
 refine PW.Ends.intro (.inr rfl) ?_
 simp only [go_sem, simprocAttr, sw0]
 obtain rfl := Option.some.inj H
 refine RetOK.data' 4 (by exact trivial) ?_
 rfl

theorem law09_Few_ok (N : Nat) (Zy : List (List Int)) (Zu : List (ByteArray × Int × Int × Int × Int × Int × Int)) (Zx : List (Int × Int)) (Zv : Int) (Zz : Int) (Zw : Int) (r : Bool) (H : law09_Few N Zy Zu Zx Zv Zz Zw = some r) : CallOK Tryz.prog 11 [(.agg [(.list Zy.length (Zy.map L)), (.list Zu.length (Zu.flatMap (fun (x : ByteArray × Int × Int × Int × Int × Int × Int) => [(Sx x.1), (I x.2.1), (I x.2.2.1), (I x.2.2.2.1), (I x.2.2.2.2.1), (I x.2.2.2.2.2.1), (I x.2.2.2.2.2.2)]))), (.list Zx.length (Zx.flatMap (fun (x : Int × Int) => [(I x.1), (I x.2)]))), (I Zv), (I Zz), (I Zw)])] (.d (Bo r)) [] := by
 refine CallOK.of_PW Tryz.func11 rfl (by rw [Tryz.results11]) Tryz.ntmps11 Tryz.call11 ?_
 change PW _ _ _ _ _
 try simp only [go_sem, simprocAttr]
 unfold law09_Few at H
 refine PW.seq ?_
 refine PW.regionK fun K hK => OW.run [1] ?_
 simp only [go_sem, simprocAttr, sw0]
 refine OW.nil (hK _ ?_)
 refine PW.seq ?_
 refine PW.seq ?_
 obtain ⟨x1, e1, H⟩ := bnd_some H
 refine PW.regionK fun K hK => ?_
 refine OW.toS [(1, .ptr 0 0), (43, .d (Bo (((((!x1) || ((decide ((Zu.length : Int) > (3 : Int))) && (decide ((Zu.length : Int) ≤ (6 : Int))))) || (decide ((Zu.length : Int) > (8 : Int)))) || ((decide ((Zx.length : Int) > (5 : Int))) && (decide ((Zx.length : Int) ≤ (12 : Int))))) || (decide ((Zx.length : Int) > (14 : Int))))))] [{ cells := [.d (.list Zy.length (Zy.map L)), .d (.list Zu.length (Zu.flatMap (fun (x : ByteArray × Int × Int × Int × Int × Int × Int) => [(Sx x.1), (I x.2.1), (I x.2.2.1), (I x.2.2.2.1), (I x.2.2.2.2.1), (I x.2.2.2.2.2.1), (I x.2.2.2.2.2.2)]))), .d (.list Zx.length (Zx.flatMap (fun (x : Int × Int) => [(I x.1), (I x.2)]))), .d (I Zv), .d (I Zz), .d (I Zw)], e := 28 }] ?_ (hK _ ?_)
 intro K hKE
 rcases Bool.eq_false_or_eq_true (x1) with ha0 | ha0
 rcases Bool.eq_false_or_eq_true ((decide ((Zu.length : Int) > (3 : Int)))) with ha1 | ha1
 rcases Bool.eq_false_or_eq_true ((decide ((Zu.length : Int) ≤ (6 : Int)))) with ha2 | ha2
 refine OW.run [1, 43] ?_
 (simp only [go_sem, simprocAttr, sw0, ha0, ha1, ha2])
 repeat (refine And.intro (by omega) ?_)
 refine OW.call' 4 rfl rfl rfl (by first | exact rfl | ((simp only [go_sem, List.toList_toArray, simprocAttr]); exact rfl)) ?_ (law09_raster_ok N _ _ e1) ?_ ?_ ?_ ?_
 · (first | (rfl; done) | (first | rfl | (simp only [go_sem, sw1, simprocAttr, ha0, ha1, ha2, Bool.and_true, Bool.true_and, Bool.and_false, Bool.false_and, Bool.or_true, Bool.true_or, Bool.or_false, Bool.false_or, Bool.not_true, Bool.not_false]; done) | (simp only [go_sem, sw1, simprocAttr, ha0, ha1, ha2, Bool.and_true, Bool.true_and, Bool.and_false, Bool.false_and, Bool.or_true, Bool.true_or, Bool.or_false, Bool.false_or, Bool.not_true, Bool.not_false]; rfl) | (simp only [go_sem, sw1, simprocAttr, ha0, ha1, ha2, Bool.and_true, Bool.true_and, Bool.and_false, Bool.false_and, Bool.or_true, Bool.true_or, Bool.or_false, Bool.false_or, Bool.not_true, Bool.not_false]; simp only [seg, asD, go_sem, sw1, simprocAttr, ha0, ha1, ha2, Bool.and_true, Bool.true_and, Bool.and_false, Bool.false_and, Bool.or_true, Bool.true_or, Bool.or_false, Bool.false_or, Bool.not_true, Bool.not_false]; done) | (simp only [go_sem, sw1, simprocAttr, ha0, ha1, ha2, Bool.and_true, Bool.true_and, Bool.and_false, Bool.false_and, Bool.or_true, Bool.true_or, Bool.or_false, Bool.false_or, Bool.not_true, Bool.not_false]; simp only [seg, asD, go_sem, sw1, simprocAttr, ha0, ha1, ha2, Bool.and_true, Bool.true_and, Bool.and_false, Bool.false_and, Bool.or_true, Bool.true_or, Bool.or_false, Bool.false_or, Bool.not_true, Bool.not_false]; rfl) | ((try simp only [go_sem, sw1, simprocAttr, ha0, ha1, ha2, Bool.and_true, Bool.true_and, Bool.and_false, Bool.false_and, Bool.or_true, Bool.true_or, Bool.or_false, Bool.false_or, Bool.not_true, Bool.not_false]); (repeat' (first | rfl | (refine list_congr ?_; simp only [List.length_take, List.length_drop, List.length_set, List.length_replicate] <;> omega) | (refine congr (congrArg List.cons ?_) ?_) | (refine congrArg D.agg ?_) | (refine congrArg D.tup ?_) | (refine congrArg D.ref ?_) | (refine congrArg (D.list _) ?_) | (refine congrArg (D.clo _) ?_))))))
 · (refine okAll_intro ?_; (simp only [go_sem, sw2, List.length_set, List.length_replicate, and_true, true_and, Nat.le_refl, simprocAttr]; done))
 exact .inl rfl
 (simp only [go_sem, Nat.reduceLT])
 refine OW.run [1, 43] ?_
 (simp only [go_sem, simprocAttr, sw0, ha0, ha1, ha2])
 repeat (refine And.intro (by omega) ?_)
 refine OW.nil ((congrArg K ?_).mpr hKE)
 · (first | rfl | (simp only [go_sem, simprocAttr, ha0, ha1, ha2]; done) | (simp only [go_sem, simprocAttr, ha0, ha1, ha2]; rfl))
 rcases Bool.eq_false_or_eq_true ((decide ((Zu.length : Int) > (8 : Int)))) with ha3 | ha3
 refine OW.run [1, 43] ?_
 (simp only [go_sem, simprocAttr, sw0, ha0, ha1, ha2, ha3])
 repeat (refine And.intro (by omega) ?_)
 refine OW.call' 4 rfl rfl rfl (by first | exact rfl | ((simp only [go_sem, List.toList_toArray, simprocAttr]); exact rfl)) ?_ (law09_raster_ok N _ _ e1) ?_ ?_ ?_ ?_
 · (first | (rfl; done) | (first | rfl | (simp only [go_sem, sw1, simprocAttr, ha0, ha1, ha2, ha3, Bool.and_true, Bool.true_and, Bool.and_false, Bool.false_and, Bool.or_true, Bool.true_or, Bool.or_false, Bool.false_or, Bool.not_true, Bool.not_false]; done) | (simp only [go_sem, sw1, simprocAttr, ha0, ha1, ha2, ha3, Bool.and_true, Bool.true_and, Bool.and_false, Bool.false_and, Bool.or_true, Bool.true_or, Bool.or_false, Bool.false_or, Bool.not_true, Bool.not_false]; rfl) | (simp only [go_sem, sw1, simprocAttr, ha0, ha1, ha2, ha3, Bool.and_true, Bool.true_and, Bool.and_false, Bool.false_and, Bool.or_true, Bool.true_or, Bool.or_false, Bool.false_or, Bool.not_true, Bool.not_false]; simp only [seg, asD, go_sem, sw1, simprocAttr, ha0, ha1, ha2, ha3, Bool.and_true, Bool.true_and, Bool.and_false, Bool.false_and, Bool.or_true, Bool.true_or, Bool.or_false, Bool.false_or, Bool.not_true, Bool.not_false]; done) | (simp only [go_sem, sw1, simprocAttr, ha0, ha1, ha2, ha3, Bool.and_true, Bool.true_and, Bool.and_false, Bool.false_and, Bool.or_true, Bool.true_or, Bool.or_false, Bool.false_or, Bool.not_true, Bool.not_false]; simp only [seg, asD, go_sem, sw1, simprocAttr, ha0, ha1, ha2, ha3, Bool.and_true, Bool.true_and, Bool.and_false, Bool.false_and, Bool.or_true, Bool.true_or, Bool.or_false, Bool.false_or, Bool.not_true, Bool.not_false]; rfl) | ((try simp only [go_sem, sw1, simprocAttr, ha0, ha1, ha2, ha3, Bool.and_true, Bool.true_and, Bool.and_false, Bool.false_and, Bool.or_true, Bool.true_or, Bool.or_false, Bool.false_or, Bool.not_true, Bool.not_false]); (repeat' (first | rfl | (refine list_congr ?_; simp only [List.length_take, List.length_drop, List.length_set, List.length_replicate] <;> omega) | (refine congr (congrArg List.cons ?_) ?_) | (refine congrArg D.agg ?_) | (refine congrArg D.tup ?_) | (refine congrArg D.ref ?_) | (refine congrArg (D.list _) ?_) | (refine congrArg (D.clo _) ?_))))))
 · (refine okAll_intro ?_; (simp only [go_sem, sw2, List.length_set, List.length_replicate, and_true, true_and, Nat.le_refl, simprocAttr]; done))
 exact .inl rfl
 (simp only [go_sem, Nat.reduceLT])
 refine OW.run [1, 43] ?_
 (simp only [go_sem, simprocAttr, sw0, ha0, ha1, ha2, ha3])
 repeat (refine And.intro (by omega) ?_)
 refine OW.nil ((congrArg K ?_).mpr hKE)
 · (first | rfl | (simp only [go_sem, simprocAttr, ha0, ha1, ha2, ha3]; done) | (simp only [go_sem, simprocAttr, ha0, ha1, ha2, ha3]; rfl))
 rcases Bool.eq_false_or_eq_true ((decide ((Zx.length : Int) > (5 : Int)))) with ha4 | ha4
 rcases Bool.eq_false_or_eq_true ((decide ((Zx.length : Int) ≤ (12 : Int)))) with ha5 | ha5
 refine OW.run [1, 43] ?_
 (simp only [go_sem, simprocAttr, sw0, ha0, ha1, ha2, ha3, ha4, ha5])
 repeat (refine And.intro (by omega) ?_)
 refine OW.call' 4 rfl rfl rfl (by first | exact rfl | ((simp only [go_sem, List.toList_toArray, simprocAttr]); exact rfl)) ?_ (law09_raster_ok N _ _ e1) ?_ ?_ ?_ ?_
 · (first | (rfl; done) | (first | rfl | (simp only [go_sem, sw1, simprocAttr, ha0, ha1, ha2, ha3, ha4, ha5, Bool.and_true, Bool.true_and, Bool.and_false, Bool.false_and, Bool.or_true, Bool.true_or, Bool.or_false, Bool.false_or, Bool.not_true, Bool.not_false]; done) | (simp only [go_sem, sw1, simprocAttr, ha0, ha1, ha2, ha3, ha4, ha5, Bool.and_true, Bool.true_and, Bool.and_false, Bool.false_and, Bool.or_true, Bool.true_or, Bool.or_false, Bool.false_or, Bool.not_true, Bool.not_false]; rfl) | (simp only [go_sem, sw1, simprocAttr, ha0, ha1, ha2, ha3, ha4, ha5, Bool.and_true, Bool.true_and, Bool.and_false, Bool.false_and, Bool.or_true, Bool.true_or, Bool.or_false, Bool.false_or, Bool.not_true, Bool.not_false]; simp only [seg, asD, go_sem, sw1, simprocAttr, ha0, ha1, ha2, ha3, ha4, ha5, Bool.and_true, Bool.true_and, Bool.and_false, Bool.false_and, Bool.or_true, Bool.true_or, Bool.or_false, Bool.false_or, Bool.not_true, Bool.not_false]; done) | (simp only [go_sem, sw1, simprocAttr, ha0, ha1, ha2, ha3, ha4, ha5, Bool.and_true, Bool.true_and, Bool.and_false, Bool.false_and, Bool.or_true, Bool.true_or, Bool.or_false, Bool.false_or, Bool.not_true, Bool.not_false]; simp only [seg, asD, go_sem, sw1, simprocAttr, ha0, ha1, ha2, ha3, ha4, ha5, Bool.and_true, Bool.true_and, Bool.and_false, Bool.false_and, Bool.or_true, Bool.true_or, Bool.or_false, Bool.false_or, Bool.not_true, Bool.not_false]; rfl) | ((try simp only [go_sem, sw1, simprocAttr, ha0, ha1, ha2, ha3, ha4, ha5, Bool.and_true, Bool.true_and, Bool.and_false, Bool.false_and, Bool.or_true, Bool.true_or, Bool.or_false, Bool.false_or, Bool.not_true, Bool.not_false]); (repeat' (first | rfl | (refine list_congr ?_; simp only [List.length_take, List.length_drop, List.length_set, List.length_replicate] <;> omega) | (refine congr (congrArg List.cons ?_) ?_) | (refine congrArg D.agg ?_) | (refine congrArg D.tup ?_) | (refine congrArg D.ref ?_) | (refine congrArg (D.list _) ?_) | (refine congrArg (D.clo _) ?_))))))
 · (refine okAll_intro ?_; (simp only [go_sem, sw2, List.length_set, List.length_replicate, and_true, true_and, Nat.le_refl, simprocAttr]; done))
 exact .inl rfl
 (simp only [go_sem, Nat.reduceLT])
 refine OW.run [1, 43] ?_
 (simp only [go_sem, simprocAttr, sw0, ha0, ha1, ha2, ha3, ha4, ha5])
 repeat (refine And.intro (by omega) ?_)
 refine OW.nil ((congrArg K ?_).mpr hKE)
 · (first | rfl | (simp only [go_sem, simprocAttr, ha0, ha1, ha2, ha3, ha4, ha5]; done) | (simp only [go_sem, simprocAttr, ha0, ha1, ha2, ha3, ha4, ha5]; rfl))
 refine OW.run [1, 43] ?_
 (simp only [go_sem, simprocAttr, sw0, ha0, ha1, ha2, ha3, ha4, ha5])
 repeat (refine And.intro (by omega) ?_)
 refine OW.call' 4 rfl rfl rfl (by first | exact rfl | ((simp only [go_sem, List.toList_toArray, simprocAttr]); exact rfl)) ?_ (law09_raster_ok N _ _ e1) ?_ ?_ ?_ ?_
 · (first | (rfl; done) | (first | rfl | (simp only [go_sem, sw1, simprocAttr, ha0, ha1, ha2, ha3, ha4, ha5, Bool.and_true, Bool.true_and, Bool.and_false, Bool.false_and, Bool.or_true, Bool.true_or, Bool.or_false, Bool.false_or, Bool.not_true, Bool.not_false]; done) | (simp only [go_sem, sw1, simprocAttr, ha0, ha1, ha2, ha3, ha4, ha5, Bool.and_true, Bool.true_and, Bool.and_false, Bool.false_and, Bool.or_true, Bool.true_or, Bool.or_false, Bool.false_or, Bool.not_true, Bool.not_false]; rfl) | (simp only [go_sem, sw1, simprocAttr, ha0, ha1, ha2, ha3, ha4, ha5, Bool.and_true, Bool.true_and, Bool.and_false, Bool.false_and, Bool.or_true, Bool.true_or, Bool.or_false, Bool.false_or, Bool.not_true, Bool.not_false]; simp only [seg, asD, go_sem, sw1, simprocAttr, ha0, ha1, ha2, ha3, ha4, ha5, Bool.and_true, Bool.true_and, Bool.and_false, Bool.false_and, Bool.or_true, Bool.true_or, Bool.or_false, Bool.false_or, Bool.not_true, Bool.not_false]; done) | (simp only [go_sem, sw1, simprocAttr, ha0, ha1, ha2, ha3, ha4, ha5, Bool.and_true, Bool.true_and, Bool.and_false, Bool.false_and, Bool.or_true, Bool.true_or, Bool.or_false, Bool.false_or, Bool.not_true, Bool.not_false]; simp only [seg, asD, go_sem, sw1, simprocAttr, ha0, ha1, ha2, ha3, ha4, ha5, Bool.and_true, Bool.true_and, Bool.and_false, Bool.false_and, Bool.or_true, Bool.true_or, Bool.or_false, Bool.false_or, Bool.not_true, Bool.not_false]; rfl) | ((try simp only [go_sem, sw1, simprocAttr, ha0, ha1, ha2, ha3, ha4, ha5, Bool.and_true, Bool.true_and, Bool.and_false, Bool.false_and, Bool.or_true, Bool.true_or, Bool.or_false, Bool.false_or, Bool.not_true, Bool.not_false]); (repeat' (first | rfl | (refine list_congr ?_; simp only [List.length_take, List.length_drop, List.length_set, List.length_replicate] <;> omega) | (refine congr (congrArg List.cons ?_) ?_) | (refine congrArg D.agg ?_) | (refine congrArg D.tup ?_) | (refine congrArg D.ref ?_) | (refine congrArg (D.list _) ?_) | (refine congrArg (D.clo _) ?_))))))
 · (refine okAll_intro ?_; (simp only [go_sem, sw2, List.length_set, List.length_replicate, and_true, true_and, Nat.le_refl, simprocAttr]; done))
 exact .inl rfl
 (simp only [go_sem, Nat.reduceLT])
 refine OW.run [1, 43] ?_
 (simp only [go_sem, simprocAttr, sw0, ha0, ha1, ha2, ha3, ha4, ha5])
 repeat (refine And.intro (by omega) ?_)
 refine OW.nil ((congrArg K ?_).mpr hKE)
 · (first | rfl | (simp only [go_sem, simprocAttr, ha0, ha1, ha2, ha3, ha4, ha5]; done) | (simp only [go_sem, simprocAttr, ha0, ha1, ha2, ha3, ha4, ha5]; rfl))
 refine OW.run [1, 43] ?_
 (simp only [go_sem, simprocAttr, sw0, ha0, ha1, ha2, ha3, ha4])
 repeat (refine And.intro (by omega) ?_)
 refine OW.call' 4 rfl rfl rfl (by first | exact rfl | ((simp only [go_sem, List.toList_toArray, simprocAttr]); exact rfl)) ?_ (law09_raster_ok N _ _ e1) ?_ ?_ ?_ ?_
 · (first | (rfl; done) | (first | rfl | (simp only [go_sem, sw1, simprocAttr, ha0, ha1, ha2, ha3, ha4, Bool.and_true, Bool.true_and, Bool.and_false, Bool.false_and, Bool.or_true, Bool.true_or, Bool.or_false, Bool.false_or, Bool.not_true, Bool.not_false]; done) | (simp only [go_sem, sw1, simprocAttr, ha0, ha1, ha2, ha3, ha4, Bool.and_true, Bool.true_and, Bool.and_false, Bool.false_and, Bool.or_true, Bool.true_or, Bool.or_false, Bool.false_or, Bool.not_true, Bool.not_false]; rfl) | (simp only [go_sem, sw1, simprocAttr, ha0, ha1, ha2, ha3, ha4, Bool.and_true, Bool.true_and, Bool.and_false, Bool.false_and, Bool.or_true, Bool.true_or, Bool.or_false, Bool.false_or, Bool.not_true, Bool.not_false]; simp only [seg, asD, go_sem, sw1, simprocAttr, ha0, ha1, ha2, ha3, ha4, Bool.and_true, Bool.true_and, Bool.and_false, Bool.false_and, Bool.or_true, Bool.true_or, Bool.or_false, Bool.false_or, Bool.not_true, Bool.not_false]; done) | (simp only [go_sem, sw1, simprocAttr, ha0, ha1, ha2, ha3, ha4, Bool.and_true, Bool.true_and, Bool.and_false, Bool.false_and, Bool.or_true, Bool.true_or, Bool.or_false, Bool.false_or, Bool.not_true, Bool.not_false]; simp only [seg, asD, go_sem, sw1, simprocAttr, ha0, ha1, ha2, ha3, ha4, Bool.and_true, Bool.true_and, Bool.and_false, Bool.false_and, Bool.or_true, Bool.true_or, Bool.or_false, Bool.false_or, Bool.not_true, Bool.not_false]; rfl) | ((try simp only [go_sem, sw1, simprocAttr, ha0, ha1, ha2, ha3, ha4, Bool.and_true, Bool.true_and, Bool.and_false, Bool.false_and, Bool.or_true, Bool.true_or, Bool.or_false, Bool.false_or, Bool.not_true, Bool.not_false]); (repeat' (first | rfl | (refine list_congr ?_; simp only [List.length_take, List.length_drop, List.length_set, List.length_replicate] <;> omega) | (refine congr (congrArg List.cons ?_) ?_) | (refine congrArg D.agg ?_) | (refine congrArg D.tup ?_) | (refine congrArg D.ref ?_) | (refine congrArg (D.list _) ?_) | (refine congrArg (D.clo _) ?_))))))
 · (refine okAll_intro ?_; (simp only [go_sem, sw2, List.length_set, List.length_replicate, and_true, true_and, Nat.le_refl, simprocAttr]; done))
 exact .inl rfl
 (simp only [go_sem, Nat.reduceLT])
 refine OW.run [1, 43] ?_
 (simp only [go_sem, simprocAttr, sw0, ha0, ha1, ha2, ha3, ha4])
 repeat (refine And.intro (by omega) ?_)
 refine OW.nil ((congrArg K ?_).mpr hKE)
 · (first | rfl | (simp only [go_sem, simprocAttr, ha0, ha1, ha2, ha3, ha4]; done) | (simp only [go_sem, simprocAttr, ha0, ha1, ha2, ha3, ha4]; rfl))
 rcases Bool.eq_false_or_eq_true ((decide ((Zu.length : Int) ≤ (6 : Int)))) with ha2 | ha2
 rcases Bool.eq_false_or_eq_true ((decide ((Zu.length : Int) > (8 : Int)))) with ha3 | ha3
 refine OW.run [1, 43] ?_
 (simp only [go_sem, simprocAttr, sw0, ha0, ha1, ha2, ha3])
 repeat (refine And.intro (by omega) ?_)
 refine OW.call' 4 rfl rfl rfl (by first | exact rfl | ((simp only [go_sem, List.toList_toArray, simprocAttr]); exact rfl)) ?_ (law09_raster_ok N _ _ e1) ?_ ?_ ?_ ?_
 · (first | (rfl; done) | (first | rfl | (simp only [go_sem, sw1, simprocAttr, ha0, ha1, ha2, ha3, Bool.and_true, Bool.true_and, Bool.and_false, Bool.false_and, Bool.or_true, Bool.true_or, Bool.or_false, Bool.false_or, Bool.not_true, Bool.not_false]; done) | (simp only [go_sem, sw1, simprocAttr, ha0, ha1, ha2, ha3, Bool.and_true, Bool.true_and, Bool.and_false, Bool.false_and, Bool.or_true, Bool.true_or, Bool.or_false, Bool.false_or, Bool.not_true, Bool.not_false]; rfl) | (simp only [go_sem, sw1, simprocAttr, ha0, ha1, ha2, ha3, Bool.and_true, Bool.true_and, Bool.and_false, Bool.false_and, Bool.or_true, Bool.true_or, Bool.or_false, Bool.false_or, Bool.not_true, Bool.not_false]; simp only [seg, asD, go_sem, sw1, simprocAttr, ha0, ha1, ha2, ha3, Bool.and_true, Bool.true_and, Bool.and_false, Bool.false_and, Bool.or_true, Bool.true_or, Bool.or_false, Bool.false_or, Bool.not_true, Bool.not_false]; done) | (simp only [go_sem, sw1, simprocAttr, ha0, ha1, ha2, ha3, Bool.and_true, Bool.true_and, Bool.and_false, Bool.false_and, Bool.or_true, Bool.true_or, Bool.or_false, Bool.false_or, Bool.not_true, Bool.not_false]; simp only [seg, asD, go_sem, sw1, simprocAttr, ha0, ha1, ha2, ha3, Bool.and_true, Bool.true_and, Bool.and_false, Bool.false_and, Bool.or_true, Bool.true_or, Bool.or_false, Bool.false_or, Bool.not_true, Bool.not_false]; rfl) | ((try simp only [go_sem, sw1, simprocAttr, ha0, ha1, ha2, ha3, Bool.and_true, Bool.true_and, Bool.and_false, Bool.false_and, Bool.or_true, Bool.true_or, Bool.or_false, Bool.false_or, Bool.not_true, Bool.not_false]); (repeat' (first | rfl | (refine list_congr ?_; simp only [List.length_take, List.length_drop, List.length_set, List.length_replicate] <;> omega) | (refine congr (congrArg List.cons ?_) ?_) | (refine congrArg D.agg ?_) | (refine congrArg D.tup ?_) | (refine congrArg D.ref ?_) | (refine congrArg (D.list _) ?_) | (refine congrArg (D.clo _) ?_))))))
 · (refine okAll_intro ?_; (simp only [go_sem, sw2, List.length_set, List.length_replicate, and_true, true_and, Nat.le_refl, simprocAttr]; done))
 exact .inl rfl
 (simp only [go_sem, Nat.reduceLT])
 refine OW.run [1, 43] ?_
 (simp only [go_sem, simprocAttr, sw0, ha0, ha1, ha2, ha3])
 repeat (refine And.intro (by omega) ?_)
 refine OW.nil ((congrArg K ?_).mpr hKE)
 · (first | rfl | (simp only [go_sem, simprocAttr, ha0, ha1, ha2, ha3]; done) | (simp only [go_sem, simprocAttr, ha0, ha1, ha2, ha3]; rfl))
 rcases Bool.eq_false_or_eq_true ((decide ((Zx.length : Int) > (5 : Int)))) with ha4 | ha4
 rcases Bool.eq_false_or_eq_true ((decide ((Zx.length : Int) ≤ (12 : Int)))) with ha5 | ha5
 refine OW.run [1, 43] ?_
 (simp only [go_sem, simprocAttr, sw0, ha0, ha1, ha2, ha3, ha4, ha5])
 repeat (refine And.intro (by omega) ?_)
 refine OW.call' 4 rfl rfl rfl (by first | exact rfl | ((simp only [go_sem, List.toList_toArray, simprocAttr]); exact rfl)) ?_ (law09_raster_ok N _ _ e1) ?_ ?_ ?_ ?_
 · (first | (rfl; done) | (first | rfl | (simp only [go_sem, sw1, simprocAttr, ha0, ha1, ha2, ha3, ha4, ha5, Bool.and_true, Bool.true_and, Bool.and_false, Bool.false_and, Bool.or_true, Bool.true_or, Bool.or_false, Bool.false_or, Bool.not_true, Bool.not_false]; done) | (simp only [go_sem, sw1, simprocAttr, ha0, ha1, ha2, ha3, ha4, ha5, Bool.and_true, Bool.true_and, Bool.and_false, Bool.false_and, Bool.or_true, Bool.true_or, Bool.or_false, Bool.false_or, Bool.not_true, Bool.not_false]; rfl) | (simp only [go_sem, sw1, simprocAttr, ha0, ha1, ha2, ha3, ha4, ha5, Bool.and_true, Bool.true_and, Bool.and_false, Bool.false_and, Bool.or_true, Bool.true_or, Bool.or_false, Bool.false_or, Bool.not_true, Bool.not_false]; simp only [seg, asD, go_sem, sw1, simprocAttr, ha0, ha1, ha2, ha3, ha4, ha5, Bool.and_true, Bool.true_and, Bool.and_false, Bool.false_and, Bool.or_true, Bool.true_or, Bool.or_false, Bool.false_or, Bool.not_true, Bool.not_false]; done) | (simp only [go_sem, sw1, simprocAttr, ha0, ha1, ha2, ha3, ha4, ha5, Bool.and_true, Bool.true_and, Bool.and_false, Bool.false_and, Bool.or_true, Bool.true_or, Bool.or_false, Bool.false_or, Bool.not_true, Bool.not_false]; simp only [seg, asD, go_sem, sw1, simprocAttr, ha0, ha1, ha2, ha3, ha4, ha5, Bool.and_true, Bool.true_and, Bool.and_false, Bool.false_and, Bool.or_true, Bool.true_or, Bool.or_false, Bool.false_or, Bool.not_true, Bool.not_false]; rfl) | ((try simp only [go_sem, sw1, simprocAttr, ha0, ha1, ha2, ha3, ha4, ha5, Bool.and_true, Bool.true_and, Bool.and_false, Bool.false_and, Bool.or_true, Bool.true_or, Bool.or_false, Bool.false_or, Bool.not_true, Bool.not_false]); (repeat' (first | rfl | (refine list_congr ?_; simp only [List.length_take, List.length_drop, List.length_set, List.length_replicate] <;> omega) | (refine congr (congrArg List.cons ?_) ?_) | (refine congrArg D.agg ?_) | (refine congrArg D.tup ?_) | (refine congrArg D.ref ?_) | (refine congrArg (D.list _) ?_) | (refine congrArg (D.clo _) ?_))))))
 · (refine okAll_intro ?_; (simp only [go_sem, sw2, List.length_set, List.length_replicate, and_true, true_and, Nat.le_refl, simprocAttr]; done))
 exact .inl rfl
 (simp only [go_sem, Nat.reduceLT])
 refine OW.run [1, 43] ?_
 (simp only [go_sem, simprocAttr, sw0, ha0, ha1, ha2, ha3, ha4, ha5])
 repeat (refine And.intro (by omega) ?_)
 refine OW.nil ((congrArg K ?_).mpr hKE)
 · (first | rfl | (simp only [go_sem, simprocAttr, ha0, ha1, ha2, ha3, ha4, ha5]; done) | (simp only [go_sem, simprocAttr, ha0, ha1, ha2, ha3, ha4, ha5]; rfl))
 refine OW.run [1, 43] ?_
 (simp only [go_sem, simprocAttr, sw0, ha0, ha1, ha2, ha3, ha4, ha5])
 repeat (refine And.intro (by omega) ?_)
 refine OW.call' 4 rfl rfl rfl (by first | exact rfl | ((simp only [go_sem, List.toList_toArray, simprocAttr]); exact rfl)) ?_ (law09_raster_ok N _ _ e1) ?_ ?_ ?_ ?_
 · (first | (rfl; done) | (first | rfl | (simp only [go_sem, sw1, simprocAttr, ha0, ha1, ha2, ha3, ha4, ha5, Bool.and_true, Bool.true_and, Bool.and_false, Bool.false_and, Bool.or_true, Bool.true_or, Bool.or_false, Bool.false_or, Bool.not_true, Bool.not_false]; done) | (simp only [go_sem, sw1, simprocAttr, ha0, ha1, ha2, ha3, ha4, ha5, Bool.and_true, Bool.true_and, Bool.and_false, Bool.false_and, Bool.or_true, Bool.true_or, Bool.or_false, Bool.false_or, Bool.not_true, Bool.not_false]; rfl) | (simp only [go_sem, sw1, simprocAttr, ha0, ha1, ha2, ha3, ha4, ha5, Bool.and_true, Bool.true_and, Bool.and_false, Bool.false_and, Bool.or_true, Bool.true_or, Bool.or_false, Bool.false_or, Bool.not_true, Bool.not_false]; simp only [seg, asD, go_sem, sw1, simprocAttr, ha0, ha1, ha2, ha3, ha4, ha5, Bool.and_true, Bool.true_and, Bool.and_false, Bool.false_and, Bool.or_true, Bool.true_or, Bool.or_false, Bool.false_or, Bool.not_true, Bool.not_false]; done) | (simp only [go_sem, sw1, simprocAttr, ha0, ha1, ha2, ha3, ha4, ha5, Bool.and_true, Bool.true_and, Bool.and_false, Bool.false_and, Bool.or_true, Bool.true_or, Bool.or_false, Bool.false_or, Bool.not_true, Bool.not_false]; simp only [seg, asD, go_sem, sw1, simprocAttr, ha0, ha1, ha2, ha3, ha4, ha5, Bool.and_true, Bool.true_and, Bool.and_false, Bool.false_and, Bool.or_true, Bool.true_or, Bool.or_false, Bool.false_or, Bool.not_true, Bool.not_false]; rfl) | ((try simp only [go_sem, sw1, simprocAttr, ha0, ha1, ha2, ha3, ha4, ha5, Bool.and_true, Bool.true_and, Bool.and_false, Bool.false_and, Bool.or_true, Bool.true_or, Bool.or_false, Bool.false_or, Bool.not_true, Bool.not_false]); (repeat' (first | rfl | (refine list_congr ?_; simp only [List.length_take, List.length_drop, List.length_set, List.length_replicate] <;> omega) | (refine congr (congrArg List.cons ?_) ?_) | (refine congrArg D.agg ?_) | (refine congrArg D.tup ?_) | (refine congrArg D.ref ?_) | (refine congrArg (D.list _) ?_) | (refine congrArg (D.clo _) ?_))))))
 · (refine okAll_intro ?_; (simp only [go_sem, sw2, List.length_set, List.length_replicate, and_true, true_and, Nat.le_refl, simprocAttr]; done))
 exact .inl rfl
 (simp only [go_sem, Nat.reduceLT])
 refine OW.run [1, 43] ?_
 (simp only [go_sem, simprocAttr, sw0, ha0, ha1, ha2, ha3, ha4, ha5])
 repeat (refine And.intro (by omega) ?_)
 refine OW.nil ((congrArg K ?_).mpr hKE)
 · (first | rfl | (simp only [go_sem, simprocAttr, ha0, ha1, ha2, ha3, ha4, ha5]; done) | (simp only [go_sem, simprocAttr, ha0, ha1, ha2, ha3, ha4, ha5]; rfl))
 refine OW.run [1, 43] ?_
 (simp only [go_sem, simprocAttr, sw0, ha0, ha1, ha2, ha3, ha4])
 repeat (refine And.intro (by omega) ?_)
 refine OW.call' 4 rfl rfl rfl (by first | exact rfl | ((simp only [go_sem, List.toList_toArray, simprocAttr]); exact rfl)) ?_ (law09_raster_ok N _ _ e1) ?_ ?_ ?_ ?_
 · (first | (rfl; done) | (first | rfl | (simp only [go_sem, sw1, simprocAttr, ha0, ha1, ha2, ha3, ha4, Bool.and_true, Bool.true_and, Bool.and_false, Bool.false_and, Bool.or_true, Bool.true_or, Bool.or_false, Bool.false_or, Bool.not_true, Bool.not_false]; done) | (simp only [go_sem, sw1, simprocAttr, ha0, ha1, ha2, ha3, ha4, Bool.and_true, Bool.true_and, Bool.and_false, Bool.false_and, Bool.or_true, Bool.true_or, Bool.or_false, Bool.false_or, Bool.not_true, Bool.not_false]; rfl) | (simp only [go_sem, sw1, simprocAttr, ha0, ha1, ha2, ha3, ha4, Bool.and_true, Bool.true_and, Bool.and_false, Bool.false_and, Bool.or_true, Bool.true_or, Bool.or_false, Bool.false_or, Bool.not_true, Bool.not_false]; simp only [seg, asD, go_sem, sw1, simprocAttr, ha0, ha1, ha2, ha3, ha4, Bool.and_true, Bool.true_and, Bool.and_false, Bool.false_and, Bool.or_true, Bool.true_or, Bool.or_false, Bool.false_or, Bool.not_true, Bool.not_false]; done) | (simp only [go_sem, sw1, simprocAttr, ha0, ha1, ha2, ha3, ha4, Bool.and_true, Bool.true_and, Bool.and_false, Bool.false_and, Bool.or_true, Bool.true_or, Bool.or_false, Bool.false_or, Bool.not_true, Bool.not_false]; simp only [seg, asD, go_sem, sw1, simprocAttr, ha0, ha1, ha2, ha3, ha4, Bool.and_true, Bool.true_and, Bool.and_false, Bool.false_and, Bool.or_true, Bool.true_or, Bool.or_false, Bool.false_or, Bool.not_true, Bool.not_false]; rfl) | ((try simp only [go_sem, sw1, simprocAttr, ha0, ha1, ha2, ha3, ha4, Bool.and_true, Bool.true_and, Bool.and_false, Bool.false_and, Bool.or_true, Bool.true_or, Bool.or_false, Bool.false_or, Bool.not_true, Bool.not_false]); (repeat' (first | rfl | (refine list_congr ?_; simp only [List.length_take, List.length_drop, List.length_set, List.length_replicate] <;> omega) | (refine congr (congrArg List.cons ?_) ?_) | (refine congrArg D.agg ?_) | (refine congrArg D.tup ?_) | (refine congrArg D.ref ?_) | (refine congrArg (D.list _) ?_) | (refine congrArg (D.clo _) ?_))))))
 · (refine okAll_intro ?_; (simp only [go_sem, sw2, List.length_set, List.length_replicate, and_true, true_and, Nat.le_refl, simprocAttr]; done))
 exact .inl rfl
 (simp only [go_sem, Nat.reduceLT])
 refine OW.run [1, 43] ?_
 (simp only [go_sem, simprocAttr, sw0, ha0, ha1, ha2, ha3, ha4])
 repeat (refine And.intro (by omega) ?_)
 refine OW.nil ((congrArg K ?_).mpr hKE)
 · (first | rfl | (simp only [go_sem, simprocAttr, ha0, ha1, ha2, ha3, ha4]; done) | (simp only [go_sem, simprocAttr, ha0, ha1, ha2, ha3, ha4]; rfl))
 rcases Bool.eq_false_or_eq_true ((decide ((Zu.length : Int) > (8 : Int)))) with ha3 | ha3
 refine OW.run [1, 43] ?_
 (simp only [go_sem, simprocAttr, sw0, ha0, ha1, ha2, ha3])
 repeat (refine And.intro (by omega) ?_)
 refine OW.call' 4 rfl rfl rfl (by first | exact rfl | ((simp only [go_sem, List.toList_toArray, simprocAttr]); exact rfl)) ?_ (law09_raster_ok N _ _ e1) ?_ ?_ ?_ ?_
 · (first | (rfl; done) | (first | rfl | (simp only [go_sem, sw1, simprocAttr, ha0, ha1, ha2, ha3, Bool.and_true, Bool.true_and, Bool.and_false, Bool.false_and, Bool.or_true, Bool.true_or, Bool.or_false, Bool.false_or, Bool.not_true, Bool.not_false]; done) | (simp only [go_sem, sw1, simprocAttr, ha0, ha1, ha2, ha3, Bool.and_true, Bool.true_and, Bool.and_false, Bool.false_and, Bool.or_true, Bool.true_or, Bool.or_false, Bool.false_or, Bool.not_true, Bool.not_false]; rfl) | (simp only [go_sem, sw1, simprocAttr, ha0, ha1, ha2, ha3, Bool.and_true, Bool.true_and, Bool.and_false, Bool.false_and, Bool.or_true, Bool.true_or, Bool.or_false, Bool.false_or, Bool.not_true, Bool.not_false]; simp only [seg, asD, go_sem, sw1, simprocAttr, ha0, ha1, ha2, ha3, Bool.and_true, Bool.true_and, Bool.and_false, Bool.false_and, Bool.or_true, Bool.true_or, Bool.or_false, Bool.false_or, Bool.not_true, Bool.not_false]; done) | (simp only [go_sem, sw1, simprocAttr, ha0, ha1, ha2, ha3, Bool.and_true, Bool.true_and, Bool.and_false, Bool.false_and, Bool.or_true, Bool.true_or, Bool.or_false, Bool.false_or, Bool.not_true, Bool.not_false]; simp only [seg, asD, go_sem, sw1, simprocAttr, ha0, ha1, ha2, ha3, Bool.and_true, Bool.true_and, Bool.and_false, Bool.false_and, Bool.or_true, Bool.true_or, Bool.or_false, Bool.false_or, Bool.not_true, Bool.not_false]; rfl) | ((try simp only [go_sem, sw1, simprocAttr, ha0, ha1, ha2, ha3, Bool.and_true, Bool.true_and, Bool.and_false, Bool.false_and, Bool.or_true, Bool.true_or, Bool.or_false, Bool.false_or, Bool.not_true, Bool.not_false]); (repeat' (first | rfl | (refine list_congr ?_; simp only [List.length_take, List.length_drop, List.length_set, List.length_replicate] <;> omega) | (refine congr (congrArg List.cons ?_) ?_) | (refine congrArg D.agg ?_) | (refine congrArg D.tup ?_) | (refine congrArg D.ref ?_) | (refine congrArg (D.list _) ?_) | (refine congrArg (D.clo _) ?_))))))
 · (refine okAll_intro ?_; (simp only [go_sem, sw2, List.length_set, List.length_replicate, and_true, true_and, Nat.le_refl, simprocAttr]; done))
 exact .inl rfl
 (simp only [go_sem, Nat.reduceLT])
 refine OW.run [1, 43] ?_
 (simp only [go_sem, simprocAttr, sw0, ha0, ha1, ha2, ha3])
 repeat (refine And.intro (by omega) ?_)
 refine OW.nil ((congrArg K ?_).mpr hKE)
 · (first | rfl | (simp only [go_sem, simprocAttr, ha0, ha1, ha2, ha3]; done) | (simp only [go_sem, simprocAttr, ha0, ha1, ha2, ha3]; rfl))
 rcases Bool.eq_false_or_eq_true ((decide ((Zx.length : Int) > (5 : Int)))) with ha4 | ha4
 rcases Bool.eq_false_or_eq_true ((decide ((Zx.length : Int) ≤ (12 : Int)))) with ha5 | ha5
 refine OW.run [1, 43] ?_
 (simp only [go_sem, simprocAttr, sw0, ha0, ha1, ha2, ha3, ha4, ha5])
 repeat (refine And.intro (by omega) ?_)
 refine OW.call' 4 rfl rfl rfl (by first | exact rfl | ((simp only [go_sem, List.toList_toArray, simprocAttr]); exact rfl)) ?_ (law09_raster_ok N _ _ e1) ?_ ?_ ?_ ?_
 · (first | (rfl; done) | (first | rfl | (simp only [go_sem, sw1, simprocAttr, ha0, ha1, ha2, ha3, ha4, ha5, Bool.and_true, Bool.true_and, Bool.and_false, Bool.false_and, Bool.or_true, Bool.true_or, Bool.or_false, Bool.false_or, Bool.not_true, Bool.not_false]; done) | (simp only [go_sem, sw1, simprocAttr, ha0, ha1, ha2, ha3, ha4, ha5, Bool.and_true, Bool.true_and, Bool.and_false, Bool.false_and, Bool.or_true, Bool.true_or, Bool.or_false, Bool.false_or, Bool.not_true, Bool.not_false]; rfl) | (simp only [go_sem, sw1, simprocAttr, ha0, ha1, ha2, ha3, ha4, ha5, Bool.and_true, Bool.true_and, Bool.and_false, Bool.false_and, Bool.or_true, Bool.true_or, Bool.or_false, Bool.false_or, Bool.not_true, Bool.not_false]; simp only [seg, asD, go_sem, sw1, simprocAttr, ha0, ha1, ha2, ha3, ha4, ha5, Bool.and_true, Bool.true_and, Bool.and_false, Bool.false_and, Bool.or_true, Bool.true_or, Bool.or_false, Bool.false_or, Bool.not_true, Bool.not_false]; done) | (simp only [go_sem, sw1, simprocAttr, ha0, ha1, ha2, ha3, ha4, ha5, Bool.and_true, Bool.true_and, Bool.and_false, Bool.false_and, Bool.or_true, Bool.true_or, Bool.or_false, Bool.false_or, Bool.not_true, Bool.not_false]; simp only [seg, asD, go_sem, sw1, simprocAttr, ha0, ha1, ha2, ha3, ha4, ha5, Bool.and_true, Bool.true_and, Bool.and_false, Bool.false_and, Bool.or_true, Bool.true_or, Bool.or_false, Bool.false_or, Bool.not_true, Bool.not_false]; rfl) | ((try simp only [go_sem, sw1, simprocAttr, ha0, ha1, ha2, ha3, ha4, ha5, Bool.and_true, Bool.true_and, Bool.and_false, Bool.false_and, Bool.or_true, Bool.true_or, Bool.or_false, Bool.false_or, Bool.not_true, Bool.not_false]); (repeat' (first | rfl | (refine list_congr ?_; simp only [List.length_take, List.length_drop, List.length_set, List.length_replicate] <;> omega) | (refine congr (congrArg List.cons ?_) ?_) | (refine congrArg D.agg ?_) | (refine congrArg D.tup ?_) | (refine congrArg D.ref ?_) | (refine congrArg (D.list _) ?_) | (refine congrArg (D.clo _) ?_))))))
 · (refine okAll_intro ?_; (simp only [go_sem, sw2, List.length_set, List.length_replicate, and_true, true_and, Nat.le_refl, simprocAttr]; done))
 exact .inl rfl
 (simp only [go_sem, Nat.reduceLT])
 refine OW.run [1, 43] ?_
 (simp only [go_sem, simprocAttr, sw0, ha0, ha1, ha2, ha3, ha4, ha5])
 repeat (refine And.intro (by omega) ?_)
 refine OW.nil ((congrArg K ?_).mpr hKE)
 · (first | rfl | (simp only [go_sem, simprocAttr, ha0, ha1, ha2, ha3, ha4, ha5]; done) | (simp only [go_sem, simprocAttr, ha0, ha1, ha2, ha3, ha4, ha5]; rfl))
 refine OW.run [1, 43] ?_
 (simp only [go_sem, simprocAttr, sw0, ha0, ha1, ha2, ha3, ha4, ha5])
 repeat (refine And.intro (by omega) ?_)
 refine OW.call' 4 rfl rfl rfl (by first | exact rfl | ((simp only [go_sem, List.toList_toArray, simprocAttr]); exact rfl)) ?_ (law09_raster_ok N _ _ e1) ?_ ?_ ?_ ?_
 · (first | (rfl; done) | (first | rfl | (simp only [go_sem, sw1, simprocAttr, ha0, ha1, ha2, ha3, ha4, ha5, Bool.and_true, Bool.true_and, Bool.and_false, Bool.false_and, Bool.or_true, Bool.true_or, Bool.or_false, Bool.false_or, Bool.not_true, Bool.not_false]; done) | (simp only [go_sem, sw1, simprocAttr, ha0, ha1, ha2, ha3, ha4, ha5, Bool.and_true, Bool.true_and, Bool.and_false, Bool.false_and, Bool.or_true, Bool.true_or, Bool.or_false, Bool.false_or, Bool.not_true, Bool.not_false]; rfl) | (simp only [go_sem, sw1, simprocAttr, ha0, ha1, ha2, ha3, ha4, ha5, Bool.and_true, Bool.true_and, Bool.and_false, Bool.false_and, Bool.or_true, Bool.true_or, Bool.or_false, Bool.false_or, Bool.not_true, Bool.not_false]; simp only [seg, asD, go_sem, sw1, simprocAttr, ha0, ha1, ha2, ha3, ha4, ha5, Bool.and_true, Bool.true_and, Bool.and_false, Bool.false_and, Bool.or_true, Bool.true_or, Bool.or_false, Bool.false_or, Bool.not_true, Bool.not_false]; done) | (simp only [go_sem, sw1, simprocAttr, ha0, ha1, ha2, ha3, ha4, ha5, Bool.and_true, Bool.true_and, Bool.and_false, Bool.false_and, Bool.or_true, Bool.true_or, Bool.or_false, Bool.false_or, Bool.not_true, Bool.not_false]; simp only [seg, asD, go_sem, sw1, simprocAttr, ha0, ha1, ha2, ha3, ha4, ha5, Bool.and_true, Bool.true_and, Bool.and_false, Bool.false_and, Bool.or_true, Bool.true_or, Bool.or_false, Bool.false_or, Bool.not_true, Bool.not_false]; rfl) | ((try simp only [go_sem, sw1, simprocAttr, ha0, ha1, ha2, ha3, ha4, ha5, Bool.and_true, Bool.true_and, Bool.and_false, Bool.false_and, Bool.or_true, Bool.true_or, Bool.or_false, Bool.false_or, Bool.not_true, Bool.not_false]); (repeat' (first | rfl | (refine list_congr ?_; simp only [List.length_take, List.length_drop, List.length_set, List.length_replicate] <;> omega) | (refine congr (congrArg List.cons ?_) ?_) | (refine congrArg D.agg ?_) | (refine congrArg D.tup ?_) | (refine congrArg D.ref ?_) | (refine congrArg (D.list _) ?_) | (refine congrArg (D.clo _) ?_))))))
 · (refine okAll_intro ?_; (simp only [go_sem, sw2, List.length_set, List.length_replicate, and_true, true_and, Nat.le_refl, simprocAttr]; done))
 exact .inl rfl
 (simp only [go_sem, Nat.reduceLT])
 refine OW.run [1, 43] ?_
 (simp only [go_sem, simprocAttr, sw0, ha0, ha1, ha2, ha3, ha4, ha5])
 repeat (refine And.intro (by omega) ?_)
 refine OW.nil ((congrArg K ?_).mpr hKE)
 · (first | rfl | (simp only [go_sem, simprocAttr, ha0, ha1, ha2, ha3, ha4, ha5]; done) | (simp only [go_sem, simprocAttr, ha0, ha1, ha2, ha3, ha4, ha5]; rfl))
 refine OW.run [1, 43] ?_
 (simp only [go_sem, simprocAttr, sw0, ha0, ha1, ha2, ha3, ha4])
 repeat (refine And.intro (by omega) ?_)
 refine OW.call' 4 rfl rfl rfl (by first | exact rfl | ((simp only [go_sem, List.toList_toArray, simprocAttr]); exact rfl)) ?_ (law09_raster_ok N _ _ e1) ?_ ?_ ?_ ?_
 · (first | (rfl; done) | (first | rfl | (simp only [go_sem, sw1, simprocAttr, ha0, ha1, ha2, ha3, ha4, Bool.and_true, Bool.true_and, Bool.and_false, Bool.false_and, Bool.or_true, Bool.true_or, Bool.or_false, Bool.false_or, Bool.not_true, Bool.not_false]; done) | (simp only [go_sem, sw1, simprocAttr, ha0, ha1, ha2, ha3, ha4, Bool.and_true, Bool.true_and, Bool.and_false, Bool.false_and, Bool.or_true, Bool.true_or, Bool.or_false, Bool.false_or, Bool.not_true, Bool.not_false]; rfl) | (simp only [go_sem, sw1, simprocAttr, ha0, ha1, ha2, ha3, ha4, Bool.and_true, Bool.true_and, Bool.and_false, Bool.false_and, Bool.or_true, Bool.true_or, Bool.or_false, Bool.false_or, Bool.not_true, Bool.not_false]; simp only [seg, asD, go_sem, sw1, simprocAttr, ha0, ha1, ha2, ha3, ha4, Bool.and_true, Bool.true_and, Bool.and_false, Bool.false_and, Bool.or_true, Bool.true_or, Bool.or_false, Bool.false_or, Bool.not_true, Bool.not_false]; done) | (simp only [go_sem, sw1, simprocAttr, ha0, ha1, ha2, ha3, ha4, Bool.and_true, Bool.true_and, Bool.and_false, Bool.false_and, Bool.or_true, Bool.true_or, Bool.or_false, Bool.false_or, Bool.not_true, Bool.not_false]; simp only [seg, asD, go_sem, sw1, simprocAttr, ha0, ha1, ha2, ha3, ha4, Bool.and_true, Bool.true_and, Bool.and_false, Bool.false_and, Bool.or_true, Bool.true_or, Bool.or_false, Bool.false_or, Bool.not_true, Bool.not_false]; rfl) | ((try simp only [go_sem, sw1, simprocAttr, ha0, ha1, ha2, ha3, ha4, Bool.and_true, Bool.true_and, Bool.and_false, Bool.false_and, Bool.or_true, Bool.true_or, Bool.or_false, Bool.false_or, Bool.not_true, Bool.not_false]); (repeat' (first | rfl | (refine list_congr ?_; simp only [List.length_take, List.length_drop, List.length_set, List.length_replicate] <;> omega) | (refine congr (congrArg List.cons ?_) ?_) | (refine congrArg D.agg ?_) | (refine congrArg D.tup ?_) | (refine congrArg D.ref ?_) | (refine congrArg (D.list _) ?_) | (refine congrArg (D.clo _) ?_))))))
 · (refine okAll_intro ?_; (simp only [go_sem, sw2, List.length_set, List.length_replicate, and_true, true_and, Nat.le_refl, simprocAttr]; done))
 exact .inl rfl
 (simp only [go_sem, Nat.reduceLT])
 refine OW.run [1, 43] ?_
 (simp only [go_sem, simprocAttr, sw0, ha0, ha1, ha2, ha3, ha4])
 repeat (refine And.intro (by omega) ?_)
 refine OW.nil ((congrArg K ?_).mpr hKE)
 · (first | rfl | (simp only [go_sem, simprocAttr, ha0, ha1, ha2, ha3, ha4]; done) | (simp only [go_sem, simprocAttr, ha0, ha1, ha2, ha3, ha4]; rfl))
 refine OW.run [1, 43] ?_
 (simp only [go_sem, simprocAttr, sw0, ha0])
 repeat (refine And.intro (by omega) ?_)
 refine OW.call' 4 rfl rfl rfl (by first | exact rfl | ((simp only [go_sem, List.toList_toArray, simprocAttr]); exact rfl)) ?_ (law09_raster_ok N _ _ e1) ?_ ?_ ?_ ?_
 · (first | (rfl; done) | (first | rfl | (simp only [go_sem, sw1, simprocAttr, ha0, Bool.and_true, Bool.true_and, Bool.and_false, Bool.false_and, Bool.or_true, Bool.true_or, Bool.or_false, Bool.false_or, Bool.not_true, Bool.not_false]; done) | (simp only [go_sem, sw1, simprocAttr, ha0, Bool.and_true, Bool.true_and, Bool.and_false, Bool.false_and, Bool.or_true, Bool.true_or, Bool.or_false, Bool.false_or, Bool.not_true, Bool.not_false]; rfl) | (simp only [go_sem, sw1, simprocAttr, ha0, Bool.and_true, Bool.true_and, Bool.and_false, Bool.false_and, Bool.or_true, Bool.true_or, Bool.or_false, Bool.false_or, Bool.not_true, Bool.not_false]; simp only [seg, asD, go_sem, sw1, simprocAttr, ha0, Bool.and_true, Bool.true_and, Bool.and_false, Bool.false_and, Bool.or_true, Bool.true_or, Bool.or_false, Bool.false_or, Bool.not_true, Bool.not_false]; done) | (simp only [go_sem, sw1, simprocAttr, ha0, Bool.and_true, Bool.true_and, Bool.and_false, Bool.false_and, Bool.or_true, Bool.true_or, Bool.or_false, Bool.false_or, Bool.not_true, Bool.not_false]; simp only [seg, asD, go_sem, sw1, simprocAttr, ha0, Bool.and_true, Bool.true_and, Bool.and_false, Bool.false_and, Bool.or_true, Bool.true_or, Bool.or_false, Bool.false_or, Bool.not_true, Bool.not_false]; rfl) | ((try simp only [go_sem, sw1, simprocAttr, ha0, Bool.and_true, Bool.true_and, Bool.and_false, Bool.false_and, Bool.or_true, Bool.true_or, Bool.or_false, Bool.false_or, Bool.not_true, Bool.not_false]); (repeat' (first | rfl | (refine list_congr ?_; simp only [List.length_take, List.length_drop, List.length_set, List.length_replicate] <;> omega) | (refine congr (congrArg List.cons ?_) ?_) | (refine congrArg D.agg ?_) | (refine congrArg D.tup ?_) | (refine congrArg D.ref ?_) | (refine congrArg (D.list _) ?_) | (refine congrArg (D.clo _) ?_))))))
 · (refine okAll_intro ?_; (simp only [go_sem, sw2, List.length_set, List.length_replicate, and_true, true_and, Nat.le_refl, simprocAttr]; done))
 exact .inl rfl
 (simp only [go_sem, Nat.reduceLT])
 refine OW.run [1, 43] ?_
 (simp only [go_sem, simprocAttr, sw0, ha0])
 refine OW.nil ((congrArg K ?_).mpr hKE)
 · (first | rfl | (simp only [go_sem, simprocAttr, ha0]; done) | (simp only [go_sem, simprocAttr, ha0]; rfl))
 clear hK K
 refine PW.cond rfl (fun h1 => ?_) (fun h1 => ?_)
 replace H := br_t h1 H
 refine PW.seq ?_
 refine PW.regionK fun K hK => OW.run [2] ?_
 simp only [go_sem, simprocAttr, sw0]
 refine OW.nil (hK _ ?_)
 refine PW.ret ?_
 change PW.Ends _ _ _ _ _ _
 refine PW.Ends.intro (.inr rfl) ?_
 simp only [go_sem, simprocAttr, sw0]
 obtain rfl := Option.some.inj H
 refine RetOK.data' 4 (by exact trivial) ?_
 rfl
 replace H := br_f h1 H
 refine PW.skip ?_
 refine PW.joinS (τ := Unit) [] 0 (fun _ => []) (fun _ => []) _ _ r (by exact Nat.le_refl _) H ?_ ?_
 intro K_ H N2 hN2
 refine PW.seq ?_
 refine PW.regionK fun K hK => OW.run [1, 3] ?_
 simp only [go_sem, simprocAttr, sw0]
 refine OW.nil (hK _ ?_)
 refine PW.block ?_
 refine PW.loopS (σ := Int) [1, 3] 1 (fun i => [(3, .d (I i))]) (fun i => [{ cells := [.d (.list Zy.length (Zy.map L)), .d (.list Zu.length (Zu.flatMap (fun (x : ByteArray × Int × Int × Int × Int × Int × Int) => [(Sx x.1), (I x.2.1), (I x.2.2.1), (I x.2.2.2.1), (I x.2.2.2.2.1), (I x.2.2.2.2.2.1), (I x.2.2.2.2.2.2)]))), .d (.list Zx.length (Zx.flatMap (fun (x : Int × Int) => [(I x.1), (I x.2)]))), .d (I Zv), .d (I Zz), .d (I Zw)], e := 28 }]) (law09_Few.b1 N Zu K_) r N (0 : Int) (by exact Nat.zero_le _) H (by (simp only [sw1, go_sem, simprocAttr]; done)) ?_
 rintro n i H N3 hN3
 unfold law09_Few.b1 at H
 try simp only [go_sem, simprocAttr]
 refine PW.seq ?_
 refine PW.seq ?_
 refine PW.regionK fun K hK => OW.run [1, 3, 48] ?_
 simp only [go_sem, simprocAttr, sw0]
 repeat (refine And.intro (by omega) ?_)
 refine OW.nil (hK _ ?_)
 refine PW.cond rfl (fun h4 => ?_) (fun h4 => ?_)
 replace H := br_t h4 H
 refine PW.skip ?_
 refine PW.seq ?_
 refine PW.block ?_
 refine PW.seq ?_
 obtain ⟨c5, H⟩ := chk_some H
 refine PW.regionK fun K hK => OW.run [1, 3, 58] ?_
 (simp only [go_sem, simprocAttr, sw0, z0W0a, z1W0a Zu i.toNat (by omega)])
 repeat (refine And.intro (by omega) ?_)
 refine OW.nil (hK _ ?_)
 refine PW.cond rfl (fun h6 => ?_) (fun h6 => ?_)
 replace H := br_t h6 H
 refine PW.seq ?_
 refine PW.regionK fun K hK => OW.run [2] ?_
 simp only [go_sem, simprocAttr, sw0]
 refine OW.nil (hK _ ?_)
 refine PW.ret ?_
 change PW.Ends _ _ _ _ _ _
 refine PW.Ends.intro (.inr rfl) ?_
 simp only [go_sem, simprocAttr, sw0]
 obtain rfl := Option.some.inj H
 refine RetOK.data' 4 (by exact trivial) ?_
 rfl
 replace H := br_f h6 H
 refine PW.skip ?_
 refine PW.regionK fun K hK => OW.run [1, 3] ?_
 simp only [go_sem, simprocAttr, sw0]
 refine OW.nil (hK _ ?_)
 refine hN3 [] (w64 (i + (1 : Int))) _ H (by exact trivial) ?_
 simp only [sw1, go_sem, simprocAttr]
 replace H := br_f h4 H
 refine PW.exit ?_
 refine hN2 [] () _ H (by exact trivial) ?_
 simp only [sw1, go_sem, simprocAttr]
 rintro _ H
 try simp only [go_sem, simprocAttr]
 refine PW.seq ?_
 refine PW.regionK fun K hK => OW.run [2] ?_
 simp only [go_sem, simprocAttr, sw0]
 refine OW.nil (hK _ ?_)
 refine PW.ret ?_
 change PW.Ends _ _ _ _ _ _
 refine PW.Ends.intro (.inr rfl) ?_
 simp only [go_sem, simprocAttr, sw0]
 obtain rfl := Option.some.inj H
 refine RetOK.data' 4 (by exact trivial) ?_
 rfl

theorem base_CopyInts_ok (N : Nat) (l : List Int) (r : List Int) (H : base_CopyInts N l = some r) : CallOK Tryz.prog 38 [(L l)] (.d (L r)) [] := by
 refine CallOK.of_PW Tryz.func38 rfl (by rw [Tryz.results38]) Tryz.ntmps38 Tryz.call38 ?_
 change PW _ _ _ _ _
 try simp only [go_sem, simprocAttr]
 unfold base_CopyInts at H
 refine PW.seq ?_
 refine PW.regionK fun K hK => OW.run [0] ?_
 simp only [go_sem, simprocAttr, sw0]
 refine OW.nil (hK _ ?_)
 refine PW.seq ?_
 obtain ⟨c1, H⟩ := chk_some H
 refine PW.regionK fun K hK => OW.run [2] ?_
 simp only [go_sem, simprocAttr, sw0]
 repeat (refine And.intro (by omega) ?_)
 refine OW.nil (hK _ ?_)
 refine PW.ret ?_
 change PW.Ends _ _ _ _ _ _
 refine PW.Ends.intro (.inr rfl) ?_
 simp only [go_sem, simprocAttr, sw0]
 obtain rfl := Option.some.inj H
 refine RetOK.data' 4 (by (simp only [go_sem, sw2, List.length_set, List.length_replicate, and_true, true_and, Nat.le_refl, simprocAttr]; done)) ?_
 · (((simp only [go_sem, sw1, simprocAttr]; try simp only [seg, go_sem, simprocAttr])); done)

theorem base_CopyLists_ok (N : Nat) (l : List (List Int)) (r : List (List Int)) (H : base_CopyLists N l = some r) : CallOK Tryz.prog 89 [(.list l.length (l.map L))] (.d (.list r.length (r.map L))) [] := by
 refine CallOK.of_PW Tryz.func89 rfl (by rw [Tryz.results89]) Tryz.ntmps89 Tryz.call89 ?_
 change PW _ _ _ _ _
 try simp only [go_sem, simprocAttr]
 unfold base_CopyLists at H
 refine PW.seq ?_
 refine PW.regionK fun K hK => OW.run [0] ?_
 simp only [go_sem, simprocAttr, sw0]
 refine OW.nil (hK _ ?_)
 refine PW.seq ?_
 refine PW.regionK fun K hK => OW.run [0, 3] ?_
 simp only [go_sem, simprocAttr, sw0]
 refine OW.nil (hK _ ?_)
 refine PW.joinS (τ := List (List Int)) [3] 1 (fun b0 => [(3, .own 0 0 b0.length 1)]) (fun b0 => [{ cells := (b0.map L).map .d, e := 51 }]) _ _ r (by exact Nat.zero_le _) H ?_ ?_
 intro K_ H N1 hN1
 refine PW.seq ?_
 refine PW.regionK fun K hK => OW.run [0, 3, 4] ?_
 simp only [go_sem, simprocAttr, sw0]
 refine OW.nil (hK _ ?_)
 refine PW.block ?_
 refine PW.virt 3 51 1 rfl ?_
 try simp only [go_sem, simprocAttr]
 refine PW.loopS (σ := Int × List (List Int)) [0, 3, 4] 1 (fun (i, b01) => [(3, .own 0 0 b01.length 1), (4, .d (I i))]) (fun (i, b01) => [{ cells := (b01.map L).map .d, e := 51 }]) (base_CopyLists.b1 N l K_) r N ((0 : Int), ([] : List (List Int))) (by exact Nat.zero_le _) H (by (simp only [sw1, go_sem, simprocAttr]; done)) ?_
 rintro n ⟨i, b01⟩ H N2 hN2
 unfold base_CopyLists.b1 at H
 try simp only [go_sem, simprocAttr]
 refine PW.seq ?_
 refine PW.seq ?_
 refine PW.regionK fun K hK => OW.run [0, 3, 4, 8] ?_
 simp only [go_sem, simprocAttr, sw0]
 refine OW.nil (hK _ ?_)
 refine PW.cond rfl (fun h3 => ?_) (fun h3 => ?_)
 replace H := br_t h3 H
 refine PW.skip ?_
 refine PW.seq ?_
 refine PW.block ?_
 obtain ⟨c4, H⟩ := chk_some H
 obtain ⟨x1, e1, H⟩ := bnd_some H
 obtain ⟨c5, H⟩ := chk_some H
 refine PW.regionK fun K hK => OW.run [0, 3, 4] ?_
 (simp only [go_sem, simprocAttr, sw0, getD_mapF L l i.toNat default (by omega)])
 repeat (refine And.intro (by omega) ?_)
 refine OW.call' 4 rfl rfl rfl (by first | exact rfl | ((simp only [go_sem, List.toList_toArray, simprocAttr]); exact rfl)) ?_ (base_CopyInts_ok N _ _ e1) ?_ ?_ ?_ ?_
 rfl
 exact okD_all rfl
 exact .inl rfl
 (simp only [go_sem, Nat.reduceLT])
 refine OW.run [0, 3, 4] ?_
 (simp only [go_sem, simprocAttr, sw0, getD_mapF L l i.toNat default (by omega)])
 repeat (refine And.intro (by omega) ?_)
 refine OW.nil (hK _ ?_)
 refine PW.regionK fun K hK => OW.run [0, 3, 4] ?_
 simp only [go_sem, simprocAttr, sw0]
 refine OW.nil (hK _ ?_)
 refine hN2 [] (w64 (i + (1 : Int)), (b01 ++ ([x1] : List (List Int)))) _ H (by exact trivial) ?_
 simp only [sw1, go_sem, simprocAttr]
 replace H := br_f h3 H
 refine PW.exit ?_
 refine hN1 [] b01 _ H (by exact trivial) ?_
 simp only [sw1, go_sem, simprocAttr]
 rintro b0 H
 try simp only [go_sem, simprocAttr]
 refine PW.seq ?_
 refine PW.regionK fun K hK => OW.run [2] ?_
 simp only [go_sem, simprocAttr, sw0]
 refine OW.nil (hK _ ?_)
 refine PW.ret ?_
 change PW.Ends _ _ _ _ _ _
 refine PW.Ends.intro (.inr rfl) ?_
 simp only [go_sem, simprocAttr, sw0]
 obtain rfl := Option.some.inj H
 refine RetOK.data' 4 (by (simp only [go_sem, sw2, List.length_set, List.length_replicate, and_true, true_and, Nat.le_refl, simprocAttr]; done)) ?_
 · (((simp only [go_sem, sw1, simprocAttr]; try simp only [seg, go_sem, simprocAttr])); done)

theorem ref09_CopyRaster_ok (N : Nat) (Z10 : List (List Int)) (r : List (List Int)) (H : ref09_CopyRaster N Z10 = some r) : CallOK Tryz.prog 59 [(.agg [(.list Z10.length (Z10.map L))])] (.d (.agg [(.list r.length (r.map L))])) [] := by
 refine CallOK.of_PW Tryz.func59 rfl (by rw [Tryz.results59]) Tryz.ntmps59 Tryz.call59 ?_
 change PW _ _ _ _ _
 try simp only [go_sem, simprocAttr]
 unfold ref09_CopyRaster at H
 refine PW.seq ?_
 refine PW.regionK fun K hK => OW.run [1, 2] ?_
 simp only [go_sem, simprocAttr, sw0]
 refine OW.nil (hK _ ?_)
 refine PW.seq ?_
 obtain ⟨x1, e1, H⟩ := bnd_some H
 refine PW.regionK fun K hK => OW.run [2] ?_
 simp only [go_sem, simprocAttr, sw0]
 repeat (refine And.intro (by omega) ?_)
 refine OW.call' 4 rfl rfl rfl (by first | exact rfl | ((simp only [go_sem, List.toList_toArray, simprocAttr]); exact rfl)) ?_ (base_CopyLists_ok N _ _ e1) ?_ ?_ ?_ ?_
 rfl
 exact okD_all rfl
 exact .inl rfl
 (simp only [go_sem, Nat.reduceLT])
 refine OW.run [2] ?_
 simp only [go_sem, simprocAttr, sw0]
 refine OW.nil (hK _ ?_)
 refine PW.ret ?_
 change PW.Ends _ _ _ _ _ _
 refine PW.Ends.intro (.inr rfl) ?_
 simp only [go_sem, simprocAttr, sw0]
 obtain rfl := Option.some.inj H
 refine RetOK.data' 4 (by exact okD_all rfl) ?_
 rfl

theorem ref09_Copy_ok (N : Nat) (Zy : List (List Int)) (Zu : List (ByteArray × Int × Int × Int × Int × Int × Int)) (Zx : List (Int × Int)) (Zv : Int) (Zz : Int) (Zw : Int) (r : List (List Int) × (List (ByteArray × Int × Int × Int × Int × Int × Int)) × (List (Int × Int)) × Int × Int × Int) (H : ref09_Copy N Zy Zu Zx Zv Zz Zw = some r) : CallOK Tryz.prog 13 [(.agg [(.list Zy.length (Zy.map L)), (.list Zu.length (Zu.flatMap (fun (x : ByteArray × Int × Int × Int × Int × Int × Int) => [(Sx x.1), (I x.2.1), (I x.2.2.1), (I x.2.2.2.1), (I x.2.2.2.2.1), (I x.2.2.2.2.2.1), (I x.2.2.2.2.2.2)]))), (.list Zx.length (Zx.flatMap (fun (x : Int × Int) => [(I x.1), (I x.2)]))), (I Zv), (I Zz), (I Zw)])] (.d (.agg [(.list r.1.length (r.1.map L)), (.list r.2.1.length (r.2.1.flatMap (fun (x : ByteArray × Int × Int × Int × Int × Int × Int) => [(Sx x.1), (I x.2.1), (I x.2.2.1), (I x.2.2.2.1), (I x.2.2.2.2.1), (I x.2.2.2.2.2.1), (I x.2.2.2.2.2.2)]))), (.list r.2.2.1.length (r.2.2.1.flatMap (fun (x : Int × Int) => [(I x.1), (I x.2)]))), (I r.2.2.2.1), (I r.2.2.2.2.1), (I r.2.2.2.2.2)])) [] := by
 refine CallOK.of_PW Tryz.func13 rfl (by rw [Tryz.results13]) Tryz.ntmps13 Tryz.call13 ?_
 change PW _ _ _ _ _
 try simp only [go_sem, simprocAttr]
 unfold ref09_Copy at H
 refine PW.seq ?_
 refine PW.regionK fun K hK => OW.run [1, 2] ?_
 simp only [go_sem, simprocAttr, sw0]
 refine OW.nil (hK _ ?_)
 refine PW.seq ?_
 obtain ⟨x1, e1, H⟩ := bnd_some H
 refine PW.regionK fun K hK => OW.run [1, 2] ?_
 simp only [go_sem, simprocAttr, sw0]
 repeat (refine And.intro (by omega) ?_)
 refine OW.call' 4 rfl rfl rfl (by first | exact rfl | ((simp only [go_sem, List.toList_toArray, simprocAttr]); exact rfl)) ?_ (ref09_CopyRaster_ok N _ _ e1) ?_ ?_ ?_ ?_
 rfl
 · (refine okAll_intro ?_; (simp only [go_sem, sw2, List.length_set, List.length_replicate, and_true, true_and, Nat.le_refl, simprocAttr]; done))
 exact .inl rfl
 (simp only [go_sem, Nat.reduceLT])
 refine OW.run [1, 2] ?_
 simp only [go_sem, simprocAttr, sw0]
 repeat (refine And.intro (by omega) ?_)
 refine OW.nil (hK _ ?_)
 refine PW.seq ?_
 obtain ⟨c1, H⟩ := chk_some H
 refine PW.regionK fun K hK => OW.run [1, 2] ?_
 (simp only [go_sem, simprocAttr, sw0, z2W0a, z0W0a])
 repeat (refine And.intro (by omega) ?_)
 refine OW.nil (hK _ ?_)
 refine PW.seq ?_
 obtain ⟨c2, H⟩ := chk_some H
 refine PW.regionK fun K hK => OW.run [1, 2] ?_
 (simp only [go_sem, simprocAttr, sw0, allOne_flatF (fun (x : Int × Int) => [(I x.1), (I x.2)]) (fun _ => rfl), flatMap_length 2 (fun (x : Int × Int) => [(I x.1), (I x.2)]) (fun _ => rfl)])
 repeat (refine And.intro (by omega) ?_)
 refine OW.nil (hK _ ?_)
 refine PW.seq ?_
 refine PW.regionK fun K hK => OW.run [2] ?_
 simp only [go_sem, simprocAttr, sw0]
 refine OW.nil (hK _ ?_)
 refine PW.ret ?_
 change PW.Ends _ _ _ _ _ _
 refine PW.Ends.intro (.inr rfl) ?_
 simp only [go_sem, simprocAttr, sw0]
 obtain rfl := Option.some.inj H
 have hl0 := z0W0a Zu
 have hn0 : (Zu.flatMap (fun (x : ByteArray × Int × Int × Int × Int × Int × Int) => [(Sx x.1), (I x.2.1), (I x.2.2.1), (I x.2.2.2.1), (I x.2.2.2.2.1), (I x.2.2.2.2.2.1), (I x.2.2.2.2.2.2)])).map nz = Zu.flatMap (fun (x : ByteArray × Int × Int × Int × Int × Int × Int) => [(Sx x.1), (I x.2.1), (I x.2.2.1), (I x.2.2.2.1), (I x.2.2.2.2.1), (I x.2.2.2.2.2.1), (I x.2.2.2.2.2.2)]) := map_nz_flat (fun _ => rfl) _
 have ht0 : (Zu.flatMap (fun (x : ByteArray × Int × Int × Int × Int × Int × Int) => [(Sx x.1), (I x.2.1), (I x.2.2.1), (I x.2.2.2.1), (I x.2.2.2.2.1), (I x.2.2.2.2.2.1), (I x.2.2.2.2.2.2)])).take (Zu.length * 7) = Zu.flatMap (fun (x : ByteArray × Int × Int × Int × Int × Int × Int) => [(Sx x.1), (I x.2.1), (I x.2.2.1), (I x.2.2.2.1), (I x.2.2.2.2.1), (I x.2.2.2.2.2.1), (I x.2.2.2.2.2.2)]) := take_flat _ (fun _ => rfl) rfl
 have hl1 := flatMap_length 2 (fun (x : Int × Int) => [(I x.1), (I x.2)]) (fun _ => rfl) Zx
 have hn1 : (Zx.flatMap (fun (x : Int × Int) => [(I x.1), (I x.2)])).map nz = Zx.flatMap (fun (x : Int × Int) => [(I x.1), (I x.2)]) := map_nz_flat (fun _ => rfl) _
 have ht1 : (Zx.flatMap (fun (x : Int × Int) => [(I x.1), (I x.2)])).take (Zx.length * 2) = Zx.flatMap (fun (x : Int × Int) => [(I x.1), (I x.2)]) := take_flat _ (fun _ => rfl) rfl
 refine RetOK.data' 4 (by (refine okAll_intro ?_; (simp only [go_sem, sw2, List.length_set, List.length_replicate, and_true, true_and, Nat.le_refl, simprocAttr]; omega))) ?_
 (((simp only [go_sem, sw1, simprocAttr]; try simp only [seg, go_sem, simprocAttr])); (repeat' (first | rfl | (refine list_congr ?_; simp only [List.length_take, List.length_drop, List.length_set, List.length_replicate] <;> omega) | (refine congr (congrArg List.cons ?_) ?_) | (refine congrArg D.agg ?_) | (refine congrArg D.tup ?_) | (refine congrArg D.ref ?_) | (refine congrArg (D.list _) ?_) | (refine congrArg (D.clo _) ?_))))
 all_goals (first | rw [ht0, hn0] | simp only [ht0, hn0, ht1, hn1])

theorem plan_unless_ok (N : Nat) (ok : Bool) (e : Int) (r : Int) (H : plan_unless N ok e = some r) : CallOK Tryz.prog 52 [(Bo ok), (I e)] (.d (I r)) [] := by
 refine CallOK.of_PW Tryz.func52 rfl (by rw [Tryz.results52]) Tryz.ntmps52 Tryz.call52 ?_
 change PW _ _ _ _ _
 try simp only [go_sem, simprocAttr]
 unfold plan_unless at H
 refine PW.seq ?_
 refine PW.regionK fun K hK => OW.run [0, 1] ?_
 simp only [go_sem, simprocAttr, sw0]
 refine OW.nil (hK _ ?_)
 refine PW.seq ?_
 refine PW.seq ?_
 refine PW.regionK fun K hK => OW.run [1, 5] ?_
 simp only [go_sem, simprocAttr, sw0]
 refine OW.nil (hK _ ?_)
 refine PW.cond rfl (fun h1 => ?_) (fun h1 => ?_)
 replace H := br_t h1 H
 refine PW.seq ?_
 refine PW.regionK fun K hK => OW.run [4] ?_
 simp only [go_sem, simprocAttr, sw0]
 refine OW.nil (hK _ ?_)
 refine PW.ret ?_
 change PW.Ends _ _ _ _ _ _
 refine PW.Ends.intro (.inr rfl) ?_
 simp only [go_sem, simprocAttr, sw0]
 obtain rfl := Option.some.inj H
 refine RetOK.data' 4 (by exact trivial) ?_
 rfl
 replace H := br_f h1 H
 refine PW.skip ?_
 refine PW.seq ?_
 refine PW.regionK fun K hK => OW.run [4] ?_
 simp only [go_sem, simprocAttr, sw0]
 refine OW.nil (hK _ ?_)
 refine PW.ret ?_
 change PW.Ends _ _ _ _ _ _
 refine PW.Ends.intro (.inr rfl) ?_
 simp only [go_sem, simprocAttr, sw0]
 obtain rfl := Option.some.inj H
 refine RetOK.data' 4 (by exact trivial) ?_
 rfl

theorem plan_first_ok (N : Nat) (l : List Int) (r : Int) (H : plan_first N l = some r) : CallOK Tryz.prog 51 [(L l)] (.d (I r)) [] := by
 refine CallOK.of_PW Tryz.func51 rfl (by rw [Tryz.results51]) Tryz.ntmps51 Tryz.call51 ?_
 change PW _ _ _ _ _
 try simp only [go_sem, simprocAttr]
 unfold plan_first at H
 refine PW.seq ?_
 refine PW.regionK fun K hK => OW.run [0] ?_
 simp only [go_sem, simprocAttr, sw0]
 refine OW.nil (hK _ ?_)
 refine PW.joinS (τ := Unit) [] 0 (fun _ => []) (fun _ => []) _ _ r (by exact Nat.le_refl _) H ?_ ?_
 intro K_ H N1 hN1
 refine PW.seq ?_
 refine PW.regionK fun K hK => OW.run [5, 6, 7] ?_
 simp only [go_sem, simprocAttr, sw0]
 refine OW.nil (hK _ ?_)
 refine PW.block ?_
 refine PW.loopS (σ := Int) [5, 6, 7] 0 (fun t7 => [(7, .d (I t7))]) (fun t7 => []) (plan_first.b1 N l K_) r N (0 : Int) (by exact Nat.le_refl _) H (by (simp only [sw1, go_sem, simprocAttr]; done)) ?_
 rintro n t7 H N2 hN2
 unfold plan_first.b1 at H
 try simp only [go_sem, simprocAttr]
 refine PW.seq ?_
 refine PW.regionK fun K hK => OW.run [5, 6, 7, 8] ?_
 simp only [go_sem, simprocAttr, sw0]
 refine OW.nil (hK _ ?_)
 refine PW.seq ?_
 refine PW.cond rfl (fun h3 => ?_) (fun h3 => ?_)
 replace H := br_t h3 H
 refine PW.skip ?_
 refine PW.seq ?_
 refine PW.block ?_
 refine PW.seq ?_
 obtain ⟨c4, H⟩ := chk_some H
 refine PW.regionK fun K hK => OW.run [4, 5, 6, 7] ?_
 simp only [go_sem, simprocAttr, sw0]
 repeat (refine And.intro (by omega) ?_)
 refine OW.nil (hK _ ?_)
 refine PW.seq ?_
 refine PW.regionK fun K hK => OW.run [4, 5, 6, 7, 12] ?_
 simp only [go_sem, simprocAttr, sw0]
 refine OW.nil (hK _ ?_)
 refine PW.cond rfl (fun h5 => ?_) (fun h5 => ?_)
 replace H := br_t h5 H
 refine PW.seq ?_
 refine PW.regionK fun K hK => OW.run [2] ?_
 simp only [go_sem, simprocAttr, sw0]
 refine OW.nil (hK _ ?_)
 refine PW.ret ?_
 change PW.Ends _ _ _ _ _ _
 refine PW.Ends.intro (.inr rfl) ?_
 simp only [go_sem, simprocAttr, sw0]
 obtain rfl := Option.some.inj H
 refine RetOK.data' 4 (by exact trivial) ?_
 rfl
 replace H := br_f h5 H
 refine PW.skip ?_
 refine PW.regionK fun K hK => OW.run [5, 6, 7] ?_
 simp only [go_sem, simprocAttr, sw0]
 refine OW.nil (hK _ ?_)
 refine hN2 [] (w64 (t7 + (1 : Int))) _ H (by exact trivial) ?_
 simp only [sw1, go_sem, simprocAttr]
 replace H := br_f h3 H
 refine PW.exit ?_
 refine hN1 [] () _ H (by exact trivial) ?_
 simp only [sw1, go_sem, simprocAttr]
 rintro _ H
 try simp only [go_sem, simprocAttr]
 refine PW.seq ?_
 refine PW.regionK fun K hK => OW.run [2] ?_
 simp only [go_sem, simprocAttr, sw0]
 refine OW.nil (hK _ ?_)
 refine PW.ret ?_
 change PW.Ends _ _ _ _ _ _
 refine PW.Ends.intro (.inr rfl) ?_
 simp only [go_sem, simprocAttr, sw0]
 obtain rfl := Option.some.inj H
 refine RetOK.data' 4 (by exact trivial) ?_
 rfl

theorem slices_IndexFunc_ii_ok (N : Nat) (s : List Int) (f_g : FuncId) (f_c : List D) (f : Int → Option Bool) (f_h : ∀ y0 r0, f y0 = some r0 → CallOK Tryz.prog f_g ((I y0) :: f_c.map nz) (.d (Bo r0)) []) (r : Int) (H : slices_IndexFunc_ii N s f = some r) : CallOK Tryz.prog 122 [(L s), .clo f_g f_c] (.d (I r)) [] := by
 refine CallOK.of_PW Tryz.func122 rfl (by rw [Tryz.results122]) Tryz.ntmps122 Tryz.call122 ?_
 change PW _ _ _ _ _
 try simp only [go_sem, simprocAttr]
 unfold slices_IndexFunc_ii at H
 refine PW.seq ?_
 refine PW.regionK fun K hK => OW.run [0, 1] ?_
 simp only [go_sem, simprocAttr, sw0]
 refine OW.nil (hK _ ?_)
 refine PW.joinS (τ := Unit) [] 0 (fun _ => []) (fun _ => []) _ _ r (by exact Nat.le_refl _) H ?_ ?_
 intro K_ H N1 hN1
 refine PW.seq ?_
 refine PW.regionK fun K hK => OW.run [0, 1, 7, 8] ?_
 simp only [go_sem, simprocAttr, sw0]
 refine OW.nil (hK _ ?_)
 refine PW.block ?_
 refine PW.loopS (σ := Int) [0, 1, 7, 8] 0 (fun t8 => [(8, .d (I t8))]) (fun t8 => []) (slices_IndexFunc_ii.b1 N s f K_) r N (0 : Int) (by exact Nat.le_refl _) H (by (simp only [sw1, go_sem, simprocAttr]; done)) ?_
 rintro n t8 H N2 hN2
 unfold slices_IndexFunc_ii.b1 at H
 try simp only [go_sem, simprocAttr]
 refine PW.seq ?_
 refine PW.regionK fun K hK => OW.run [0, 1, 7, 8, 9] ?_
 simp only [go_sem, simprocAttr, sw0]
 refine OW.nil (hK _ ?_)
 refine PW.seq ?_
 refine PW.cond rfl (fun h3 => ?_) (fun h3 => ?_)
 replace H := br_t h3 H
 refine PW.skip ?_
 refine PW.seq ?_
 refine PW.block ?_
 refine PW.seq ?_
 refine PW.regionK fun K hK => OW.run [0, 1, 5, 7, 8] ?_
 simp only [go_sem, simprocAttr, sw0]
 refine OW.nil (hK _ ?_)
 refine PW.seq ?_
 obtain ⟨c4, H⟩ := chk_some H
 obtain ⟨x1, e1, H⟩ := bnd_some H
 refine PW.regionK fun K hK => OW.run [0, 1, 5, 7, 8, 16] ?_
 simp only [go_sem, simprocAttr, sw0]
 repeat (refine And.intro (by omega) ?_)
 refine OW.call' 4 rfl rfl rfl (by first | exact rfl | ((simp only [go_sem, List.toList_toArray, simprocAttr]); exact rfl)) ?_ (f_h _ _ e1) ?_ ?_ ?_ ?_
 · (((simp only [go_sem, sw1, simprocAttr]; try simp only [seg, go_sem, simprocAttr])); done)
 · (refine okAll_intro ?_; (simp only [go_sem, sw2, List.length_set, List.length_replicate, and_true, true_and, Nat.le_refl, simprocAttr]; done))
 exact .inr ⟨rfl, rfl⟩
 (simp only [go_sem, Nat.reduceLT])
 refine OW.run [0, 1, 5, 7, 8, 16] ?_
 simp only [go_sem, simprocAttr, sw0]
 refine OW.nil (hK _ ?_)
 refine PW.cond rfl (fun h5 => ?_) (fun h5 => ?_)
 replace H := br_t h5 H
 refine PW.seq ?_
 refine PW.regionK fun K hK => OW.run [4] ?_
 simp only [go_sem, simprocAttr, sw0]
 refine OW.nil (hK _ ?_)
 refine PW.ret ?_
 change PW.Ends _ _ _ _ _ _
 refine PW.Ends.intro (.inr rfl) ?_
 simp only [go_sem, simprocAttr, sw0]
 obtain rfl := Option.some.inj H
 refine RetOK.data' 4 (by exact trivial) ?_
 rfl
 replace H := br_f h5 H
 refine PW.skip ?_
 refine PW.regionK fun K hK => OW.run [0, 1, 7, 8] ?_
 simp only [go_sem, simprocAttr, sw0]
 refine OW.nil (hK _ ?_)
 refine hN2 [] (w64 (t8 + (1 : Int))) _ H (by exact trivial) ?_
 simp only [sw1, go_sem, simprocAttr]
 replace H := br_f h3 H
 refine PW.exit ?_
 refine hN1 [] () _ H (by exact trivial) ?_
 simp only [sw1, go_sem, simprocAttr]
 rintro _ H
 try simp only [go_sem, simprocAttr]
 refine PW.seq ?_
 refine PW.regionK fun K hK => OW.run [4] ?_
 simp only [go_sem, simprocAttr, sw0]
 refine OW.nil (hK _ ?_)
 refine PW.ret ?_
 change PW.Ends _ _ _ _ _ _
 refine PW.Ends.intro (.inr rfl) ?_
 simp only [go_sem, simprocAttr, sw0]
 obtain rfl := Option.some.inj H
 refine RetOK.data' 4 (by exact trivial) ?_
 rfl

theorem plan_within_ok (N : Nat) (n : Int) (lo : Int) (hi : Int) (r : Bool) (H : plan_within N n lo hi = some r) : CallOK Tryz.prog 72 [(I n), (I lo), (I hi)] (.d (Bo r)) [] := by
 refine CallOK.of_PW Tryz.func72 rfl (by rw [Tryz.results72]) Tryz.ntmps72 Tryz.call72 ?_
 change PW _ _ _ _ _
 try simp only [go_sem, simprocAttr]
 unfold plan_within at H
 refine PW.seq ?_
 refine PW.regionK fun K hK => OW.run [0, 1, 2] ?_
 simp only [go_sem, simprocAttr, sw0]
 refine OW.nil (hK _ ?_)
 refine PW.seq ?_
 refine PW.regionK fun K hK => OW.run [6] ?_
 simp only [go_sem, simprocAttr, sw0]
 refine OW.nil (hK _ ?_)
 refine PW.ret ?_
 change PW.Ends _ _ _ _ _ _
 refine PW.Ends.intro (.inr rfl) ?_
 simp only [go_sem, simprocAttr, sw0]
 obtain rfl := Option.some.inj H
 refine RetOK.data' 4 (by exact trivial) ?_
 rfl

theorem plan_CheckRaster_1_ok (N : Nat) (n : Int) (r : Bool) (H : plan_CheckRaster_1 N n = some r) : CallOK Tryz.prog 138 [(I n)] (.d (Bo r)) [] := by
 refine CallOK.of_PW Tryz.func138 rfl (by rw [Tryz.results138]) Tryz.ntmps138 Tryz.call138 ?_
 change PW _ _ _ _ _
 try simp only [go_sem, simprocAttr]
 unfold plan_CheckRaster_1 at H
 refine PW.seq ?_
 refine PW.regionK fun K hK => OW.run [0] ?_
 simp only [go_sem, simprocAttr, sw0]
 refine OW.nil (hK _ ?_)
 refine PW.seq ?_
 obtain ⟨x1, e1, H⟩ := bnd_some H
 refine PW.regionK fun K hK => OW.run [2] ?_
 simp only [go_sem, simprocAttr, sw0]
 refine OW.call' 4 rfl rfl rfl (by first | exact rfl | ((simp only [go_sem, List.toList_toArray, simprocAttr]); exact rfl)) ?_ (plan_within_ok N _ _ _ _ e1) ?_ ?_ ?_ ?_
 rfl
 exact okD_all rfl
 exact .inl rfl
 (simp only [go_sem, Nat.reduceLT])
 refine OW.run [2] ?_
 simp only [go_sem, simprocAttr, sw0]
 refine OW.nil (hK _ ?_)
 refine PW.ret ?_
 change PW.Ends _ _ _ _ _ _
 refine PW.Ends.intro (.inr rfl) ?_
 simp only [go_sem, simprocAttr, sw0]
 obtain rfl := Option.some.inj H
 refine RetOK.data' 4 (by exact trivial) ?_
 rfl

theorem plan_CheckRaster_ok (N : Nat) (Z10 : List (List Int)) (r : Int × Int × Int) (H : plan_CheckRaster N Z10 = some r) : CallOK Tryz.prog 123 [(.agg [(.list Z10.length (Z10.map L))])] (.d (.tup [(.agg [(I r.1), (I r.2.1)]), (I r.2.2)])) [] := by
 refine CallOK.of_PW Tryz.func123 rfl (by rw [Tryz.results123]) Tryz.ntmps123 Tryz.call123 ?_
 change PW _ _ _ _ _
 try simp only [go_sem, simprocAttr]
 unfold plan_CheckRaster at H
 refine PW.seq ?_
 refine PW.regionK fun K hK => OW.run [1, 2] ?_
 simp only [go_sem, simprocAttr, sw0]
 refine OW.nil (hK _ ?_)
 refine PW.seq ?_
 refine PW.seq ?_
 obtain ⟨x1, e1, H⟩ := bnd_some H
 obtain ⟨x2, e2, H⟩ := bnd_some H
 obtain ⟨x3, e3, H⟩ := bnd_some H
 refine PW.drawK 9 mixed (by kernel_rfl) fun K hK => ?_
 change FW _ _ _ _ _
 refine FW.run ?_
 simp only [go_sem, simprocAttr, sw0]
 repeat (refine And.intro (by omega) ?_)
 refine FW.call' 4 rfl rfl rfl (by first | exact rfl | ((simp only [go_sem, List.toList_toArray, simprocAttr]); exact rfl)) ?_ (plan_unless_ok N _ _ _ e1) ?_ ?_ ?_ ?_
 rfl
 exact okD_all rfl
 exact .inl rfl
 (simp only [go_sem, Nat.reduceLT])
 refine FW.run ?_
 simp only [go_sem, simprocAttr, sw0]
 repeat (refine And.intro (by omega) ?_)
 refine FW.nil ?_
 change OW _ _ _ _ _ _
 refine OW.run [1, 2, 4] ?_
 simp only [go_sem, simprocAttr, sw0]
 refine OW.call' 4 rfl rfl rfl (by first | exact rfl | ((simp only [go_sem, List.toList_toArray, simprocAttr]); exact rfl)) ?_ (plan_unless_ok N _ _ _ e2) ?_ ?_ ?_ ?_
 rfl
 exact okD_all rfl
 exact .inl rfl
 (simp only [go_sem, Nat.reduceLT])
 refine OW.run [1, 2, 4] ?_
 simp only [go_sem, simprocAttr, sw0]
 refine OW.call' 4 rfl rfl rfl (by first | exact rfl | ((simp only [go_sem, List.toList_toArray, simprocAttr]); exact rfl)) ?_ (plan_first_ok N _ _ e3) ?_ ?_ ?_ ?_
 rfl
 · (refine okAll_intro ?_; (simp only [go_sem, sw2, List.length_set, List.length_replicate, and_true, true_and, Nat.le_refl, simprocAttr]; simp only [seg, go_sem, sw2, List.length_set, List.length_replicate, and_true, true_and, Nat.le_refl, simprocAttr]; done))
 exact .inr ⟨rfl, rfl⟩
 (simp only [go_sem, Nat.reduceLT])
 refine OW.run [1, 2, 4] ?_
 simp only [go_sem, simprocAttr, sw0]
 refine OW.nil (hK _ ?_)
 refine PW.seq ?_
 refine PW.regionK fun K hK => OW.run [1, 2, 4, 22] ?_
 simp only [go_sem, simprocAttr, sw0]
 refine OW.nil (hK _ ?_)
 refine PW.cond rfl (fun h1 => ?_) (fun h1 => ?_)
 replace H := br_t h1 H
 refine PW.seq ?_
 refine PW.regionK fun K hK => OW.run [2, 3] ?_
 simp only [go_sem, simprocAttr, sw0]
 refine OW.nil (hK _ ?_)
 refine PW.ret ?_
 change PW.Ends _ _ _ _ _ _
 refine PW.Ends.intro (.inr rfl) ?_
 simp only [go_sem, simprocAttr, sw0]
 obtain rfl := Option.some.inj H
 refine RetOK.data' 4 (by (refine okAll_intro ?_; (simp only [go_sem, sw2, List.length_set, List.length_replicate, and_true, true_and, Nat.le_refl, simprocAttr]; done))) ?_
 rfl
 replace H := br_f h1 H
 refine PW.skip ?_
 refine PW.joinS (τ := Unit) [2] 2 (fun _ => []) (fun _ => [{ cells := [.d (.list Z10.length (Z10.map L))], e := 24 }, { cells := [.d (I (0 : Int)), .d (I (0 : Int))], e := 58 }]) _ _ r (by exact Nat.zero_le _) H ?_ ?_
 intro K_ H N2 hN2
 refine PW.seq ?_
 refine PW.regionK fun K hK => OW.run [1, 2, 26, 27, 28] ?_
 simp only [go_sem, simprocAttr, sw0]
 repeat (refine And.intro (by omega) ?_)
 refine OW.nil (hK _ ?_)
 refine PW.block ?_
 refine PW.loopS (σ := Int) [1, 2, 26, 27, 28] 3 (fun t28 => [(28, .d (I t28))]) (fun t28 => [{ cells := [.d (.list Z10.length (Z10.map L))], e := 24 }, { cells := [.d (I (0 : Int)), .d (I (0 : Int))], e := 58 }, { cells := [.d (I x1), .d (I x2)], e := 38 }]) (plan_CheckRaster.b1 N Z10 K_) r N (0 : Int) (by exact Nat.zero_le _) H (by (simp only [sw1, go_sem, simprocAttr]; done)) ?_
 rintro n t28 H N3 hN3
 unfold plan_CheckRaster.b1 at H
 try simp only [go_sem, simprocAttr]
 refine PW.seq ?_
 refine PW.regionK fun K hK => OW.run [1, 2, 26, 27, 28, 29] ?_
 simp only [go_sem, simprocAttr, sw0]
 refine OW.nil (hK _ ?_)
 refine PW.seq ?_
 refine PW.cond rfl (fun h4 => ?_) (fun h4 => ?_)
 replace H := br_t h4 H
 refine PW.skip ?_
 refine PW.seq ?_
 refine PW.block ?_
 refine PW.seq ?_
 obtain ⟨c5, H⟩ := chk_some H
 refine PW.regionK fun K hK => OW.run [1, 2, 5, 6, 26, 27, 28] ?_
 (simp only [go_sem, simprocAttr, sw0, getD_mapF L Z10 t28.toNat default (by omega)])
 repeat (refine And.intro (by omega) ?_)
 refine OW.nil (hK _ ?_)
 refine PW.seq ?_
 refine PW.seq ?_
 obtain ⟨c6, H⟩ := chk_some H
 obtain ⟨x4, e4, H⟩ := bnd_some H
 obtain ⟨x5, e5, H⟩ := bnd_some H
 obtain ⟨x6, e6, H⟩ := bnd_some H
 refine PW.regionK fun K hK => ?_
 refine OW.toS [(1, .ptr 0 0), (2, .ptr 1 0), (5, .d (I t28)), (6, .d (L (Z10.getD t28.toNat default))), (7, .d (I x6)), (26, .d (.list Z10.length (Z10.map L))), (27, .d (I (Z10.length : Int))), (28, .d (I t28))] [{ cells := [.d (.list Z10.length (Z10.map L))], e := 24 }, { cells := [.d (I (0 : Int)), .d (I (0 : Int))], e := 58 }, { cells := [.d (I x1), .d (I x2)], e := 38 }, { cells := [.d (I x4), .d (I x5)], e := 38 }] ?_ (hK _ ?_)
 intro K hKE
 rcases Bool.eq_false_or_eq_true ((decide (((Z10.getD t28.toNat default).length : Int) > (0 : Int)))) with ha0 | ha0
 ·
  try simp only [ha0, sb0, true_implies, false_implies, forall_const] at c6
  refine OW.run [1, 2, 5, 6, 7, 26, 27, 28] ?_
  (simp only [go_sem, simprocAttr, sw0, getD_mapF L Z10 0 default (by omega), ha0])
  repeat (refine And.intro (by first | omega | (intro hg; have hq := c6 (by first | exact hg | simpa using hg); first | omega | exact hq | (simp only [List.length_map]; omega)) | (first | omega | assumption | rfl | decide | (simp only [List.length_map, List.length_replicate, List.length_append, List.length_take, List.length_drop, List.length_set, List.length_cons, List.length_nil, Nat.zero_add, Int.toNat_natCast] at *; omega) | (simp only [List.length_map, List.length_replicate, List.length_append, List.length_take, List.length_drop, List.length_set, List.length_cons, List.length_nil, Nat.zero_add, Int.toNat_natCast]; done) | trivial)) ?_)
  refine OW.call' 4 rfl rfl rfl (by first | exact rfl | ((simp only [go_sem, List.toList_toArray, simprocAttr]); exact rfl)) ?_ (plan_unless_ok N _ _ _ e4) ?_ ?_ ?_ ?_
  · (first | ((((simp only [go_sem, sw1, simprocAttr]; try simp only [seg, go_sem, simprocAttr])); (repeat' (first | rfl | (refine list_congr ?_; simp only [List.length_take, List.length_drop, List.length_set, List.length_replicate] <;> omega) | (refine congr (congrArg List.cons ?_) ?_) | (refine congrArg D.agg ?_) | (refine congrArg D.tup ?_) | (refine congrArg D.ref ?_) | (refine congrArg (D.list _) ?_) | (refine congrArg (D.clo _) ?_)))); done) | (first | rfl | (simp only [go_sem, sw1, simprocAttr, ha0, Bool.and_true, Bool.true_and, Bool.and_false, Bool.false_and, Bool.or_true, Bool.true_or, Bool.or_false, Bool.false_or, Bool.not_true, Bool.not_false]; done) | (simp only [go_sem, sw1, simprocAttr, ha0, Bool.and_true, Bool.true_and, Bool.and_false, Bool.false_and, Bool.or_true, Bool.true_or, Bool.or_false, Bool.false_or, Bool.not_true, Bool.not_false]; rfl) | (simp only [go_sem, sw1, simprocAttr, ha0, Bool.and_true, Bool.true_and, Bool.and_false, Bool.false_and, Bool.or_true, Bool.true_or, Bool.or_false, Bool.false_or, Bool.not_true, Bool.not_false]; simp only [seg, asD, go_sem, sw1, simprocAttr, ha0, Bool.and_true, Bool.true_and, Bool.and_false, Bool.false_and, Bool.or_true, Bool.true_or, Bool.or_false, Bool.false_or, Bool.not_true, Bool.not_false]; done) | (simp only [go_sem, sw1, simprocAttr, ha0, Bool.and_true, Bool.true_and, Bool.and_false, Bool.false_and, Bool.or_true, Bool.true_or, Bool.or_false, Bool.false_or, Bool.not_true, Bool.not_false]; simp only [seg, asD, go_sem, sw1, simprocAttr, ha0, Bool.and_true, Bool.true_and, Bool.and_false, Bool.false_and, Bool.or_true, Bool.true_or, Bool.or_false, Bool.false_or, Bool.not_true, Bool.not_false]; rfl) | ((try simp only [go_sem, sw1, simprocAttr, ha0, Bool.and_true, Bool.true_and, Bool.and_false, Bool.false_and, Bool.or_true, Bool.true_or, Bool.or_false, Bool.false_or, Bool.not_true, Bool.not_false]); (repeat' (first | rfl | (refine list_congr ?_; simp only [List.length_take, List.length_drop, List.length_set, List.length_replicate] <;> omega) | (refine congr (congrArg List.cons ?_) ?_) | (refine congrArg D.agg ?_) | (refine congrArg D.tup ?_) | (refine congrArg D.ref ?_) | (refine congrArg (D.list _) ?_) | (refine congrArg (D.clo _) ?_))))))
  exact okD_all rfl
  exact .inl rfl
  (simp only [go_sem, Nat.reduceLT])
  refine OW.run [1, 2, 5, 6, 7, 26, 27, 28] ?_
  (simp only [go_sem, simprocAttr, sw0, getD_mapF L Z10 0 default (by omega), ha0])
  repeat (refine And.intro (by first | omega | (intro hg; have hq := c6 (by first | exact hg | simpa using hg); first | omega | exact hq | (simp only [List.length_map]; omega)) | (first | omega | assumption | rfl | decide | (simp only [List.length_map, List.length_replicate, List.length_append, List.length_take, List.length_drop, List.length_set, List.length_cons, List.length_nil, Nat.zero_add, Int.toNat_natCast] at *; omega) | (simp only [List.length_map, List.length_replicate, List.length_append, List.length_take, List.length_drop, List.length_set, List.length_cons, List.length_nil, Nat.zero_add, Int.toNat_natCast]; done) | trivial)) ?_)
  refine OW.call' 4 rfl rfl rfl (by first | exact rfl | ((simp only [go_sem, List.toList_toArray, simprocAttr]); exact rfl)) ?_ (plan_unless_ok N _ _ _ e5) ?_ ?_ ?_ ?_
  · (first | (rfl; done) | (first | rfl | (simp only [go_sem, sw1, simprocAttr, ha0, Bool.and_true, Bool.true_and, Bool.and_false, Bool.false_and, Bool.or_true, Bool.true_or, Bool.or_false, Bool.false_or, Bool.not_true, Bool.not_false]; done) | (simp only [go_sem, sw1, simprocAttr, ha0, Bool.and_true, Bool.true_and, Bool.and_false, Bool.false_and, Bool.or_true, Bool.true_or, Bool.or_false, Bool.false_or, Bool.not_true, Bool.not_false]; rfl) | (simp only [go_sem, sw1, simprocAttr, ha0, Bool.and_true, Bool.true_and, Bool.and_false, Bool.false_and, Bool.or_true, Bool.true_or, Bool.or_false, Bool.false_or, Bool.not_true, Bool.not_false]; simp only [seg, asD, go_sem, sw1, simprocAttr, ha0, Bool.and_true, Bool.true_and, Bool.and_false, Bool.false_and, Bool.or_true, Bool.true_or, Bool.or_false, Bool.false_or, Bool.not_true, Bool.not_false]; done) | (simp only [go_sem, sw1, simprocAttr, ha0, Bool.and_true, Bool.true_and, Bool.and_false, Bool.false_and, Bool.or_true, Bool.true_or, Bool.or_false, Bool.false_or, Bool.not_true, Bool.not_false]; simp only [seg, asD, go_sem, sw1, simprocAttr, ha0, Bool.and_true, Bool.true_and, Bool.and_false, Bool.false_and, Bool.or_true, Bool.true_or, Bool.or_false, Bool.false_or, Bool.not_true, Bool.not_false]; rfl) | ((try simp only [go_sem, sw1, simprocAttr, ha0, Bool.and_true, Bool.true_and, Bool.and_false, Bool.false_and, Bool.or_true, Bool.true_or, Bool.or_false, Bool.false_or, Bool.not_true, Bool.not_false]); (repeat' (first | rfl | (refine list_congr ?_; simp only [List.length_take, List.length_drop, List.length_set, List.length_replicate] <;> omega) | (refine congr (congrArg List.cons ?_) ?_) | (refine congrArg D.agg ?_) | (refine congrArg D.tup ?_) | (refine congrArg D.ref ?_) | (refine congrArg (D.list _) ?_) | (refine congrArg (D.clo _) ?_))))))
  exact okD_all rfl
  exact .inl rfl
  (simp only [go_sem, Nat.reduceLT])
  refine OW.run [1, 2, 5, 6, 7, 26, 27, 28] ?_
  (simp only [go_sem, simprocAttr, sw0, getD_mapF L Z10 0 default (by omega), ha0])
  repeat (refine And.intro (by first | omega | (intro hg; have hq := c6 (by first | exact hg | simpa using hg); first | omega | exact hq | (simp only [List.length_map]; omega)) | (first | omega | assumption | rfl | decide | (simp only [List.length_map, List.length_replicate, List.length_append, List.length_take, List.length_drop, List.length_set, List.length_cons, List.length_nil, Nat.zero_add, Int.toNat_natCast] at *; omega) | (simp only [List.length_map, List.length_replicate, List.length_append, List.length_take, List.length_drop, List.length_set, List.length_cons, List.length_nil, Nat.zero_add, Int.toNat_natCast]; done) | trivial)) ?_)
  refine OW.call' 4 rfl rfl rfl (by first | exact rfl | ((simp only [go_sem, List.toList_toArray, simprocAttr]); exact rfl)) ?_ (plan_first_ok N _ _ e6) ?_ ?_ ?_ ?_
  · (first | (rfl; done) | (first | rfl | (simp only [go_sem, sw1, simprocAttr, ha0, Bool.and_true, Bool.true_and, Bool.and_false, Bool.false_and, Bool.or_true, Bool.true_or, Bool.or_false, Bool.false_or, Bool.not_true, Bool.not_false]; done) | (simp only [go_sem, sw1, simprocAttr, ha0, Bool.and_true, Bool.true_and, Bool.and_false, Bool.false_and, Bool.or_true, Bool.true_or, Bool.or_false, Bool.false_or, Bool.not_true, Bool.not_false]; rfl) | (simp only [go_sem, sw1, simprocAttr, ha0, Bool.and_true, Bool.true_and, Bool.and_false, Bool.false_and, Bool.or_true, Bool.true_or, Bool.or_false, Bool.false_or, Bool.not_true, Bool.not_false]; simp only [seg, asD, go_sem, sw1, simprocAttr, ha0, Bool.and_true, Bool.true_and, Bool.and_false, Bool.false_and, Bool.or_true, Bool.true_or, Bool.or_false, Bool.false_or, Bool.not_true, Bool.not_false]; done) | (simp only [go_sem, sw1, simprocAttr, ha0, Bool.and_true, Bool.true_and, Bool.and_false, Bool.false_and, Bool.or_true, Bool.true_or, Bool.or_false, Bool.false_or, Bool.not_true, Bool.not_false]; simp only [seg, asD, go_sem, sw1, simprocAttr, ha0, Bool.and_true, Bool.true_and, Bool.and_false, Bool.false_and, Bool.or_true, Bool.true_or, Bool.or_false, Bool.false_or, Bool.not_true, Bool.not_false]; rfl) | ((try simp only [go_sem, sw1, simprocAttr, ha0, Bool.and_true, Bool.true_and, Bool.and_false, Bool.false_and, Bool.or_true, Bool.true_or, Bool.or_false, Bool.false_or, Bool.not_true, Bool.not_false]); (repeat' (first | rfl | (refine list_congr ?_; simp only [List.length_take, List.length_drop, List.length_set, List.length_replicate] <;> omega) | (refine congr (congrArg List.cons ?_) ?_) | (refine congrArg D.agg ?_) | (refine congrArg D.tup ?_) | (refine congrArg D.ref ?_) | (refine congrArg (D.list _) ?_) | (refine congrArg (D.clo _) ?_))))))
  · (refine okAll_intro ?_; (simp only [go_sem, sw2, List.length_set, List.length_replicate, and_true, true_and, Nat.le_refl, simprocAttr]; simp only [seg, go_sem, sw2, List.length_set, List.length_replicate, and_true, true_and, Nat.le_refl, simprocAttr]; done))
  exact .inr ⟨rfl, rfl⟩
  (simp only [go_sem, Nat.reduceLT])
  refine OW.run [1, 2, 5, 6, 7, 26, 27, 28] ?_
  (simp only [go_sem, simprocAttr, sw0, getD_mapF L Z10 0 default (by omega), ha0])
  repeat (refine And.intro (by first | omega | (intro hg; have hq := c6 (by first | exact hg | simpa using hg); first | omega | exact hq | (simp only [List.length_map]; omega)) | (first | omega | assumption | rfl | decide | (simp only [List.length_map, List.length_replicate, List.length_append, List.length_take, List.length_drop, List.length_set, List.length_cons, List.length_nil, Nat.zero_add, Int.toNat_natCast] at *; omega) | (simp only [List.length_map, List.length_replicate, List.length_append, List.length_take, List.length_drop, List.length_set, List.length_cons, List.length_nil, Nat.zero_add, Int.toNat_natCast]; done) | trivial)) ?_)
  refine OW.nil ((congrArg K ?_).mpr hKE)
  · (first | rfl | (simp only [go_sem, simprocAttr, ha0]; done) | (simp only [go_sem, simprocAttr, ha0]; rfl))
 ·
  try simp only [ha0, sb0, true_implies, false_implies, forall_const] at c6
  refine OW.run [1, 2, 5, 6, 7, 26, 27, 28] ?_
  (simp only [go_sem, simprocAttr, sw0, ha0])
  repeat (refine And.intro (by first | omega | (intro hg; have hq := c6 (by first | exact hg | simpa using hg); first | omega | exact hq | (simp only [List.length_map]; omega)) | (first | omega | assumption | rfl | decide | (simp only [List.length_map, List.length_replicate, List.length_append, List.length_take, List.length_drop, List.length_set, List.length_cons, List.length_nil, Nat.zero_add, Int.toNat_natCast] at *; omega) | (simp only [List.length_map, List.length_replicate, List.length_append, List.length_take, List.length_drop, List.length_set, List.length_cons, List.length_nil, Nat.zero_add, Int.toNat_natCast]; done) | trivial)) ?_)
  refine OW.call' 4 rfl rfl rfl (by first | exact rfl | ((simp only [go_sem, List.toList_toArray, simprocAttr]); exact rfl)) ?_ (plan_unless_ok N _ _ _ e4) ?_ ?_ ?_ ?_
  · (first | ((((simp only [go_sem, sw1, simprocAttr]; try simp only [seg, go_sem, simprocAttr])); (repeat' (first | rfl | (refine list_congr ?_; simp only [List.length_take, List.length_drop, List.length_set, List.length_replicate] <;> omega) | (refine congr (congrArg List.cons ?_) ?_) | (refine congrArg D.agg ?_) | (refine congrArg D.tup ?_) | (refine congrArg D.ref ?_) | (refine congrArg (D.list _) ?_) | (refine congrArg (D.clo _) ?_)))); done) | (first | rfl | (simp only [go_sem, sw1, simprocAttr, ha0, Bool.and_true, Bool.true_and, Bool.and_false, Bool.false_and, Bool.or_true, Bool.true_or, Bool.or_false, Bool.false_or, Bool.not_true, Bool.not_false]; done) | (simp only [go_sem, sw1, simprocAttr, ha0, Bool.and_true, Bool.true_and, Bool.and_false, Bool.false_and, Bool.or_true, Bool.true_or, Bool.or_false, Bool.false_or, Bool.not_true, Bool.not_false]; rfl) | (simp only [go_sem, sw1, simprocAttr, ha0, Bool.and_true, Bool.true_and, Bool.and_false, Bool.false_and, Bool.or_true, Bool.true_or, Bool.or_false, Bool.false_or, Bool.not_true, Bool.not_false]; simp only [seg, asD, go_sem, sw1, simprocAttr, ha0, Bool.and_true, Bool.true_and, Bool.and_false, Bool.false_and, Bool.or_true, Bool.true_or, Bool.or_false, Bool.false_or, Bool.not_true, Bool.not_false]; done) | (simp only [go_sem, sw1, simprocAttr, ha0, Bool.and_true, Bool.true_and, Bool.and_false, Bool.false_and, Bool.or_true, Bool.true_or, Bool.or_false, Bool.false_or, Bool.not_true, Bool.not_false]; simp only [seg, asD, go_sem, sw1, simprocAttr, ha0, Bool.and_true, Bool.true_and, Bool.and_false, Bool.false_and, Bool.or_true, Bool.true_or, Bool.or_false, Bool.false_or, Bool.not_true, Bool.not_false]; rfl) | ((try simp only [go_sem, sw1, simprocAttr, ha0, Bool.and_true, Bool.true_and, Bool.and_false, Bool.false_and, Bool.or_true, Bool.true_or, Bool.or_false, Bool.false_or, Bool.not_true, Bool.not_false]); (repeat' (first | rfl | (refine list_congr ?_; simp only [List.length_take, List.length_drop, List.length_set, List.length_replicate] <;> omega) | (refine congr (congrArg List.cons ?_) ?_) | (refine congrArg D.agg ?_) | (refine congrArg D.tup ?_) | (refine congrArg D.ref ?_) | (refine congrArg (D.list _) ?_) | (refine congrArg (D.clo _) ?_))))))
  exact okD_all rfl
  exact .inl rfl
  (simp only [go_sem, Nat.reduceLT])
  refine OW.run [1, 2, 5, 6, 7, 26, 27, 28] ?_
  (simp only [go_sem, simprocAttr, sw0, ha0])
  repeat (refine And.intro (by first | omega | (intro hg; have hq := c6 (by first | exact hg | simpa using hg); first | omega | exact hq | (simp only [List.length_map]; omega)) | (first | omega | assumption | rfl | decide | (simp only [List.length_map, List.length_replicate, List.length_append, List.length_take, List.length_drop, List.length_set, List.length_cons, List.length_nil, Nat.zero_add, Int.toNat_natCast] at *; omega) | (simp only [List.length_map, List.length_replicate, List.length_append, List.length_take, List.length_drop, List.length_set, List.length_cons, List.length_nil, Nat.zero_add, Int.toNat_natCast]; done) | trivial)) ?_)
  refine OW.call' 4 rfl rfl rfl (by first | exact rfl | ((simp only [go_sem, List.toList_toArray, simprocAttr]); exact rfl)) ?_ (plan_unless_ok N _ _ _ e5) ?_ ?_ ?_ ?_
  · (first | (rfl; done) | (first | rfl | (simp only [go_sem, sw1, simprocAttr, ha0, Bool.and_true, Bool.true_and, Bool.and_false, Bool.false_and, Bool.or_true, Bool.true_or, Bool.or_false, Bool.false_or, Bool.not_true, Bool.not_false]; done) | (simp only [go_sem, sw1, simprocAttr, ha0, Bool.and_true, Bool.true_and, Bool.and_false, Bool.false_and, Bool.or_true, Bool.true_or, Bool.or_false, Bool.false_or, Bool.not_true, Bool.not_false]; rfl) | (simp only [go_sem, sw1, simprocAttr, ha0, Bool.and_true, Bool.true_and, Bool.and_false, Bool.false_and, Bool.or_true, Bool.true_or, Bool.or_false, Bool.false_or, Bool.not_true, Bool.not_false]; simp only [seg, asD, go_sem, sw1, simprocAttr, ha0, Bool.and_true, Bool.true_and, Bool.and_false, Bool.false_and, Bool.or_true, Bool.true_or, Bool.or_false, Bool.false_or, Bool.not_true, Bool.not_false]; done) | (simp only [go_sem, sw1, simprocAttr, ha0, Bool.and_true, Bool.true_and, Bool.and_false, Bool.false_and, Bool.or_true, Bool.true_or, Bool.or_false, Bool.false_or, Bool.not_true, Bool.not_false]; simp only [seg, asD, go_sem, sw1, simprocAttr, ha0, Bool.and_true, Bool.true_and, Bool.and_false, Bool.false_and, Bool.or_true, Bool.true_or, Bool.or_false, Bool.false_or, Bool.not_true, Bool.not_false]; rfl) | ((try simp only [go_sem, sw1, simprocAttr, ha0, Bool.and_true, Bool.true_and, Bool.and_false, Bool.false_and, Bool.or_true, Bool.true_or, Bool.or_false, Bool.false_or, Bool.not_true, Bool.not_false]); (repeat' (first | rfl | (refine list_congr ?_; simp only [List.length_take, List.length_drop, List.length_set, List.length_replicate] <;> omega) | (refine congr (congrArg List.cons ?_) ?_) | (refine congrArg D.agg ?_) | (refine congrArg D.tup ?_) | (refine congrArg D.ref ?_) | (refine congrArg (D.list _) ?_) | (refine congrArg (D.clo _) ?_))))))
  exact okD_all rfl
  exact .inl rfl
  (simp only [go_sem, Nat.reduceLT])
  refine OW.run [1, 2, 5, 6, 7, 26, 27, 28] ?_
  (simp only [go_sem, simprocAttr, sw0, ha0])
  repeat (refine And.intro (by first | omega | (intro hg; have hq := c6 (by first | exact hg | simpa using hg); first | omega | exact hq | (simp only [List.length_map]; omega)) | (first | omega | assumption | rfl | decide | (simp only [List.length_map, List.length_replicate, List.length_append, List.length_take, List.length_drop, List.length_set, List.length_cons, List.length_nil, Nat.zero_add, Int.toNat_natCast] at *; omega) | (simp only [List.length_map, List.length_replicate, List.length_append, List.length_take, List.length_drop, List.length_set, List.length_cons, List.length_nil, Nat.zero_add, Int.toNat_natCast]; done) | trivial)) ?_)
  refine OW.call' 4 rfl rfl rfl (by first | exact rfl | ((simp only [go_sem, List.toList_toArray, simprocAttr]); exact rfl)) ?_ (plan_first_ok N _ _ e6) ?_ ?_ ?_ ?_
  · (first | (rfl; done) | (first | rfl | (simp only [go_sem, sw1, simprocAttr, ha0, Bool.and_true, Bool.true_and, Bool.and_false, Bool.false_and, Bool.or_true, Bool.true_or, Bool.or_false, Bool.false_or, Bool.not_true, Bool.not_false]; done) | (simp only [go_sem, sw1, simprocAttr, ha0, Bool.and_true, Bool.true_and, Bool.and_false, Bool.false_and, Bool.or_true, Bool.true_or, Bool.or_false, Bool.false_or, Bool.not_true, Bool.not_false]; rfl) | (simp only [go_sem, sw1, simprocAttr, ha0, Bool.and_true, Bool.true_and, Bool.and_false, Bool.false_and, Bool.or_true, Bool.true_or, Bool.or_false, Bool.false_or, Bool.not_true, Bool.not_false]; simp only [seg, asD, go_sem, sw1, simprocAttr, ha0, Bool.and_true, Bool.true_and, Bool.and_false, Bool.false_and, Bool.or_true, Bool.true_or, Bool.or_false, Bool.false_or, Bool.not_true, Bool.not_false]; done) | (simp only [go_sem, sw1, simprocAttr, ha0, Bool.and_true, Bool.true_and, Bool.and_false, Bool.false_and, Bool.or_true, Bool.true_or, Bool.or_false, Bool.false_or, Bool.not_true, Bool.not_false]; simp only [seg, asD, go_sem, sw1, simprocAttr, ha0, Bool.and_true, Bool.true_and, Bool.and_false, Bool.false_and, Bool.or_true, Bool.true_or, Bool.or_false, Bool.false_or, Bool.not_true, Bool.not_false]; rfl) | ((try simp only [go_sem, sw1, simprocAttr, ha0, Bool.and_true, Bool.true_and, Bool.and_false, Bool.false_and, Bool.or_true, Bool.true_or, Bool.or_false, Bool.false_or, Bool.not_true, Bool.not_false]); (repeat' (first | rfl | (refine list_congr ?_; simp only [List.length_take, List.length_drop, List.length_set, List.length_replicate] <;> omega) | (refine congr (congrArg List.cons ?_) ?_) | (refine congrArg D.agg ?_) | (refine congrArg D.tup ?_) | (refine congrArg D.ref ?_) | (refine congrArg (D.list _) ?_) | (refine congrArg (D.clo _) ?_))))))
  · (refine okAll_intro ?_; (simp only [go_sem, sw2, List.length_set, List.length_replicate, and_true, true_and, Nat.le_refl, simprocAttr]; simp only [seg, go_sem, sw2, List.length_set, List.length_replicate, and_true, true_and, Nat.le_refl, simprocAttr]; done))
  exact .inr ⟨rfl, rfl⟩
  (simp only [go_sem, Nat.reduceLT])
  refine OW.run [1, 2, 5, 6, 7, 26, 27, 28] ?_
  (simp only [go_sem, simprocAttr, sw0, ha0])
  repeat (refine And.intro (by first | omega | (intro hg; have hq := c6 (by first | exact hg | simpa using hg); first | omega | exact hq | (simp only [List.length_map]; omega)) | (first | omega | assumption | rfl | decide | (simp only [List.length_map, List.length_replicate, List.length_append, List.length_take, List.length_drop, List.length_set, List.length_cons, List.length_nil, Nat.zero_add, Int.toNat_natCast] at *; omega) | (simp only [List.length_map, List.length_replicate, List.length_append, List.length_take, List.length_drop, List.length_set, List.length_cons, List.length_nil, Nat.zero_add, Int.toNat_natCast]; done) | trivial)) ?_)
  refine OW.nil ((congrArg K ?_).mpr hKE)
  · (first | rfl | (simp only [go_sem, simprocAttr, ha0]; done) | (simp only [go_sem, simprocAttr, ha0]; rfl))
 clear hK K
 refine PW.seq ?_
 refine PW.regionK fun K hK => OW.run [1, 2, 5, 6, 7, 26, 27, 28, 54] ?_
 simp only [go_sem, simprocAttr, sw0]
 refine OW.nil (hK _ ?_)
 refine PW.cond rfl (fun h7 => ?_) (fun h7 => ?_)
 replace H := br_t h7 H
 refine PW.seq ?_
 refine PW.regionK fun K hK => OW.run [2, 3] ?_
 simp only [go_sem, simprocAttr, sw0]
 refine OW.nil (hK _ ?_)
 refine PW.ret ?_
 change PW.Ends _ _ _ _ _ _
 refine PW.Ends.intro (.inr rfl) ?_
 simp only [go_sem, simprocAttr, sw0]
 obtain rfl := Option.some.inj H
 refine RetOK.data' 4 (by (refine okAll_intro ?_; (simp only [go_sem, sw2, List.length_set, List.length_replicate, and_true, true_and, Nat.le_refl, simprocAttr]; done))) ?_
 rfl
 replace H := br_f h7 H
 refine PW.skip ?_
 refine PW.seq ?_
 obtain ⟨x7, e7, H⟩ := bnd_some H
 refine PW.regionK fun K hK => OW.run [1, 2, 5, 8, 26, 27, 28] ?_
 simp only [go_sem, simprocAttr, sw0]
 refine OW.call' 4 rfl rfl rfl (by first | exact rfl | ((simp only [go_sem, List.toList_toArray, simprocAttr]); exact rfl)) ?_ (slices_IndexFunc_ii_ok N _ 138 [] (fun y0 => plan_CheckRaster_1 N y0) (fun y0 r h => plan_CheckRaster_1_ok N y0 r h) _ e7) ?_ ?_ ?_ ?_
 rfl
 exact okD_all rfl
 exact .inl rfl
 (simp only [go_sem, Nat.reduceLT])
 refine OW.run [1, 2, 5, 8, 26, 27, 28] ?_
 simp only [go_sem, simprocAttr, sw0]
 refine OW.nil (hK _ ?_)
 refine PW.seq ?_
 refine PW.regionK fun K hK => OW.run [1, 2, 5, 8, 26, 27, 28, 61] ?_
 simp only [go_sem, simprocAttr, sw0]
 refine OW.nil (hK _ ?_)
 refine PW.cond rfl (fun h8 => ?_) (fun h8 => ?_)
 replace H := br_t h8 H
 refine PW.seq ?_
 refine PW.regionK fun K hK => OW.run [2, 3] ?_
 simp only [go_sem, simprocAttr, sw0]
 refine OW.nil (hK _ ?_)
 refine PW.ret ?_
 change PW.Ends _ _ _ _ _ _
 refine PW.Ends.intro (.inr rfl) ?_
 simp only [go_sem, simprocAttr, sw0]
 obtain rfl := Option.some.inj H
 refine RetOK.data' 4 (by (refine okAll_intro ?_; (simp only [go_sem, sw2, List.length_set, List.length_replicate, and_true, true_and, Nat.le_refl, simprocAttr]; done))) ?_
 rfl
 replace H := br_f h8 H
 refine PW.skip ?_
 refine PW.regionK fun K hK => OW.run [1, 2, 26, 27, 28] ?_
 simp only [go_sem, simprocAttr, sw0]
 refine OW.nil (hK _ ?_)
 refine hN3 [] (w64 (t28 + (1 : Int))) _ H (by exact trivial) ?_
 simp only [sw1, go_sem, simprocAttr]
 replace H := br_f h4 H
 refine PW.exit ?_
 refine hN2 [] () _ H (by exact trivial) ?_
 simp only [sw1, go_sem, simprocAttr]
 rintro _ H
 try simp only [go_sem, simprocAttr]
 refine PW.seq ?_
 refine PW.regionK fun K hK => OW.run [2, 3] ?_
 simp only [go_sem, simprocAttr, sw0]
 refine OW.nil (hK _ ?_)
 refine PW.ret ?_
 change PW.Ends _ _ _ _ _ _
 refine PW.Ends.intro (.inr rfl) ?_
 simp only [go_sem, simprocAttr, sw0]
 obtain rfl := Option.some.inj H
 refine RetOK.data' 4 (by (refine okAll_intro ?_; (simp only [go_sem, sw2, List.length_set, List.length_replicate, and_true, true_and, Nat.le_refl, simprocAttr]; done))) ?_
 rfl

theorem plan_rasterErr_ok (N : Nat) (Z10 : List (List Int)) (r : Int) (H : plan_rasterErr N Z10 = some r) : CallOK Tryz.prog 109 [(.agg [(.list Z10.length (Z10.map L))])] (.d (I r)) [] := by
 refine CallOK.of_PW Tryz.func109 rfl (by rw [Tryz.results109]) Tryz.ntmps109 Tryz.call109 ?_
 change PW _ _ _ _ _
 try simp only [go_sem, simprocAttr]
 unfold plan_rasterErr at H
 refine PW.seq ?_
 refine PW.regionK fun K hK => OW.run [1] ?_
 simp only [go_sem, simprocAttr, sw0]
 refine OW.nil (hK _ ?_)
 refine PW.seq ?_
 obtain ⟨⟨x1, x11, x12⟩, e1, H⟩ := bnd_some H
 refine PW.regionK fun K hK => OW.run [4] ?_
 simp only [go_sem, simprocAttr, sw0]
 refine OW.call' 4 rfl rfl rfl (by first | exact rfl | ((simp only [go_sem, List.toList_toArray, simprocAttr]); exact rfl)) ?_ (plan_CheckRaster_ok N _ _ e1) ?_ ?_ ?_ ?_
 rfl
 · (refine okAll_intro ?_; (simp only [go_sem, sw2, List.length_set, List.length_replicate, and_true, true_and, Nat.le_refl, simprocAttr]; done))
 exact .inl rfl
 (simp only [go_sem, Nat.reduceLT])
 refine OW.run [4] ?_
 simp only [go_sem, simprocAttr, sw0]
 refine OW.nil (hK _ ?_)
 refine PW.seq ?_
 refine PW.regionK fun K hK => OW.run [2] ?_
 simp only [go_sem, simprocAttr, sw0]
 refine OW.nil (hK _ ?_)
 refine PW.ret ?_
 change PW.Ends _ _ _ _ _ _
 refine PW.Ends.intro (.inr rfl) ?_
 simp only [go_sem, simprocAttr, sw0]
 obtain rfl := Option.some.inj H
 refine RetOK.data' 4 (by exact trivial) ?_
 rfl

theorem plan_planErr_1_ok (N : Nat) (Zr : ByteArray) (Zp : Int) (Zn : Int) (Zo : Int) (Zq : Int) (Zs : Int) (Zt : Int) (Z4 : ByteArray) (Z2 : Int) (Z0 : Int) (Z1 : Int) (Z3 : Int) (Z5 : Int) (Z7 : Int) (r : Bool) (H : plan_planErr_1 N Zr Zp Zn Zo Zq Zs Zt Z4 Z2 Z0 Z1 Z3 Z5 Z7 = some r) : CallOK Tryz.prog 111 [(.agg [(Sx Zr), (I Zp), (I Zn), (I Zo), (I Zq), (I Zs), (I Zt)]), (.ref [(Sx Z4), (I Z2), (I Z0), (I Z1), (I Z3), (I Z5), (I Z7)])] (.d (Bo r)) [] := by
 refine CallOK.of_PW Tryz.func111 rfl (by rw [Tryz.results111]) Tryz.ntmps111 Tryz.call111 ?_
 change PW _ _ _ _ _
 try simp only [go_sem, simprocAttr]
 unfold plan_planErr_1 at H
 refine PW.seq ?_
 refine PW.regionK fun K hK => OW.run [1, 2] ?_
 simp only [go_sem, simprocAttr, sw0]
 refine OW.nil (hK _ ?_)
 refine PW.seq ?_
 refine PW.regionK fun K hK => OW.run [3] ?_
 simp only [go_sem, simprocAttr, sw0]
 repeat (refine And.intro (by omega) ?_)
 refine OW.nil (hK _ ?_)
 refine PW.ret ?_
 change PW.Ends _ _ _ _ _ _
 refine PW.Ends.intro (.inr rfl) ?_
 simp only [go_sem, simprocAttr, sw0]
 obtain rfl := Option.some.inj H
 refine RetOK.data' 4 (by exact trivial) ?_
 rfl

theorem slices_IndexFunc_api_PlanCell_api_PlanCell_ok (N : Nat) (s : List (ByteArray × Int × Int × Int × Int × Int × Int)) (f_g : FuncId) (f_c : List D) (f : ByteArray → Int → Int → Int → Int → Int → Int → Option Bool) (f_h : ∀ y0 y1 y2 y3 y4 y5 y6 r0, f y0 y1 y2 y3 y4 y5 y6 = some r0 → CallOK Tryz.prog f_g ((.agg [(Sx y0), (I y1), (I y2), (I y3), (I y4), (I y5), (I y6)]) :: f_c.map nz) (.d (Bo r0)) []) (r : Int) (H : slices_IndexFunc_api_PlanCell_api_PlanCell N s f = some r) : CallOK Tryz.prog 124 [(.list s.length (s.flatMap (fun (x : ByteArray × Int × Int × Int × Int × Int × Int) => [(Sx x.1), (I x.2.1), (I x.2.2.1), (I x.2.2.2.1), (I x.2.2.2.2.1), (I x.2.2.2.2.2.1), (I x.2.2.2.2.2.2)]))), .clo f_g f_c] (.d (I r)) [] := by
 refine CallOK.of_PW Tryz.func124 rfl (by rw [Tryz.results124]) Tryz.ntmps124 Tryz.call124 ?_
 change PW _ _ _ _ _
 try simp only [go_sem, simprocAttr]
 unfold slices_IndexFunc_api_PlanCell_api_PlanCell at H
 refine PW.seq ?_
 refine PW.regionK fun K hK => OW.run [0, 1] ?_
 simp only [go_sem, simprocAttr, sw0]
 refine OW.nil (hK _ ?_)
 refine PW.joinS (τ := Unit) [] 0 (fun _ => []) (fun _ => []) _ _ r (by exact Nat.le_refl _) H ?_ ?_
 intro K_ H N1 hN1
 refine PW.seq ?_
 refine PW.regionK fun K hK => OW.run [0, 1, 7, 8] ?_
 simp only [go_sem, simprocAttr, sw0]
 refine OW.nil (hK _ ?_)
 refine PW.block ?_
 refine PW.loopS (σ := Int) [0, 1, 7, 8] 0 (fun t8 => [(8, .d (I t8))]) (fun t8 => []) (slices_IndexFunc_api_PlanCell_api_PlanCell.b1 N s f K_) r N (0 : Int) (by exact Nat.le_refl _) H (by (simp only [sw1, go_sem, simprocAttr]; done)) ?_
 rintro n t8 H N2 hN2
 unfold slices_IndexFunc_api_PlanCell_api_PlanCell.b1 at H
 try simp only [go_sem, simprocAttr]
 refine PW.seq ?_
 refine PW.regionK fun K hK => OW.run [0, 1, 7, 8, 9] ?_
 simp only [go_sem, simprocAttr, sw0]
 refine OW.nil (hK _ ?_)
 refine PW.seq ?_
 refine PW.cond rfl (fun h3 => ?_) (fun h3 => ?_)
 replace H := br_t h3 H
 refine PW.skip ?_
 refine PW.seq ?_
 refine PW.block ?_
 refine PW.seq ?_
 refine PW.regionK fun K hK => OW.run [0, 1, 5, 7, 8] ?_
 simp only [go_sem, simprocAttr, sw0]
 refine OW.nil (hK _ ?_)
 refine PW.seq ?_
 obtain ⟨c4, H⟩ := chk_some H
 obtain ⟨x1, e1, H⟩ := bnd_some H
 refine PW.regionK fun K hK => OW.run [0, 1, 5, 7, 8, 16] ?_
 (simp only [go_sem, simprocAttr, sw0, z0W0a, z1W0a s t8.toNat (by omega)])
 repeat (refine And.intro (by omega) ?_)
 refine OW.call' 4 rfl rfl rfl (by first | exact rfl | ((simp only [go_sem, List.toList_toArray, simprocAttr]); exact rfl)) ?_ (f_h _ _ _ _ _ _ _ _ e1) ?_ ?_ ?_ ?_
 · (((simp only [go_sem, sw1, simprocAttr]; try simp only [seg, go_sem, simprocAttr])); done)
 · (refine okAll_intro ?_; (simp only [go_sem, sw2, List.length_set, List.length_replicate, and_true, true_and, Nat.le_refl, simprocAttr]; done))
 exact .inr ⟨rfl, rfl⟩
 (simp only [go_sem, Nat.reduceLT])
 refine OW.run [0, 1, 5, 7, 8, 16] ?_
 (simp only [go_sem, simprocAttr, sw0, z0W0a, z1W0a s t8.toNat (by omega)])
 refine OW.nil (hK _ ?_)
 refine PW.cond rfl (fun h5 => ?_) (fun h5 => ?_)
 replace H := br_t h5 H
 refine PW.seq ?_
 refine PW.regionK fun K hK => OW.run [4] ?_
 simp only [go_sem, simprocAttr, sw0]
 refine OW.nil (hK _ ?_)
 refine PW.ret ?_
 change PW.Ends _ _ _ _ _ _
 refine PW.Ends.intro (.inr rfl) ?_
 simp only [go_sem, simprocAttr, sw0]
 obtain rfl := Option.some.inj H
 refine RetOK.data' 4 (by exact trivial) ?_
 rfl
 replace H := br_f h5 H
 refine PW.skip ?_
 refine PW.regionK fun K hK => OW.run [0, 1, 7, 8] ?_
 simp only [go_sem, simprocAttr, sw0]
 refine OW.nil (hK _ ?_)
 refine hN2 [] (w64 (t8 + (1 : Int))) _ H (by exact trivial) ?_
 simp only [sw1, go_sem, simprocAttr]
 replace H := br_f h3 H
 refine PW.exit ?_
 refine hN1 [] () _ H (by exact trivial) ?_
 simp only [sw1, go_sem, simprocAttr]
 rintro _ H
 try simp only [go_sem, simprocAttr]
 refine PW.seq ?_
 refine PW.regionK fun K hK => OW.run [4] ?_
 simp only [go_sem, simprocAttr, sw0]
 refine OW.nil (hK _ ?_)
 refine PW.ret ?_
 change PW.Ends _ _ _ _ _ _
 refine PW.Ends.intro (.inr rfl) ?_
 simp only [go_sem, simprocAttr, sw0]
 obtain rfl := Option.some.inj H
 refine RetOK.data' 4 (by exact trivial) ?_
 rfl

theorem slices_ContainsFunc_api_PlanCell_api_PlanCell_ok (N : Nat) (s : List (ByteArray × Int × Int × Int × Int × Int × Int)) (f_g : FuncId) (f_c : List D) (f : ByteArray → Int → Int → Int → Int → Int → Int → Option Bool) (f_h : ∀ y0 y1 y2 y3 y4 y5 y6 r0, f y0 y1 y2 y3 y4 y5 y6 = some r0 → CallOK Tryz.prog f_g ((.agg [(Sx y0), (I y1), (I y2), (I y3), (I y4), (I y5), (I y6)]) :: f_c.map nz) (.d (Bo r0)) []) (r : Bool) (H : slices_ContainsFunc_api_PlanCell_api_PlanCell N s f = some r) : CallOK Tryz.prog 110 [(.list s.length (s.flatMap (fun (x : ByteArray × Int × Int × Int × Int × Int × Int) => [(Sx x.1), (I x.2.1), (I x.2.2.1), (I x.2.2.2.1), (I x.2.2.2.2.1), (I x.2.2.2.2.2.1), (I x.2.2.2.2.2.2)]))), .clo f_g f_c] (.d (Bo r)) [] := by
 refine CallOK.of_PW Tryz.func110 rfl (by rw [Tryz.results110]) Tryz.ntmps110 Tryz.call110 ?_
 change PW _ _ _ _ _
 try simp only [go_sem, simprocAttr]
 unfold slices_ContainsFunc_api_PlanCell_api_PlanCell at H
 refine PW.seq ?_
 refine PW.regionK fun K hK => OW.run [0, 1] ?_
 simp only [go_sem, simprocAttr, sw0]
 refine OW.nil (hK _ ?_)
 refine PW.seq ?_
 obtain ⟨x1, e1, H⟩ := bnd_some H
 refine PW.regionK fun K hK => OW.run [4] ?_
 simp only [go_sem, simprocAttr, sw0]
 refine OW.call' 4 rfl rfl rfl (by first | exact rfl | ((simp only [go_sem, List.toList_toArray, simprocAttr]); exact rfl)) ?_ (slices_IndexFunc_api_PlanCell_api_PlanCell_ok N _ f_g f_c f f_h _ e1) ?_ ?_ ?_ ?_
 rfl
 exact okD_all rfl
 exact .inl rfl
 (simp only [go_sem, Nat.reduceLT])
 refine OW.run [4] ?_
 simp only [go_sem, simprocAttr, sw0]
 refine OW.nil (hK _ ?_)
 refine PW.ret ?_
 change PW.Ends _ _ _ _ _ _
 refine PW.Ends.intro (.inr rfl) ?_
 simp only [go_sem, simprocAttr, sw0]
 obtain rfl := Option.some.inj H
 refine RetOK.data' 4 (by exact trivial) ?_
 rfl

theorem plan_isName_ok (N : Nat) (s : ByteArray) (r : Bool) (H : plan_isName N s = some r) : CallOK Tryz.prog 139 [(Sx s)] (.d (Bo r)) [] := by
 refine CallOK.of_PW Tryz.func139 rfl (by rw [Tryz.results139]) Tryz.ntmps139 Tryz.call139 ?_
 change PW _ _ _ _ _
 try simp only [go_sem, simprocAttr]
 unfold plan_isName at H
 refine PW.seq ?_
 refine PW.regionK fun K hK => OW.run [0] ?_
 simp only [go_sem, simprocAttr, sw0]
 refine OW.nil (hK _ ?_)
 refine PW.joinS (τ := Unit) [0] 0 (fun _ => []) (fun _ => []) _ _ r (by exact Nat.le_refl _) H ?_ ?_
 intro K_ H N1 hN1
 refine PW.seq ?_
 refine PW.regionK fun K hK => ?_
 refine OW.step rfl ?_
 simp only [go_sem, simprocAttr, sw0]
 refine OW.bytes rfl rfl Tryz.underlying9 Tryz.underlying197 Tryz.underlying5 rfl (by (simp only [go_sem, Nat.reduceLT])) ?_
 refine OW.run [0, 7, 8, 9] ?_
 simp only [go_sem, simprocAttr, sw0]
 refine OW.nil (hK _ ?_)
 refine PW.block ?_
 refine PW.loopS (σ := Int) [0, 7, 8, 9] 0 (fun t9 => [(9, .d (I t9))]) (fun t9 => []) (plan_isName.b1 N s K_) r N (0 : Int) (by exact Nat.le_refl _) H (by (simp only [sw1, go_sem, simprocAttr]; done)) ?_
 rintro n t9 H N2 hN2
 unfold plan_isName.b1 at H
 try simp only [go_sem, simprocAttr]
 refine PW.seq ?_
 refine PW.regionK fun K hK => OW.run [0, 7, 8, 9, 10] ?_
 simp only [go_sem, simprocAttr, sw0]
 refine OW.nil (hK _ ?_)
 refine PW.seq ?_
 refine PW.cond rfl (fun h3 => ?_) (fun h3 => ?_)
 replace H := br_t h3 H
 refine PW.skip ?_
 refine PW.seq ?_
 refine PW.block ?_
 refine PW.seq ?_
 obtain ⟨c4, H⟩ := chk_some H
 refine PW.regionK fun K hK => OW.run [0, 3, 4, 7, 8, 9] ?_
 (simp only [go_sem, simprocAttr, sw0, getD_mapF (fun (x : Int) => (.val (.int .u8 x))) (bytesL s) t9.toNat 0 (by omega)])
 repeat (refine And.intro (by omega) ?_)
 refine OW.nil (hK _ ?_)
 refine PW.seq ?_
 refine PW.regionK fun K hK => ?_
 refine OW.toS [(0, .d (Sx s)), (3, .d (I t9)), (4, .d (.val (.int .u8 ((bytesL s).getD t9.toNat 0)))), (5, .d (Bo (((decide (((bytesL s).getD t9.toNat 0) ≥ (97 : Int))) && (decide (((bytesL s).getD t9.toNat 0) ≤ (122 : Int)))) || ((decide (((bytesL s).getD t9.toNat 0) ≥ (65 : Int))) && (decide (((bytesL s).getD t9.toNat 0) ≤ (90 : Int))))))), (7, .d (.list (bytesL s).length ((bytesL s).map (fun (x : Int) => (.val (.int .u8 x)))))), (8, .d (I ((bytesL s).length : Int))), (9, .d (I t9))] [] ?_ (hK _ ?_)
 intro K hKE
 rcases Bool.eq_false_or_eq_true ((decide (((bytesL s).getD t9.toNat 0) ≥ (97 : Int)))) with ha0 | ha0
 rcases Bool.eq_false_or_eq_true ((decide (((bytesL s).getD t9.toNat 0) ≤ (122 : Int)))) with ha1 | ha1
 refine OW.run [0, 3, 4, 5, 7, 8, 9] ?_
 (simp only [go_sem, simprocAttr, sw0, ha0, ha1])
 refine OW.nil ((congrArg K ?_).mpr hKE)
 · (first | rfl | (simp only [go_sem, simprocAttr, ha0, ha1]; done) | (simp only [go_sem, simprocAttr, ha0, ha1]; rfl))
 rcases Bool.eq_false_or_eq_true ((decide (((bytesL s).getD t9.toNat 0) ≥ (65 : Int)))) with ha2 | ha2
 refine OW.run [0, 3, 4, 5, 7, 8, 9] ?_
 (simp only [go_sem, simprocAttr, sw0, ha0, ha1, ha2])
 refine OW.nil ((congrArg K ?_).mpr hKE)
 · (first | rfl | (simp only [go_sem, simprocAttr, ha0, ha1, ha2]; done) | (simp only [go_sem, simprocAttr, ha0, ha1, ha2]; rfl))
 refine OW.run [0, 3, 4, 5, 7, 8, 9] ?_
 (simp only [go_sem, simprocAttr, sw0, ha0, ha1, ha2])
 refine OW.nil ((congrArg K ?_).mpr hKE)
 · (first | rfl | (simp only [go_sem, simprocAttr, ha0, ha1, ha2]; done) | (simp only [go_sem, simprocAttr, ha0, ha1, ha2]; rfl))
 rcases Bool.eq_false_or_eq_true ((decide (((bytesL s).getD t9.toNat 0) ≤ (122 : Int)))) with ha1 | ha1
 rcases Bool.eq_false_or_eq_true ((decide (((bytesL s).getD t9.toNat 0) ≥ (65 : Int)))) with ha2 | ha2
 refine OW.run [0, 3, 4, 5, 7, 8, 9] ?_
 (simp only [go_sem, simprocAttr, sw0, ha0, ha1, ha2])
 refine OW.nil ((congrArg K ?_).mpr hKE)
 · (first | rfl | (simp only [go_sem, simprocAttr, ha0, ha1, ha2]; done) | (simp only [go_sem, simprocAttr, ha0, ha1, ha2]; rfl))
 refine OW.run [0, 3, 4, 5, 7, 8, 9] ?_
 (simp only [go_sem, simprocAttr, sw0, ha0, ha1, ha2])
 refine OW.nil ((congrArg K ?_).mpr hKE)
 · (first | rfl | (simp only [go_sem, simprocAttr, ha0, ha1, ha2]; done) | (simp only [go_sem, simprocAttr, ha0, ha1, ha2]; rfl))
 rcases Bool.eq_false_or_eq_true ((decide (((bytesL s).getD t9.toNat 0) ≥ (65 : Int)))) with ha2 | ha2
 refine OW.run [0, 3, 4, 5, 7, 8, 9] ?_
 (simp only [go_sem, simprocAttr, sw0, ha0, ha1, ha2])
 refine OW.nil ((congrArg K ?_).mpr hKE)
 · (first | rfl | (simp only [go_sem, simprocAttr, ha0, ha1, ha2]; done) | (simp only [go_sem, simprocAttr, ha0, ha1, ha2]; rfl))
 refine OW.run [0, 3, 4, 5, 7, 8, 9] ?_
 (simp only [go_sem, simprocAttr, sw0, ha0, ha1, ha2])
 refine OW.nil ((congrArg K ?_).mpr hKE)
 · (first | rfl | (simp only [go_sem, simprocAttr, ha0, ha1, ha2]; done) | (simp only [go_sem, simprocAttr, ha0, ha1, ha2]; rfl))
 clear hK K
 refine PW.seq ?_
 refine PW.regionK fun K hK => ?_
 refine OW.toS [(0, .d (Sx s)), (7, .d (.list (bytesL s).length ((bytesL s).map (fun (x : Int) => (.val (.int .u8 x)))))), (8, .d (I ((bytesL s).length : Int))), (9, .d (I t9)), (45, .d (Bo ((!(((decide (((bytesL s).getD t9.toNat 0) ≥ (97 : Int))) && (decide (((bytesL s).getD t9.toNat 0) ≤ (122 : Int)))) || ((decide (((bytesL s).getD t9.toNat 0) ≥ (65 : Int))) && (decide (((bytesL s).getD t9.toNat 0) ≤ (90 : Int)))))) && ((t9 == (0 : Int)) || ((((bytesL s).getD t9.toNat 0) != (45 : Int)) && ((decide (((bytesL s).getD t9.toNat 0) < (48 : Int))) || (decide (((bytesL s).getD t9.toNat 0) > (57 : Int)))))))))] [] ?_ (hK _ ?_)
 intro K hKE
 rcases Bool.eq_false_or_eq_true ((decide (((bytesL s).getD t9.toNat 0) ≥ (97 : Int)))) with ha0 | ha0
 rcases Bool.eq_false_or_eq_true ((decide (((bytesL s).getD t9.toNat 0) ≤ (122 : Int)))) with ha1 | ha1
 refine OW.run [0, 7, 8, 9, 45] ?_
 (simp only [go_sem, simprocAttr, sw0, ha0, ha1])
 refine OW.nil ((congrArg K ?_).mpr hKE)
 · (first | rfl | (simp only [go_sem, simprocAttr, ha0, ha1]; done) | (simp only [go_sem, simprocAttr, ha0, ha1]; rfl))
 rcases Bool.eq_false_or_eq_true ((decide (((bytesL s).getD t9.toNat 0) ≥ (65 : Int)))) with ha2 | ha2
 rcases Bool.eq_false_or_eq_true ((decide (((bytesL s).getD t9.toNat 0) ≤ (90 : Int)))) with ha3 | ha3
 refine OW.run [0, 7, 8, 9, 45] ?_
 (simp only [go_sem, simprocAttr, sw0, ha0, ha1, ha2, ha3])
 refine OW.nil ((congrArg K ?_).mpr hKE)
 · (first | rfl | (simp only [go_sem, simprocAttr, ha0, ha1, ha2, ha3]; done) | (simp only [go_sem, simprocAttr, ha0, ha1, ha2, ha3]; rfl))
 rcases Bool.eq_false_or_eq_true ((t9 == (0 : Int))) with ha4 | ha4
 refine OW.run [0, 7, 8, 9, 45] ?_
 (simp only [go_sem, simprocAttr, sw0, ha0, ha1, ha2, ha3, ha4])
 refine OW.nil ((congrArg K ?_).mpr hKE)
 · (first | rfl | (simp only [go_sem, simprocAttr, ha0, ha1, ha2, ha3, ha4]; done) | (simp only [go_sem, simprocAttr, ha0, ha1, ha2, ha3, ha4]; rfl))
 rcases Bool.eq_false_or_eq_true ((((bytesL s).getD t9.toNat 0) != (45 : Int))) with ha5 | ha5
 rcases Bool.eq_false_or_eq_true ((decide (((bytesL s).getD t9.toNat 0) < (48 : Int)))) with ha6 | ha6
 refine OW.run [0, 7, 8, 9, 45] ?_
 (simp only [go_sem, simprocAttr, sw0, ha0, ha1, ha2, ha3, ha4, ha5, ha6])
 refine OW.nil ((congrArg K ?_).mpr hKE)
 · (first | rfl | (simp only [go_sem, simprocAttr, ha0, ha1, ha2, ha3, ha4, ha5, ha6]; done) | (simp only [go_sem, simprocAttr, ha0, ha1, ha2, ha3, ha4, ha5, ha6]; rfl))
 refine OW.run [0, 7, 8, 9, 45] ?_
 (simp only [go_sem, simprocAttr, sw0, ha0, ha1, ha2, ha3, ha4, ha5, ha6])
 refine OW.nil ((congrArg K ?_).mpr hKE)
 · (first | rfl | (simp only [go_sem, simprocAttr, ha0, ha1, ha2, ha3, ha4, ha5, ha6]; done) | (simp only [go_sem, simprocAttr, ha0, ha1, ha2, ha3, ha4, ha5, ha6]; rfl))
 refine OW.run [0, 7, 8, 9, 45] ?_
 (simp only [go_sem, simprocAttr, sw0, ha0, ha1, ha2, ha3, ha4, ha5])
 refine OW.nil ((congrArg K ?_).mpr hKE)
 · (first | rfl | (simp only [go_sem, simprocAttr, ha0, ha1, ha2, ha3, ha4, ha5]; done) | (simp only [go_sem, simprocAttr, ha0, ha1, ha2, ha3, ha4, ha5]; rfl))
 rcases Bool.eq_false_or_eq_true ((decide (((bytesL s).getD t9.toNat 0) ≤ (90 : Int)))) with ha3 | ha3
 rcases Bool.eq_false_or_eq_true ((t9 == (0 : Int))) with ha4 | ha4
 refine OW.run [0, 7, 8, 9, 45] ?_
 (simp only [go_sem, simprocAttr, sw0, ha0, ha1, ha2, ha3, ha4])
 refine OW.nil ((congrArg K ?_).mpr hKE)
 · (first | rfl | (simp only [go_sem, simprocAttr, ha0, ha1, ha2, ha3, ha4]; done) | (simp only [go_sem, simprocAttr, ha0, ha1, ha2, ha3, ha4]; rfl))
 rcases Bool.eq_false_or_eq_true ((((bytesL s).getD t9.toNat 0) != (45 : Int))) with ha5 | ha5
 rcases Bool.eq_false_or_eq_true ((decide (((bytesL s).getD t9.toNat 0) < (48 : Int)))) with ha6 | ha6
 refine OW.run [0, 7, 8, 9, 45] ?_
 (simp only [go_sem, simprocAttr, sw0, ha0, ha1, ha2, ha3, ha4, ha5, ha6])
 refine OW.nil ((congrArg K ?_).mpr hKE)
 · (first | rfl | (simp only [go_sem, simprocAttr, ha0, ha1, ha2, ha3, ha4, ha5, ha6]; done) | (simp only [go_sem, simprocAttr, ha0, ha1, ha2, ha3, ha4, ha5, ha6]; rfl))
 refine OW.run [0, 7, 8, 9, 45] ?_
 (simp only [go_sem, simprocAttr, sw0, ha0, ha1, ha2, ha3, ha4, ha5, ha6])
 refine OW.nil ((congrArg K ?_).mpr hKE)
 · (first | rfl | (simp only [go_sem, simprocAttr, ha0, ha1, ha2, ha3, ha4, ha5, ha6]; done) | (simp only [go_sem, simprocAttr, ha0, ha1, ha2, ha3, ha4, ha5, ha6]; rfl))
 refine OW.run [0, 7, 8, 9, 45] ?_
 (simp only [go_sem, simprocAttr, sw0, ha0, ha1, ha2, ha3, ha4, ha5])
 refine OW.nil ((congrArg K ?_).mpr hKE)
 · (first | rfl | (simp only [go_sem, simprocAttr, ha0, ha1, ha2, ha3, ha4, ha5]; done) | (simp only [go_sem, simprocAttr, ha0, ha1, ha2, ha3, ha4, ha5]; rfl))
 rcases Bool.eq_false_or_eq_true ((t9 == (0 : Int))) with ha4 | ha4
 refine OW.run [0, 7, 8, 9, 45] ?_
 (simp only [go_sem, simprocAttr, sw0, ha0, ha1, ha2, ha3, ha4])
 refine OW.nil ((congrArg K ?_).mpr hKE)
 · (first | rfl | (simp only [go_sem, simprocAttr, ha0, ha1, ha2, ha3, ha4]; done) | (simp only [go_sem, simprocAttr, ha0, ha1, ha2, ha3, ha4]; rfl))
 rcases Bool.eq_false_or_eq_true ((((bytesL s).getD t9.toNat 0) != (45 : Int))) with ha5 | ha5
 rcases Bool.eq_false_or_eq_true ((decide (((bytesL s).getD t9.toNat 0) < (48 : Int)))) with ha6 | ha6
 refine OW.run [0, 7, 8, 9, 45] ?_
 (simp only [go_sem, simprocAttr, sw0, ha0, ha1, ha2, ha3, ha4, ha5, ha6])
 refine OW.nil ((congrArg K ?_).mpr hKE)
 · (first | rfl | (simp only [go_sem, simprocAttr, ha0, ha1, ha2, ha3, ha4, ha5, ha6]; done) | (simp only [go_sem, simprocAttr, ha0, ha1, ha2, ha3, ha4, ha5, ha6]; rfl))
 refine OW.run [0, 7, 8, 9, 45] ?_
 (simp only [go_sem, simprocAttr, sw0, ha0, ha1, ha2, ha3, ha4, ha5, ha6])
 refine OW.nil ((congrArg K ?_).mpr hKE)
 · (first | rfl | (simp only [go_sem, simprocAttr, ha0, ha1, ha2, ha3, ha4, ha5, ha6]; done) | (simp only [go_sem, simprocAttr, ha0, ha1, ha2, ha3, ha4, ha5, ha6]; rfl))
 refine OW.run [0, 7, 8, 9, 45] ?_
 (simp only [go_sem, simprocAttr, sw0, ha0, ha1, ha2, ha3, ha4, ha5])
 refine OW.nil ((congrArg K ?_).mpr hKE)
 · (first | rfl | (simp only [go_sem, simprocAttr, ha0, ha1, ha2, ha3, ha4, ha5]; done) | (simp only [go_sem, simprocAttr, ha0, ha1, ha2, ha3, ha4, ha5]; rfl))
 rcases Bool.eq_false_or_eq_true ((decide (((bytesL s).getD t9.toNat 0) ≤ (122 : Int)))) with ha1 | ha1
 rcases Bool.eq_false_or_eq_true ((decide (((bytesL s).getD t9.toNat 0) ≥ (65 : Int)))) with ha2 | ha2
 rcases Bool.eq_false_or_eq_true ((decide (((bytesL s).getD t9.toNat 0) ≤ (90 : Int)))) with ha3 | ha3
 refine OW.run [0, 7, 8, 9, 45] ?_
 (simp only [go_sem, simprocAttr, sw0, ha0, ha1, ha2, ha3])
 refine OW.nil ((congrArg K ?_).mpr hKE)
 · (first | rfl | (simp only [go_sem, simprocAttr, ha0, ha1, ha2, ha3]; done) | (simp only [go_sem, simprocAttr, ha0, ha1, ha2, ha3]; rfl))
 rcases Bool.eq_false_or_eq_true ((t9 == (0 : Int))) with ha4 | ha4
 refine OW.run [0, 7, 8, 9, 45] ?_
 (simp only [go_sem, simprocAttr, sw0, ha0, ha1, ha2, ha3, ha4])
 refine OW.nil ((congrArg K ?_).mpr hKE)
 · (first | rfl | (simp only [go_sem, simprocAttr, ha0, ha1, ha2, ha3, ha4]; done) | (simp only [go_sem, simprocAttr, ha0, ha1, ha2, ha3, ha4]; rfl))
 rcases Bool.eq_false_or_eq_true ((((bytesL s).getD t9.toNat 0) != (45 : Int))) with ha5 | ha5
 rcases Bool.eq_false_or_eq_true ((decide (((bytesL s).getD t9.toNat 0) < (48 : Int)))) with ha6 | ha6
 refine OW.run [0, 7, 8, 9, 45] ?_
 (simp only [go_sem, simprocAttr, sw0, ha0, ha1, ha2, ha3, ha4, ha5, ha6])
 refine OW.nil ((congrArg K ?_).mpr hKE)
 · (first | rfl | (simp only [go_sem, simprocAttr, ha0, ha1, ha2, ha3, ha4, ha5, ha6]; done) | (simp only [go_sem, simprocAttr, ha0, ha1, ha2, ha3, ha4, ha5, ha6]; rfl))
 refine OW.run [0, 7, 8, 9, 45] ?_
 (simp only [go_sem, simprocAttr, sw0, ha0, ha1, ha2, ha3, ha4, ha5, ha6])
 refine OW.nil ((congrArg K ?_).mpr hKE)
 · (first | rfl | (simp only [go_sem, simprocAttr, ha0, ha1, ha2, ha3, ha4, ha5, ha6]; done) | (simp only [go_sem, simprocAttr, ha0, ha1, ha2, ha3, ha4, ha5, ha6]; rfl))
 refine OW.run [0, 7, 8, 9, 45] ?_
 (simp only [go_sem, simprocAttr, sw0, ha0, ha1, ha2, ha3, ha4, ha5])
 refine OW.nil ((congrArg K ?_).mpr hKE)
 · (first | rfl | (simp only [go_sem, simprocAttr, ha0, ha1, ha2, ha3, ha4, ha5]; done) | (simp only [go_sem, simprocAttr, ha0, ha1, ha2, ha3, ha4, ha5]; rfl))
 rcases Bool.eq_false_or_eq_true ((decide (((bytesL s).getD t9.toNat 0) ≤ (90 : Int)))) with ha3 | ha3
 rcases Bool.eq_false_or_eq_true ((t9 == (0 : Int))) with ha4 | ha4
 refine OW.run [0, 7, 8, 9, 45] ?_
 (simp only [go_sem, simprocAttr, sw0, ha0, ha1, ha2, ha3, ha4])
 refine OW.nil ((congrArg K ?_).mpr hKE)
 · (first | rfl | (simp only [go_sem, simprocAttr, ha0, ha1, ha2, ha3, ha4]; done) | (simp only [go_sem, simprocAttr, ha0, ha1, ha2, ha3, ha4]; rfl))
 rcases Bool.eq_false_or_eq_true ((((bytesL s).getD t9.toNat 0) != (45 : Int))) with ha5 | ha5
 rcases Bool.eq_false_or_eq_true ((decide (((bytesL s).getD t9.toNat 0) < (48 : Int)))) with ha6 | ha6
 refine OW.run [0, 7, 8, 9, 45] ?_
 (simp only [go_sem, simprocAttr, sw0, ha0, ha1, ha2, ha3, ha4, ha5, ha6])
 refine OW.nil ((congrArg K ?_).mpr hKE)
 · (first | rfl | (simp only [go_sem, simprocAttr, ha0, ha1, ha2, ha3, ha4, ha5, ha6]; done) | (simp only [go_sem, simprocAttr, ha0, ha1, ha2, ha3, ha4, ha5, ha6]; rfl))
 refine OW.run [0, 7, 8, 9, 45] ?_
 (simp only [go_sem, simprocAttr, sw0, ha0, ha1, ha2, ha3, ha4, ha5, ha6])
 refine OW.nil ((congrArg K ?_).mpr hKE)
 · (first | rfl | (simp only [go_sem, simprocAttr, ha0, ha1, ha2, ha3, ha4, ha5, ha6]; done) | (simp only [go_sem, simprocAttr, ha0, ha1, ha2, ha3, ha4, ha5, ha6]; rfl))
 refine OW.run [0, 7, 8, 9, 45] ?_
 (simp only [go_sem, simprocAttr, sw0, ha0, ha1, ha2, ha3, ha4, ha5])
 refine OW.nil ((congrArg K ?_).mpr hKE)
 · (first | rfl | (simp only [go_sem, simprocAttr, ha0, ha1, ha2, ha3, ha4, ha5]; done) | (simp only [go_sem, simprocAttr, ha0, ha1, ha2, ha3, ha4, ha5]; rfl))
 rcases Bool.eq_false_or_eq_true ((t9 == (0 : Int))) with ha4 | ha4
 refine OW.run [0, 7, 8, 9, 45] ?_
 (simp only [go_sem, simprocAttr, sw0, ha0, ha1, ha2, ha3, ha4])
 refine OW.nil ((congrArg K ?_).mpr hKE)
 · (first | rfl | (simp only [go_sem, simprocAttr, ha0, ha1, ha2, ha3, ha4]; done) | (simp only [go_sem, simprocAttr, ha0, ha1, ha2, ha3, ha4]; rfl))
 rcases Bool.eq_false_or_eq_true ((((bytesL s).getD t9.toNat 0) != (45 : Int))) with ha5 | ha5
 rcases Bool.eq_false_or_eq_true ((decide (((bytesL s).getD t9.toNat 0) < (48 : Int)))) with ha6 | ha6
 refine OW.run [0, 7, 8, 9, 45] ?_
 (simp only [go_sem, simprocAttr, sw0, ha0, ha1, ha2, ha3, ha4, ha5, ha6])
 refine OW.nil ((congrArg K ?_).mpr hKE)
 · (first | rfl | (simp only [go_sem, simprocAttr, ha0, ha1, ha2, ha3, ha4, ha5, ha6]; done) | (simp only [go_sem, simprocAttr, ha0, ha1, ha2, ha3, ha4, ha5, ha6]; rfl))
 refine OW.run [0, 7, 8, 9, 45] ?_
 (simp only [go_sem, simprocAttr, sw0, ha0, ha1, ha2, ha3, ha4, ha5, ha6])
 refine OW.nil ((congrArg K ?_).mpr hKE)
 · (first | rfl | (simp only [go_sem, simprocAttr, ha0, ha1, ha2, ha3, ha4, ha5, ha6]; done) | (simp only [go_sem, simprocAttr, ha0, ha1, ha2, ha3, ha4, ha5, ha6]; rfl))
 refine OW.run [0, 7, 8, 9, 45] ?_
 (simp only [go_sem, simprocAttr, sw0, ha0, ha1, ha2, ha3, ha4, ha5])
 refine OW.nil ((congrArg K ?_).mpr hKE)
 · (first | rfl | (simp only [go_sem, simprocAttr, ha0, ha1, ha2, ha3, ha4, ha5]; done) | (simp only [go_sem, simprocAttr, ha0, ha1, ha2, ha3, ha4, ha5]; rfl))
 rcases Bool.eq_false_or_eq_true ((decide (((bytesL s).getD t9.toNat 0) ≥ (65 : Int)))) with ha2 | ha2
 rcases Bool.eq_false_or_eq_true ((decide (((bytesL s).getD t9.toNat 0) ≤ (90 : Int)))) with ha3 | ha3
 refine OW.run [0, 7, 8, 9, 45] ?_
 (simp only [go_sem, simprocAttr, sw0, ha0, ha1, ha2, ha3])
 refine OW.nil ((congrArg K ?_).mpr hKE)
 · (first | rfl | (simp only [go_sem, simprocAttr, ha0, ha1, ha2, ha3]; done) | (simp only [go_sem, simprocAttr, ha0, ha1, ha2, ha3]; rfl))
 rcases Bool.eq_false_or_eq_true ((t9 == (0 : Int))) with ha4 | ha4
 refine OW.run [0, 7, 8, 9, 45] ?_
 (simp only [go_sem, simprocAttr, sw0, ha0, ha1, ha2, ha3, ha4])
 refine OW.nil ((congrArg K ?_).mpr hKE)
 · (first | rfl | (simp only [go_sem, simprocAttr, ha0, ha1, ha2, ha3, ha4]; done) | (simp only [go_sem, simprocAttr, ha0, ha1, ha2, ha3, ha4]; rfl))
 rcases Bool.eq_false_or_eq_true ((((bytesL s).getD t9.toNat 0) != (45 : Int))) with ha5 | ha5
 rcases Bool.eq_false_or_eq_true ((decide (((bytesL s).getD t9.toNat 0) < (48 : Int)))) with ha6 | ha6
 refine OW.run [0, 7, 8, 9, 45] ?_
 (simp only [go_sem, simprocAttr, sw0, ha0, ha1, ha2, ha3, ha4, ha5, ha6])
 refine OW.nil ((congrArg K ?_).mpr hKE)
 · (first | rfl | (simp only [go_sem, simprocAttr, ha0, ha1, ha2, ha3, ha4, ha5, ha6]; done) | (simp only [go_sem, simprocAttr, ha0, ha1, ha2, ha3, ha4, ha5, ha6]; rfl))
 refine OW.run [0, 7, 8, 9, 45] ?_
 (simp only [go_sem, simprocAttr, sw0, ha0, ha1, ha2, ha3, ha4, ha5, ha6])
 refine OW.nil ((congrArg K ?_).mpr hKE)
 · (first | rfl | (simp only [go_sem, simprocAttr, ha0, ha1, ha2, ha3, ha4, ha5, ha6]; done) | (simp only [go_sem, simprocAttr, ha0, ha1, ha2, ha3, ha4, ha5, ha6]; rfl))
 refine OW.run [0, 7, 8, 9, 45] ?_
 (simp only [go_sem, simprocAttr, sw0, ha0, ha1, ha2, ha3, ha4, ha5])
 refine OW.nil ((congrArg K ?_).mpr hKE)
 · (first | rfl | (simp only [go_sem, simprocAttr, ha0, ha1, ha2, ha3, ha4, ha5]; done) | (simp only [go_sem, simprocAttr, ha0, ha1, ha2, ha3, ha4, ha5]; rfl))
 rcases Bool.eq_false_or_eq_true ((decide (((bytesL s).getD t9.toNat 0) ≤ (90 : Int)))) with ha3 | ha3
 rcases Bool.eq_false_or_eq_true ((t9 == (0 : Int))) with ha4 | ha4
 refine OW.run [0, 7, 8, 9, 45] ?_
 (simp only [go_sem, simprocAttr, sw0, ha0, ha1, ha2, ha3, ha4])
 refine OW.nil ((congrArg K ?_).mpr hKE)
 · (first | rfl | (simp only [go_sem, simprocAttr, ha0, ha1, ha2, ha3, ha4]; done) | (simp only [go_sem, simprocAttr, ha0, ha1, ha2, ha3, ha4]; rfl))
 rcases Bool.eq_false_or_eq_true ((((bytesL s).getD t9.toNat 0) != (45 : Int))) with ha5 | ha5
 rcases Bool.eq_false_or_eq_true ((decide (((bytesL s).getD t9.toNat 0) < (48 : Int)))) with ha6 | ha6
 refine OW.run [0, 7, 8, 9, 45] ?_
 (simp only [go_sem, simprocAttr, sw0, ha0, ha1, ha2, ha3, ha4, ha5, ha6])
 refine OW.nil ((congrArg K ?_).mpr hKE)
 · (first | rfl | (simp only [go_sem, simprocAttr, ha0, ha1, ha2, ha3, ha4, ha5, ha6]; done) | (simp only [go_sem, simprocAttr, ha0, ha1, ha2, ha3, ha4, ha5, ha6]; rfl))
 refine OW.run [0, 7, 8, 9, 45] ?_
 (simp only [go_sem, simprocAttr, sw0, ha0, ha1, ha2, ha3, ha4, ha5, ha6])
 refine OW.nil ((congrArg K ?_).mpr hKE)
 · (first | rfl | (simp only [go_sem, simprocAttr, ha0, ha1, ha2, ha3, ha4, ha5, ha6]; done) | (simp only [go_sem, simprocAttr, ha0, ha1, ha2, ha3, ha4, ha5, ha6]; rfl))
 refine OW.run [0, 7, 8, 9, 45] ?_
 (simp only [go_sem, simprocAttr, sw0, ha0, ha1, ha2, ha3, ha4, ha5])
 refine OW.nil ((congrArg K ?_).mpr hKE)
 · (first | rfl | (simp only [go_sem, simprocAttr, ha0, ha1, ha2, ha3, ha4, ha5]; done) | (simp only [go_sem, simprocAttr, ha0, ha1, ha2, ha3, ha4, ha5]; rfl))
 rcases Bool.eq_false_or_eq_true ((t9 == (0 : Int))) with ha4 | ha4
 refine OW.run [0, 7, 8, 9, 45] ?_
 (simp only [go_sem, simprocAttr, sw0, ha0, ha1, ha2, ha3, ha4])
 refine OW.nil ((congrArg K ?_).mpr hKE)
 · (first | rfl | (simp only [go_sem, simprocAttr, ha0, ha1, ha2, ha3, ha4]; done) | (simp only [go_sem, simprocAttr, ha0, ha1, ha2, ha3, ha4]; rfl))
 rcases Bool.eq_false_or_eq_true ((((bytesL s).getD t9.toNat 0) != (45 : Int))) with ha5 | ha5
 rcases Bool.eq_false_or_eq_true ((decide (((bytesL s).getD t9.toNat 0) < (48 : Int)))) with ha6 | ha6
 refine OW.run [0, 7, 8, 9, 45] ?_
 (simp only [go_sem, simprocAttr, sw0, ha0, ha1, ha2, ha3, ha4, ha5, ha6])
 refine OW.nil ((congrArg K ?_).mpr hKE)
 · (first | rfl | (simp only [go_sem, simprocAttr, ha0, ha1, ha2, ha3, ha4, ha5, ha6]; done) | (simp only [go_sem, simprocAttr, ha0, ha1, ha2, ha3, ha4, ha5, ha6]; rfl))
 refine OW.run [0, 7, 8, 9, 45] ?_
 (simp only [go_sem, simprocAttr, sw0, ha0, ha1, ha2, ha3, ha4, ha5, ha6])
 refine OW.nil ((congrArg K ?_).mpr hKE)
 · (first | rfl | (simp only [go_sem, simprocAttr, ha0, ha1, ha2, ha3, ha4, ha5, ha6]; done) | (simp only [go_sem, simprocAttr, ha0, ha1, ha2, ha3, ha4, ha5, ha6]; rfl))
 refine OW.run [0, 7, 8, 9, 45] ?_
 (simp only [go_sem, simprocAttr, sw0, ha0, ha1, ha2, ha3, ha4, ha5])
 refine OW.nil ((congrArg K ?_).mpr hKE)
 · (first | rfl | (simp only [go_sem, simprocAttr, ha0, ha1, ha2, ha3, ha4, ha5]; done) | (simp only [go_sem, simprocAttr, ha0, ha1, ha2, ha3, ha4, ha5]; rfl))
 clear hK K
 refine PW.cond rfl (fun h5 => ?_) (fun h5 => ?_)
 replace H := br_t h5 H
 refine PW.seq ?_
 refine PW.regionK fun K hK => OW.run [2] ?_
 simp only [go_sem, simprocAttr, sw0]
 refine OW.nil (hK _ ?_)
 refine PW.ret ?_
 change PW.Ends _ _ _ _ _ _
 refine PW.Ends.intro (.inr rfl) ?_
 simp only [go_sem, simprocAttr, sw0]
 obtain rfl := Option.some.inj H
 refine RetOK.data' 4 (by exact trivial) ?_
 rfl
 replace H := br_f h5 H
 refine PW.skip ?_
 refine PW.regionK fun K hK => OW.run [0, 7, 8, 9] ?_
 simp only [go_sem, simprocAttr, sw0]
 refine OW.nil (hK _ ?_)
 refine hN2 [] (w64 (t9 + (1 : Int))) _ H (by exact trivial) ?_
 simp only [sw1, go_sem, simprocAttr]
 replace H := br_f h3 H
 refine PW.exit ?_
 refine hN1 [] () _ H (by exact trivial) ?_
 simp only [sw1, go_sem, simprocAttr]
 rintro _ H
 try simp only [go_sem, simprocAttr]
 refine PW.seq ?_
 refine PW.regionK fun K hK => OW.run [2] ?_
 simp only [go_sem, simprocAttr, sw0]
 refine OW.nil (hK _ ?_)
 refine PW.ret ?_
 change PW.Ends _ _ _ _ _ _
 refine PW.Ends.intro (.inr rfl) ?_
 simp only [go_sem, simprocAttr, sw0]
 obtain rfl := Option.some.inj H
 refine RetOK.data' 4 (by exact trivial) ?_
 rfl

theorem plan_isIdentity_ok (N : Nat) (n : Int) (r : Bool) (H : plan_isIdentity N n = some r) : CallOK Tryz.prog 140 [(I n)] (.d (Bo r)) [] := by
 refine CallOK.of_PW Tryz.func140 rfl (by rw [Tryz.results140]) Tryz.ntmps140 Tryz.call140 ?_
 change PW _ _ _ _ _
 try simp only [go_sem, simprocAttr]
 unfold plan_isIdentity at H
 refine PW.seq ?_
 refine PW.regionK fun K hK => OW.run [0] ?_
 simp only [go_sem, simprocAttr, sw0]
 refine OW.nil (hK _ ?_)
 refine PW.seq ?_
 obtain ⟨x1, e1, H⟩ := bnd_some H
 refine PW.regionK fun K hK => OW.run [2] ?_
 simp only [go_sem, simprocAttr, sw0]
 refine OW.call' 4 rfl rfl rfl (by first | exact rfl | ((simp only [go_sem, List.toList_toArray, simprocAttr]); exact rfl)) ?_ (plan_within_ok N _ _ _ _ e1) ?_ ?_ ?_ ?_
 rfl
 exact okD_all rfl
 exact .inl rfl
 (simp only [go_sem, Nat.reduceLT])
 refine OW.run [2] ?_
 simp only [go_sem, simprocAttr, sw0]
 refine OW.nil (hK _ ?_)
 refine PW.ret ?_
 change PW.Ends _ _ _ _ _ _
 refine PW.Ends.intro (.inr rfl) ?_
 simp only [go_sem, simprocAttr, sw0]
 obtain rfl := Option.some.inj H
 refine RetOK.data' 4 (by exact trivial) ?_
 rfl

theorem plan_ownErr_ok (N : Nat) (Zc : ByteArray) (Za : Int) (Z8 : Int) (Z9 : Int) (Zb : Int) (Zd : Int) (Ze : Int) (r : Int) (H : plan_ownErr N Zc Za Z8 Z9 Zb Zd Ze = some r) : CallOK Tryz.prog 125 [(.agg [(Sx Zc), (I Za), (I Z8), (I Z9), (I Zb), (I Zd), (I Ze)])] (.d (I r)) [] := by
 refine CallOK.of_PW Tryz.func125 rfl (by rw [Tryz.results125]) Tryz.ntmps125 Tryz.call125 ?_
 change PW _ _ _ _ _
 try simp only [go_sem, simprocAttr]
 unfold plan_ownErr at H
 refine PW.seq ?_
 refine PW.regionK fun K hK => OW.run [1] ?_
 simp only [go_sem, simprocAttr, sw0]
 refine OW.nil (hK _ ?_)
 refine PW.seq ?_
 obtain ⟨x1, e1, H⟩ := bnd_some H
 obtain ⟨x2, e2, H⟩ := bnd_some H
 obtain ⟨x3, e3, H⟩ := bnd_some H
 obtain ⟨x4, e4, H⟩ := bnd_some H
 obtain ⟨x5, e5, H⟩ := bnd_some H
 refine PW.drawK 6 mixed (by kernel_rfl) fun K hK => ?_
 change FW _ _ _ _ _
 refine FW.run ?_
 simp only [go_sem, simprocAttr, sw0]
 repeat (refine And.intro (by omega) ?_)
 refine FW.call' 4 rfl rfl rfl (by first | exact rfl | ((simp only [go_sem, List.toList_toArray, simprocAttr]); exact rfl)) ?_ (plan_isName_ok N _ _ e1) ?_ ?_ ?_ ?_
 rfl
 exact okD_all rfl
 exact .inl rfl
 (simp only [go_sem, Nat.reduceLT])
 refine FW.run ?_
 simp only [go_sem, simprocAttr, sw0]
 refine FW.call' 4 rfl rfl rfl (by first | exact rfl | ((simp only [go_sem, List.toList_toArray, simprocAttr]); exact rfl)) ?_ (plan_unless_ok N _ _ _ e2) ?_ ?_ ?_ ?_
 rfl
 exact okD_all rfl
 exact .inl rfl
 (simp only [go_sem, Nat.reduceLT])
 refine FW.run ?_
 simp only [go_sem, simprocAttr, sw0]
 repeat (refine And.intro (by omega) ?_)
 refine FW.nil ?_
 change OW _ _ _ _ _ _
 refine OW.run [2] ?_
 simp only [go_sem, simprocAttr, sw0]
 refine OW.call' 4 rfl rfl rfl (by first | exact rfl | ((simp only [go_sem, List.toList_toArray, simprocAttr]); exact rfl)) ?_ (plan_isIdentity_ok N _ _ e3) ?_ ?_ ?_ ?_
 rfl
 exact okD_all rfl
 exact .inl rfl
 (simp only [go_sem, Nat.reduceLT])
 refine OW.run [2] ?_
 simp only [go_sem, simprocAttr, sw0]
 refine OW.call' 4 rfl rfl rfl (by first | exact rfl | ((simp only [go_sem, List.toList_toArray, simprocAttr]); exact rfl)) ?_ (plan_unless_ok N _ _ _ e4) ?_ ?_ ?_ ?_
 rfl
 exact okD_all rfl
 exact .inl rfl
 (simp only [go_sem, Nat.reduceLT])
 refine OW.run [2] ?_
 simp only [go_sem, simprocAttr, sw0]
 refine OW.call' 4 rfl rfl rfl (by first | exact rfl | ((simp only [go_sem, List.toList_toArray, simprocAttr]); exact rfl)) ?_ (plan_first_ok N _ _ e5) ?_ ?_ ?_ ?_
 rfl
 · (refine okAll_intro ?_; (simp only [go_sem, sw2, List.length_set, List.length_replicate, and_true, true_and, Nat.le_refl, simprocAttr]; simp only [seg, go_sem, sw2, List.length_set, List.length_replicate, and_true, true_and, Nat.le_refl, simprocAttr]; done))
 exact .inr ⟨rfl, rfl⟩
 (simp only [go_sem, Nat.reduceLT])
 refine OW.run [2] ?_
 simp only [go_sem, simprocAttr, sw0]
 refine OW.nil (hK _ ?_)
 refine PW.ret ?_
 change PW.Ends _ _ _ _ _ _
 refine PW.Ends.intro (.inr rfl) ?_
 simp only [go_sem, simprocAttr, sw0]
 obtain rfl := Option.some.inj H
 refine RetOK.data' 4 (by exact trivial) ?_
 rfl

theorem plan_pointErr_ok (N : Nat) (Z10 : List (List Int)) (at_0 : Int) (at_1 : Int) (r : Int) (H : plan_pointErr N Z10 at_0 at_1 = some r) : CallOK Tryz.prog 53 [(.agg [(.list Z10.length (Z10.map L))]), (.agg [(I at_0), (I at_1)])] (.d (I r)) [] := by
 refine CallOK.of_PW Tryz.func53 rfl (by rw [Tryz.results53]) Tryz.ntmps53 Tryz.call53 ?_
 change PW _ _ _ _ _
 try simp only [go_sem, simprocAttr]
 unfold plan_pointErr at H
 refine PW.seq ?_
 refine PW.regionK fun K hK => OW.run [2, 3] ?_
 simp only [go_sem, simprocAttr, sw0]
 refine OW.nil (hK _ ?_)
 refine PW.seq ?_
 obtain ⟨x1, e1, H⟩ := bnd_some H
 obtain ⟨c1, H⟩ := chk_some H
 obtain ⟨x2, e2, H⟩ := bnd_some H
 refine PW.drawK 16 mixed (by kernel_rfl) fun K hK => ?_
 change FW _ _ _ _ _
 refine FW.toS [(5, .d (Bo (x1 && x2)))] [{ cells := [.d (.list Z10.length (Z10.map L))], e := 24 }, { cells := [.d (I at_0), .d (I at_1)], e := 58 }] ?_ (hK _ ?_)
 intro K hKE
 rcases Bool.eq_false_or_eq_true (x1) with ha0 | ha0
 ·
  try simp only [ha0, sb0, true_implies, false_implies, forall_const] at c1
  refine FW.run ?_
  (simp only [go_sem, simprocAttr, sw0, getD_mapF L Z10 0 default (by omega), ha0])
  repeat (refine And.intro (by first | omega | (intro hg; have hq := c1 (by first | exact hg | simpa using hg); first | omega | exact hq | (simp only [List.length_map]; omega)) | (first | omega | assumption | rfl | decide | (simp only [List.length_map, List.length_replicate, List.length_append, List.length_take, List.length_drop, List.length_set, List.length_cons, List.length_nil, Nat.zero_add, Int.toNat_natCast] at *; omega) | (simp only [List.length_map, List.length_replicate, List.length_append, List.length_take, List.length_drop, List.length_set, List.length_cons, List.length_nil, Nat.zero_add, Int.toNat_natCast]; done) | trivial)) ?_)
  refine FW.call' 4 rfl rfl rfl (by first | exact rfl | ((simp only [go_sem, List.toList_toArray, simprocAttr]); exact rfl)) ?_ (plan_within_ok N _ _ _ _ e1) ?_ ?_ ?_ ?_
  · (first | (rfl; done) | (first | rfl | (simp only [go_sem, sw1, simprocAttr, ha0, Bool.and_true, Bool.true_and, Bool.and_false, Bool.false_and, Bool.or_true, Bool.true_or, Bool.or_false, Bool.false_or, Bool.not_true, Bool.not_false]; done) | (simp only [go_sem, sw1, simprocAttr, ha0, Bool.and_true, Bool.true_and, Bool.and_false, Bool.false_and, Bool.or_true, Bool.true_or, Bool.or_false, Bool.false_or, Bool.not_true, Bool.not_false]; rfl) | (simp only [go_sem, sw1, simprocAttr, ha0, Bool.and_true, Bool.true_and, Bool.and_false, Bool.false_and, Bool.or_true, Bool.true_or, Bool.or_false, Bool.false_or, Bool.not_true, Bool.not_false]; simp only [seg, asD, go_sem, sw1, simprocAttr, ha0, Bool.and_true, Bool.true_and, Bool.and_false, Bool.false_and, Bool.or_true, Bool.true_or, Bool.or_false, Bool.false_or, Bool.not_true, Bool.not_false]; done) | (simp only [go_sem, sw1, simprocAttr, ha0, Bool.and_true, Bool.true_and, Bool.and_false, Bool.false_and, Bool.or_true, Bool.true_or, Bool.or_false, Bool.false_or, Bool.not_true, Bool.not_false]; simp only [seg, asD, go_sem, sw1, simprocAttr, ha0, Bool.and_true, Bool.true_and, Bool.and_false, Bool.false_and, Bool.or_true, Bool.true_or, Bool.or_false, Bool.false_or, Bool.not_true, Bool.not_false]; rfl) | ((try simp only [go_sem, sw1, simprocAttr, ha0, Bool.and_true, Bool.true_and, Bool.and_false, Bool.false_and, Bool.or_true, Bool.true_or, Bool.or_false, Bool.false_or, Bool.not_true, Bool.not_false]); (repeat' (first | rfl | (refine list_congr ?_; simp only [List.length_take, List.length_drop, List.length_set, List.length_replicate] <;> omega) | (refine congr (congrArg List.cons ?_) ?_) | (refine congrArg D.agg ?_) | (refine congrArg D.tup ?_) | (refine congrArg D.ref ?_) | (refine congrArg (D.list _) ?_) | (refine congrArg (D.clo _) ?_))))))
  exact okD_all rfl
  exact .inl rfl
  (simp only [go_sem, Nat.reduceLT])
  refine FW.run ?_
  (simp only [go_sem, simprocAttr, sw0, getD_mapF L Z10 0 default (by omega), ha0])
  repeat (refine And.intro (by first | omega | (intro hg; have hq := c1 (by first | exact hg | simpa using hg); first | omega | exact hq | (simp only [List.length_map]; omega)) | (first | omega | assumption | rfl | decide | (simp only [List.length_map, List.length_replicate, List.length_append, List.length_take, List.length_drop, List.length_set, List.length_cons, List.length_nil, Nat.zero_add, Int.toNat_natCast] at *; omega) | (simp only [List.length_map, List.length_replicate, List.length_append, List.length_take, List.length_drop, List.length_set, List.length_cons, List.length_nil, Nat.zero_add, Int.toNat_natCast]; done) | trivial)) ?_)
  refine FW.nil ?_
  change OW _ _ _ _ _ _
  refine OW.run [5] ?_
  (simp only [go_sem, simprocAttr, sw0, getD_mapF L Z10 0 default (by omega), ha0])
  repeat (refine And.intro (by first | omega | (intro hg; have hq := c1 (by first | exact hg | simpa using hg); first | omega | exact hq | (simp only [List.length_map]; omega)) | (first | omega | assumption | rfl | decide | (simp only [List.length_map, List.length_replicate, List.length_append, List.length_take, List.length_drop, List.length_set, List.length_cons, List.length_nil, Nat.zero_add, Int.toNat_natCast] at *; omega) | (simp only [List.length_map, List.length_replicate, List.length_append, List.length_take, List.length_drop, List.length_set, List.length_cons, List.length_nil, Nat.zero_add, Int.toNat_natCast]; done) | trivial)) ?_)
  refine OW.callGh' 4 rfl rfl ?_ (fun hg => by first | rfl | (simp only [go_sem, ↓reduceIte]; rfl)) (fun hg => by (first | ((simp only [go_sem, List.toList_toArray, simprocAttr, ha0]); exact rfl) | exact rfl)) (fun hg => ?_) (fun hg => (plan_within_ok N _ _ _ _ (grd_t hg e2))) ?_ ?_ ?_ ?_
  · (first | rfl | (simp only [go_sem, simprocAttr, ha0]; done) | (simp only [go_sem, simprocAttr, ha0]; rfl))
  · first | (rfl; done) | (exfalso; simp only [ha0, sb0] at hg)
  · intro hg; first | (exact okD_all rfl; done) | (exfalso; simp only [ha0, sb0] at hg)
  exact .inl rfl
  (simp only [go_sem, Nat.reduceLT])
  refine OW.run [5] ?_
  (simp only [go_sem, simprocAttr, sw0, getD_mapF L Z10 0 default (by omega), ha0])
  repeat (refine And.intro (by first | omega | (intro hg; have hq := c1 (by first | exact hg | simpa using hg); first | omega | exact hq | (simp only [List.length_map]; omega)) | (first | omega | assumption | rfl | decide | (simp only [List.length_map, List.length_replicate, List.length_append, List.length_take, List.length_drop, List.length_set, List.length_cons, List.length_nil, Nat.zero_add, Int.toNat_natCast] at *; omega) | (simp only [List.length_map, List.length_replicate, List.length_append, List.length_take, List.length_drop, List.length_set, List.length_cons, List.length_nil, Nat.zero_add, Int.toNat_natCast]; done) | trivial)) ?_)
  refine OW.nil ((congrArg K ?_).mpr hKE)
  · (first | rfl | (simp only [go_sem, simprocAttr, ha0]; done) | (simp only [go_sem, simprocAttr, ha0]; rfl))
 ·
  try simp only [ha0, sb0, true_implies, false_implies, forall_const] at c1
  refine FW.run ?_
  (simp only [go_sem, simprocAttr, sw0, ha0])
  repeat (refine And.intro (by first | omega | (intro hg; have hq := c1 (by first | exact hg | simpa using hg); first | omega | exact hq | (simp only [List.length_map]; omega)) | (first | omega | assumption | rfl | decide | (simp only [List.length_map, List.length_replicate, List.length_append, List.length_take, List.length_drop, List.length_set, List.length_cons, List.length_nil, Nat.zero_add, Int.toNat_natCast] at *; omega) | (simp only [List.length_map, List.length_replicate, List.length_append, List.length_take, List.length_drop, List.length_set, List.length_cons, List.length_nil, Nat.zero_add, Int.toNat_natCast]; done) | trivial)) ?_)
  refine FW.call' 4 rfl rfl rfl (by first | exact rfl | ((simp only [go_sem, List.toList_toArray, simprocAttr]); exact rfl)) ?_ (plan_within_ok N _ _ _ _ e1) ?_ ?_ ?_ ?_
  · (first | (rfl; done) | (first | rfl | (simp only [go_sem, sw1, simprocAttr, ha0, Bool.and_true, Bool.true_and, Bool.and_false, Bool.false_and, Bool.or_true, Bool.true_or, Bool.or_false, Bool.false_or, Bool.not_true, Bool.not_false]; done) | (simp only [go_sem, sw1, simprocAttr, ha0, Bool.and_true, Bool.true_and, Bool.and_false, Bool.false_and, Bool.or_true, Bool.true_or, Bool.or_false, Bool.false_or, Bool.not_true, Bool.not_false]; rfl) | (simp only [go_sem, sw1, simprocAttr, ha0, Bool.and_true, Bool.true_and, Bool.and_false, Bool.false_and, Bool.or_true, Bool.true_or, Bool.or_false, Bool.false_or, Bool.not_true, Bool.not_false]; simp only [seg, asD, go_sem, sw1, simprocAttr, ha0, Bool.and_true, Bool.true_and, Bool.and_false, Bool.false_and, Bool.or_true, Bool.true_or, Bool.or_false, Bool.false_or, Bool.not_true, Bool.not_false]; done) | (simp only [go_sem, sw1, simprocAttr, ha0, Bool.and_true, Bool.true_and, Bool.and_false, Bool.false_and, Bool.or_true, Bool.true_or, Bool.or_false, Bool.false_or, Bool.not_true, Bool.not_false]; simp only [seg, asD, go_sem, sw1, simprocAttr, ha0, Bool.and_true, Bool.true_and, Bool.and_false, Bool.false_and, Bool.or_true, Bool.true_or, Bool.or_false, Bool.false_or, Bool.not_true, Bool.not_false]; rfl) | ((try simp only [go_sem, sw1, simprocAttr, ha0, Bool.and_true, Bool.true_and, Bool.and_false, Bool.false_and, Bool.or_true, Bool.true_or, Bool.or_false, Bool.false_or, Bool.not_true, Bool.not_false]); (repeat' (first | rfl | (refine list_congr ?_; simp only [List.length_take, List.length_drop, List.length_set, List.length_replicate] <;> omega) | (refine congr (congrArg List.cons ?_) ?_) | (refine congrArg D.agg ?_) | (refine congrArg D.tup ?_) | (refine congrArg D.ref ?_) | (refine congrArg (D.list _) ?_) | (refine congrArg (D.clo _) ?_))))))
  exact okD_all rfl
  exact .inl rfl
  (simp only [go_sem, Nat.reduceLT])
  refine FW.run ?_
  (simp only [go_sem, simprocAttr, sw0, ha0])
  repeat (refine And.intro (by first | omega | (intro hg; have hq := c1 (by first | exact hg | simpa using hg); first | omega | exact hq | (simp only [List.length_map]; omega)) | (first | omega | assumption | rfl | decide | (simp only [List.length_map, List.length_replicate, List.length_append, List.length_take, List.length_drop, List.length_set, List.length_cons, List.length_nil, Nat.zero_add, Int.toNat_natCast] at *; omega) | (simp only [List.length_map, List.length_replicate, List.length_append, List.length_take, List.length_drop, List.length_set, List.length_cons, List.length_nil, Nat.zero_add, Int.toNat_natCast]; done) | trivial)) ?_)
  refine FW.nil ?_
  change OW _ _ _ _ _ _
  refine OW.run [5] ?_
  (simp only [go_sem, simprocAttr, sw0, ha0])
  repeat (refine And.intro (by first | omega | (intro hg; have hq := c1 (by first | exact hg | simpa using hg); first | omega | exact hq | (simp only [List.length_map]; omega)) | (first | omega | assumption | rfl | decide | (simp only [List.length_map, List.length_replicate, List.length_append, List.length_take, List.length_drop, List.length_set, List.length_cons, List.length_nil, Nat.zero_add, Int.toNat_natCast] at *; omega) | (simp only [List.length_map, List.length_replicate, List.length_append, List.length_take, List.length_drop, List.length_set, List.length_cons, List.length_nil, Nat.zero_add, Int.toNat_natCast]; done) | trivial)) ?_)
  refine OW.callGh' 4 rfl rfl ?_ (fun hg => by first | rfl | (simp only [go_sem, ↓reduceIte]; rfl)) (fun hg => by (first | ((simp only [go_sem, List.toList_toArray, simprocAttr, ha0]); exact rfl) | exact rfl)) (fun hg => ?_) (fun hg => (plan_within_ok N _ _ _ _ (grd_t hg e2))) ?_ ?_ ?_ ?_
  · (first | rfl | (simp only [go_sem, simprocAttr, ha0]; done) | (simp only [go_sem, simprocAttr, ha0]; rfl))
  · first | ((((simp only [go_sem, sw1, simprocAttr]; try simp only [seg, go_sem, simprocAttr])); (repeat' (first | rfl | (refine list_congr ?_; simp only [List.length_take, List.length_drop, List.length_set, List.length_replicate] <;> omega) | (refine congr (congrArg List.cons ?_) ?_) | (refine congrArg D.agg ?_) | (refine congrArg D.tup ?_) | (refine congrArg D.ref ?_) | (refine congrArg (D.list _) ?_) | (refine congrArg (D.clo _) ?_)))); done) | (exfalso; simp only [ha0, sb0] at hg)
  · intro hg; first | ((first | exact trivial | exact okD_all rfl | (refine okAll_intro ?_; (first | (simp only [go_sem, sw2, List.length_set, List.length_replicate, and_true, true_and, Nat.le_refl, simprocAttr]; done) | (simp only [go_sem, sw2, List.length_set, List.length_replicate, and_true, true_and, Nat.le_refl, simprocAttr]; omega) | (simp only [go_sem, sw2, List.length_set, List.length_replicate, and_true, true_and, Nat.le_refl, simprocAttr]; simp only [seg, go_sem, sw2, List.length_set, List.length_replicate, and_true, true_and, Nat.le_refl, simprocAttr]; done) | (simp only [go_sem, sw2, List.length_set, List.length_replicate, and_true, true_and, Nat.le_refl, simprocAttr]; simp only [seg, go_sem, sw2, List.length_set, List.length_replicate, and_true, true_and, Nat.le_refl, simprocAttr]; omega) | (simp only [go_sem, sw2, List.length_set, List.length_replicate, and_true, true_and, Nat.le_refl, simprocAttr, List.length_take, List.length_drop]; omega) | (simp only [go_sem, sw2, List.length_append, List.length_map, List.length_cons, List.length_nil, List.length_set, List.length_replicate, and_true, true_and, Nat.le_refl, Nat.zero_add, simprocAttr]; done) | (simp only [go_sem, sw2, List.length_append, List.length_map, List.length_cons, List.length_nil, List.length_set, List.length_replicate, and_true, true_and, Nat.le_refl, Nat.zero_add, simprocAttr]; omega))) | (first | (simp only [go_sem, sw2, List.length_set, List.length_replicate, and_true, true_and, Nat.le_refl, simprocAttr]; done) | (simp only [go_sem, sw2, List.length_set, List.length_replicate, and_true, true_and, Nat.le_refl, simprocAttr]; omega) | (simp only [go_sem, sw2, List.length_set, List.length_replicate, and_true, true_and, Nat.le_refl, simprocAttr]; simp only [seg, go_sem, sw2, List.length_set, List.length_replicate, and_true, true_and, Nat.le_refl, simprocAttr]; done) | (simp only [go_sem, sw2, List.length_set, List.length_replicate, and_true, true_and, Nat.le_refl, simprocAttr]; simp only [seg, go_sem, sw2, List.length_set, List.length_replicate, and_true, true_and, Nat.le_refl, simprocAttr]; omega) | (simp only [go_sem, sw2, List.length_set, List.length_replicate, and_true, true_and, Nat.le_refl, simprocAttr, List.length_take, List.length_drop]; omega) | (simp only [go_sem, sw2, List.length_append, List.length_map, List.length_cons, List.length_nil, List.length_set, List.length_replicate, and_true, true_and, Nat.le_refl, Nat.zero_add, simprocAttr]; done) | (simp only [go_sem, sw2, List.length_append, List.length_map, List.length_cons, List.length_nil, List.length_set, List.length_replicate, and_true, true_and, Nat.le_refl, Nat.zero_add, simprocAttr]; omega))); done) | (exfalso; simp only [ha0, sb0] at hg)
  exact .inr rfl
  (simp only [go_sem, Nat.reduceLT])
  refine OW.run [5] ?_
  (simp only [go_sem, simprocAttr, sw0, ha0])
  repeat (refine And.intro (by first | omega | (intro hg; have hq := c1 (by first | exact hg | simpa using hg); first | omega | exact hq | (simp only [List.length_map]; omega)) | (first | omega | assumption | rfl | decide | (simp only [List.length_map, List.length_replicate, List.length_append, List.length_take, List.length_drop, List.length_set, List.length_cons, List.length_nil, Nat.zero_add, Int.toNat_natCast] at *; omega) | (simp only [List.length_map, List.length_replicate, List.length_append, List.length_take, List.length_drop, List.length_set, List.length_cons, List.length_nil, Nat.zero_add, Int.toNat_natCast]; done) | trivial)) ?_)
  refine OW.nil ((congrArg K ?_).mpr hKE)
  · (first | rfl | (simp only [go_sem, simprocAttr, ha0]; done) | (simp only [go_sem, simprocAttr, ha0]; rfl))
 clear hK K
 refine PW.seq ?_
 obtain ⟨x3, e3, H⟩ := bnd_some H
 refine PW.regionK fun K hK => OW.run [4] ?_
 simp only [go_sem, simprocAttr, sw0]
 refine OW.call' 4 rfl rfl rfl (by first | exact rfl | ((simp only [go_sem, List.toList_toArray, simprocAttr]); exact rfl)) ?_ (plan_unless_ok N _ _ _ e3) ?_ ?_ ?_ ?_
 rfl
 exact okD_all rfl
 exact .inl rfl
 (simp only [go_sem, Nat.reduceLT])
 refine OW.run [4] ?_
 simp only [go_sem, simprocAttr, sw0]
 refine OW.nil (hK _ ?_)
 refine PW.ret ?_
 change PW.Ends _ _ _ _ _ _
 refine PW.Ends.intro (.inr rfl) ?_
 simp only [go_sem, simprocAttr, sw0]
 obtain rfl := Option.some.inj H
 refine RetOK.data' 4 (by exact trivial) ?_
 rfl
end Go.Proofs.YtklejiafioalnaaGreat
