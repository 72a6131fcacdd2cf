import Derived.Test.YtklejiafioalnaaGreatZsBase
import Derived.Test.YtklejiafioalnaaGreatZsW0
import Derived.Test.YtklejiafioalnaaGreatZsW1
set_option linter.all false
namespace Go.Proofs.YtklejiafioalnaaGreat
open Go.PW Go.Sh

set_option maxRecDepth 20000
set_option maxHeartbeats 8000000
theorem plan_field_server_ok (N : Nat) (Zj : List (List Int)) (Zf : List (ByteArray × Int × Int × Int × Int × Int × Int)) (Zi : List (Int × Int)) (Zg : Int) (Zk : Int) (Zh : Int) (f_width : Int) (f_levels : List (List (Int × Bool))) (n : Int) (r : Int × Int × Bool) (H : plan_field_server N Zj Zf Zi Zg Zk Zh f_width f_levels n = some r) : CallOK Tryz.prog 55 [(.ref [(.list Zj.length (Zj.map L)), (.list Zf.length (Zf.flatMap (fun (x : ByteArray × Int × Int × Int × Int × Int × Int) => [(Sx x.1), (I x.2.1), (I x.2.2.1), (I x.2.2.2.1), (I x.2.2.2.2.1), (I x.2.2.2.2.2.1), (I x.2.2.2.2.2.2)]))), (.list Zi.length (Zi.flatMap (fun (x : Int × Int) => [(I x.1), (I x.2)]))), (I Zg), (I Zk), (I Zh), (I f_width), (.list f_levels.length (f_levels.map (fun (x : List (Int × Bool)) => (.list x.length (x.flatMap (fun (x : Int × Bool) => [(I x.1), (Bo x.2)]))))))]), (I n)] (.d (.tup [(I r.1), (.agg [(I r.2.1), (Bo r.2.2)])])) [] := by
 refine CallOK.of_PW Tryz.func55 rfl (by rw [Tryz.results55]) Tryz.ntmps55 Tryz.call55 ?_
 change PW _ _ _ _ _
 try simp only [go_sem, simprocAttr]
 unfold plan_field_server at H
 refine PW.seq ?_
 refine PW.regionK fun K hK => OW.run [0, 1, 5] ?_
 simp only [go_sem, simprocAttr, sw0]
 refine OW.nil (hK _ ?_)
 refine PW.seq ?_
 refine PW.regionK fun K hK => OW.run [0, 1, 5, 6] ?_
 simp only [go_sem, simprocAttr, sw0]
 refine OW.nil (hK _ ?_)
 refine PW.seq ?_
 refine PW.regionK fun K hK => OW.run [0, 1, 5, 6, 7] ?_
 simp only [go_sem, simprocAttr, sw0]
 refine OW.nil (hK _ ?_)
 refine PW.joinS (τ := Int × Int × Bool) [5, 6, 7] 2 (fun (cell, b1, b11) => [(7, .d (I cell))]) (fun (cell, b1, b11) => [{ cells := [.d (I (0 : Int)), .d (Bo false)], e := 106 }, { cells := [.d (I b1), .d (Bo b11)], e := 106 }]) _ _ r (by exact Nat.zero_le _) H ?_ ?_
 intro K_ H N1 hN1
 refine PW.seq ?_
 refine PW.regionK fun K hK => OW.run [1, 5, 6, 7, 13, 14, 15] ?_
 simp only [go_sem, simprocAttr, sw0]
 repeat (refine And.intro (by omega) ?_)
 refine OW.nil (hK _ ?_)
 refine PW.block ?_
 refine PW.loopS (σ := Int × Int × Int × Bool) [1, 5, 6, 7, 13, 14, 15] 2 (fun (cell1, t15, b12, b13) => [(7, .d (I cell1)), (15, .d (I t15))]) (fun (cell1, t15, b12, b13) => [{ cells := [.d (I (0 : Int)), .d (Bo false)], e := 106 }, { cells := [.d (I b12), .d (Bo b13)], e := 106 }]) (plan_field_server.b1 N f_levels n K_) r N ((-1 : Int), (0 : Int), (0 : Int), false) (by exact Nat.zero_le _) H (by (simp only [sw1, go_sem, simprocAttr]; done)) ?_
 rintro n_ ⟨cell1, t15, b12, b13⟩ H N2 hN2
 unfold plan_field_server.b1 at H
 try simp only [go_sem, simprocAttr]
 refine PW.seq ?_
 refine PW.regionK fun K hK => OW.run [1, 5, 6, 7, 13, 14, 15, 16] ?_
 simp only [go_sem, simprocAttr, sw0]
 refine OW.nil (hK _ ?_)
 refine PW.seq ?_
 refine PW.cond rfl (fun h3 => ?_) (fun h3 => ?_)
 replace H := br_t h3 H
 refine PW.skip ?_
 refine PW.seq ?_
 refine PW.block ?_
 refine PW.seq ?_
 obtain ⟨c4, H⟩ := chk_some H
 refine PW.regionK fun K hK => OW.run [1, 5, 6, 7, 8, 9, 13, 14, 15] ?_
 (simp only [go_sem, simprocAttr, sw0, getD_mapF (fun (x : List (Int × Bool)) => (.list x.length (x.flatMap (fun (x : Int × Bool) => [(I x.1), (Bo x.2)])))) f_levels t15.toNat default (by omega)])
 repeat (refine And.intro (by omega) ?_)
 refine OW.nil (hK _ ?_)
 refine PW.seq ?_
 obtain ⟨c5, H⟩ := chk_some H
 obtain ⟨c6, H⟩ := chk_some H
 refine PW.drawK 17 mixed (by kernel_rfl) fun K hK => ?_
 change FW _ _ _ _ _
 refine FW.toS [(1, .d (I n)), (5, .ptr 0 0), (6, .ptr 1 0), (7, .d (I cell1)), (8, .d (I t15)), (9, .d (.list (f_levels.getD t15.toNat default).length ((f_levels.getD t15.toNat default).flatMap (fun (x : Int × Bool) => [(I x.1), (Bo x.2)])))), (13, .d (.list f_levels.length (f_levels.map (fun (x : List (Int × Bool)) => (.list x.length (x.flatMap (fun (x : Int × Bool) => [(I x.1), (Bo x.2)]))))))), (14, .d (I (f_levels.length : Int))), (15, .d (I t15)), (39, .d (Bo ((((f_levels.getD t15.toNat default).getD n.toNat default).2) && ((!b13) || (decide (((f_levels.getD t15.toNat default).getD n.toNat default).1 > b12))))))] [{ cells := [.d (I (0 : Int)), .d (Bo false)], e := 106 }, { cells := [.d (I b12), .d (Bo b13)], e := 106 }] ?_ (hK _ ?_)
 intro K hKE
 rcases Bool.eq_false_or_eq_true ((((f_levels.getD t15.toNat default).getD n.toNat default).2)) with ha0 | ha0
 rcases Bool.eq_false_or_eq_true (b13) with ha1 | ha1
 ·
  try simp only [ha0, ha1, sb0, true_implies, false_implies, forall_const] at c6
  refine FW.run ?_
  (simp only [go_sem, simprocAttr, sw0, flatMap_length 2 (fun (x : Int × Bool) => [(I x.1), (Bo x.2)]) (fun _ => rfl), sub_el 2 (fun (x : Int × Bool) => [(I x.1), (Bo x.2)]) (fun _ => rfl) (f_levels.getD t15.toNat default) n.toNat (by omega), ha0, ha1])
  repeat (refine And.intro (by first | omega | (intro hg; have hq := c6 (by first | exact hg | simpa using hg); first | omega | exact hq | (simp only [List.length_map]; omega)) | (first | omega | assumption | rfl | decide | (simp only [List.length_map, List.length_replicate, List.length_append, List.length_take, List.length_drop, List.length_set, List.length_cons, List.length_nil, Nat.zero_add, Int.toNat_natCast] at *; omega) | (simp only [List.length_map, List.length_replicate, List.length_append, List.length_take, List.length_drop, List.length_set, List.length_cons, List.length_nil, Nat.zero_add, Int.toNat_natCast]; done) | trivial)) ?_)
  refine FW.nil ?_
  change OW _ _ _ _ _ _
  refine OW.run [1, 5, 6, 7, 8, 9, 13, 14, 15, 39] ?_
  (simp only [go_sem, simprocAttr, sw0, flatMap_length 2 (fun (x : Int × Bool) => [(I x.1), (Bo x.2)]) (fun _ => rfl), sub_el 2 (fun (x : Int × Bool) => [(I x.1), (Bo x.2)]) (fun _ => rfl) (f_levels.getD t15.toNat default) n.toNat (by omega), ha0, ha1])
  repeat (refine And.intro (by first | omega | (intro hg; have hq := c6 (by first | exact hg | simpa using hg); first | omega | exact hq | (simp only [List.length_map]; omega)) | (first | omega | assumption | rfl | decide | (simp only [List.length_map, List.length_replicate, List.length_append, List.length_take, List.length_drop, List.length_set, List.length_cons, List.length_nil, Nat.zero_add, Int.toNat_natCast] at *; omega) | (simp only [List.length_map, List.length_replicate, List.length_append, List.length_take, List.length_drop, List.length_set, List.length_cons, List.length_nil, Nat.zero_add, Int.toNat_natCast]; done) | trivial)) ?_)
  refine OW.nil ((congrArg K ?_).mpr hKE)
  · (first | rfl | (simp only [go_sem, simprocAttr, ha0, ha1]; done) | (simp only [go_sem, simprocAttr, ha0, ha1]; rfl))
 ·
  try simp only [ha0, ha1, sb0, true_implies, false_implies, forall_const] at c6
  refine FW.run ?_
  (simp only [go_sem, simprocAttr, sw0, flatMap_length 2 (fun (x : Int × Bool) => [(I x.1), (Bo x.2)]) (fun _ => rfl), sub_el 2 (fun (x : Int × Bool) => [(I x.1), (Bo x.2)]) (fun _ => rfl) (f_levels.getD t15.toNat default) n.toNat (by omega), ha0, ha1])
  repeat (refine And.intro (by first | omega | (intro hg; have hq := c6 (by first | exact hg | simpa using hg); first | omega | exact hq | (simp only [List.length_map]; omega)) | (first | omega | assumption | rfl | decide | (simp only [List.length_map, List.length_replicate, List.length_append, List.length_take, List.length_drop, List.length_set, List.length_cons, List.length_nil, Nat.zero_add, Int.toNat_natCast] at *; omega) | (simp only [List.length_map, List.length_replicate, List.length_append, List.length_take, List.length_drop, List.length_set, List.length_cons, List.length_nil, Nat.zero_add, Int.toNat_natCast]; done) | trivial)) ?_)
  refine FW.nil ?_
  change OW _ _ _ _ _ _
  refine OW.run [1, 5, 6, 7, 8, 9, 13, 14, 15, 39] ?_
  (simp only [go_sem, simprocAttr, sw0, flatMap_length 2 (fun (x : Int × Bool) => [(I x.1), (Bo x.2)]) (fun _ => rfl), sub_el 2 (fun (x : Int × Bool) => [(I x.1), (Bo x.2)]) (fun _ => rfl) (f_levels.getD t15.toNat default) n.toNat (by omega), ha0, ha1])
  repeat (refine And.intro (by first | omega | (intro hg; have hq := c6 (by first | exact hg | simpa using hg); first | omega | exact hq | (simp only [List.length_map]; omega)) | (first | omega | assumption | rfl | decide | (simp only [List.length_map, List.length_replicate, List.length_append, List.length_take, List.length_drop, List.length_set, List.length_cons, List.length_nil, Nat.zero_add, Int.toNat_natCast] at *; omega) | (simp only [List.length_map, List.length_replicate, List.length_append, List.length_take, List.length_drop, List.length_set, List.length_cons, List.length_nil, Nat.zero_add, Int.toNat_natCast]; done) | trivial)) ?_)
  refine OW.nil ((congrArg K ?_).mpr hKE)
  · (first | rfl | (simp only [go_sem, simprocAttr, ha0, ha1]; done) | (simp only [go_sem, simprocAttr, ha0, ha1]; rfl))
 ·
  try simp only [ha0, sb0, true_implies, false_implies, forall_const] at c6
  refine FW.run ?_
  (simp only [go_sem, simprocAttr, sw0, flatMap_length 2 (fun (x : Int × Bool) => [(I x.1), (Bo x.2)]) (fun _ => rfl), sub_el 2 (fun (x : Int × Bool) => [(I x.1), (Bo x.2)]) (fun _ => rfl) (f_levels.getD t15.toNat default) n.toNat (by omega), ha0])
  repeat (refine And.intro (by first | omega | (intro hg; have hq := c6 (by first | exact hg | simpa using hg); first | omega | exact hq | (simp only [List.length_map]; omega)) | (first | omega | assumption | rfl | decide | (simp only [List.length_map, List.length_replicate, List.length_append, List.length_take, List.length_drop, List.length_set, List.length_cons, List.length_nil, Nat.zero_add, Int.toNat_natCast] at *; omega) | (simp only [List.length_map, List.length_replicate, List.length_append, List.length_take, List.length_drop, List.length_set, List.length_cons, List.length_nil, Nat.zero_add, Int.toNat_natCast]; done) | trivial)) ?_)
  refine FW.nil ?_
  change OW _ _ _ _ _ _
  refine OW.run [1, 5, 6, 7, 8, 9, 13, 14, 15, 39] ?_
  (simp only [go_sem, simprocAttr, sw0, flatMap_length 2 (fun (x : Int × Bool) => [(I x.1), (Bo x.2)]) (fun _ => rfl), sub_el 2 (fun (x : Int × Bool) => [(I x.1), (Bo x.2)]) (fun _ => rfl) (f_levels.getD t15.toNat default) n.toNat (by omega), ha0])
  repeat (refine And.intro (by first | omega | (intro hg; have hq := c6 (by first | exact hg | simpa using hg); first | omega | exact hq | (simp only [List.length_map]; omega)) | (first | omega | assumption | rfl | decide | (simp only [List.length_map, List.length_replicate, List.length_append, List.length_take, List.length_drop, List.length_set, List.length_cons, List.length_nil, Nat.zero_add, Int.toNat_natCast] at *; omega) | (simp only [List.length_map, List.length_replicate, List.length_append, List.length_take, List.length_drop, List.length_set, List.length_cons, List.length_nil, Nat.zero_add, Int.toNat_natCast]; done) | trivial)) ?_)
  refine OW.nil ((congrArg K ?_).mpr hKE)
  · (first | rfl | (simp only [go_sem, simprocAttr, ha0]; done) | (simp only [go_sem, simprocAttr, ha0]; rfl))
 clear hK K
 refine PW.cond rfl (fun h7 => ?_) (fun h7 => ?_)
 replace H := br_t h7 H
 obtain ⟨c8, H⟩ := chk_some H
 refine PW.drawK 6 mixed (by kernel_rfl) fun K hK => ?_
 change FW _ _ _ _ _
 refine FW.run ?_
 (simp only [go_sem, simprocAttr, sw0, flatMap_length 2 (fun (x : Int × Bool) => [(I x.1), (Bo x.2)]) (fun _ => rfl), sub_el 2 (fun (x : Int × Bool) => [(I x.1), (Bo x.2)]) (fun _ => rfl) (f_levels.getD t15.toNat default) n.toNat (by omega)])
 repeat (refine And.intro (by omega) ?_)
 refine FW.nil ?_
 change OW _ _ _ _ _ _
 refine OW.run [1, 5, 6, 7, 13, 14, 15] ?_
 (simp only [go_sem, simprocAttr, sw0, flatMap_length 2 (fun (x : Int × Bool) => [(I x.1), (Bo x.2)]) (fun _ => rfl), sub_el 2 (fun (x : Int × Bool) => [(I x.1), (Bo x.2)]) (fun _ => rfl) (f_levels.getD t15.toNat default) n.toNat (by omega)])
 refine OW.nil (hK _ ?_)
 refine PW.regionK fun K hK => OW.run [1, 5, 6, 7, 13, 14, 15] ?_
 simp only [go_sem, simprocAttr, sw0]
 refine OW.nil (hK _ ?_)
 refine hN2 [] (t15, w64 (t15 + (1 : Int)), ((f_levels.getD t15.toNat default).getD n.toNat default).1, ((f_levels.getD t15.toNat default).getD n.toNat default).2) _ H (by exact trivial) ?_
 simp only [sw1, go_sem, simprocAttr]
 replace H := br_f h7 H
 refine PW.skip ?_
 refine PW.regionK fun K hK => OW.run [1, 5, 6, 7, 13, 14, 15] ?_
 simp only [go_sem, simprocAttr, sw0]
 refine OW.nil (hK _ ?_)
 refine hN2 [] (cell1, w64 (t15 + (1 : Int)), b12, b13) _ H (by exact trivial) ?_
 simp only [sw1, go_sem, simprocAttr]
 replace H := br_f h3 H
 refine PW.exit ?_
 refine hN1 [] (cell1, b12, b13) _ H (by exact trivial) ?_
 simp only [sw1, go_sem, simprocAttr]
 rintro ⟨cell, b1, b11⟩ H
 try simp only [go_sem, simprocAttr]
 refine PW.seq ?_
 refine PW.drawK 3 mixed (by kernel_rfl) fun K hK => ?_
 change FW _ _ _ _ _
 refine FW.run ?_
 simp only [go_sem, simprocAttr, sw0]
 refine FW.nil ?_
 change OW _ _ _ _ _ _
 refine OW.run [4, 5] ?_
 simp only [go_sem, simprocAttr, sw0]
 refine OW.nil (hK _ ?_)
 refine PW.ret ?_
 change PW.Ends _ _ _ _ _ _
 refine PW.Ends.intro (.inr rfl) ?_
 simp only [go_sem, simprocAttr, sw0]
 obtain rfl := Option.some.inj H
 refine RetOK.data' 4 (by (refine okAll_intro ?_; (simp only [go_sem, sw2, List.length_set, List.length_replicate, and_true, true_and, Nat.le_refl, simprocAttr]; done))) ?_
 rfl

theorem base_Within_ok (N : Nat) (n : Int) (lo : Int) (hi : Int) (r : Bool) (H : base_Within N n lo hi = some r) : CallOK Tryz.prog 29 [(I n), (I lo), (I hi)] (.d (Bo r)) [] := by
 refine CallOK.of_PW Tryz.func29 rfl (by rw [Tryz.results29]) Tryz.ntmps29 Tryz.call29 ?_
 change PW _ _ _ _ _
 try simp only [go_sem, simprocAttr]
 unfold base_Within at H
 refine PW.seq ?_
 refine PW.regionK fun K hK => OW.run [0, 1, 2] ?_
 simp only [go_sem, simprocAttr, sw0]
 refine OW.nil (hK _ ?_)
 refine PW.seq ?_
 refine PW.regionK fun K hK => OW.run [6] ?_
 simp only [go_sem, simprocAttr, sw0]
 refine OW.nil (hK _ ?_)
 refine PW.ret ?_
 change PW.Ends _ _ _ _ _ _
 refine PW.Ends.intro (.inr rfl) ?_
 simp only [go_sem, simprocAttr, sw0]
 obtain rfl := Option.some.inj H
 refine RetOK.data' 4 (by exact trivial) ?_
 rfl

theorem ref09_CheckRaster_ok (N : Nat) (Z10 : List (List Int)) (r : Int × Int × Int) (H : ref09_CheckRaster N Z10 = some r) : CallOK Tryz.prog 90 [(.agg [(.list Z10.length (Z10.map L))])] (.d (.tup [(.agg [(I r.1), (I r.2.1)]), (I r.2.2)])) [] := by
 refine CallOK.of_PW Tryz.func90 rfl (by rw [Tryz.results90]) Tryz.ntmps90 Tryz.call90 ?_
 change PW _ _ _ _ _
 try simp only [go_sem, simprocAttr]
 unfold ref09_CheckRaster at H
 refine PW.seq ?_
 refine PW.regionK fun K hK => OW.run [1, 2] ?_
 simp only [go_sem, simprocAttr, sw0]
 refine OW.nil (hK _ ?_)
 refine PW.seq ?_
 refine PW.seq ?_
 refine PW.regionK fun K hK => OW.run [1, 2, 9] ?_
 simp only [go_sem, simprocAttr, sw0]
 repeat (refine And.intro (by omega) ?_)
 refine OW.nil (hK _ ?_)
 refine PW.cond rfl (fun h1 => ?_) (fun h1 => ?_)
 replace H := br_t h1 H
 refine PW.seq ?_
 refine PW.regionK fun K hK => OW.run [2, 3] ?_
 simp only [go_sem, simprocAttr, sw0]
 refine OW.nil (hK _ ?_)
 refine PW.ret ?_
 change PW.Ends _ _ _ _ _ _
 refine PW.Ends.intro (.inr rfl) ?_
 simp only [go_sem, simprocAttr, sw0]
 obtain rfl := Option.some.inj H
 refine RetOK.data' 4 (by (refine okAll_intro ?_; (simp only [go_sem, sw2, List.length_set, List.length_replicate, and_true, true_and, Nat.le_refl, simprocAttr]; done))) ?_
 rfl
 replace H := br_f h1 H
 refine PW.skip ?_
 refine PW.seq ?_
 refine PW.seq ?_
 refine PW.regionK fun K hK => OW.run [1, 2, 14] ?_
 simp only [go_sem, simprocAttr, sw0]
 repeat (refine And.intro (by omega) ?_)
 refine OW.nil (hK _ ?_)
 refine PW.cond rfl (fun h2 => ?_) (fun h2 => ?_)
 replace H := br_t h2 H
 refine PW.seq ?_
 refine PW.regionK fun K hK => OW.run [2, 3] ?_
 simp only [go_sem, simprocAttr, sw0]
 refine OW.nil (hK _ ?_)
 refine PW.ret ?_
 change PW.Ends _ _ _ _ _ _
 refine PW.Ends.intro (.inr rfl) ?_
 simp only [go_sem, simprocAttr, sw0]
 obtain rfl := Option.some.inj H
 refine RetOK.data' 4 (by (refine okAll_intro ?_; (simp only [go_sem, sw2, List.length_set, List.length_replicate, and_true, true_and, Nat.le_refl, simprocAttr]; done))) ?_
 rfl
 replace H := br_f h2 H
 refine PW.skip ?_
 refine PW.joinS (τ := Unit) [2] 2 (fun _ => []) (fun _ => [{ cells := [.d (.list Z10.length (Z10.map L))], e := 24 }, { cells := [.d (I (0 : Int)), .d (I (0 : Int))], e := 58 }]) _ _ r (by exact Nat.zero_le _) H ?_ ?_
 intro K_ H N3 hN3
 refine PW.seq ?_
 refine PW.regionK fun K hK => OW.run [1, 2, 4] ?_
 simp only [go_sem, simprocAttr, sw0]
 refine OW.nil (hK _ ?_)
 refine PW.block ?_
 refine PW.loopS (σ := Int) [1, 2, 4] 2 (fun i => [(4, .d (I i))]) (fun i => [{ cells := [.d (.list Z10.length (Z10.map L))], e := 24 }, { cells := [.d (I (0 : Int)), .d (I (0 : Int))], e := 58 }]) (ref09_CheckRaster.b1 N Z10 K_) r N (0 : Int) (by exact Nat.zero_le _) H (by (simp only [sw1, go_sem, simprocAttr]; done)) ?_
 rintro n i H N4 hN4
 unfold ref09_CheckRaster.b1 at H
 try simp only [go_sem, simprocAttr]
 refine PW.seq ?_
 refine PW.seq ?_
 refine PW.regionK fun K hK => OW.run [1, 2, 4, 20] ?_
 simp only [go_sem, simprocAttr, sw0]
 repeat (refine And.intro (by omega) ?_)
 refine OW.nil (hK _ ?_)
 refine PW.cond rfl (fun h5 => ?_) (fun h5 => ?_)
 replace H := br_t h5 H
 refine PW.skip ?_
 refine PW.joinS (τ := Unit) [1, 2, 4] 2 (fun _ => []) (fun _ => [{ cells := [.d (.list Z10.length (Z10.map L))], e := 24 }, { cells := [.d (I (0 : Int)), .d (I (0 : Int))], e := 58 }]) _ _ r (by exact Nat.zero_le _) H ?_ ?_
 intro K_1 H N6 hN6
 refine PW.block ?_
 refine PW.seq ?_
 refine PW.seq ?_
 obtain ⟨c7, H⟩ := chk_some H
 obtain ⟨c8, H⟩ := chk_some H
 obtain ⟨c9, H⟩ := chk_some H
 refine PW.drawK 19 mixed (by kernel_rfl) fun K hK => ?_
 change FW _ _ _ _ _
 refine FW.toS [(1, .ptr 0 0), (2, .ptr 1 0), (4, .d (I i)), (43, .d (Bo ((((Z10.getD i.toNat default).length : Int) == (0 : Int)) || (((Z10.getD i.toNat default).length : Int) != ((Z10.getD 0 default).length : Int)))))] [{ cells := [.d (.list Z10.length (Z10.map L))], e := 24 }, { cells := [.d (I (0 : Int)), .d (I (0 : Int))], e := 58 }] ?_ (hK _ ?_)
 intro K hKE
 rcases Bool.eq_false_or_eq_true ((((Z10.getD i.toNat default).length : Int) == (0 : Int))) with ha0 | ha0
 ·
  try simp only [ha0, sb0, true_implies, false_implies, forall_const] at c8
  try simp only [ha0, sb0, true_implies, false_implies, forall_const] at c9
  refine FW.run ?_
  (simp only [go_sem, simprocAttr, sw0, getD_mapF L Z10 i.toNat default (by omega), ha0])
  repeat (refine And.intro (by first | omega | (intro hg; have hq := c8 (by first | exact hg | simpa using hg); first | omega | exact hq | (simp only [List.length_map]; omega)) | (intro hg; have hq := c9 (by first | exact hg | simpa using hg); first | omega | exact hq | (simp only [List.length_map]; omega)) | (first | omega | assumption | rfl | decide | (simp only [List.length_map, List.length_replicate, List.length_append, List.length_take, List.length_drop, List.length_set, List.length_cons, List.length_nil, Nat.zero_add, Int.toNat_natCast] at *; omega) | (simp only [List.length_map, List.length_replicate, List.length_append, List.length_take, List.length_drop, List.length_set, List.length_cons, List.length_nil, Nat.zero_add, Int.toNat_natCast]; done) | trivial)) ?_)
  refine FW.nil ?_
  change OW _ _ _ _ _ _
  refine OW.run [1, 2, 4, 43] ?_
  (simp only [go_sem, simprocAttr, sw0, getD_mapF L Z10 i.toNat default (by omega), ha0])
  repeat (refine And.intro (by first | omega | (intro hg; have hq := c8 (by first | exact hg | simpa using hg); first | omega | exact hq | (simp only [List.length_map]; omega)) | (intro hg; have hq := c9 (by first | exact hg | simpa using hg); first | omega | exact hq | (simp only [List.length_map]; omega)) | (first | omega | assumption | rfl | decide | (simp only [List.length_map, List.length_replicate, List.length_append, List.length_take, List.length_drop, List.length_set, List.length_cons, List.length_nil, Nat.zero_add, Int.toNat_natCast] at *; omega) | (simp only [List.length_map, List.length_replicate, List.length_append, List.length_take, List.length_drop, List.length_set, List.length_cons, List.length_nil, Nat.zero_add, Int.toNat_natCast]; done) | trivial)) ?_)
  refine OW.nil ((congrArg K ?_).mpr hKE)
  · (first | rfl | (simp only [go_sem, simprocAttr, ha0]; done) | (simp only [go_sem, simprocAttr, ha0]; rfl))
 ·
  try simp only [ha0, sb0, true_implies, false_implies, forall_const] at c8
  try simp only [ha0, sb0, true_implies, false_implies, forall_const] at c9
  refine FW.run ?_
  (simp only [go_sem, simprocAttr, sw0, getD_mapF L Z10 i.toNat default (by omega), getD_mapF L Z10 0 default (by omega), ha0])
  repeat (refine And.intro (by first | omega | (intro hg; have hq := c8 (by first | exact hg | simpa using hg); first | omega | exact hq | (simp only [List.length_map]; omega)) | (intro hg; have hq := c9 (by first | exact hg | simpa using hg); first | omega | exact hq | (simp only [List.length_map]; omega)) | (first | omega | assumption | rfl | decide | (simp only [List.length_map, List.length_replicate, List.length_append, List.length_take, List.length_drop, List.length_set, List.length_cons, List.length_nil, Nat.zero_add, Int.toNat_natCast] at *; omega) | (simp only [List.length_map, List.length_replicate, List.length_append, List.length_take, List.length_drop, List.length_set, List.length_cons, List.length_nil, Nat.zero_add, Int.toNat_natCast]; done) | trivial)) ?_)
  refine FW.nil ?_
  change OW _ _ _ _ _ _
  refine OW.run [1, 2, 4, 43] ?_
  (simp only [go_sem, simprocAttr, sw0, getD_mapF L Z10 i.toNat default (by omega), getD_mapF L Z10 0 default (by omega), ha0])
  repeat (refine And.intro (by first | omega | (intro hg; have hq := c8 (by first | exact hg | simpa using hg); first | omega | exact hq | (simp only [List.length_map]; omega)) | (intro hg; have hq := c9 (by first | exact hg | simpa using hg); first | omega | exact hq | (simp only [List.length_map]; omega)) | (first | omega | assumption | rfl | decide | (simp only [List.length_map, List.length_replicate, List.length_append, List.length_take, List.length_drop, List.length_set, List.length_cons, List.length_nil, Nat.zero_add, Int.toNat_natCast] at *; omega) | (simp only [List.length_map, List.length_replicate, List.length_append, List.length_take, List.length_drop, List.length_set, List.length_cons, List.length_nil, Nat.zero_add, Int.toNat_natCast]; done) | trivial)) ?_)
  refine OW.nil ((congrArg K ?_).mpr hKE)
  · (first | rfl | (simp only [go_sem, simprocAttr, ha0]; done) | (simp only [go_sem, simprocAttr, ha0]; rfl))
 clear hK K
 refine PW.cond rfl (fun h10 => ?_) (fun h10 => ?_)
 replace H := br_t h10 H
 refine PW.seq ?_
 refine PW.regionK fun K hK => OW.run [2, 3] ?_
 simp only [go_sem, simprocAttr, sw0]
 refine OW.nil (hK _ ?_)
 refine PW.ret ?_
 change PW.Ends _ _ _ _ _ _
 refine PW.Ends.intro (.inr rfl) ?_
 simp only [go_sem, simprocAttr, sw0]
 obtain rfl := Option.some.inj H
 refine RetOK.data' 4 (by (refine okAll_intro ?_; (simp only [go_sem, sw2, List.length_set, List.length_replicate, and_true, true_and, Nat.le_refl, simprocAttr]; done))) ?_
 rfl
 replace H := br_f h10 H
 refine PW.skip ?_
 refine PW.seq ?_
 refine PW.seq ?_
 obtain ⟨c11, H⟩ := chk_some H
 refine PW.regionK fun K hK => OW.run [1, 2, 4, 52] ?_
 (simp only [go_sem, simprocAttr, sw0, getD_mapF L Z10 i.toNat default (by omega)])
 repeat (refine And.intro (by omega) ?_)
 refine OW.nil (hK _ ?_)
 refine PW.cond rfl (fun h12 => ?_) (fun h12 => ?_)
 replace H := br_t h12 H
 refine PW.seq ?_
 refine PW.regionK fun K hK => OW.run [2, 3] ?_
 simp only [go_sem, simprocAttr, sw0]
 refine OW.nil (hK _ ?_)
 refine PW.ret ?_
 change PW.Ends _ _ _ _ _ _
 refine PW.Ends.intro (.inr rfl) ?_
 simp only [go_sem, simprocAttr, sw0]
 obtain rfl := Option.some.inj H
 refine RetOK.data' 4 (by (refine okAll_intro ?_; (simp only [go_sem, sw2, List.length_set, List.length_replicate, and_true, true_and, Nat.le_refl, simprocAttr]; done))) ?_
 rfl
 replace H := br_f h12 H
 refine PW.skip ?_
 refine PW.seq ?_
 refine PW.regionK fun K hK => OW.run [1, 2, 4, 5] ?_
 simp only [go_sem, simprocAttr, sw0]
 refine OW.nil (hK _ ?_)
 refine PW.block ?_
 refine PW.loopS (σ := Int) [1, 2, 4, 5] 2 (fun k => [(5, .d (I k))]) (fun k => [{ cells := [.d (.list Z10.length (Z10.map L))], e := 24 }, { cells := [.d (I (0 : Int)), .d (I (0 : Int))], e := 58 }]) (ref09_CheckRaster.b2 N Z10 i K_1) r N (0 : Int) (by exact Nat.zero_le _) H (by (simp only [sw1, go_sem, simprocAttr]; done)) ?_
 rintro n k H N13 hN13
 unfold ref09_CheckRaster.b2 at H
 try simp only [go_sem, simprocAttr]
 refine PW.seq ?_
 refine PW.seq ?_
 obtain ⟨c14, H⟩ := chk_some H
 refine PW.regionK fun K hK => OW.run [1, 2, 4, 5, 62] ?_
 (simp only [go_sem, simprocAttr, sw0, getD_mapF L Z10 i.toNat default (by omega)])
 repeat (refine And.intro (by omega) ?_)
 refine OW.nil (hK _ ?_)
 refine PW.cond rfl (fun h15 => ?_) (fun h15 => ?_)
 replace H := br_t h15 H
 refine PW.skip ?_
 refine PW.seq ?_
 refine PW.block ?_
 refine PW.seq ?_
 obtain ⟨c16, H⟩ := chk_some H
 obtain ⟨c17, H⟩ := chk_some H
 obtain ⟨x1, e1, H⟩ := bnd_some H
 refine PW.regionK fun K hK => OW.run [1, 2, 4, 5, 74] ?_
 (simp only [go_sem, simprocAttr, sw0, getD_mapF L Z10 i.toNat default (by omega)])
 repeat (refine And.intro (by omega) ?_)
 refine OW.call' 4 rfl rfl rfl (by first | exact rfl | ((simp only [go_sem, List.toList_toArray, simprocAttr]); exact rfl)) ?_ (base_Within_ok N _ _ _ _ e1) ?_ ?_ ?_ ?_
 rfl
 exact okD_all rfl
 exact .inl rfl
 (simp only [go_sem, Nat.reduceLT])
 refine OW.run [1, 2, 4, 5, 74] ?_
 (simp only [go_sem, simprocAttr, sw0, getD_mapF L Z10 i.toNat default (by omega)])
 refine OW.nil (hK _ ?_)
 refine PW.cond rfl (fun h18 => ?_) (fun h18 => ?_)
 replace H := br_t h18 H
 refine PW.seq ?_
 refine PW.regionK fun K hK => OW.run [2, 3] ?_
 simp only [go_sem, simprocAttr, sw0]
 refine OW.nil (hK _ ?_)
 refine PW.ret ?_
 change PW.Ends _ _ _ _ _ _
 refine PW.Ends.intro (.inr rfl) ?_
 simp only [go_sem, simprocAttr, sw0]
 obtain rfl := Option.some.inj H
 refine RetOK.data' 4 (by (refine okAll_intro ?_; (simp only [go_sem, sw2, List.length_set, List.length_replicate, and_true, true_and, Nat.le_refl, simprocAttr]; done))) ?_
 rfl
 replace H := br_f h18 H
 refine PW.skip ?_
 refine PW.regionK fun K hK => OW.run [1, 2, 4, 5] ?_
 simp only [go_sem, simprocAttr, sw0]
 refine OW.nil (hK _ ?_)
 refine hN13 [] (w64 (k + (1 : Int))) _ H (by exact trivial) ?_
 simp only [sw1, go_sem, simprocAttr]
 replace H := br_f h15 H
 refine PW.exit ?_
 refine hN6 [] () _ H (by exact trivial) ?_
 simp only [sw1, go_sem, simprocAttr]
 rintro _ H
 try simp only [go_sem, simprocAttr]
 refine PW.regionK fun K hK => OW.run [1, 2, 4] ?_
 simp only [go_sem, simprocAttr, sw0]
 refine OW.nil (hK _ ?_)
 refine hN4 [] (w64 (i + (1 : Int))) _ H (by exact trivial) ?_
 simp only [sw1, go_sem, simprocAttr]
 replace H := br_f h5 H
 refine PW.exit ?_
 refine hN3 [] () _ H (by exact trivial) ?_
 simp only [sw1, go_sem, simprocAttr]
 rintro _ H
 try simp only [go_sem, simprocAttr]
 refine PW.seq ?_
 refine PW.regionK fun K hK => OW.run [2, 3] ?_
 simp only [go_sem, simprocAttr, sw0]
 refine OW.nil (hK _ ?_)
 refine PW.ret ?_
 change PW.Ends _ _ _ _ _ _
 refine PW.Ends.intro (.inr rfl) ?_
 simp only [go_sem, simprocAttr, sw0]
 obtain rfl := Option.some.inj H
 refine RetOK.data' 4 (by (refine okAll_intro ?_; (simp only [go_sem, sw2, List.length_set, List.length_replicate, and_true, true_and, Nat.le_refl, simprocAttr]; done))) ?_
 rfl

theorem ref09_RasterErr_ok (N : Nat) (Z10 : List (List Int)) (r : Int) (H : ref09_RasterErr N Z10 = some r) : CallOK Tryz.prog 60 [(.agg [(.list Z10.length (Z10.map L))])] (.d (I r)) [] := by
 refine CallOK.of_PW Tryz.func60 rfl (by rw [Tryz.results60]) Tryz.ntmps60 Tryz.call60 ?_
 change PW _ _ _ _ _
 try simp only [go_sem, simprocAttr]
 unfold ref09_RasterErr at H
 refine PW.seq ?_
 refine PW.regionK fun K hK => OW.run [1] ?_
 simp only [go_sem, simprocAttr, sw0]
 refine OW.nil (hK _ ?_)
 refine PW.seq ?_
 obtain ⟨⟨x1, x11, x12⟩, e1, H⟩ := bnd_some H
 refine PW.regionK fun K hK => OW.run [4] ?_
 simp only [go_sem, simprocAttr, sw0]
 refine OW.call' 4 rfl rfl rfl (by first | exact rfl | ((simp only [go_sem, List.toList_toArray, simprocAttr]); exact rfl)) ?_ (ref09_CheckRaster_ok N _ _ e1) ?_ ?_ ?_ ?_
 rfl
 · (refine okAll_intro ?_; (simp only [go_sem, sw2, List.length_set, List.length_replicate, and_true, true_and, Nat.le_refl, simprocAttr]; done))
 exact .inl rfl
 (simp only [go_sem, Nat.reduceLT])
 refine OW.run [4] ?_
 simp only [go_sem, simprocAttr, sw0]
 refine OW.nil (hK _ ?_)
 refine PW.seq ?_
 refine PW.regionK fun K hK => OW.run [2] ?_
 simp only [go_sem, simprocAttr, sw0]
 refine OW.nil (hK _ ?_)
 refine PW.ret ?_
 change PW.Ends _ _ _ _ _ _
 refine PW.Ends.intro (.inr rfl) ?_
 simp only [go_sem, simprocAttr, sw0]
 obtain rfl := Option.some.inj H
 refine RetOK.data' 4 (by exact trivial) ?_
 rfl
end Go.Proofs.YtklejiafioalnaaGreat
