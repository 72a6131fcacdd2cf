import Derived.Test.YtklejiafioalnaaGreatZsBase
import Derived.Test.YtklejiafioalnaaGreatZsW0
import Derived.Test.YtklejiafioalnaaGreatZsW3
import Derived.Test.YtklejiafioalnaaGreatZsW4
import Derived.Test.YtklejiafioalnaaGreatZsW7
set_option linter.all false
namespace Go.Proofs.YtklejiafioalnaaGreat
open Go.PW Go.Sh

set_option maxRecDepth 20000
set_option maxHeartbeats 8000000
theorem ref09_CompareDrive_ok (N : Nat) (Zy : List (List Int)) (Zu : List (ByteArray × Int × Int × Int × Int × Int × Int)) (Zx : List (Int × Int)) (Zv : Int) (Zz : Int) (Zw : Int) (l : List (Int × Int × Int)) (r : Int × Int × Int × Int × Int × Bool) (H : ref09_CompareDrive N Zy Zu Zx Zv Zz Zw l = some r) : CallOK Tryz.prog 17 [(.agg [(.list Zy.length (Zy.map L)), (.list Zu.length (Zu.flatMap (fun (x : ByteArray × Int × Int × Int × Int × Int × Int) => [(Sx x.1), (I x.2.1), (I x.2.2.1), (I x.2.2.2.1), (I x.2.2.2.2.1), (I x.2.2.2.2.2.1), (I x.2.2.2.2.2.2)]))), (.list Zx.length (Zx.flatMap (fun (x : Int × Int) => [(I x.1), (I x.2)]))), (I Zv), (I Zz), (I Zw)]), (.list l.length (l.flatMap (fun (x : Int × Int × Int) => [(I x.1), (I x.2.1), (I x.2.2)])))] (.d (.tup [(.agg [(I r.1), (I r.2.1), (I r.2.2.1), (I r.2.2.2.1), (I r.2.2.2.2.1)]), (Bo r.2.2.2.2.2)])) [] := by
 refine b7 Tryz.func17 rfl (by rw [Tryz.results17]) Tryz.ntmps17 Tryz.call17 ?_
 change PW _ _ _ _ _
 try simp only [go_sem, simprocAttr]
 unfold ref09_CompareDrive at H
 refine a6 ?_
 refine a5 fun K hK => OW.run [1, 2, 4] ?_
 simp only [go_sem, simprocAttr, sw0]
 refine OW.nil (hK _ ?_)
 refine a6 ?_
 refine a5 fun K hK => OW.run [1, 2, 4, 6] ?_
 simp only [go_sem, simprocAttr, sw0]
 refine OW.nil (hK _ ?_)
 refine a6 ?_
 refine a5 fun K hK => OW.run [1, 2, 4, 6, 7, 8] ?_
 simp only [go_sem, simprocAttr, sw0]
 refine OW.nil (hK _ ?_)
 refine i5 (τ := Int × Int × Int × Int × Int) [4, 6, 7, 8] 3 (fun (sum, count, b2, b21, b22) => [(7, .d (I sum)), (8, .d (I count))]) (fun (sum, count, b2, b21, b22) => [{ cells := [.d (.list Zy.length (Zy.map L)), .d (.list Zu.length (Zu.flatMap (fun (x : ByteArray × Int × Int × Int × Int × Int × Int) => [(Sx x.1), (I x.2.1), (I x.2.2.1), (I x.2.2.2.1), (I x.2.2.2.2.1), (I x.2.2.2.2.2.1), (I x.2.2.2.2.2.2)]))), .d (.list Zx.length (Zx.flatMap (fun (x : Int × Int) => [(I x.1), (I x.2)]))), .d (I Zv), .d (I Zz), .d (I Zw)], e := 28 }, { cells := [.d (I (0 : Int)), .d (I (0 : Int)), .d (I (0 : Int)), .d (I (0 : Int)), .d (I (0 : Int))], e := 37 }, { cells := [.d (I b2), .d (I b21), .d (I (0 : Int)), .d (I (0 : Int)), .d (I b22)], e := 37 }]) _ _ r (by exact Nat.zero_le _) H ?_ ?_
 intro K_ H N1 hN1
 refine a6 ?_
 refine a5 fun K hK => OW.run [1, 2, 4, 6, 7, 8, 9] ?_
 simp only [go_sem, simprocAttr, sw0]
 refine OW.nil (hK _ ?_)
 refine PW.block ?_
 refine j1 (σ := Int × Int × Int × Int × Int × Int) [1, 2, 4, 6, 7, 8, 9] 3 (fun (sum1, count1, i, b23, b24, b25) => [(7, .d (I sum1)), (8, .d (I count1)), (9, .d (I i))]) (fun (sum1, count1, i, b23, b24, b25) => [{ cells := [.d (.list Zy.length (Zy.map L)), .d (.list Zu.length (Zu.flatMap (fun (x : ByteArray × Int × Int × Int × Int × Int × Int) => [(Sx x.1), (I x.2.1), (I x.2.2.1), (I x.2.2.2.1), (I x.2.2.2.2.1), (I x.2.2.2.2.2.1), (I x.2.2.2.2.2.2)]))), .d (.list Zx.length (Zx.flatMap (fun (x : Int × Int) => [(I x.1), (I x.2)]))), .d (I Zv), .d (I Zz), .d (I Zw)], e := 28 }, { cells := [.d (I (0 : Int)), .d (I (0 : Int)), .d (I (0 : Int)), .d (I (0 : Int)), .d (I (0 : Int))], e := 37 }, { cells := [.d (I b23), .d (I b24), .d (I (0 : Int)), .d (I (0 : Int)), .d (I b25)], e := 37 }]) (l9 N Zy Zu Zx Zv Zz Zw l K_) r N ((0 : Int), (0 : Int), (0 : Int), (0 : Int), (0 : Int), (0 : Int)) (by exact Nat.zero_le _) H (by (simp only [sw1, go_sem, simprocAttr]; done)) ?_
 rintro n ⟨sum1, count1, i, b23, b24, b25⟩ H N2 hN2
 unfold l9 at H
 try simp only [go_sem, simprocAttr]
 refine a6 ?_
 refine a6 ?_
 refine a5 fun K hK => OW.run [1, 2, 4, 6, 7, 8, 9, 17] ?_
 simp only [go_sem, simprocAttr, sw0]
 refine OW.nil (hK _ ?_)
 refine b9 rfl (fun h3 => ?_) (fun h3 => ?_)
 replace H := m6 h3 H
 refine d2 ?_
 refine a6 ?_
 refine PW.block ?_
 refine a6 ?_
 obtain ⟨x1, e1, H⟩ := a9 H
 obtain ⟨c4, H⟩ := d3 H
 obtain ⟨⟨x2, x21, x22⟩, e2, H⟩ := a9 H
 refine g8 15 mixed (by kernel_rfl) fun K hK => ?_
 change FW _ _ _ _ _
 refine FW.run ?_
 (simp only [go_sem, simprocAttr, sw0, b5 3 (fun (x : Int × Int × Int) => [(I x.1), (I x.2.1), (I x.2.2)]) (fun _ => rfl), j7 3 (fun (x : Int × Int × Int) => [(I x.1), (I x.2.1), (I x.2.2)]) (fun _ => rfl) l i.toNat (by omega)])
 refine i9 4 rfl rfl rfl (by first | exact rfl | ((simp only [go_sem, List.toList_toArray, simprocAttr]); exact rfl)) ?_ (ref09_Without_ok N _ _ _ _ _ _ _ _ e1) ?_ ?_ ?_ ?_
 rfl
 · (refine a8 ?_; (simp only [go_sem, sw2, List.length_set, List.length_replicate, and_true, true_and, Nat.le_refl, simprocAttr]; done))
 exact .inl rfl
 (simp only [go_sem, Nat.reduceLT])
 refine FW.run ?_
 (simp only [go_sem, simprocAttr, sw0, b5 3 (fun (x : Int × Int × Int) => [(I x.1), (I x.2.1), (I x.2.2)]) (fun _ => rfl), j7 3 (fun (x : Int × Int × Int) => [(I x.1), (I x.2.1), (I x.2.2)]) (fun _ => rfl) l i.toNat (by omega)])
 repeat (refine And.intro (by omega) ?_)
 refine i9 4 rfl rfl rfl (by first | exact rfl | ((simp only [go_sem, List.toList_toArray, simprocAttr]); exact rfl)) ?_ (ref09_ServerAt_ok N _ _ _ _ _ _ _ _ _ _ e2) ?_ ?_ ?_ ?_
 rfl
 · (refine a8 ?_; (simp only [go_sem, sw2, List.length_set, List.length_replicate, and_true, true_and, Nat.le_refl, simprocAttr]; done))
 exact .inl rfl
 (simp only [go_sem, Nat.reduceLT])
 refine FW.run ?_
 (simp only [go_sem, simprocAttr, sw0, b5 3 (fun (x : Int × Int × Int) => [(I x.1), (I x.2.1), (I x.2.2)]) (fun _ => rfl), j7 3 (fun (x : Int × Int × Int) => [(I x.1), (I x.2.1), (I x.2.2)]) (fun _ => rfl) l i.toNat (by omega)])
 refine FW.nil ?_
 change OW _ _ _ _ _ _
 refine OW.run [1, 2, 4, 6, 7, 8, 9, 11, 12] ?_
 (simp only [go_sem, simprocAttr, sw0, b5 3 (fun (x : Int × Int × Int) => [(I x.1), (I x.2.1), (I x.2.2)]) (fun _ => rfl), j7 3 (fun (x : Int × Int × Int) => [(I x.1), (I x.2.1), (I x.2.2)]) (fun _ => rfl) l i.toNat (by omega)])
 refine OW.nil (hK _ ?_)
 refine a6 ?_
 refine a6 ?_
 refine a5 fun K hK => OW.run [1, 2, 4, 6, 7, 8, 9, 11, 34] ?_
 simp only [go_sem, simprocAttr, sw0]
 refine OW.nil (hK _ ?_)
 refine b9 rfl (fun h5 => ?_) (fun h5 => ?_)
 replace H := m6 h5 H
 refine j4 ?_
 refine a5 fun K hK => OW.run [1, 2, 4, 6, 7, 8, 9] ?_
 simp only [go_sem, simprocAttr, sw0]
 refine OW.nil (hK _ ?_)
 refine hN2 [] (sum1, count1, w64 (i + (1 : Int)), b23, b24, b25) _ H (by exact trivial) ?_
 simp only [sw1, go_sem, simprocAttr]
 replace H := m7 h5 H
 refine d2 ?_
 refine a6 ?_
 obtain ⟨c6, H⟩ := d3 H
 refine a5 fun K hK => OW.run [1, 2, 4, 6, 7, 8, 9, 11, 13] ?_
 (simp only [go_sem, simprocAttr, sw0, b5 3 (fun (x : Int × Int × Int) => [(I x.1), (I x.2.1), (I x.2.2)]) (fun _ => rfl), j7 3 (fun (x : Int × Int × Int) => [(I x.1), (I x.2.1), (I x.2.2)]) (fun _ => rfl) l i.toNat (by omega)])
 repeat (refine And.intro (by omega) ?_)
 refine OW.nil (hK _ ?_)
 refine i5 (τ := Int × Int) [1, 2, 4, 6, 7, 8, 9, 11, 13] 3 (fun (b26, b27) => []) (fun (b26, b27) => [{ cells := [.d (.list Zy.length (Zy.map L)), .d (.list Zu.length (Zu.flatMap (fun (x : ByteArray × Int × Int × Int × Int × Int × Int) => [(Sx x.1), (I x.2.1), (I x.2.2.1), (I x.2.2.2.1), (I x.2.2.2.2.1), (I x.2.2.2.2.2.1), (I x.2.2.2.2.2.2)]))), .d (.list Zx.length (Zx.flatMap (fun (x : Int × Int) => [(I x.1), (I x.2)]))), .d (I Zv), .d (I Zz), .d (I Zw)], e := 28 }, { cells := [.d (I (0 : Int)), .d (I (0 : Int)), .d (I (0 : Int)), .d (I (0 : Int)), .d (I (0 : Int))], e := 37 }, { cells := [.d (I b26), .d (I b27), .d (I (0 : Int)), .d (I (0 : Int)), .d (I b25)], e := 37 }]) _ _ r (by exact Nat.zero_le _) H ?_ ?_
 intro K_1 H N7 hN7
 refine a6 ?_
 refine a5 fun K hK => OW.run [1, 2, 4, 6, 7, 8, 9, 11, 13, 43] ?_
 simp only [go_sem, simprocAttr, sw0]
 refine OW.nil (hK _ ?_)
 refine b9 rfl (fun h8 => ?_) (fun h8 => ?_)
 replace H := m6 h8 H
 refine a5 fun K hK => OW.run [1, 2, 4, 6, 7, 8, 9, 11, 13] ?_
 simp only [go_sem, simprocAttr, sw0]
 repeat (refine And.intro (by omega) ?_)
 refine OW.nil (hK _ ?_)
 refine hN7 [] (w64 (((l.getD i.toNat default).2.2) - x21), w64 (((l.getD i.toNat default).2.2) - x21)) _ H (by exact trivial) ?_
 simp only [sw1, go_sem, simprocAttr]
 replace H := m7 h8 H
 refine d2 ?_
 refine hN7 [] (b23, b24) _ H (by exact trivial) ?_
 simp only [sw1, go_sem, simprocAttr]
 rintro ⟨b26, b27⟩ H
 try simp only [go_sem, simprocAttr]
 refine a6 ?_
 refine a5 fun K hK => OW.run [1, 2, 4, 6, 7, 8, 9, 11, 13] ?_
 simp only [go_sem, simprocAttr, sw0]
 repeat (refine And.intro (by omega) ?_)
 refine OW.nil (hK _ ?_)
 refine a6 ?_
 refine a6 ?_
 obtain ⟨c9, H⟩ := d3 H
 refine g8 12 mixed (by kernel_rfl) fun K hK => ?_
 change FW _ _ _ _ _
 refine FW.toS [(1, .d (.list l.length (l.flatMap (fun (x : Int × Int × Int) => [(I x.1), (I x.2.1), (I x.2.2)])))), (2, .ptr 0 0), (4, .ptr 1 0), (6, .ptr 2 0), (7, .d (I sum1)), (8, .d (I count1)), (9, .d (I i)), (13, .d (I (w64 (((l.getD i.toNat default).2.2) - x21)))), (73, .d (Bo ((decide (x21 ≥ Zw)) && (decide ((l.getD i.toNat default).2.2 < Zw)))))] [{ cells := [.d (.list Zy.length (Zy.map L)), .d (.list Zu.length (Zu.flatMap (fun (x : ByteArray × Int × Int × Int × Int × Int × Int) => [(Sx x.1), (I x.2.1), (I x.2.2.1), (I x.2.2.2.1), (I x.2.2.2.2.1), (I x.2.2.2.2.2.1), (I x.2.2.2.2.2.2)]))), .d (.list Zx.length (Zx.flatMap (fun (x : Int × Int) => [(I x.1), (I x.2)]))), .d (I Zv), .d (I Zz), .d (I Zw)], e := 28 }, { cells := [.d (I (0 : Int)), .d (I (0 : Int)), .d (I (0 : Int)), .d (I (0 : Int)), .d (I (0 : Int))], e := 37 }, { cells := [.d (I (if w64 (((l.getD i.toNat default).2.2) - x21) < b26 then w64 (((l.getD i.toNat default).2.2) - x21) else b26)), .d (I (if b27 < w64 (((l.getD i.toNat default).2.2) - x21) then w64 (((l.getD i.toNat default).2.2) - x21) else b27)), .d (I (0 : Int)), .d (I (0 : Int)), .d (I b25)], e := 37 }] ?_ (hK _ ?_)
 intro K hKE
 rcases Bool.eq_false_or_eq_true ((decide (x21 ≥ Zw))) with ha0 | ha0
 ·
  try simp only [ha0, sb0, true_implies, false_implies, forall_const] at c9
  refine FW.run ?_
  (simp only [go_sem, simprocAttr, sw0, b5 3 (fun (x : Int × Int × Int) => [(I x.1), (I x.2.1), (I x.2.2)]) (fun _ => rfl), j7 3 (fun (x : Int × Int × Int) => [(I x.1), (I x.2.1), (I x.2.2)]) (fun _ => rfl) l i.toNat (by omega), ha0])
  repeat (refine And.intro (by first | omega | (intro hg; have hq := c9 (by first | exact hg | simpa using hg); first | omega | exact hq | (simp only [List.length_map]; omega)) | (first | omega | assumption | rfl | decide | (simp only [List.length_map, List.length_replicate, List.length_append, List.length_take, List.length_drop, List.length_set, List.length_cons, List.length_nil, Nat.zero_add, Int.toNat_natCast] at *; omega) | (simp only [List.length_map, List.length_replicate, List.length_append, List.length_take, List.length_drop, List.length_set, List.length_cons, List.length_nil, Nat.zero_add, Int.toNat_natCast]; done) | trivial)) ?_)
  refine FW.nil ?_
  change OW _ _ _ _ _ _
  refine OW.run [1, 2, 4, 6, 7, 8, 9, 13, 73] ?_
  (simp only [go_sem, simprocAttr, sw0, b5 3 (fun (x : Int × Int × Int) => [(I x.1), (I x.2.1), (I x.2.2)]) (fun _ => rfl), j7 3 (fun (x : Int × Int × Int) => [(I x.1), (I x.2.1), (I x.2.2)]) (fun _ => rfl) l i.toNat (by omega), ha0])
  repeat (refine And.intro (by first | omega | (intro hg; have hq := c9 (by first | exact hg | simpa using hg); first | omega | exact hq | (simp only [List.length_map]; omega)) | (first | omega | assumption | rfl | decide | (simp only [List.length_map, List.length_replicate, List.length_append, List.length_take, List.length_drop, List.length_set, List.length_cons, List.length_nil, Nat.zero_add, Int.toNat_natCast] at *; omega) | (simp only [List.length_map, List.length_replicate, List.length_append, List.length_take, List.length_drop, List.length_set, List.length_cons, List.length_nil, Nat.zero_add, Int.toNat_natCast]; done) | trivial)) ?_)
  refine OW.nil ((congrArg K ?_).mpr hKE)
  · (first | rfl | (simp only [go_sem, simprocAttr, ha0]; done) | (simp only [go_sem, simprocAttr, ha0]; rfl))
 ·
  try simp only [ha0, sb0, true_implies, false_implies, forall_const] at c9
  refine FW.run ?_
  (simp only [go_sem, simprocAttr, sw0, ha0])
  repeat (refine And.intro (by first | omega | (intro hg; have hq := c9 (by first | exact hg | simpa using hg); first | omega | exact hq | (simp only [List.length_map]; omega)) | (first | omega | assumption | rfl | decide | (simp only [List.length_map, List.length_replicate, List.length_append, List.length_take, List.length_drop, List.length_set, List.length_cons, List.length_nil, Nat.zero_add, Int.toNat_natCast] at *; omega) | (simp only [List.length_map, List.length_replicate, List.length_append, List.length_take, List.length_drop, List.length_set, List.length_cons, List.length_nil, Nat.zero_add, Int.toNat_natCast]; done) | trivial)) ?_)
  refine FW.nil ?_
  change OW _ _ _ _ _ _
  refine OW.run [1, 2, 4, 6, 7, 8, 9, 13, 73] ?_
  (simp only [go_sem, simprocAttr, sw0, ha0])
  repeat (refine And.intro (by first | omega | (intro hg; have hq := c9 (by first | exact hg | simpa using hg); first | omega | exact hq | (simp only [List.length_map]; omega)) | (first | omega | assumption | rfl | decide | (simp only [List.length_map, List.length_replicate, List.length_append, List.length_take, List.length_drop, List.length_set, List.length_cons, List.length_nil, Nat.zero_add, Int.toNat_natCast] at *; omega) | (simp only [List.length_map, List.length_replicate, List.length_append, List.length_take, List.length_drop, List.length_set, List.length_cons, List.length_nil, Nat.zero_add, Int.toNat_natCast]; done) | trivial)) ?_)
  refine OW.nil ((congrArg K ?_).mpr hKE)
  · (first | rfl | (simp only [go_sem, simprocAttr, ha0]; done) | (simp only [go_sem, simprocAttr, ha0]; rfl))
 clear hK K
 refine b9 rfl (fun h10 => ?_) (fun h10 => ?_)
 replace H := m6 h10 H
 refine a5 fun K hK => OW.run [1, 2, 4, 6, 7, 8, 9, 13] ?_
 simp only [go_sem, simprocAttr, sw0]
 repeat (refine And.intro (by omega) ?_)
 refine OW.nil (hK _ ?_)
 refine a5 fun K hK => OW.run [1, 2, 4, 6, 7, 8, 9] ?_
 simp only [go_sem, simprocAttr, sw0]
 refine OW.nil (hK _ ?_)
 refine a5 fun K hK => OW.run [1, 2, 4, 6, 7, 8, 9] ?_
 simp only [go_sem, simprocAttr, sw0]
 refine OW.nil (hK _ ?_)
 refine hN2 [] (w64 (sum1 + (w64 (((l.getD i.toNat default).2.2) - x21))), w64 (count1 + (1 : Int)), w64 (i + (1 : Int)), (if w64 (((l.getD i.toNat default).2.2) - x21) < b26 then w64 (((l.getD i.toNat default).2.2) - x21) else b26), (if b27 < w64 (((l.getD i.toNat default).2.2) - x21) then w64 (((l.getD i.toNat default).2.2) - x21) else b27), w64 (b25 + (1 : Int))) _ H (by exact trivial) ?_
 simp only [sw1, go_sem, simprocAttr]
 replace H := m7 h10 H
 refine d2 ?_
 refine a5 fun K hK => OW.run [1, 2, 4, 6, 7, 8, 9] ?_
 simp only [go_sem, simprocAttr, sw0]
 refine OW.nil (hK _ ?_)
 refine a5 fun K hK => OW.run [1, 2, 4, 6, 7, 8, 9] ?_
 simp only [go_sem, simprocAttr, sw0]
 refine OW.nil (hK _ ?_)
 refine hN2 [] (w64 (sum1 + (w64 (((l.getD i.toNat default).2.2) - x21))), w64 (count1 + (1 : Int)), w64 (i + (1 : Int)), (if w64 (((l.getD i.toNat default).2.2) - x21) < b26 then w64 (((l.getD i.toNat default).2.2) - x21) else b26), (if b27 < w64 (((l.getD i.toNat default).2.2) - x21) then w64 (((l.getD i.toNat default).2.2) - x21) else b27), b25) _ H (by exact trivial) ?_
 simp only [sw1, go_sem, simprocAttr]
 replace H := m7 h3 H
 refine j4 ?_
 refine hN1 [] (sum1, count1, b23, b24, b25) _ H (by exact trivial) ?_
 simp only [sw1, go_sem, simprocAttr]
 rintro ⟨sum, count, b2, b21, b22⟩ H
 try simp only [go_sem, simprocAttr]
 refine a6 ?_
 refine a6 ?_
 refine a5 fun K hK => OW.run [4, 6, 7, 8, 84] ?_
 simp only [go_sem, simprocAttr, sw0]
 refine OW.nil (hK _ ?_)
 refine b9 rfl (fun h11 => ?_) (fun h11 => ?_)
 replace H := m6 h11 H
 refine a6 ?_
 refine a5 fun K hK => OW.run [4, 5] ?_
 simp only [go_sem, simprocAttr, sw0]
 refine OW.nil (hK _ ?_)
 refine d5 ?_
 change PW.Ends _ _ _ _ _ _
 refine PW.Ends.intro (.inr rfl) ?_
 simp only [go_sem, simprocAttr, sw0]
 obtain rfl := Option.some.inj H
 refine a7 4 (by (refine a8 ?_; (simp only [go_sem, sw2, List.length_set, List.length_replicate, and_true, true_and, Nat.le_refl, simprocAttr]; done))) ?_
 rfl
 replace H := m7 h11 H
 refine d2 ?_
 refine a6 ?_
 obtain ⟨⟨x3, x31⟩, e3, H⟩ := a9 H
 refine a5 fun K hK => OW.run [4, 6] ?_
 simp only [go_sem, simprocAttr, sw0]
 refine b8 4 rfl rfl rfl (by first | exact rfl | ((simp only [go_sem, List.toList_toArray, simprocAttr]); exact rfl)) ?_ (base_Lowest_ok N _ _ _ e3) ?_ ?_ ?_ ?_
 rfl
 exact d6 rfl
 exact .inl rfl
 (simp only [go_sem, Nat.reduceLT])
 refine OW.run [4, 6] ?_
 simp only [go_sem, simprocAttr, sw0]
 repeat (refine And.intro (by omega) ?_)
 refine OW.nil (hK _ ?_)
 refine a6 ?_
 refine a5 fun K hK => OW.run [4, 5] ?_
 simp only [go_sem, simprocAttr, sw0]
 refine OW.nil (hK _ ?_)
 refine d5 ?_
 change PW.Ends _ _ _ _ _ _
 refine PW.Ends.intro (.inr rfl) ?_
 simp only [go_sem, simprocAttr, sw0]
 obtain rfl := Option.some.inj H
 refine a7 4 (by (refine a8 ?_; (simp only [go_sem, sw2, List.length_set, List.length_replicate, and_true, true_and, Nat.le_refl, simprocAttr]; done))) ?_
 rfl

theorem law09_PlanDrives_ok (N : Nat) (Zy : List (List Int)) (Zu : List (ByteArray × Int × Int × Int × Int × Int × Int)) (Zx : List (Int × Int)) (Zv : Int) (Zz : Int) (Zw : Int) (l : List (Int × Int × Int)) (r : Bool) (H : z6 N Zy Zu Zx Zv Zz Zw l = some r) : CallOK Tryz.prog 3 [(.agg [(.list Zy.length (Zy.map L)), (.list Zu.length (Zu.flatMap (fun (x : ByteArray × Int × Int × Int × Int × Int × Int) => [(Sx x.1), (I x.2.1), (I x.2.2.1), (I x.2.2.2.1), (I x.2.2.2.2.1), (I x.2.2.2.2.2.1), (I x.2.2.2.2.2.2)]))), (.list Zx.length (Zx.flatMap (fun (x : Int × Int) => [(I x.1), (I x.2)]))), (I Zv), (I Zz), (I Zw)]), (.list l.length (l.flatMap (fun (x : Int × Int × Int) => [(I x.1), (I x.2.1), (I x.2.2)])))] (.d (Bo r)) [] := by
 refine b7 Tryz.func3 rfl (by rw [Tryz.results3]) Tryz.ntmps3 Tryz.call3 ?_
 change PW _ _ _ _ _
 try simp only [go_sem, simprocAttr]
 unfold z6 at H
 refine a6 ?_
 refine a5 fun K hK => OW.run [1, 2] ?_
 simp only [go_sem, simprocAttr, sw0]
 refine OW.nil (hK _ ?_)
 refine a6 ?_
 refine a6 ?_
 obtain ⟨x1, e1, H⟩ := a9 H
 refine a5 fun K hK => OW.run [1, 2, 11] ?_
 simp only [go_sem, simprocAttr, sw0]
 refine b8 4 rfl rfl rfl (by first | exact rfl | ((simp only [go_sem, List.toList_toArray, simprocAttr]); exact rfl)) ?_ (law09_awake_ok N  _ e1) ?_ ?_ ?_ ?_
 rfl
 exact d6 rfl
 exact .inl rfl
 (simp only [go_sem, Nat.reduceLT])
 refine OW.run [1, 2, 11] ?_
 simp only [go_sem, simprocAttr, sw0]
 refine OW.nil (hK _ ?_)
 refine b9 rfl (fun h1 => ?_) (fun h1 => ?_)
 replace H := m6 h1 H
 refine a6 ?_
 refine a5 fun K hK => OW.run [4] ?_
 simp only [go_sem, simprocAttr, sw0]
 refine OW.nil (hK _ ?_)
 refine d5 ?_
 change PW.Ends _ _ _ _ _ _
 refine PW.Ends.intro (.inr rfl) ?_
 simp only [go_sem, simprocAttr, sw0]
 obtain rfl := Option.some.inj H
 refine a7 4 (by exact trivial) ?_
 rfl
 replace H := m7 h1 H
 refine d2 ?_
 refine a6 ?_
 refine a6 ?_
 obtain ⟨x2, e2, H⟩ := a9 H
 refine a5 fun K hK => ?_
 refine OW.toS [(1, .d (.list l.length (l.flatMap (fun (x : Int × Int × Int) => [(I x.1), (I x.2.1), (I x.2.2)])))), (2, .ptr 0 0), (29, .d (Bo (((!x2) || ((decide ((l.length : Int) > (8 : Int))) && (decide ((l.length : Int) ≤ (60 : Int))))) || (decide ((l.length : Int) > (62 : Int))))))] [{ cells := [.d (.list Zy.length (Zy.map L)), .d (.list Zu.length (Zu.flatMap (fun (x : ByteArray × Int × Int × Int × Int × Int × Int) => [(Sx x.1), (I x.2.1), (I x.2.2.1), (I x.2.2.2.1), (I x.2.2.2.2.1), (I x.2.2.2.2.2.1), (I x.2.2.2.2.2.2)]))), .d (.list Zx.length (Zx.flatMap (fun (x : Int × Int) => [(I x.1), (I x.2)]))), .d (I Zv), .d (I Zz), .d (I Zw)], e := 28 }] ?_ (hK _ ?_)
 ·
  intro K hKE
  have hc : ∀ b0 b1 b2 : Bool, b0 = true ∧ b1 = true ∧ b2 = true ∨ b0 = true ∧ b1 = true ∧ b2 = false ∨ b0 = true ∧ b1 = false ∨ b0 = false := by intro b0 b1 b2; cases b0 <;> cases b1 <;> cases b2 <;> simp
  rcases hc x2 (decide ((l.length : Int) > (8 : Int))) (decide ((l.length : Int) ≤ (60 : Int))) with hA | hA | hA | hA
  all_goals
   refine OW.run [1, 2, 29] ?_
   (simp only [go_sem, simprocAttr, sw0, hA])
   (repeat (refine And.intro (by (first | omega | assumption | rfl | decide | (simp only [List.length_map, List.length_replicate, List.length_append, List.length_take, List.length_drop, List.length_set, List.length_cons, List.length_nil, Nat.zero_add, Int.toNat_natCast] at *; omega) | (simp only [List.length_map, List.length_replicate, List.length_append, List.length_take, List.length_drop, List.length_set, List.length_cons, List.length_nil, Nat.zero_add, Int.toNat_natCast]; done) | trivial)) ?_))
   refine b8 4 rfl rfl rfl (by first | exact rfl | ((simp only [go_sem, List.toList_toArray, simprocAttr]); exact rfl)) ?_ (law09_Few_ok N _ _ _ _ _ _ _ e2) ?_ ?_ ?_ ?_
   · (first | (rfl; done) | (first | rfl | (simp only [go_sem, sw1, simprocAttr, hA, Bool.and_true, Bool.true_and, Bool.and_false, Bool.false_and, Bool.or_true, Bool.true_or, Bool.or_false, Bool.false_or, Bool.not_true, Bool.not_false]; done) | (simp only [go_sem, sw1, simprocAttr, hA, Bool.and_true, Bool.true_and, Bool.and_false, Bool.false_and, Bool.or_true, Bool.true_or, Bool.or_false, Bool.false_or, Bool.not_true, Bool.not_false]; rfl) | (simp only [go_sem, sw1, simprocAttr, hA, Bool.and_true, Bool.true_and, Bool.and_false, Bool.false_and, Bool.or_true, Bool.true_or, Bool.or_false, Bool.false_or, Bool.not_true, Bool.not_false]; simp only [seg, asD, go_sem, sw1, simprocAttr, hA, Bool.and_true, Bool.true_and, Bool.and_false, Bool.false_and, Bool.or_true, Bool.true_or, Bool.or_false, Bool.false_or, Bool.not_true, Bool.not_false]; done) | (simp only [go_sem, sw1, simprocAttr, hA, Bool.and_true, Bool.true_and, Bool.and_false, Bool.false_and, Bool.or_true, Bool.true_or, Bool.or_false, Bool.false_or, Bool.not_true, Bool.not_false]; simp only [seg, asD, go_sem, sw1, simprocAttr, hA, Bool.and_true, Bool.true_and, Bool.and_false, Bool.false_and, Bool.or_true, Bool.true_or, Bool.or_false, Bool.false_or, Bool.not_true, Bool.not_false]; rfl) | ((try simp only [go_sem, sw1, simprocAttr, hA, Bool.and_true, Bool.true_and, Bool.and_false, Bool.false_and, Bool.or_true, Bool.true_or, Bool.or_false, Bool.false_or, Bool.not_true, Bool.not_false]); (repeat' (first | rfl | (refine f8 ?_; simp only [List.length_take, List.length_drop, List.length_set, List.length_replicate] <;> omega) | (refine congr (congrArg List.cons ?_) ?_) | (refine congrArg D.agg ?_) | (refine congrArg D.tup ?_) | (refine congrArg D.ref ?_) | (refine congrArg (D.list _) ?_) | (refine congrArg (D.clo _) ?_))))))
   · (first | exact trivial | exact d6 rfl | (refine a8 ?_; (first | (simp only [go_sem, sw2, List.length_set, List.length_replicate, and_true, true_and, Nat.le_refl, simprocAttr]; done) | (simp only [go_sem, sw2, List.length_set, List.length_replicate, and_true, true_and, Nat.le_refl, simprocAttr]; omega) | (simp only [go_sem, sw2, List.length_set, List.length_replicate, and_true, true_and, Nat.le_refl, simprocAttr]; simp only [seg, go_sem, sw2, List.length_set, List.length_replicate, and_true, true_and, Nat.le_refl, simprocAttr]; done) | (simp only [go_sem, sw2, List.length_set, List.length_replicate, and_true, true_and, Nat.le_refl, simprocAttr]; simp only [seg, go_sem, sw2, List.length_set, List.length_replicate, and_true, true_and, Nat.le_refl, simprocAttr]; omega) | (simp only [go_sem, sw2, List.length_set, List.length_replicate, and_true, true_and, Nat.le_refl, simprocAttr, List.length_take, List.length_drop]; omega) | (simp only [go_sem, sw2, List.length_append, List.length_map, List.length_cons, List.length_nil, List.length_set, List.length_replicate, and_true, true_and, Nat.le_refl, Nat.zero_add, simprocAttr]; done) | (simp only [go_sem, sw2, List.length_append, List.length_map, List.length_cons, List.length_nil, List.length_set, List.length_replicate, and_true, true_and, Nat.le_refl, Nat.zero_add, simprocAttr]; omega))) | (first | (simp only [go_sem, sw2, List.length_set, List.length_replicate, and_true, true_and, Nat.le_refl, simprocAttr]; done) | (simp only [go_sem, sw2, List.length_set, List.length_replicate, and_true, true_and, Nat.le_refl, simprocAttr]; omega) | (simp only [go_sem, sw2, List.length_set, List.length_replicate, and_true, true_and, Nat.le_refl, simprocAttr]; simp only [seg, go_sem, sw2, List.length_set, List.length_replicate, and_true, true_and, Nat.le_refl, simprocAttr]; done) | (simp only [go_sem, sw2, List.length_set, List.length_replicate, and_true, true_and, Nat.le_refl, simprocAttr]; simp only [seg, go_sem, sw2, List.length_set, List.length_replicate, and_true, true_and, Nat.le_refl, simprocAttr]; omega) | (simp only [go_sem, sw2, List.length_set, List.length_replicate, and_true, true_and, Nat.le_refl, simprocAttr, List.length_take, List.length_drop]; omega) | (simp only [go_sem, sw2, List.length_append, List.length_map, List.length_cons, List.length_nil, List.length_set, List.length_replicate, and_true, true_and, Nat.le_refl, Nat.zero_add, simprocAttr]; done) | (simp only [go_sem, sw2, List.length_append, List.length_map, List.length_cons, List.length_nil, List.length_set, List.length_replicate, and_true, true_and, Nat.le_refl, Nat.zero_add, simprocAttr]; omega)))
   · exact .inl rfl
   · ((simp only [go_sem, Nat.reduceLT]))
   refine OW.run [1, 2, 29] ?_
   (simp only [go_sem, simprocAttr, sw0, hA])
   (repeat (refine And.intro (by (first | omega | assumption | rfl | decide | (simp only [List.length_map, List.length_replicate, List.length_append, List.length_take, List.length_drop, List.length_set, List.length_cons, List.length_nil, Nat.zero_add, Int.toNat_natCast] at *; omega) | (simp only [List.length_map, List.length_replicate, List.length_append, List.length_take, List.length_drop, List.length_set, List.length_cons, List.length_nil, Nat.zero_add, Int.toNat_natCast]; done) | trivial)) ?_))
   refine OW.nil ((congrArg K ?_).mpr hKE)
   (first | rfl | (simp only [go_sem, simprocAttr, hA]; done) | (simp only [go_sem, simprocAttr, hA]; rfl))
 clear hK K
 refine b9 rfl (fun h2 => ?_) (fun h2 => ?_)
 replace H := m6 h2 H
 refine a6 ?_
 refine a5 fun K hK => OW.run [4] ?_
 simp only [go_sem, simprocAttr, sw0]
 refine OW.nil (hK _ ?_)
 refine d5 ?_
 change PW.Ends _ _ _ _ _ _
 refine PW.Ends.intro (.inr rfl) ?_
 simp only [go_sem, simprocAttr, sw0]
 obtain rfl := Option.some.inj H
 refine a7 4 (by exact trivial) ?_
 rfl
 replace H := m7 h2 H
 refine d2 ?_
 refine a6 ?_
 obtain ⟨⟨x3, x31, x32, x33, x34, x35⟩, e3, H⟩ := a9 H
 obtain ⟨x4, e4, H⟩ := a9 H
 obtain ⟨⟨x5, x51, x52, x53, x54, x55⟩, e5, H⟩ := a9 H
 refine a5 fun K hK => OW.run [1, 2, 5, 6] ?_
 simp only [go_sem, simprocAttr, sw0]
 refine b8 4 rfl rfl rfl (by first | exact rfl | ((simp only [go_sem, List.toList_toArray, simprocAttr]); exact rfl)) ?_ (ref09_Copy_ok N _ _ _ _ _ _ _ e3) ?_ ?_ ?_ ?_
 rfl
 · (refine a8 ?_; (simp only [go_sem, sw2, List.length_set, List.length_replicate, and_true, true_and, Nat.le_refl, simprocAttr]; done))
 exact .inl rfl
 (simp only [go_sem, Nat.reduceLT])
 refine OW.run [1, 2, 5, 6] ?_
 simp only [go_sem, simprocAttr, sw0]
 refine b8 4 rfl rfl rfl (by first | exact rfl | ((simp only [go_sem, List.toList_toArray, simprocAttr]); exact rfl)) ?_ (ref09_CopyDrive_ok N _ _ e4) ?_ ?_ ?_ ?_
 rfl
 exact d6 rfl
 exact .inl rfl
 (simp only [go_sem, Nat.reduceLT])
 refine OW.run [1, 2, 5, 6] ?_
 simp only [go_sem, simprocAttr, sw0]
 refine b8 4 rfl rfl rfl (by first | exact rfl | ((simp only [go_sem, List.toList_toArray, simprocAttr]); exact rfl)) ?_ (plan_CompareDrive_ok N _ _ _ _ _ _ _ _ e5) ?_ ?_ ?_ ?_
 rfl
 exact d6 rfl
 exact .inl rfl
 (simp only [go_sem, Nat.reduceLT])
 refine OW.run [1, 2, 5, 6] ?_
 simp only [go_sem, simprocAttr, sw0]
 refine OW.nil (hK _ ?_)
 refine a6 ?_
 obtain ⟨x6, e6, H⟩ := a9 H
 refine a5 fun K hK => OW.run [1, 2, 5, 6, 7] ?_
 simp only [go_sem, simprocAttr, sw0]
 refine b8 4 rfl rfl rfl (by first | exact rfl | ((simp only [go_sem, List.toList_toArray, simprocAttr]); exact rfl)) ?_ (ref09_PlanErr_ok N _ _ _ _ _ _ _ e6) ?_ ?_ ?_ ?_
 rfl
 · (refine a8 ?_; (simp only [go_sem, sw2, List.length_set, List.length_replicate, and_true, true_and, Nat.le_refl, simprocAttr]; done))
 exact .inl rfl
 (simp only [go_sem, Nat.reduceLT])
 refine OW.run [1, 2, 5, 6, 7] ?_
 simp only [go_sem, simprocAttr, sw0]
 refine OW.nil (hK _ ?_)
 refine i5 (τ := Int) [1, 2, 5, 6, 7] 2 (fun d => [(7, .d (I d))]) (fun d => [{ cells := [.d (.list Zy.length (Zy.map L)), .d (.list Zu.length (Zu.flatMap (fun (x : ByteArray × Int × Int × Int × Int × Int × Int) => [(Sx x.1), (I x.2.1), (I x.2.2.1), (I x.2.2.2.1), (I x.2.2.2.2.1), (I x.2.2.2.2.2.1), (I x.2.2.2.2.2.2)]))), .d (.list Zx.length (Zx.flatMap (fun (x : Int × Int) => [(I x.1), (I x.2)]))), .d (I Zv), .d (I Zz), .d (I Zw)], e := 28 }, { cells := [.d (I x5), .d (I x51), .d (I x52), .d (I x53), .d (I x54)], e := 37 }]) _ _ r (by exact Nat.zero_le _) H ?_ ?_
 intro K_ H N3 hN3
 refine a6 ?_
 refine a5 fun K hK => OW.run [1, 2, 5, 6, 7, 41] ?_
 simp only [go_sem, simprocAttr, sw0]
 refine OW.nil (hK _ ?_)
 refine b9 rfl (fun h4 => ?_) (fun h4 => ?_)
 replace H := m6 h4 H
 obtain ⟨x7, e7, H⟩ := a9 H
 refine a5 fun K hK => OW.run [1, 2, 5, 6, 7] ?_
 simp only [go_sem, simprocAttr, sw0]
 refine b8 4 rfl rfl rfl (by first | exact rfl | ((simp only [go_sem, List.toList_toArray, simprocAttr]); exact rfl)) ?_ (ref09_DriveErr_ok N _ _ _ _ _ _ _ _ e7) ?_ ?_ ?_ ?_
 rfl
 · (refine a8 ?_; (simp only [go_sem, sw2, List.length_set, List.length_replicate, and_true, true_and, Nat.le_refl, simprocAttr]; done))
 exact .inl rfl
 (simp only [go_sem, Nat.reduceLT])
 refine OW.run [1, 2, 5, 6, 7] ?_
 simp only [go_sem, simprocAttr, sw0]
 refine OW.nil (hK _ ?_)
 refine hN3 [] x7 _ H (by exact trivial) ?_
 simp only [sw1, go_sem, simprocAttr]
 replace H := m7 h4 H
 refine d2 ?_
 refine hN3 [] x6 _ H (by exact trivial) ?_
 simp only [sw1, go_sem, simprocAttr]
 rintro d H
 try simp only [go_sem, simprocAttr]
 refine a6 ?_
 refine a6 ?_
 refine a5 fun K hK => OW.run [1, 2, 5, 6, 7, 46] ?_
 simp only [go_sem, simprocAttr, sw0]
 refine OW.nil (hK _ ?_)
 refine b9 rfl (fun h5 => ?_) (fun h5 => ?_)
 replace H := m6 h5 H
 refine a6 ?_
 refine a5 fun K hK => ?_
 refine OW.step rfl ?_
 simp only [go_sem, simprocAttr, sw0]
 refine OW.step rfl ?_
 simp only [go_sem, simprocAttr, sw0]
 refine OW.step rfl ?_
 simp only [go_sem, simprocAttr, sw0]
 refine OW.step rfl ?_
 simp only [go_sem, simprocAttr, sw0]
 refine OW.opA (g := (x55 == d)) rfl ?_ (fun hg => ?_) (by (simp only [go_sem, Nat.reduceLT])) ?_
 simp only [go_sem, simprocAttr]
 · (first | decide | ((simp only [go_sem, simprocAttr, sw0]); done) | ((simp only [go_sem, simprocAttr, sw0]); (repeat (refine And.intro (by (first | omega | assumption | rfl | decide | (simp only [List.length_map, List.length_replicate, List.length_append, List.length_take, List.length_drop, List.length_set, List.length_cons, List.length_nil, Nat.zero_add, Int.toNat_natCast] at *; omega) | (simp only [List.length_map, List.length_replicate, List.length_append, List.length_take, List.length_drop, List.length_set, List.length_cons, List.length_nil, Nat.zero_add, Int.toNat_natCast]; done) | trivial)) ?_)); done) | ((simp only [go_sem, simprocAttr, sw0]); repeat (first | omega | rfl | trivial | refine ⟨?_, ?_⟩)))
 try simp only [go_sem, simprocAttr]
 refine OW.opA (g := (x55 == d)) rfl ?_ (fun hg => ?_) (by (simp only [go_sem, Nat.reduceLT])) ?_
 simp only [go_sem, simprocAttr]
 · (first | decide | ((simp only [go_sem, simprocAttr, sw0]); done) | ((simp only [go_sem, simprocAttr, sw0]); (repeat (refine And.intro (by (first | omega | assumption | rfl | decide | (simp only [List.length_map, List.length_replicate, List.length_append, List.length_take, List.length_drop, List.length_set, List.length_cons, List.length_nil, Nat.zero_add, Int.toNat_natCast] at *; omega) | (simp only [List.length_map, List.length_replicate, List.length_append, List.length_take, List.length_drop, List.length_set, List.length_cons, List.length_nil, Nat.zero_add, Int.toNat_natCast]; done) | trivial)) ?_)); done) | ((simp only [go_sem, simprocAttr, sw0]); repeat (first | omega | rfl | trivial | refine ⟨?_, ?_⟩)))
 try simp only [go_sem, simprocAttr]
 refine OW.run [4] ?_
 simp only [go_sem, simprocAttr, sw0]
 refine OW.nil (hK _ ?_)
 refine d5 ?_
 change PW.Ends _ _ _ _ _ _
 refine PW.Ends.intro (.inr rfl) ?_
 simp only [go_sem, simprocAttr, sw0]
 obtain rfl := Option.some.inj H
 refine a7 4 (by exact trivial) ?_
 rfl
 replace H := m7 h5 H
 refine d2 ?_
 refine a6 ?_
 obtain ⟨⟨x8, x81, x82, x83, x84, x85⟩, e8, H⟩ := a9 H
 refine a5 fun K hK => OW.run [5, 6, 8, 9] ?_
 simp only [go_sem, simprocAttr, sw0]
 refine b8 4 rfl rfl rfl (by first | exact rfl | ((simp only [go_sem, List.toList_toArray, simprocAttr]); exact rfl)) ?_ (ref09_CompareDrive_ok N _ _ _ _ _ _ _ _ e8) ?_ ?_ ?_ ?_
 rfl
 · (refine a8 ?_; (simp only [go_sem, sw2, List.length_set, List.length_replicate, and_true, true_and, Nat.le_refl, simprocAttr]; done))
 exact .inl rfl
 (simp only [go_sem, Nat.reduceLT])
 refine OW.run [5, 6, 8, 9] ?_
 simp only [go_sem, simprocAttr, sw0]
 refine OW.nil (hK _ ?_)
 refine a6 ?_
 refine a5 fun K hK => ?_
 refine OW.toS [(4, .d (Bo (((x85 && (x55 == (0 : Int))) && (Bool.and (x5 == x8) (Bool.and (x51 == x81) (Bool.and (x52 == x82) (Bool.and (x53 == x83) (x54 == x84)))))) || (((!x85) && (x55 == (12 : Int))) && (Bool.and (x5 == (0 : Int)) (Bool.and (x51 == (0 : Int)) (Bool.and (x52 == (0 : Int)) (Bool.and (x53 == (0 : Int)) (x54 == (0 : Int))))))))))] [{ cells := [.d (.list Zy.length (Zy.map L)), .d (.list Zu.length (Zu.flatMap (fun (x : ByteArray × Int × Int × Int × Int × Int × Int) => [(Sx x.1), (I x.2.1), (I x.2.2.1), (I x.2.2.2.1), (I x.2.2.2.2.1), (I x.2.2.2.2.2.1), (I x.2.2.2.2.2.2)]))), .d (.list Zx.length (Zx.flatMap (fun (x : Int × Int) => [(I x.1), (I x.2)]))), .d (I Zv), .d (I Zz), .d (I Zw)], e := 28 }, { cells := [.d (I x5), .d (I x51), .d (I x52), .d (I x53), .d (I x54)], e := 37 }, { cells := [.d (I x8), .d (I x81), .d (I x82), .d (I x83), .d (I x84)], e := 37 }] ?_ (hK _ ?_)
 ·
  intro K hKE
  have hc : ∀ b0 b1 b2 b3 : Bool, b0 = true ∧ b1 = true ∧ b2 = true ∨ b0 = true ∧ b1 = true ∧ b2 = false ∨ b0 = true ∧ b1 = false ∨ b0 = false ∧ b1 = true ∧ b2 = true ∧ b3 = true ∨ b0 = false ∧ b1 = true ∧ b2 = true ∧ b3 = false ∨ b0 = false ∧ b1 = true ∧ b2 = false ∧ b3 = true ∨ b0 = false ∧ b1 = true ∧ b2 = false ∧ b3 = false ∨ b0 = false ∧ b1 = false ∧ b2 = true ∧ b3 = true ∨ b0 = false ∧ b1 = false ∧ b2 = true ∧ b3 = false ∨ b0 = false ∧ b1 = false ∧ b2 = false ∧ b3 = true ∨ b0 = false ∧ b1 = false ∧ b2 = false ∧ b3 = false := by intro b0 b1 b2 b3; cases b0 <;> cases b1 <;> cases b2 <;> cases b3 <;> simp
  rcases hc x85 (x55 == (0 : Int)) (Bool.and (x5 == x8) (Bool.and (x51 == x81) (Bool.and (x52 == x82) (Bool.and (x53 == x83) (x54 == x84))))) (x55 == (12 : Int)) with hA | hA | hA | hA | hA | hA | hA | hA | hA | hA | hA
  all_goals
   refine OW.step rfl ?_
   (simp only [go_sem, simprocAttr, sw0, hA])
   (repeat (refine And.intro (by (first | omega | assumption | rfl | decide | (simp only [List.length_map, List.length_replicate, List.length_append, List.length_take, List.length_drop, List.length_set, List.length_cons, List.length_nil, Nat.zero_add, Int.toNat_natCast] at *; omega) | (simp only [List.length_map, List.length_replicate, List.length_append, List.length_take, List.length_drop, List.length_set, List.length_cons, List.length_nil, Nat.zero_add, Int.toNat_natCast]; done) | trivial)) ?_))
   refine OW.step rfl ?_
   (simp only [go_sem, simprocAttr, sw0, hA])
   (repeat (refine And.intro (by (first | omega | assumption | rfl | decide | (simp only [List.length_map, List.length_replicate, List.length_append, List.length_take, List.length_drop, List.length_set, List.length_cons, List.length_nil, Nat.zero_add, Int.toNat_natCast] at *; omega) | (simp only [List.length_map, List.length_replicate, List.length_append, List.length_take, List.length_drop, List.length_set, List.length_cons, List.length_nil, Nat.zero_add, Int.toNat_natCast]; done) | trivial)) ?_))
   refine OW.opA (g := x85) rfl ?_ (fun hg => ?_) (by ((simp only [go_sem, Nat.reduceLT]))) ?_
   · (first | rfl | (simp only [go_sem, simprocAttr, hA]; done) | (simp only [go_sem, simprocAttr, hA]; rfl))
   · first | ((first | decide | ((simp only [go_sem, simprocAttr, sw0]); done) | ((simp only [go_sem, simprocAttr, sw0]); (repeat (refine And.intro (by (first | omega | assumption | rfl | decide | (simp only [List.length_map, List.length_replicate, List.length_append, List.length_take, List.length_drop, List.length_set, List.length_cons, List.length_nil, Nat.zero_add, Int.toNat_natCast] at *; omega) | (simp only [List.length_map, List.length_replicate, List.length_append, List.length_take, List.length_drop, List.length_set, List.length_cons, List.length_nil, Nat.zero_add, Int.toNat_natCast]; done) | trivial)) ?_)); done) | ((simp only [go_sem, simprocAttr, sw0]); repeat (first | omega | rfl | trivial | refine ⟨?_, ?_⟩))); done) | ((simp only [go_sem, simprocAttr, sw0, hA]); done)
   (try simp only [go_sem, simprocAttr])
   refine OW.opA (g := x85) rfl ?_ (fun hg => ?_) (by ((simp only [go_sem, Nat.reduceLT]))) ?_
   · (first | rfl | (simp only [go_sem, simprocAttr, hA]; done) | (simp only [go_sem, simprocAttr, hA]; rfl))
   · first | ((first | decide | ((simp only [go_sem, simprocAttr, sw0]); done) | ((simp only [go_sem, simprocAttr, sw0]); (repeat (refine And.intro (by (first | omega | assumption | rfl | decide | (simp only [List.length_map, List.length_replicate, List.length_append, List.length_take, List.length_drop, List.length_set, List.length_cons, List.length_nil, Nat.zero_add, Int.toNat_natCast] at *; omega) | (simp only [List.length_map, List.length_replicate, List.length_append, List.length_take, List.length_drop, List.length_set, List.length_cons, List.length_nil, Nat.zero_add, Int.toNat_natCast]; done) | trivial)) ?_)); done) | ((simp only [go_sem, simprocAttr, sw0]); repeat (first | omega | rfl | trivial | refine ⟨?_, ?_⟩))); done) | ((simp only [go_sem, simprocAttr, sw0, hA]); done)
   (try simp only [go_sem, simprocAttr])
   refine OW.step rfl ?_
   (simp only [go_sem, simprocAttr, sw0, hA])
   (repeat (refine And.intro (by (first | omega | assumption | rfl | decide | (simp only [List.length_map, List.length_replicate, List.length_append, List.length_take, List.length_drop, List.length_set, List.length_cons, List.length_nil, Nat.zero_add, Int.toNat_natCast] at *; omega) | (simp only [List.length_map, List.length_replicate, List.length_append, List.length_take, List.length_drop, List.length_set, List.length_cons, List.length_nil, Nat.zero_add, Int.toNat_natCast]; done) | trivial)) ?_))
   refine OW.step rfl ?_
   (simp only [go_sem, simprocAttr, sw0, hA])
   (repeat (refine And.intro (by (first | omega | assumption | rfl | decide | (simp only [List.length_map, List.length_replicate, List.length_append, List.length_take, List.length_drop, List.length_set, List.length_cons, List.length_nil, Nat.zero_add, Int.toNat_natCast] at *; omega) | (simp only [List.length_map, List.length_replicate, List.length_append, List.length_take, List.length_drop, List.length_set, List.length_cons, List.length_nil, Nat.zero_add, Int.toNat_natCast]; done) | trivial)) ?_))
   refine OW.opA (g := (x85 && (x55 == (0 : Int)))) rfl ?_ (fun hg => ?_) (by ((simp only [go_sem, Nat.reduceLT]))) ?_
   · (first | rfl | (simp only [go_sem, simprocAttr, hA]; done) | (simp only [go_sem, simprocAttr, hA]; rfl))
   · first | ((first | decide | ((simp only [go_sem, simprocAttr, sw0]); done) | ((simp only [go_sem, simprocAttr, sw0]); (repeat (refine And.intro (by (first | omega | assumption | rfl | decide | (simp only [List.length_map, List.length_replicate, List.length_append, List.length_take, List.length_drop, List.length_set, List.length_cons, List.length_nil, Nat.zero_add, Int.toNat_natCast] at *; omega) | (simp only [List.length_map, List.length_replicate, List.length_append, List.length_take, List.length_drop, List.length_set, List.length_cons, List.length_nil, Nat.zero_add, Int.toNat_natCast]; done) | trivial)) ?_)); done) | ((simp only [go_sem, simprocAttr, sw0]); repeat (first | omega | rfl | trivial | refine ⟨?_, ?_⟩))); done) | ((simp only [go_sem, simprocAttr, sw0, hA]); done)
   (try simp only [go_sem, simprocAttr])
   refine OW.opA (g := (x85 && (x55 == (0 : Int)))) rfl ?_ (fun hg => ?_) (by ((simp only [go_sem, Nat.reduceLT]))) ?_
   · (first | rfl | (simp only [go_sem, simprocAttr, hA]; done) | (simp only [go_sem, simprocAttr, hA]; rfl))
   · first | ((first | decide | ((simp only [go_sem, simprocAttr, sw0]); done) | ((simp only [go_sem, simprocAttr, sw0]); (repeat (refine And.intro (by (first | omega | assumption | rfl | decide | (simp only [List.length_map, List.length_replicate, List.length_append, List.length_take, List.length_drop, List.length_set, List.length_cons, List.length_nil, Nat.zero_add, Int.toNat_natCast] at *; omega) | (simp only [List.length_map, List.length_replicate, List.length_append, List.length_take, List.length_drop, List.length_set, List.length_cons, List.length_nil, Nat.zero_add, Int.toNat_natCast]; done) | trivial)) ?_)); done) | ((simp only [go_sem, simprocAttr, sw0]); repeat (first | omega | rfl | trivial | refine ⟨?_, ?_⟩))); done) | ((simp only [go_sem, simprocAttr, sw0, hA]); done)
   (try simp only [go_sem, simprocAttr])
   refine OW.opA (g := (x85 && (x55 == (0 : Int)))) rfl ?_ (fun hg => ?_) (by ((simp only [go_sem, Nat.reduceLT]))) ?_
   · (first | rfl | (simp only [go_sem, simprocAttr, hA]; done) | (simp only [go_sem, simprocAttr, hA]; rfl))
   · first | ((first | decide | ((simp only [go_sem, simprocAttr, sw0]); done) | ((simp only [go_sem, simprocAttr, sw0]); (repeat (refine And.intro (by (first | omega | assumption | rfl | decide | (simp only [List.length_map, List.length_replicate, List.length_append, List.length_take, List.length_drop, List.length_set, List.length_cons, List.length_nil, Nat.zero_add, Int.toNat_natCast] at *; omega) | (simp only [List.length_map, List.length_replicate, List.length_append, List.length_take, List.length_drop, List.length_set, List.length_cons, List.length_nil, Nat.zero_add, Int.toNat_natCast]; done) | trivial)) ?_)); done) | ((simp only [go_sem, simprocAttr, sw0]); repeat (first | omega | rfl | trivial | refine ⟨?_, ?_⟩))); done) | ((simp only [go_sem, simprocAttr, sw0, hA]); done)
   (try simp only [go_sem, simprocAttr])
   refine OW.step rfl ?_
   (simp only [go_sem, simprocAttr, sw0, hA])
   (repeat (refine And.intro (by (first | omega | assumption | rfl | decide | (simp only [List.length_map, List.length_replicate, List.length_append, List.length_take, List.length_drop, List.length_set, List.length_cons, List.length_nil, Nat.zero_add, Int.toNat_natCast] at *; omega) | (simp only [List.length_map, List.length_replicate, List.length_append, List.length_take, List.length_drop, List.length_set, List.length_cons, List.length_nil, Nat.zero_add, Int.toNat_natCast]; done) | trivial)) ?_))
   refine OW.step rfl ?_
   (simp only [go_sem, simprocAttr, sw0, hA])
   (repeat (refine And.intro (by (first | omega | assumption | rfl | decide | (simp only [List.length_map, List.length_replicate, List.length_append, List.length_take, List.length_drop, List.length_set, List.length_cons, List.length_nil, Nat.zero_add, Int.toNat_natCast] at *; omega) | (simp only [List.length_map, List.length_replicate, List.length_append, List.length_take, List.length_drop, List.length_set, List.length_cons, List.length_nil, Nat.zero_add, Int.toNat_natCast]; done) | trivial)) ?_))
   refine OW.opA (g := (!((x85 && (x55 == (0 : Int))) && (Bool.and (x5 == x8) (Bool.and (x51 == x81) (Bool.and (x52 == x82) (Bool.and (x53 == x83) (x54 == x84)))))))) rfl ?_ (fun hg => ?_) (by ((simp only [go_sem, Nat.reduceLT]))) ?_
   · (first | rfl | (simp only [go_sem, simprocAttr, hA]; done) | (simp only [go_sem, simprocAttr, hA]; rfl))
   · first | ((first | decide | ((simp only [go_sem, simprocAttr, sw0]); done) | ((simp only [go_sem, simprocAttr, sw0]); (repeat (refine And.intro (by (first | omega | assumption | rfl | decide | (simp only [List.length_map, List.length_replicate, List.length_append, List.length_take, List.length_drop, List.length_set, List.length_cons, List.length_nil, Nat.zero_add, Int.toNat_natCast] at *; omega) | (simp only [List.length_map, List.length_replicate, List.length_append, List.length_take, List.length_drop, List.length_set, List.length_cons, List.length_nil, Nat.zero_add, Int.toNat_natCast]; done) | trivial)) ?_)); done) | ((simp only [go_sem, simprocAttr, sw0]); repeat (first | omega | rfl | trivial | refine ⟨?_, ?_⟩))); done) | ((simp only [go_sem, simprocAttr, sw0, hA]); done)
   (try simp only [go_sem, simprocAttr])
   refine OW.opA (g := (!((x85 && (x55 == (0 : Int))) && (Bool.and (x5 == x8) (Bool.and (x51 == x81) (Bool.and (x52 == x82) (Bool.and (x53 == x83) (x54 == x84)))))))) rfl ?_ (fun hg => ?_) (by ((simp only [go_sem, Nat.reduceLT]))) ?_
   · (first | rfl | (simp only [go_sem, simprocAttr, hA]; done) | (simp only [go_sem, simprocAttr, hA]; rfl))
   · first | ((first | decide | ((simp only [go_sem, simprocAttr, sw0]); done) | ((simp only [go_sem, simprocAttr, sw0]); (repeat (refine And.intro (by (first | omega | assumption | rfl | decide | (simp only [List.length_map, List.length_replicate, List.length_append, List.length_take, List.length_drop, List.length_set, List.length_cons, List.length_nil, Nat.zero_add, Int.toNat_natCast] at *; omega) | (simp only [List.length_map, List.length_replicate, List.length_append, List.length_take, List.length_drop, List.length_set, List.length_cons, List.length_nil, Nat.zero_add, Int.toNat_natCast]; done) | trivial)) ?_)); done) | ((simp only [go_sem, simprocAttr, sw0]); repeat (first | omega | rfl | trivial | refine ⟨?_, ?_⟩))); done) | ((simp only [go_sem, simprocAttr, sw0, hA]); done)
   (try simp only [go_sem, simprocAttr])
   refine OW.opA (g := (!((x85 && (x55 == (0 : Int))) && (Bool.and (x5 == x8) (Bool.and (x51 == x81) (Bool.and (x52 == x82) (Bool.and (x53 == x83) (x54 == x84)))))))) rfl ?_ (fun hg => ?_) (by ((simp only [go_sem, Nat.reduceLT]))) ?_
   · (first | rfl | (simp only [go_sem, simprocAttr, hA]; done) | (simp only [go_sem, simprocAttr, hA]; rfl))
   · first | ((first | decide | ((simp only [go_sem, simprocAttr, sw0]); done) | ((simp only [go_sem, simprocAttr, sw0]); (repeat (refine And.intro (by (first | omega | assumption | rfl | decide | (simp only [List.length_map, List.length_replicate, List.length_append, List.length_take, List.length_drop, List.length_set, List.length_cons, List.length_nil, Nat.zero_add, Int.toNat_natCast] at *; omega) | (simp only [List.length_map, List.length_replicate, List.length_append, List.length_take, List.length_drop, List.length_set, List.length_cons, List.length_nil, Nat.zero_add, Int.toNat_natCast]; done) | trivial)) ?_)); done) | ((simp only [go_sem, simprocAttr, sw0]); repeat (first | omega | rfl | trivial | refine ⟨?_, ?_⟩))); done) | ((simp only [go_sem, simprocAttr, sw0, hA]); done)
   (try simp only [go_sem, simprocAttr])
   refine OW.opA (g := ((!((x85 && (x55 == (0 : Int))) && (Bool.and (x5 == x8) (Bool.and (x51 == x81) (Bool.and (x52 == x82) (Bool.and (x53 == x83) (x54 == x84))))))) && (!x85))) rfl ?_ (fun hg => ?_) (by ((simp only [go_sem, Nat.reduceLT]))) ?_
   · (first | rfl | (simp only [go_sem, simprocAttr, hA]; done) | (simp only [go_sem, simprocAttr, hA]; rfl))
   · first | ((first | decide | ((simp only [go_sem, simprocAttr, sw0]); done) | ((simp only [go_sem, simprocAttr, sw0]); (repeat (refine And.intro (by (first | omega | assumption | rfl | decide | (simp only [List.length_map, List.length_replicate, List.length_append, List.length_take, List.length_drop, List.length_set, List.length_cons, List.length_nil, Nat.zero_add, Int.toNat_natCast] at *; omega) | (simp only [List.length_map, List.length_replicate, List.length_append, List.length_take, List.length_drop, List.length_set, List.length_cons, List.length_nil, Nat.zero_add, Int.toNat_natCast]; done) | trivial)) ?_)); done) | ((simp only [go_sem, simprocAttr, sw0]); repeat (first | omega | rfl | trivial | refine ⟨?_, ?_⟩))); done) | ((simp only [go_sem, simprocAttr, sw0, hA]); done)
   (try simp only [go_sem, simprocAttr])
   refine OW.opA (g := ((!((x85 && (x55 == (0 : Int))) && (Bool.and (x5 == x8) (Bool.and (x51 == x81) (Bool.and (x52 == x82) (Bool.and (x53 == x83) (x54 == x84))))))) && (!x85))) rfl ?_ (fun hg => ?_) (by ((simp only [go_sem, Nat.reduceLT]))) ?_
   · (first | rfl | (simp only [go_sem, simprocAttr, hA]; done) | (simp only [go_sem, simprocAttr, hA]; rfl))
   · first | ((first | decide | ((simp only [go_sem, simprocAttr, sw0]); done) | ((simp only [go_sem, simprocAttr, sw0]); (repeat (refine And.intro (by (first | omega | assumption | rfl | decide | (simp only [List.length_map, List.length_replicate, List.length_append, List.length_take, List.length_drop, List.length_set, List.length_cons, List.length_nil, Nat.zero_add, Int.toNat_natCast] at *; omega) | (simp only [List.length_map, List.length_replicate, List.length_append, List.length_take, List.length_drop, List.length_set, List.length_cons, List.length_nil, Nat.zero_add, Int.toNat_natCast]; done) | trivial)) ?_)); done) | ((simp only [go_sem, simprocAttr, sw0]); repeat (first | omega | rfl | trivial | refine ⟨?_, ?_⟩))); done) | ((simp only [go_sem, simprocAttr, sw0, hA]); done)
   (try simp only [go_sem, simprocAttr])
   refine OW.opA (g := (!((x85 && (x55 == (0 : Int))) && (Bool.and (x5 == x8) (Bool.and (x51 == x81) (Bool.and (x52 == x82) (Bool.and (x53 == x83) (x54 == x84)))))))) rfl ?_ (fun hg => ?_) (by ((simp only [go_sem, Nat.reduceLT]))) ?_
   · (first | rfl | (simp only [go_sem, simprocAttr, hA]; done) | (simp only [go_sem, simprocAttr, hA]; rfl))
   · first | ((first | decide | ((simp only [go_sem, simprocAttr, sw0]); done) | ((simp only [go_sem, simprocAttr, sw0]); (repeat (refine And.intro (by (first | omega | assumption | rfl | decide | (simp only [List.length_map, List.length_replicate, List.length_append, List.length_take, List.length_drop, List.length_set, List.length_cons, List.length_nil, Nat.zero_add, Int.toNat_natCast] at *; omega) | (simp only [List.length_map, List.length_replicate, List.length_append, List.length_take, List.length_drop, List.length_set, List.length_cons, List.length_nil, Nat.zero_add, Int.toNat_natCast]; done) | trivial)) ?_)); done) | ((simp only [go_sem, simprocAttr, sw0]); repeat (first | omega | rfl | trivial | refine ⟨?_, ?_⟩))); done) | ((simp only [go_sem, simprocAttr, sw0, hA]); done)
   (try simp only [go_sem, simprocAttr])
   refine OW.opA (g := (!((x85 && (x55 == (0 : Int))) && (Bool.and (x5 == x8) (Bool.and (x51 == x81) (Bool.and (x52 == x82) (Bool.and (x53 == x83) (x54 == x84)))))))) rfl ?_ (fun hg => ?_) (by ((simp only [go_sem, Nat.reduceLT]))) ?_
   · (first | rfl | (simp only [go_sem, simprocAttr, hA]; done) | (simp only [go_sem, simprocAttr, hA]; rfl))
   · first | ((first | decide | ((simp only [go_sem, simprocAttr, sw0]); done) | ((simp only [go_sem, simprocAttr, sw0]); (repeat (refine And.intro (by (first | omega | assumption | rfl | decide | (simp only [List.length_map, List.length_replicate, List.length_append, List.length_take, List.length_drop, List.length_set, List.length_cons, List.length_nil, Nat.zero_add, Int.toNat_natCast] at *; omega) | (simp only [List.length_map, List.length_replicate, List.length_append, List.length_take, List.length_drop, List.length_set, List.length_cons, List.length_nil, Nat.zero_add, Int.toNat_natCast]; done) | trivial)) ?_)); done) | ((simp only [go_sem, simprocAttr, sw0]); repeat (first | omega | rfl | trivial | refine ⟨?_, ?_⟩))); done) | ((simp only [go_sem, simprocAttr, sw0, hA]); done)
   (try simp only [go_sem, simprocAttr])
   refine OW.opA (g := ((!((x85 && (x55 == (0 : Int))) && (Bool.and (x5 == x8) (Bool.and (x51 == x81) (Bool.and (x52 == x82) (Bool.and (x53 == x83) (x54 == x84))))))) && ((!x85) && (x55 == (12 : Int))))) rfl ?_ (fun hg => ?_) (by ((simp only [go_sem, Nat.reduceLT]))) ?_
   · (first | rfl | (simp only [go_sem, simprocAttr, hA]; done) | (simp only [go_sem, simprocAttr, hA]; rfl))
   · first | ((first | decide | ((simp only [go_sem, simprocAttr, sw0]); done) | ((simp only [go_sem, simprocAttr, sw0]); (repeat (refine And.intro (by (first | omega | assumption | rfl | decide | (simp only [List.length_map, List.length_replicate, List.length_append, List.length_take, List.length_drop, List.length_set, List.length_cons, List.length_nil, Nat.zero_add, Int.toNat_natCast] at *; omega) | (simp only [List.length_map, List.length_replicate, List.length_append, List.length_take, List.length_drop, List.length_set, List.length_cons, List.length_nil, Nat.zero_add, Int.toNat_natCast]; done) | trivial)) ?_)); done) | ((simp only [go_sem, simprocAttr, sw0]); repeat (first | omega | rfl | trivial | refine ⟨?_, ?_⟩))); done) | ((simp only [go_sem, simprocAttr, sw0, hA]); done)
   (try simp only [go_sem, simprocAttr])
   refine OW.opA (g := ((!((x85 && (x55 == (0 : Int))) && (Bool.and (x5 == x8) (Bool.and (x51 == x81) (Bool.and (x52 == x82) (Bool.and (x53 == x83) (x54 == x84))))))) && ((!x85) && (x55 == (12 : Int))))) rfl ?_ (fun hg => ?_) (by ((simp only [go_sem, Nat.reduceLT]))) ?_
   · (first | rfl | (simp only [go_sem, simprocAttr, hA]; done) | (simp only [go_sem, simprocAttr, hA]; rfl))
   · first | ((first | decide | ((simp only [go_sem, simprocAttr, sw0]); done) | ((simp only [go_sem, simprocAttr, sw0]); (repeat (refine And.intro (by (first | omega | assumption | rfl | decide | (simp only [List.length_map, List.length_replicate, List.length_append, List.length_take, List.length_drop, List.length_set, List.length_cons, List.length_nil, Nat.zero_add, Int.toNat_natCast] at *; omega) | (simp only [List.length_map, List.length_replicate, List.length_append, List.length_take, List.length_drop, List.length_set, List.length_cons, List.length_nil, Nat.zero_add, Int.toNat_natCast]; done) | trivial)) ?_)); done) | ((simp only [go_sem, simprocAttr, sw0]); repeat (first | omega | rfl | trivial | refine ⟨?_, ?_⟩))); done) | ((simp only [go_sem, simprocAttr, sw0, hA]); done)
   (try simp only [go_sem, simprocAttr])
   refine OW.run [4] ?_
   (simp only [go_sem, simprocAttr, sw0, hA])
   (repeat (refine And.intro (by (first | omega | assumption | rfl | decide | (simp only [List.length_map, List.length_replicate, List.length_append, List.length_take, List.length_drop, List.length_set, List.length_cons, List.length_nil, Nat.zero_add, Int.toNat_natCast] at *; omega) | (simp only [List.length_map, List.length_replicate, List.length_append, List.length_take, List.length_drop, List.length_set, List.length_cons, List.length_nil, Nat.zero_add, Int.toNat_natCast]; done) | trivial)) ?_))
   refine OW.nil ((congrArg K ?_).mpr hKE)
   (first | rfl | (simp only [go_sem, simprocAttr, hA]; done) | (simp only [go_sem, simprocAttr, hA]; rfl))
 clear hK K
 refine d5 ?_
 change PW.Ends _ _ _ _ _ _
 refine PW.Ends.intro (.inr rfl) ?_
 simp only [go_sem, simprocAttr, sw0]
 obtain rfl := Option.some.inj H
 refine a7 4 (by exact trivial) ?_
 rfl
end Go.Proofs.YtklejiafioalnaaGreat
