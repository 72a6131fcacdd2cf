import Derived.Test.YtabojpkmfkjjkaaSsBase
import Derived.Test.YtabojpkmfkjjkaaSsW0
set_option linter.all false
namespace Go.Proofs.Ytabojpkmfkjjkaa
open Go.PW Go.Sh

set_option maxRecDepth 20000
set_option maxHeartbeats 8000000
def z0W1a := j5 9 (fun (x : ByteArray × Int × Int × Int × Int × Int × Int × Int × Int) => [(Sx x.1), (I x.2.1), (I x.2.2.1), (I x.2.2.2.1), (I x.2.2.2.2.1), (I x.2.2.2.2.2.1), (I x.2.2.2.2.2.2.1), (I x.2.2.2.2.2.2.2.1), (I x.2.2.2.2.2.2.2.2)]) (fun _ => rfl)
def z1W1a := sub_el 9 (fun (x : ByteArray × Int × Int × Int × Int × Int × Int × Int × Int) => [(Sx x.1), (I x.2.1), (I x.2.2.1), (I x.2.2.2.1), (I x.2.2.2.2.1), (I x.2.2.2.2.2.1), (I x.2.2.2.2.2.2.1), (I x.2.2.2.2.2.2.2.1), (I x.2.2.2.2.2.2.2.2)]) (fun _ => rfl)
def z2W1a := allOne_flatF (fun (x : ByteArray × Int × Int × Int × Int × Int × Int × Int × Int) => [(Sx x.1), (I x.2.1), (I x.2.2.1), (I x.2.2.2.1), (I x.2.2.2.2.1), (I x.2.2.2.2.2.1), (I x.2.2.2.2.2.2.1), (I x.2.2.2.2.2.2.2.1), (I x.2.2.2.2.2.2.2.2)]) (fun _ => rfl)
def z3W1a := map_nz_flat (f := (fun (x : ByteArray × Int × Int × Int × Int × Int × Int × Int × Int) => [(Sx x.1), (I x.2.1), (I x.2.2.1), (I x.2.2.2.1), (I x.2.2.2.2.1), (I x.2.2.2.2.2.1), (I x.2.2.2.2.2.2.1), (I x.2.2.2.2.2.2.2.1), (I x.2.2.2.2.2.2.2.2)])) (fun _ => rfl)
def z4W1a := takeFlat (fun (x : ByteArray × Int × Int × Int × Int × Int × Int × Int × Int) => [(Sx x.1), (I x.2.1), (I x.2.2.1), (I x.2.2.2.1), (I x.2.2.2.2.1), (I x.2.2.2.2.2.1), (I x.2.2.2.2.2.2.1), (I x.2.2.2.2.2.2.2.1), (I x.2.2.2.2.2.2.2.2)]) 9 (fun _ => rfl)
def z5W1a := takeFlat1 (fun (x : ByteArray × Int × Int × Int × Int × Int × Int × Int × Int) => [(Sx x.1), (I x.2.1), (I x.2.2.1), (I x.2.2.2.1), (I x.2.2.2.2.1), (I x.2.2.2.2.2.1), (I x.2.2.2.2.2.2.1), (I x.2.2.2.2.2.2.2.1), (I x.2.2.2.2.2.2.2.2)]) 9 (fun _ => rfl)
def z6W1a := takeFlatS (fun (x : ByteArray × Int × Int × Int × Int × Int × Int × Int × Int) => [(Sx x.1), (I x.2.1), (I x.2.2.1), (I x.2.2.2.1), (I x.2.2.2.2.1), (I x.2.2.2.2.2.1), (I x.2.2.2.2.2.2.1), (I x.2.2.2.2.2.2.2.1), (I x.2.2.2.2.2.2.2.2)]) 9 (fun _ => rfl)
def z7W1a := allValFlat (fun (x : ByteArray × Int × Int × Int × Int × Int × Int × Int × Int) => [(Sx x.1), (I x.2.1), (I x.2.2.1), (I x.2.2.2.1), (I x.2.2.2.2.1), (I x.2.2.2.2.2.1), (I x.2.2.2.2.2.2.1), (I x.2.2.2.2.2.2.2.1), (I x.2.2.2.2.2.2.2.2)]) (fun _ => rfl)
def z8W1a := segFlatSnoc (fun (x : ByteArray × Int × Int × Int × Int × Int × Int × Int × Int) => [(Sx x.1), (I x.2.1), (I x.2.2.1), (I x.2.2.2.1), (I x.2.2.2.2.1), (I x.2.2.2.2.2.1), (I x.2.2.2.2.2.2.1), (I x.2.2.2.2.2.2.2.1), (I x.2.2.2.2.2.2.2.2)]) 9 (fun _ => rfl)
def z9W1a := takeFlatSnoc (fun (x : ByteArray × Int × Int × Int × Int × Int × Int × Int × Int) => [(Sx x.1), (I x.2.1), (I x.2.2.1), (I x.2.2.2.1), (I x.2.2.2.2.1), (I x.2.2.2.2.2.1), (I x.2.2.2.2.2.2.1), (I x.2.2.2.2.2.2.2.1), (I x.2.2.2.2.2.2.2.2)]) 9 (fun _ => rfl)
def z10W1a := subV_el 9 (fun (x : ByteArray × Int × Int × Int × Int × Int × Int × Int × Int) => [(Sx x.1), (I x.2.1), (I x.2.2.1), (I x.2.2.2.1), (I x.2.2.2.2.1), (I x.2.2.2.2.2.1), (I x.2.2.2.2.2.2.1), (I x.2.2.2.2.2.2.2.1), (I x.2.2.2.2.2.2.2.2)]) (fun _ => rfl)
def z11W1a := getD_elV0 9 (fun (x : ByteArray × Int × Int × Int × Int × Int × Int × Int × Int) => [(Sx x.1), (I x.2.1), (I x.2.2.1), (I x.2.2.2.1), (I x.2.2.2.2.1), (I x.2.2.2.2.2.1), (I x.2.2.2.2.2.2.1), (I x.2.2.2.2.2.2.2.1), (I x.2.2.2.2.2.2.2.2)]) (fun _ => rfl)
def z12W1a := getD_elV 9 (fun (x : ByteArray × Int × Int × Int × Int × Int × Int × Int × Int) => [(Sx x.1), (I x.2.1), (I x.2.2.1), (I x.2.2.2.1), (I x.2.2.2.2.1), (I x.2.2.2.2.2.1), (I x.2.2.2.2.2.2.1), (I x.2.2.2.2.2.2.2.1), (I x.2.2.2.2.2.2.2.2)]) (fun _ => rfl)
def z13W1a := slices_Delete_bb (fun (x : ByteArray × Int × Int × Int × Int × Int × Int × Int × Int) => [(Sx x.1), (I x.2.1), (I x.2.2.1), (I x.2.2.2.1), (I x.2.2.2.2.1), (I x.2.2.2.2.2.1), (I x.2.2.2.2.2.2.1), (I x.2.2.2.2.2.2.2.1), (I x.2.2.2.2.2.2.2.2)]) (fun _ => rfl)
theorem sched_last_ok (N : Nat) (l : List TB) (kind : Int) (r : Int) (H : sched_last N l kind = some r) : CallOK Try.prog 94 [(.list l.length (l.flatMap (fun (x : ByteArray × Int × Int × Int × Int × Int × Int × Int × Int) => [(Sx x.1), (I x.2.1), (I x.2.2.1), (I x.2.2.2.1), (I x.2.2.2.2.1), (I x.2.2.2.2.2.1), (I x.2.2.2.2.2.2.1), (I x.2.2.2.2.2.2.2.1), (I x.2.2.2.2.2.2.2.2)]))), (I kind)] (.d (I r)) [] := by
 refine d4 Try.func94 rfl (by rw [Try.results94]) Try.ntmps94 Try.call94 ?_
 change PW _ _ _ _ _
 try simp only [go_sem, simprocAttr]
 unfold sched_last at H
 refine a5 ?_
 refine a0 fun K hK => OW.run [0, 1] ?_
 simp only [go_sem, simprocAttr, sw0]
 refine OW.nil (hK _ ?_)
 refine a5 ?_
 refine a0 fun K hK => OW.run [0, 1, 5] ?_
 simp only [go_sem, simprocAttr, sw0]
 refine OW.nil (hK _ ?_)
 refine i6 (τ := Int) [5] 0 (fun at_ => [(5, .d (I at_))]) (fun at_ => []) _ _ r (by exact Nat.le_refl _) H ?_ ?_
 intro K_ H N1 hN1
 refine a5 ?_
 refine a0 fun K hK => OW.run [0, 1, 5, 8, 9, 10] ?_
 simp only [go_sem, simprocAttr, sw0]
 refine OW.nil (hK _ ?_)
 refine PW.block ?_
 refine i7 (σ := Int × Int) [0, 1, 5, 8, 9, 10] 0 (fun (at_1, t10) => [(5, .d (I at_1)), (10, .d (I t10))]) (fun (at_1, t10) => []) (sched_last.b1 N l kind K_) r N ((-1 : Int), (0 : Int)) (by exact Nat.le_refl _) H (by (simp only [sw1, go_sem, simprocAttr]; done)) ?_
 rintro n ⟨at_1, t10⟩ H N2 hN2
 unfold sched_last.b1 at H
 try simp only [go_sem, simprocAttr]
 refine a5 ?_
 refine a0 fun K hK => OW.run [0, 1, 5, 8, 9, 10, 11] ?_
 simp only [go_sem, simprocAttr, sw0]
 refine OW.nil (hK _ ?_)
 refine a5 ?_
 refine d8 rfl (fun h3 => ?_) (fun h3 => ?_)
 replace H := l4 h3 H
 refine d9 ?_
 refine a5 ?_
 refine PW.block ?_
 refine a5 ?_
 obtain ⟨c4, H⟩ := d5 H
 refine a0 fun K hK => OW.run [0, 1, 5, 6, 7, 8, 9, 10] ?_
 (simp only [go_sem, simprocAttr, sw0, z0W1a, z1W1a l t10.toNat (by omega)])
 repeat (refine And.intro (by omega) ?_)
 refine OW.nil (hK _ ?_)
 refine a5 ?_
 obtain ⟨c5, H⟩ := d5 H
 refine j1 15 o9 (by kernel_rfl) fun K hK => ?_
 change FW _ _ _ _ _
 refine FW.toS [(0, .d (.list l.length (l.flatMap (fun (x : ByteArray × Int × Int × Int × Int × Int × Int × Int × Int) => [(Sx x.1), (I x.2.1), (I x.2.2.1), (I x.2.2.2.1), (I x.2.2.2.2.1), (I x.2.2.2.2.2.1), (I x.2.2.2.2.2.2.1), (I x.2.2.2.2.2.2.2.1), (I x.2.2.2.2.2.2.2.2)])))), (1, .d (I kind)), (5, .d (I at_1)), (6, .d (I t10)), (8, .d (.list l.length (l.flatMap (fun (x : ByteArray × Int × Int × Int × Int × Int × Int × Int × Int) => [(Sx x.1), (I x.2.1), (I x.2.2.1), (I x.2.2.2.1), (I x.2.2.2.2.1), (I x.2.2.2.2.2.1), (I x.2.2.2.2.2.2.1), (I x.2.2.2.2.2.2.2.1), (I x.2.2.2.2.2.2.2.2)])))), (9, .d (I (l.length : Int))), (10, .d (I t10)), (32, .d (Bo (((l.getD t10.toNat default).2.1 == kind) && ((decide (at_1 < (0 : Int))) || (decide ((l.getD t10.toNat default).2.2.1 ≥ (l.getD at_1.toNat default).2.2.1))))))] [{ cells := [.d (Sx ((l.getD t10.toNat default).1)), .d (I ((l.getD t10.toNat default).2.1)), .d (I ((l.getD t10.toNat default).2.2.1)), .d (I ((l.getD t10.toNat default).2.2.2.1)), .d (I ((l.getD t10.toNat default).2.2.2.2.1)), .d (I ((l.getD t10.toNat default).2.2.2.2.2.1)), .d (I ((l.getD t10.toNat default).2.2.2.2.2.2.1)), .d (I ((l.getD t10.toNat default).2.2.2.2.2.2.2.1)), .d (I ((l.getD t10.toNat default).2.2.2.2.2.2.2.2))], e := 27 }] ?_ (hK _ ?_)
 intro K hKE
 rcases Bool.eq_false_or_eq_true (((l.getD t10.toNat default).2.1 == kind)) with ha0 | ha0
 rcases Bool.eq_false_or_eq_true ((decide (at_1 < (0 : Int)))) with ha1 | ha1
 ·
  try simp only [ha0, ha1, sb0, true_implies, false_implies, forall_const] at c5
  refine FW.run ?_
  (simp only [go_sem, simprocAttr, sw0, ha0, ha1])
  repeat (refine And.intro (by first | omega | (intro hg; have hq := c5 (by first | exact hg | simpa using hg); first | omega | exact hq | (simp only [List.length_map]; omega)) | (first | omega | assumption | rfl | decide | (simp only [List.length_map, List.length_replicate, List.length_append, List.length_take, List.length_drop, List.length_set, List.length_cons, List.length_nil, Nat.zero_add, Int.toNat_natCast] at *; omega) | (simp only [List.length_map, List.length_replicate, List.length_append, List.length_take, List.length_drop, List.length_set, List.length_cons, List.length_nil, Nat.zero_add, Int.toNat_natCast]; done) | trivial)) ?_)
  refine FW.nil ?_
  change OW _ _ _ _ _ _
  refine OW.run [0, 1, 5, 6, 8, 9, 10, 32] ?_
  (simp only [go_sem, simprocAttr, sw0, ha0, ha1])
  repeat (refine And.intro (by first | omega | (intro hg; have hq := c5 (by first | exact hg | simpa using hg); first | omega | exact hq | (simp only [List.length_map]; omega)) | (first | omega | assumption | rfl | decide | (simp only [List.length_map, List.length_replicate, List.length_append, List.length_take, List.length_drop, List.length_set, List.length_cons, List.length_nil, Nat.zero_add, Int.toNat_natCast] at *; omega) | (simp only [List.length_map, List.length_replicate, List.length_append, List.length_take, List.length_drop, List.length_set, List.length_cons, List.length_nil, Nat.zero_add, Int.toNat_natCast]; done) | trivial)) ?_)
  refine OW.nil ((congrArg K ?_).mpr hKE)
  · (first | rfl | (simp only [go_sem, simprocAttr, ha0, ha1]; done) | (simp only [go_sem, simprocAttr, ha0, ha1]; rfl))
 ·
  try simp only [ha0, ha1, sb0, true_implies, false_implies, forall_const] at c5
  refine FW.run ?_
  (simp only [go_sem, simprocAttr, sw0, z0W1a, z1W1a l at_1.toNat (by omega), ha0, ha1])
  repeat (refine And.intro (by first | omega | (intro hg; have hq := c5 (by first | exact hg | simpa using hg); first | omega | exact hq | (simp only [List.length_map]; omega)) | (first | omega | assumption | rfl | decide | (simp only [List.length_map, List.length_replicate, List.length_append, List.length_take, List.length_drop, List.length_set, List.length_cons, List.length_nil, Nat.zero_add, Int.toNat_natCast] at *; omega) | (simp only [List.length_map, List.length_replicate, List.length_append, List.length_take, List.length_drop, List.length_set, List.length_cons, List.length_nil, Nat.zero_add, Int.toNat_natCast]; done) | trivial)) ?_)
  refine FW.nil ?_
  change OW _ _ _ _ _ _
  refine OW.run [0, 1, 5, 6, 8, 9, 10, 32] ?_
  (simp only [go_sem, simprocAttr, sw0, z0W1a, z1W1a l at_1.toNat (by omega), ha0, ha1])
  repeat (refine And.intro (by first | omega | (intro hg; have hq := c5 (by first | exact hg | simpa using hg); first | omega | exact hq | (simp only [List.length_map]; omega)) | (first | omega | assumption | rfl | decide | (simp only [List.length_map, List.length_replicate, List.length_append, List.length_take, List.length_drop, List.length_set, List.length_cons, List.length_nil, Nat.zero_add, Int.toNat_natCast] at *; omega) | (simp only [List.length_map, List.length_replicate, List.length_append, List.length_take, List.length_drop, List.length_set, List.length_cons, List.length_nil, Nat.zero_add, Int.toNat_natCast]; done) | trivial)) ?_)
  refine OW.nil ((congrArg K ?_).mpr hKE)
  · (first | rfl | (simp only [go_sem, simprocAttr, ha0, ha1]; done) | (simp only [go_sem, simprocAttr, ha0, ha1]; rfl))
 ·
  try simp only [ha0, sb0, true_implies, false_implies, forall_const] at c5
  refine FW.run ?_
  (simp only [go_sem, simprocAttr, sw0, ha0])
  repeat (refine And.intro (by first | omega | (intro hg; have hq := c5 (by first | exact hg | simpa using hg); first | omega | exact hq | (simp only [List.length_map]; omega)) | (first | omega | assumption | rfl | decide | (simp only [List.length_map, List.length_replicate, List.length_append, List.length_take, List.length_drop, List.length_set, List.length_cons, List.length_nil, Nat.zero_add, Int.toNat_natCast] at *; omega) | (simp only [List.length_map, List.length_replicate, List.length_append, List.length_take, List.length_drop, List.length_set, List.length_cons, List.length_nil, Nat.zero_add, Int.toNat_natCast]; done) | trivial)) ?_)
  refine FW.nil ?_
  change OW _ _ _ _ _ _
  refine OW.run [0, 1, 5, 6, 8, 9, 10, 32] ?_
  (simp only [go_sem, simprocAttr, sw0, ha0])
  repeat (refine And.intro (by first | omega | (intro hg; have hq := c5 (by first | exact hg | simpa using hg); first | omega | exact hq | (simp only [List.length_map]; omega)) | (first | omega | assumption | rfl | decide | (simp only [List.length_map, List.length_replicate, List.length_append, List.length_take, List.length_drop, List.length_set, List.length_cons, List.length_nil, Nat.zero_add, Int.toNat_natCast] at *; omega) | (simp only [List.length_map, List.length_replicate, List.length_append, List.length_take, List.length_drop, List.length_set, List.length_cons, List.length_nil, Nat.zero_add, Int.toNat_natCast]; done) | trivial)) ?_)
  refine OW.nil ((congrArg K ?_).mpr hKE)
  · (first | rfl | (simp only [go_sem, simprocAttr, ha0]; done) | (simp only [go_sem, simprocAttr, ha0]; rfl))
 clear hK K
 refine d8 rfl (fun h6 => ?_) (fun h6 => ?_)
 replace H := l4 h6 H
 refine a0 fun K hK => OW.run [0, 1, 5, 8, 9, 10] ?_
 simp only [go_sem, simprocAttr, sw0]
 refine OW.nil (hK _ ?_)
 refine a0 fun K hK => OW.run [0, 1, 5, 8, 9, 10] ?_
 simp only [go_sem, simprocAttr, sw0]
 refine OW.nil (hK _ ?_)
 refine hN2 [] (t10, w64 (t10 + (1 : Int))) _ H (by exact trivial) ?_
 simp only [sw1, go_sem, simprocAttr]
 replace H := l5 h6 H
 refine d9 ?_
 refine a0 fun K hK => OW.run [0, 1, 5, 8, 9, 10] ?_
 simp only [go_sem, simprocAttr, sw0]
 refine OW.nil (hK _ ?_)
 refine hN2 [] (at_1, w64 (t10 + (1 : Int))) _ H (by exact trivial) ?_
 simp only [sw1, go_sem, simprocAttr]
 replace H := l5 h3 H
 refine j2 ?_
 refine hN1 [] at_1 _ H (by exact trivial) ?_
 simp only [sw1, go_sem, simprocAttr]
 rintro at_ H
 try simp only [go_sem, simprocAttr]
 refine a5 ?_
 refine a0 fun K hK => OW.run [4] ?_
 simp only [go_sem, simprocAttr, sw0]
 refine OW.nil (hK _ ?_)
 refine f0 ?_
 change PW.Ends _ _ _ _ _ _
 refine PW.Ends.intro (.inr rfl) ?_
 simp only [go_sem, simprocAttr, sw0]
 obtain rfl := Option.some.inj H
 refine a7 4 (by exact trivial) ?_
 rfl

theorem sched_Admit_ok (N : Nat) (Zq : Int) (Zr : Int) (Zs : Int) (Zx : List Int) (l : List TB) (Z1f : ByteArray) (Z1d : Int) (Z1i : Int) (Z1l : Int) (Z1h : Int) (Z1e : Int) (Z1a : Int) (Z1j : Int) (Z1b : Int) (r : (List TB) × List ByteArray × Int) (H : sched_Admit N Zq Zr Zs Zx l Z1f Z1d Z1i Z1l Z1h Z1e Z1a Z1j Z1b = some r) : CallOK Try.prog 19 [(.agg [(I Zq), (I Zr), (I Zs), (L Zx)]), (.list l.length (l.flatMap (fun (x : ByteArray × Int × Int × Int × Int × Int × Int × Int × Int) => [(Sx x.1), (I x.2.1), (I x.2.2.1), (I x.2.2.2.1), (I x.2.2.2.2.1), (I x.2.2.2.2.2.1), (I x.2.2.2.2.2.2.1), (I x.2.2.2.2.2.2.2.1), (I x.2.2.2.2.2.2.2.2)]))), (.agg [(Sx Z1f), (I Z1d), (I Z1i), (I Z1l), (I Z1h), (I Z1e), (I Z1a), (I Z1j), (I Z1b)])] (.d (.tup [(.agg [(.list r.1.length (r.1.flatMap (fun (x : ByteArray × Int × Int × Int × Int × Int × Int × Int × Int) => [(Sx x.1), (I x.2.1), (I x.2.2.1), (I x.2.2.2.1), (I x.2.2.2.2.1), (I x.2.2.2.2.2.1), (I x.2.2.2.2.2.2.1), (I x.2.2.2.2.2.2.2.1), (I x.2.2.2.2.2.2.2.2)]))), (.list r.2.1.length (r.2.1.map Sx))]), (I r.2.2)])) [] := by
 refine d4 Try.func19 rfl (by rw [Try.results19]) Try.ntmps19 Try.call19 ?_
 change PW _ _ _ _ _
 try simp only [go_sem, simprocAttr]
 unfold sched_Admit at H
 refine a5 ?_
 refine a0 fun K hK => OW.run [1, 3, 5, 6] ?_
 simp only [go_sem, simprocAttr, sw0]
 refine OW.nil (hK _ ?_)
 refine a5 ?_
 obtain ⟨⟨x1, x11, x12, x13, x14⟩, e1, H⟩ := a8 H
 refine a0 fun K hK => OW.run [1, 5, 6, 8, 9] ?_
 simp only [go_sem, simprocAttr, sw0]
 refine d7 4 rfl rfl rfl (by ((simp only [go_sem, List.toList_toArray, simprocAttr]); exact rfl)) ?_ (sched_openAll_ok N _ _ _ _ _ _ e1) ?_ ?_ ?_ ?_
 rfl
 · (refine a6 ?_; (simp only [go_sem, sw2, List.length_set, List.length_replicate, and_true, true_and, Nat.le_refl, simprocAttr]; done))
 exact .inl rfl
 (simp only [go_sem, Nat.reduceLT])
 refine OW.run [1, 5, 6, 8, 9] ?_
 simp only [go_sem, simprocAttr, sw0]
 refine OW.nil (hK _ ?_)
 refine a5 ?_
 refine a5 ?_
 refine a0 fun K hK => OW.run [1, 5, 6, 8, 9, 22] ?_
 simp only [go_sem, simprocAttr, sw0]
 refine OW.nil (hK _ ?_)
 refine d8 rfl (fun h1 => ?_) (fun h1 => ?_)
 replace H := l4 h1 H
 refine a5 ?_
 refine a0 fun K hK => OW.run [6, 7] ?_
 simp only [go_sem, simprocAttr, sw0]
 refine OW.nil (hK _ ?_)
 refine f0 ?_
 change PW.Ends _ _ _ _ _ _
 refine PW.Ends.intro (.inr rfl) ?_
 simp only [go_sem, simprocAttr, sw0]
 obtain rfl := Option.some.inj H
 refine a7 4 (by (refine a6 ?_; (simp only [go_sem, sw2, List.length_set, List.length_replicate, and_true, true_and, Nat.le_refl, simprocAttr]; done))) ?_
 rfl
 replace H := l5 h1 H
 refine d9 ?_
 refine a5 ?_
 obtain ⟨x2, e2, H⟩ := a8 H
 obtain ⟨x3, e3, H⟩ := a8 H
 obtain ⟨x4, e4, H⟩ := a8 H
 obtain ⟨x5, e5, H⟩ := a8 H
 refine j1 6 o9 (by kernel_rfl) fun K hK => ?_
 change FW _ _ _ _ _
 refine FW.run ?_
 simp only [go_sem, simprocAttr, sw0]
 refine k6 4 rfl rfl rfl (by ((simp only [go_sem, List.toList_toArray, simprocAttr]); exact rfl)) ?_ (p4 N _ _ _ _ _ _ _ _ _ _ _ _ _ _ e2) ?_ ?_ ?_ ?_
 rfl
 · (refine a6 ?_; (simp only [go_sem, sw2, List.length_set, List.length_replicate, and_true, true_and, Nat.le_refl, simprocAttr]; done))
 exact .inl rfl
 (simp only [go_sem, Nat.reduceLT])
 refine FW.run ?_
 simp only [go_sem, simprocAttr, sw0]
 repeat (refine And.intro (by omega) ?_)
 refine FW.nil ?_
 change OW _ _ _ _ _ _
 refine OW.run [1, 5, 6, 8, 9] ?_
 simp only [go_sem, simprocAttr, sw0]
 refine d7 4 rfl rfl rfl (by ((simp only [go_sem, List.toList_toArray, simprocAttr]); exact rfl)) ?_ (sched_named_ok N _ _ _ e3) ?_ ?_ ?_ ?_
 rfl
 exact d6 rfl
 exact .inl rfl
 (simp only [go_sem, Nat.reduceLT])
 refine OW.run [1, 5, 6, 8, 9] ?_
 simp only [go_sem, simprocAttr, sw0]
 refine d7 4 rfl rfl rfl (by ((simp only [go_sem, List.toList_toArray, simprocAttr]); exact rfl)) ?_ (f4 N _ _ _ e4) ?_ ?_ ?_ ?_
 rfl
 exact d6 rfl
 exact .inl rfl
 (simp only [go_sem, Nat.reduceLT])
 refine OW.run [1, 5, 6, 8, 9] ?_
 simp only [go_sem, simprocAttr, sw0]
 refine d7 4 rfl rfl rfl (by ((simp only [go_sem, List.toList_toArray, simprocAttr]); exact rfl)) ?_ (j8 N _ _ e5) ?_ ?_ ?_ ?_
 rfl
 · (refine a6 ?_; (simp only [go_sem, sw2, List.length_set, List.length_replicate, and_true, true_and, Nat.le_refl, simprocAttr]; simp only [seg, go_sem, sw2, List.length_set, List.length_replicate, and_true, true_and, Nat.le_refl, simprocAttr]; done))
 exact .inr ⟨rfl, rfl⟩
 (simp only [go_sem, Nat.reduceLT])
 refine OW.run [1, 5, 6, 8, 9] ?_
 simp only [go_sem, simprocAttr, sw0]
 refine OW.nil (hK _ ?_)
 refine i6 (τ := Int) [1, 5, 6, 8, 9] 4 (fun e => [(9, .d (I e))]) (fun e => [{ cells := [.d (I Zq), .d (I Zr), .d (I Zs), .d (L Zx)], e := 24 }, { cells := [.d (Sx Z1f), .d (I Z1d), .d (I Z1i), .d (I Z1l), .d (I Z1h), .d (I Z1e), .d (I Z1a), .d (I Z1j), .d (I Z1b)], e := 27 }, { cells := [.d (.val (.slice none 0 0)), .d (.val (.slice none 0 0))], e := 32 }, { cells := [.d (I x1), .d (I x11), .d (I x12), .d (L x13)], e := 141 }]) _ _ r (by exact Nat.zero_le _) H ?_ ?_
 intro K_ H N2 hN2
 refine a5 ?_
 refine a0 fun K hK => OW.run [1, 5, 6, 8, 9, 37] ?_
 simp only [go_sem, simprocAttr, sw0]
 refine OW.nil (hK _ ?_)
 refine d8 rfl (fun h3 => ?_) (fun h3 => ?_)
 replace H := l4 h3 H
 obtain ⟨x6, e6, H⟩ := a8 H
 obtain ⟨x7, e7, H⟩ := a8 H
 refine a0 fun K hK => OW.run [1, 5, 6, 8, 9] ?_
 simp only [go_sem, simprocAttr, sw0]
 refine d7 4 rfl rfl rfl (by ((simp only [go_sem, List.toList_toArray, simprocAttr]); exact rfl)) ?_ (sched_site_fit_ok N _ _ _ _ _ _ e6) ?_ ?_ ?_ ?_
 rfl
 · (refine a6 ?_; (simp only [go_sem, sw2, List.length_set, List.length_replicate, and_true, true_and, Nat.le_refl, simprocAttr]; simp only [seg, go_sem, sw2, List.length_set, List.length_replicate, and_true, true_and, Nat.le_refl, simprocAttr]; done))
 exact .inr ⟨rfl, rfl⟩
 (simp only [go_sem, Nat.reduceLT])
 refine OW.run [1, 5, 6, 8, 9] ?_
 simp only [go_sem, simprocAttr, sw0]
 refine d7 4 rfl rfl rfl (by ((simp only [go_sem, List.toList_toArray, simprocAttr]); exact rfl)) ?_ (f4 N _ _ _ e7) ?_ ?_ ?_ ?_
 rfl
 exact d6 rfl
 exact .inl rfl
 (simp only [go_sem, Nat.reduceLT])
 refine OW.run [1, 5, 6, 8, 9] ?_
 simp only [go_sem, simprocAttr, sw0]
 refine OW.nil (hK _ ?_)
 refine hN2 [] x7 _ H (by exact trivial) ?_
 simp only [sw1, go_sem, simprocAttr]
 replace H := l5 h3 H
 refine d9 ?_
 refine hN2 [] x5 _ H (by exact trivial) ?_
 simp only [sw1, go_sem, simprocAttr]
 rintro e H
 try simp only [go_sem, simprocAttr]
 refine a5 ?_
 refine a5 ?_
 refine a0 fun K hK => OW.run [1, 5, 6, 8, 9, 44] ?_
 simp only [go_sem, simprocAttr, sw0]
 refine OW.nil (hK _ ?_)
 refine d8 rfl (fun h4 => ?_) (fun h4 => ?_)
 replace H := l4 h4 H
 refine a5 ?_
 refine a0 fun K hK => OW.run [6, 7] ?_
 simp only [go_sem, simprocAttr, sw0]
 refine OW.nil (hK _ ?_)
 refine f0 ?_
 change PW.Ends _ _ _ _ _ _
 refine PW.Ends.intro (.inr rfl) ?_
 simp only [go_sem, simprocAttr, sw0]
 obtain rfl := Option.some.inj H
 refine a7 4 (by (refine a6 ?_; (simp only [go_sem, sw2, List.length_set, List.length_replicate, and_true, true_and, Nat.le_refl, simprocAttr]; done))) ?_
 rfl
 replace H := l5 h4 H
 refine d9 ?_
 refine a5 ?_
 obtain ⟨x8, e8, H⟩ := a8 H
 refine a0 fun K hK => OW.run [5, 6, 8, 10] ?_
 simp only [go_sem, simprocAttr, sw0]
 refine d7 4 rfl rfl rfl (by ((simp only [go_sem, List.toList_toArray, simprocAttr]); exact rfl)) ?_ (slices_Clone_bb_ok N _ _ e8) ?_ ?_ ?_ ?_
 rfl
 exact d6 rfl
 exact .inl rfl
 (simp only [go_sem, Nat.reduceLT])
 refine OW.run [5, 6, 8, 10] ?_
 simp only [go_sem, simprocAttr, sw0]
 refine OW.nil (hK _ ?_)
 refine PW.block ?_
 refine PW.virtC 5 1 9 1 _ rfl rfl ?_
 try simp only [go_sem, simprocAttr]
 refine i7 (σ := (List TB) × List ByteArray) [5, 6, 8, 10] 7 (fun (b4, b6) => []) (fun (b4, b6) => [{ cells := [.d (I Zq), .d (I Zr), .d (I Zs), .d (L Zx)], e := 24 }, { cells := [.d (Sx Z1f), .d (I Z1d), .d (I Z1i), .d (I Z1l), .d (I Z1h), .d (I Z1e), .d (I Z1a), .d (I Z1j), .d (I Z1b)], e := 27 }, { cells := [.d (.val (.slice none 0 0)), .d (.val (.slice none 0 0))], e := 32 }, { cells := [.d (I x1), .d (I x11), .d (I x12), .d (L x13)], e := 141 }, { cells := (b4.flatMap (fun (x : ByteArray × Int × Int × Int × Int × Int × Int × Int × Int) => [(Sx x.1), (I x.2.1), (I x.2.2.1), (I x.2.2.2.1), (I x.2.2.2.2.1), (I x.2.2.2.2.2.1), (I x.2.2.2.2.2.2.1), (I x.2.2.2.2.2.2.2.1), (I x.2.2.2.2.2.2.2.2)])).map .d, e := 27 }, { cells := [.own 4 0 b4.length 9, .own 6 0 b6.length 1], e := 32 }, { cells := (b6.map Sx).map .d, e := 9 }]) (sched_Admit.b1 N Z1f Z1d Z1i Z1l Z1h Z1e Z1a Z1j Z1b x1 x11 x12 x13) r N (x8, ([] : List ByteArray)) (by exact Nat.zero_le _) H (by (simp only [sw1, go_sem, simprocAttr]; done)) ?_
 rintro n ⟨b4, b6⟩ H N5 hN5
 unfold sched_Admit.b1 at H
 try simp only [go_sem, simprocAttr]
 refine PW.block ?_
 refine a5 ?_
 refine a0 fun K hK => OW.run [5, 6, 8, 10, 11] ?_
 simp only [go_sem, simprocAttr, sw0]
 repeat (refine And.intro (by omega) ?_)
 refine OW.nil (hK _ ?_)
 refine a5 ?_
 obtain ⟨x9, e9, H⟩ := a8 H
 obtain ⟨c6, H⟩ := d5 H
 have c6q := c6
 simp only [List.length_cons, List.length_nil] at c6q
 refine PW.drawO 5 [2] [27] o9 (by kernel_rfl) (by decide) rfl fun K hK => ?_
 refine FWO.run ?_
 (simp only [go_sem, simprocAttr, sw0, z2W1a, z0W1a])
 repeat (refine And.intro (by omega) ?_)
 refine FWO.callO 4 rfl ?_ (by exact Nat.le_refl _) rfl rfl rfl (by ((simp only [go_sem, List.toList_toArray, simprocAttr]); exact rfl)) ?_ (slices_Clone_bb_ok N _ _ e9) ?_ ?_ ?_ ?_
 rfl
 · (first | ((first | rfl | (simp only [go_sem, sw1, simprocAttr, d3, z3W1a, z4W1a, z5W1a, z6W1a, z7W1a, z0W1a]; done) | (simp only [go_sem, sw1, simprocAttr, d3, z3W1a, z4W1a, z5W1a, z6W1a, z7W1a, z0W1a]; rfl) | (simp only [go_sem, sw1, simprocAttr, d3, z3W1a, z4W1a, z5W1a, z6W1a, z7W1a, z0W1a]; simp only [seg, asD, go_sem, sw1, simprocAttr, d3, z3W1a, z4W1a, z5W1a, z6W1a, z7W1a, z0W1a]; done) | (simp only [go_sem, sw1, simprocAttr, d3, z3W1a, z4W1a, z5W1a, z6W1a, z7W1a, z0W1a]; simp only [seg, asD, go_sem, sw1, simprocAttr, d3, z3W1a, z4W1a, z5W1a, z6W1a, z7W1a, z0W1a]; rfl) | ((try simp only [go_sem, sw1, simprocAttr, d3, z3W1a, z4W1a, z5W1a, z6W1a, z7W1a, z0W1a]); (repeat' (first | rfl | (refine i8 ?_; simp only [List.length_take, List.length_drop, List.length_set, List.length_replicate] <;> omega) | (refine congr (congrArg List.cons ?_) ?_) | (refine congrArg D.agg ?_) | (refine congrArg D.tup ?_) | (refine congrArg D.ref ?_) | (refine congrArg (D.list _) ?_) | (refine congrArg (D.clo _) ?_))))); done) | ((first | rfl | (simp only [go_sem, sw1, simprocAttr, d3, z3W1a, z4W1a, z5W1a, z6W1a, z7W1a, z0W1a]; done) | (simp only [go_sem, sw1, simprocAttr, d3, z3W1a, z4W1a, z5W1a, z6W1a, z7W1a, z0W1a]; rfl) | (simp only [go_sem, sw1, simprocAttr, d3, z3W1a, z4W1a, z5W1a, z6W1a, z7W1a, z0W1a]; simp only [seg, asD, go_sem, sw1, simprocAttr, d3, z3W1a, z4W1a, z5W1a, z6W1a, z7W1a, z0W1a]; done) | (simp only [go_sem, sw1, simprocAttr, d3, z3W1a, z4W1a, z5W1a, z6W1a, z7W1a, z0W1a]; simp only [seg, asD, go_sem, sw1, simprocAttr, d3, z3W1a, z4W1a, z5W1a, z6W1a, z7W1a, z0W1a]; rfl) | ((try simp only [go_sem, sw1, simprocAttr, d3, z3W1a, z4W1a, z5W1a, z6W1a, z7W1a, z0W1a]); (repeat' (first | rfl | (refine i8 ?_; simp only [List.length_take, List.length_drop, List.length_set, List.length_replicate] <;> omega) | (refine congr (congrArg List.cons ?_) ?_) | (refine congrArg D.agg ?_) | (refine congrArg D.tup ?_) | (refine congrArg D.ref ?_) | (refine congrArg (D.list _) ?_) | (refine congrArg (D.clo _) ?_))))); exact z8W1a _ _ _ rfl))
 · (first | exact trivial | exact d6 rfl | (refine a6 ?_; simp only [go_sem, sw2, List.length_set, List.length_replicate, and_true, true_and, Nat.le_refl, simprocAttr, d3, z3W1a, z4W1a, z5W1a, z6W1a, z7W1a, z0W1a]; done) | (refine a6 ?_; simp only [go_sem, sw2, List.length_set, List.length_replicate, and_true, true_and, Nat.le_refl, simprocAttr, d3, z3W1a, z4W1a, z5W1a, z6W1a, z7W1a, z0W1a]; omega))
 first | exact .inr ⟨rfl, by simp only [List.all_cons, List.all_nil, d3, z3W1a, z4W1a, z5W1a, z6W1a, z7W1a, z0W1a, Bool.and_self, Bool.and_true]⟩ | (first | exact .inl rfl | exact .inr ⟨rfl, rfl⟩ | exact .inr ⟨rfl, by simp only [List.all_cons, List.all_nil, all_isValD_I, Bool.and_self]⟩)
 (simp only [go_sem, Nat.reduceLT])
 refine FWO.run ?_
 (simp only [go_sem, simprocAttr, sw0, z2W1a, z0W1a])
 repeat (refine And.intro (by rfl) ?_)
 first | refine FWO.nil ?_ | skip
 change OW _ _ _ _ _ _
 refine OW.run [5, 6, 8, 10, 11, 12] ?_
 (simp only [go_sem, simprocAttr, sw0, z2W1a, z0W1a])
 repeat (refine And.intro (by omega) ?_)
 refine OW.nil (hK _ ?_)
 refine a5 ?_
 refine a5 ?_
 obtain ⟨x10, e10, H⟩ := a8 H
 refine a0 fun K hK => OW.run [5, 6, 8, 10, 11, 12, 66] ?_
 simp only [go_sem, simprocAttr, sw0]
 refine l8 4 rfl rfl ?_ (fun hg => by first | rfl | (simp only [go_sem, ↓reduceIte]; rfl)) (fun hg => by ((simp only [go_sem, List.toList_toArray, simprocAttr]); exact rfl)) (fun hg => ?_) (fun hg => (sched_site_fit_ok N _ _ _ _ _ _ (p9 hg e10))) ?_ ?_ ?_ ?_
 simp only [go_sem, simprocAttr]
 · (first | ((first | rfl | (simp only [go_sem, sw1, simprocAttr, d3, z3W1a, z4W1a, z5W1a, z6W1a, z7W1a, z0W1a]; done) | (simp only [go_sem, sw1, simprocAttr, d3, z3W1a, z4W1a, z5W1a, z6W1a, z7W1a, z0W1a]; rfl) | (simp only [go_sem, sw1, simprocAttr, d3, z3W1a, z4W1a, z5W1a, z6W1a, z7W1a, z0W1a]; simp only [seg, asD, go_sem, sw1, simprocAttr, d3, z3W1a, z4W1a, z5W1a, z6W1a, z7W1a, z0W1a]; done) | (simp only [go_sem, sw1, simprocAttr, d3, z3W1a, z4W1a, z5W1a, z6W1a, z7W1a, z0W1a]; simp only [seg, asD, go_sem, sw1, simprocAttr, d3, z3W1a, z4W1a, z5W1a, z6W1a, z7W1a, z0W1a]; rfl) | ((try simp only [go_sem, sw1, simprocAttr, d3, z3W1a, z4W1a, z5W1a, z6W1a, z7W1a, z0W1a]); (repeat' (first | rfl | (refine i8 ?_; simp only [List.length_take, List.length_drop, List.length_set, List.length_replicate] <;> omega) | (refine congr (congrArg List.cons ?_) ?_) | (refine congrArg D.agg ?_) | (refine congrArg D.tup ?_) | (refine congrArg D.ref ?_) | (refine congrArg (D.list _) ?_) | (refine congrArg (D.clo _) ?_))))); done) | ((first | rfl | (simp only [go_sem, sw1, simprocAttr, d3, z3W1a, z4W1a, z5W1a, z6W1a, z7W1a, z0W1a]; done) | (simp only [go_sem, sw1, simprocAttr, d3, z3W1a, z4W1a, z5W1a, z6W1a, z7W1a, z0W1a]; rfl) | (simp only [go_sem, sw1, simprocAttr, d3, z3W1a, z4W1a, z5W1a, z6W1a, z7W1a, z0W1a]; simp only [seg, asD, go_sem, sw1, simprocAttr, d3, z3W1a, z4W1a, z5W1a, z6W1a, z7W1a, z0W1a]; done) | (simp only [go_sem, sw1, simprocAttr, d3, z3W1a, z4W1a, z5W1a, z6W1a, z7W1a, z0W1a]; simp only [seg, asD, go_sem, sw1, simprocAttr, d3, z3W1a, z4W1a, z5W1a, z6W1a, z7W1a, z0W1a]; rfl) | ((try simp only [go_sem, sw1, simprocAttr, d3, z3W1a, z4W1a, z5W1a, z6W1a, z7W1a, z0W1a]); (repeat' (first | rfl | (refine i8 ?_; simp only [List.length_take, List.length_drop, List.length_set, List.length_replicate] <;> omega) | (refine congr (congrArg List.cons ?_) ?_) | (refine congrArg D.agg ?_) | (refine congrArg D.tup ?_) | (refine congrArg D.ref ?_) | (refine congrArg (D.list _) ?_) | (refine congrArg (D.clo _) ?_))))); exact z8W1a _ _ _ rfl))
 · (first | exact trivial | exact d6 rfl | (refine a6 ?_; simp only [go_sem, sw2, List.length_set, List.length_replicate, and_true, true_and, Nat.le_refl, simprocAttr, d3, z3W1a, z4W1a, z5W1a, z6W1a, z7W1a, z0W1a]; done) | (refine a6 ?_; simp only [go_sem, sw2, List.length_set, List.length_replicate, and_true, true_and, Nat.le_refl, simprocAttr, d3, z3W1a, z4W1a, z5W1a, z6W1a, z7W1a, z0W1a]; omega))
 exact .inr rfl
 (simp only [go_sem, Nat.reduceLT])
 refine OW.run [5, 6, 8, 10, 11, 12, 66] ?_
 simp only [go_sem, simprocAttr, sw0]
 refine OW.nil (hK _ ?_)
 refine d8 rfl (fun h7 => ?_) (fun h7 => ?_)
 ·
  replace H := l4 h7 H
  refine a5 ?_
  refine a0 fun K hK => OW.run [6, 10] ?_
  simp only [go_sem, simprocAttr, sw0]
  repeat (refine And.intro (by omega) ?_)
  refine OW.nil (hK _ ?_)
  refine a5 ?_
  refine a0 fun K hK => OW.run [6, 7] ?_
  simp only [go_sem, simprocAttr, sw0]
  refine OW.nil (hK _ ?_)
  refine f0 ?_
  change PW.Ends _ _ _ _ _ _
  refine PW.Ends.intro (.inr rfl) ?_
  simp only [go_sem, simprocAttr, sw0]
  obtain rfl := Option.some.inj H
  have hl0 := z0W1a (x9 ++ ([(Z1f, Z1d, Z1i, Z1l, Z1h, Z1e, Z1a, Z1j, Z1b)] : List TB))
  have hn0 : ((x9 ++ ([(Z1f, Z1d, Z1i, Z1l, Z1h, Z1e, Z1a, Z1j, Z1b)] : List TB)).flatMap (fun (x : ByteArray × Int × Int × Int × Int × Int × Int × Int × Int) => [(Sx x.1), (I x.2.1), (I x.2.2.1), (I x.2.2.2.1), (I x.2.2.2.2.1), (I x.2.2.2.2.2.1), (I x.2.2.2.2.2.2.1), (I x.2.2.2.2.2.2.2.1), (I x.2.2.2.2.2.2.2.2)])).map nz = (x9 ++ ([(Z1f, Z1d, Z1i, Z1l, Z1h, Z1e, Z1a, Z1j, Z1b)] : List TB)).flatMap (fun (x : ByteArray × Int × Int × Int × Int × Int × Int × Int × Int) => [(Sx x.1), (I x.2.1), (I x.2.2.1), (I x.2.2.2.1), (I x.2.2.2.2.1), (I x.2.2.2.2.2.1), (I x.2.2.2.2.2.2.1), (I x.2.2.2.2.2.2.2.1), (I x.2.2.2.2.2.2.2.2)]) := map_nz_flat (fun _ => rfl) _
  have ht0 : ((x9 ++ ([(Z1f, Z1d, Z1i, Z1l, Z1h, Z1e, Z1a, Z1j, Z1b)] : List TB)).flatMap (fun (x : ByteArray × Int × Int × Int × Int × Int × Int × Int × Int) => [(Sx x.1), (I x.2.1), (I x.2.2.1), (I x.2.2.2.1), (I x.2.2.2.2.1), (I x.2.2.2.2.2.1), (I x.2.2.2.2.2.2.1), (I x.2.2.2.2.2.2.2.1), (I x.2.2.2.2.2.2.2.2)])).take ((x9 ++ ([(Z1f, Z1d, Z1i, Z1l, Z1h, Z1e, Z1a, Z1j, Z1b)] : List TB)).length * 9) = (x9 ++ ([(Z1f, Z1d, Z1i, Z1l, Z1h, Z1e, Z1a, Z1j, Z1b)] : List TB)).flatMap (fun (x : ByteArray × Int × Int × Int × Int × Int × Int × Int × Int) => [(Sx x.1), (I x.2.1), (I x.2.2.1), (I x.2.2.2.1), (I x.2.2.2.2.1), (I x.2.2.2.2.2.1), (I x.2.2.2.2.2.2.1), (I x.2.2.2.2.2.2.2.1), (I x.2.2.2.2.2.2.2.2)]) := take_flat _ (fun _ => rfl) rfl
  refine a7 4 (by first | ((first | exact trivial | exact d6 rfl | (refine a6 ?_; (first | (simp only [go_sem, sw2, List.length_set, List.length_replicate, and_true, true_and, Nat.le_refl, simprocAttr]; done) | (simp only [go_sem, sw2, List.length_set, List.length_replicate, and_true, true_and, Nat.le_refl, simprocAttr]; omega) | (simp only [go_sem, sw2, List.length_set, List.length_replicate, and_true, true_and, Nat.le_refl, simprocAttr]; simp only [seg, go_sem, sw2, List.length_set, List.length_replicate, and_true, true_and, Nat.le_refl, simprocAttr]; done) | (simp only [go_sem, sw2, List.length_set, List.length_replicate, and_true, true_and, Nat.le_refl, simprocAttr]; simp only [seg, go_sem, sw2, List.length_set, List.length_replicate, and_true, true_and, Nat.le_refl, simprocAttr]; omega) | (simp only [go_sem, sw2, List.length_set, List.length_replicate, and_true, true_and, Nat.le_refl, simprocAttr, List.length_take, List.length_drop]; omega) | (simp only [go_sem, sw2, List.length_append, List.length_map, List.length_cons, List.length_nil, List.length_set, List.length_replicate, and_true, true_and, Nat.le_refl, Nat.zero_add, simprocAttr]; done) | (simp only [go_sem, sw2, List.length_append, List.length_map, List.length_cons, List.length_nil, List.length_set, List.length_replicate, and_true, true_and, Nat.le_refl, Nat.zero_add, simprocAttr]; omega))) | (first | (simp only [go_sem, sw2, List.length_set, List.length_replicate, and_true, true_and, Nat.le_refl, simprocAttr]; done) | (simp only [go_sem, sw2, List.length_set, List.length_replicate, and_true, true_and, Nat.le_refl, simprocAttr]; omega) | (simp only [go_sem, sw2, List.length_set, List.length_replicate, and_true, true_and, Nat.le_refl, simprocAttr]; simp only [seg, go_sem, sw2, List.length_set, List.length_replicate, and_true, true_and, Nat.le_refl, simprocAttr]; done) | (simp only [go_sem, sw2, List.length_set, List.length_replicate, and_true, true_and, Nat.le_refl, simprocAttr]; simp only [seg, go_sem, sw2, List.length_set, List.length_replicate, and_true, true_and, Nat.le_refl, simprocAttr]; omega) | (simp only [go_sem, sw2, List.length_set, List.length_replicate, and_true, true_and, Nat.le_refl, simprocAttr, List.length_take, List.length_drop]; omega) | (simp only [go_sem, sw2, List.length_append, List.length_map, List.length_cons, List.length_nil, List.length_set, List.length_replicate, and_true, true_and, Nat.le_refl, Nat.zero_add, simprocAttr]; done) | (simp only [go_sem, sw2, List.length_append, List.length_map, List.length_cons, List.length_nil, List.length_set, List.length_replicate, and_true, true_and, Nat.le_refl, Nat.zero_add, simprocAttr]; omega))); done) | ((first | exact trivial | exact d6 rfl | (refine a6 ?_; simp only [go_sem, sw2, List.length_set, List.length_replicate, and_true, true_and, Nat.le_refl, simprocAttr, d3, z0W1a]; done) | (refine a6 ?_; simp only [go_sem, sw2, List.length_set, List.length_replicate, and_true, true_and, Nat.le_refl, simprocAttr, d3, z0W1a]; omega)))) ?_
  (((simp only [go_sem, sw1, simprocAttr]; try simp only [seg, go_sem, simprocAttr])); (repeat' (first | rfl | (refine i8 ?_; simp only [List.length_take, List.length_drop, List.length_set, List.length_replicate] <;> omega) | (refine congr (congrArg List.cons ?_) ?_) | (refine congrArg D.agg ?_) | (refine congrArg D.tup ?_) | (refine congrArg D.ref ?_) | (refine congrArg (D.list _) ?_) | (refine congrArg (D.clo _) ?_))))
  all_goals (first | rw [ht0, hn0] | simp only [ht0, hn0] | exact z9W1a (fun _ => rfl) _ _ _ rfl)
 replace H := l5 h7 H
 refine d9 ?_
 refine a5 ?_
 obtain ⟨x111, e11, H⟩ := a8 H
 refine a0 fun K hK => OW.run [5, 6, 8, 10, 11, 13] ?_
 simp only [go_sem, simprocAttr, sw0]
 repeat (refine And.intro (by omega) ?_)
 refine d7 4 rfl rfl rfl (by ((simp only [go_sem, List.toList_toArray, simprocAttr]); exact rfl)) ?_ (sched_last_ok N _ _ _ e11) ?_ ?_ ?_ ?_
 · (first | ((first | rfl | (simp only [go_sem, sw1, simprocAttr, d3, z3W1a, z4W1a, z5W1a, z6W1a, z7W1a, z0W1a]; done) | (simp only [go_sem, sw1, simprocAttr, d3, z3W1a, z4W1a, z5W1a, z6W1a, z7W1a, z0W1a]; rfl) | (simp only [go_sem, sw1, simprocAttr, d3, z3W1a, z4W1a, z5W1a, z6W1a, z7W1a, z0W1a]; simp only [seg, asD, go_sem, sw1, simprocAttr, d3, z3W1a, z4W1a, z5W1a, z6W1a, z7W1a, z0W1a]; done) | (simp only [go_sem, sw1, simprocAttr, d3, z3W1a, z4W1a, z5W1a, z6W1a, z7W1a, z0W1a]; simp only [seg, asD, go_sem, sw1, simprocAttr, d3, z3W1a, z4W1a, z5W1a, z6W1a, z7W1a, z0W1a]; rfl) | ((try simp only [go_sem, sw1, simprocAttr, d3, z3W1a, z4W1a, z5W1a, z6W1a, z7W1a, z0W1a]); (repeat' (first | rfl | (refine i8 ?_; simp only [List.length_take, List.length_drop, List.length_set, List.length_replicate] <;> omega) | (refine congr (congrArg List.cons ?_) ?_) | (refine congrArg D.agg ?_) | (refine congrArg D.tup ?_) | (refine congrArg D.ref ?_) | (refine congrArg (D.list _) ?_) | (refine congrArg (D.clo _) ?_))))); done) | ((first | rfl | (simp only [go_sem, sw1, simprocAttr, d3, z3W1a, z4W1a, z5W1a, z6W1a, z7W1a, z0W1a]; done) | (simp only [go_sem, sw1, simprocAttr, d3, z3W1a, z4W1a, z5W1a, z6W1a, z7W1a, z0W1a]; rfl) | (simp only [go_sem, sw1, simprocAttr, d3, z3W1a, z4W1a, z5W1a, z6W1a, z7W1a, z0W1a]; simp only [seg, asD, go_sem, sw1, simprocAttr, d3, z3W1a, z4W1a, z5W1a, z6W1a, z7W1a, z0W1a]; done) | (simp only [go_sem, sw1, simprocAttr, d3, z3W1a, z4W1a, z5W1a, z6W1a, z7W1a, z0W1a]; simp only [seg, asD, go_sem, sw1, simprocAttr, d3, z3W1a, z4W1a, z5W1a, z6W1a, z7W1a, z0W1a]; rfl) | ((try simp only [go_sem, sw1, simprocAttr, d3, z3W1a, z4W1a, z5W1a, z6W1a, z7W1a, z0W1a]); (repeat' (first | rfl | (refine i8 ?_; simp only [List.length_take, List.length_drop, List.length_set, List.length_replicate] <;> omega) | (refine congr (congrArg List.cons ?_) ?_) | (refine congrArg D.agg ?_) | (refine congrArg D.tup ?_) | (refine congrArg D.ref ?_) | (refine congrArg (D.list _) ?_) | (refine congrArg (D.clo _) ?_))))); exact z8W1a _ _ _ rfl))
 · (first | exact trivial | exact d6 rfl | (refine a6 ?_; simp only [go_sem, sw2, List.length_set, List.length_replicate, and_true, true_and, Nat.le_refl, simprocAttr, d3, z3W1a, z4W1a, z5W1a, z6W1a, z7W1a, z0W1a]; done) | (refine a6 ?_; simp only [go_sem, sw2, List.length_set, List.length_replicate, and_true, true_and, Nat.le_refl, simprocAttr, d3, z3W1a, z4W1a, z5W1a, z6W1a, z7W1a, z0W1a]; omega))
 · first | (exact .inr ⟨rfl, rfl⟩; done) | (simp only [cleanV, go_sem, d3, z3W1a, z4W1a, z5W1a, z6W1a, z7W1a, z0W1a]; done) | (left; (simp only [go_sem, simprocAttr, sw0, d3, z3W1a, z4W1a, z5W1a, z6W1a, z7W1a, z0W1a]); done) | (right; (simp only [go_sem, simprocAttr, sw0, d3, z3W1a, z4W1a, z5W1a, z6W1a, z7W1a, z0W1a]); done)
 (simp only [go_sem, Nat.reduceLT])
 refine OW.run [5, 6, 8, 10, 11, 13] ?_
 simp only [go_sem, simprocAttr, sw0]
 refine OW.nil (hK _ ?_)
 refine i6 (τ := Int) [5, 6, 8, 10, 13] 7 (fun at_ => [(13, .d (I at_))]) (fun at_ => [{ cells := [.d (I Zq), .d (I Zr), .d (I Zs), .d (L Zx)], e := 24 }, { cells := [.d (Sx Z1f), .d (I Z1d), .d (I Z1i), .d (I Z1l), .d (I Z1h), .d (I Z1e), .d (I Z1a), .d (I Z1j), .d (I Z1b)], e := 27 }, { cells := [.d (.val (.slice none 0 0)), .d (.val (.slice none 0 0))], e := 32 }, { cells := [.d (I x1), .d (I x11), .d (I x12), .d (L x13)], e := 141 }, { cells := (b4.flatMap (fun (x : ByteArray × Int × Int × Int × Int × Int × Int × Int × Int) => [(Sx x.1), (I x.2.1), (I x.2.2.1), (I x.2.2.2.1), (I x.2.2.2.2.1), (I x.2.2.2.2.2.1), (I x.2.2.2.2.2.2.1), (I x.2.2.2.2.2.2.2.1), (I x.2.2.2.2.2.2.2.2)])).map .d, e := 27 }, { cells := [.own 4 0 b4.length 9, .own 6 0 b6.length 1], e := 32 }, { cells := (b6.map Sx).map .d, e := 9 }]) _ _ r (by exact Nat.zero_le _) H ?_ ?_
 intro K_1 H N8 hN8
 refine a5 ?_
 obtain ⟨x121, e12, H⟩ := a8 H
 refine a0 fun K hK => OW.run [5, 6, 8, 10, 11, 13, 14] ?_
 simp only [go_sem, simprocAttr, sw0]
 repeat (refine And.intro (by omega) ?_)
 refine d7 4 rfl rfl rfl (by ((simp only [go_sem, List.toList_toArray, simprocAttr]); exact rfl)) ?_ (sched_last_ok N _ _ _ e12) ?_ ?_ ?_ ?_
 · (first | ((first | rfl | (simp only [go_sem, sw1, simprocAttr, d3, z3W1a, z4W1a, z5W1a, z6W1a, z7W1a, z0W1a]; done) | (simp only [go_sem, sw1, simprocAttr, d3, z3W1a, z4W1a, z5W1a, z6W1a, z7W1a, z0W1a]; rfl) | (simp only [go_sem, sw1, simprocAttr, d3, z3W1a, z4W1a, z5W1a, z6W1a, z7W1a, z0W1a]; simp only [seg, asD, go_sem, sw1, simprocAttr, d3, z3W1a, z4W1a, z5W1a, z6W1a, z7W1a, z0W1a]; done) | (simp only [go_sem, sw1, simprocAttr, d3, z3W1a, z4W1a, z5W1a, z6W1a, z7W1a, z0W1a]; simp only [seg, asD, go_sem, sw1, simprocAttr, d3, z3W1a, z4W1a, z5W1a, z6W1a, z7W1a, z0W1a]; rfl) | ((try simp only [go_sem, sw1, simprocAttr, d3, z3W1a, z4W1a, z5W1a, z6W1a, z7W1a, z0W1a]); (repeat' (first | rfl | (refine i8 ?_; simp only [List.length_take, List.length_drop, List.length_set, List.length_replicate] <;> omega) | (refine congr (congrArg List.cons ?_) ?_) | (refine congrArg D.agg ?_) | (refine congrArg D.tup ?_) | (refine congrArg D.ref ?_) | (refine congrArg (D.list _) ?_) | (refine congrArg (D.clo _) ?_))))); done) | ((first | rfl | (simp only [go_sem, sw1, simprocAttr, d3, z3W1a, z4W1a, z5W1a, z6W1a, z7W1a, z0W1a]; done) | (simp only [go_sem, sw1, simprocAttr, d3, z3W1a, z4W1a, z5W1a, z6W1a, z7W1a, z0W1a]; rfl) | (simp only [go_sem, sw1, simprocAttr, d3, z3W1a, z4W1a, z5W1a, z6W1a, z7W1a, z0W1a]; simp only [seg, asD, go_sem, sw1, simprocAttr, d3, z3W1a, z4W1a, z5W1a, z6W1a, z7W1a, z0W1a]; done) | (simp only [go_sem, sw1, simprocAttr, d3, z3W1a, z4W1a, z5W1a, z6W1a, z7W1a, z0W1a]; simp only [seg, asD, go_sem, sw1, simprocAttr, d3, z3W1a, z4W1a, z5W1a, z6W1a, z7W1a, z0W1a]; rfl) | ((try simp only [go_sem, sw1, simprocAttr, d3, z3W1a, z4W1a, z5W1a, z6W1a, z7W1a, z0W1a]); (repeat' (first | rfl | (refine i8 ?_; simp only [List.length_take, List.length_drop, List.length_set, List.length_replicate] <;> omega) | (refine congr (congrArg List.cons ?_) ?_) | (refine congrArg D.agg ?_) | (refine congrArg D.tup ?_) | (refine congrArg D.ref ?_) | (refine congrArg (D.list _) ?_) | (refine congrArg (D.clo _) ?_))))); exact z8W1a _ _ _ rfl))
 · (first | exact trivial | exact d6 rfl | (refine a6 ?_; simp only [go_sem, sw2, List.length_set, List.length_replicate, and_true, true_and, Nat.le_refl, simprocAttr, d3, z3W1a, z4W1a, z5W1a, z6W1a, z7W1a, z0W1a]; done) | (refine a6 ?_; simp only [go_sem, sw2, List.length_set, List.length_replicate, and_true, true_and, Nat.le_refl, simprocAttr, d3, z3W1a, z4W1a, z5W1a, z6W1a, z7W1a, z0W1a]; omega))
 · first | (exact .inr ⟨rfl, rfl⟩; done) | (simp only [cleanV, go_sem, d3, z3W1a, z4W1a, z5W1a, z6W1a, z7W1a, z0W1a]; done) | (left; (simp only [go_sem, simprocAttr, sw0, d3, z3W1a, z4W1a, z5W1a, z6W1a, z7W1a, z0W1a]); done) | (right; (simp only [go_sem, simprocAttr, sw0, d3, z3W1a, z4W1a, z5W1a, z6W1a, z7W1a, z0W1a]); done)
 (simp only [go_sem, Nat.reduceLT])
 refine OW.run [5, 6, 8, 10, 11, 13, 14] ?_
 simp only [go_sem, simprocAttr, sw0]
 refine OW.nil (hK _ ?_)
 refine a5 ?_
 refine a0 fun K hK => OW.run [5, 6, 8, 10, 13, 14, 80] ?_
 simp only [go_sem, simprocAttr, sw0]
 refine OW.nil (hK _ ?_)
 refine d8 rfl (fun h9 => ?_) (fun h9 => ?_)
 replace H := l4 h9 H
 refine a0 fun K hK => OW.run [5, 6, 8, 10, 13] ?_
 simp only [go_sem, simprocAttr, sw0]
 refine OW.nil (hK _ ?_)
 refine hN8 [] x121 _ H (by exact trivial) ?_
 simp only [sw1, go_sem, simprocAttr]
 replace H := l5 h9 H
 refine d9 ?_
 refine hN8 [] x111 _ H (by exact trivial) ?_
 simp only [sw1, go_sem, simprocAttr]
 rintro at_ H
 try simp only [go_sem, simprocAttr]
 refine a5 ?_
 refine a5 ?_
 refine a0 fun K hK => OW.run [5, 6, 8, 10, 13, 88] ?_
 simp only [go_sem, simprocAttr, sw0]
 repeat (refine And.intro (by omega) ?_)
 refine OW.nil (hK _ ?_)
 refine d8 rfl (fun h10 => ?_) (fun h10 => ?_)
 replace H := l4 h10 H
 refine a5 ?_
 refine a0 fun K hK => OW.run [6, 7] ?_
 simp only [go_sem, simprocAttr, sw0]
 refine OW.nil (hK _ ?_)
 refine f0 ?_
 change PW.Ends _ _ _ _ _ _
 refine PW.Ends.intro (.inr rfl) ?_
 simp only [go_sem, simprocAttr, sw0]
 obtain rfl := Option.some.inj H
 refine a7 4 (by (refine a6 ?_; (simp only [go_sem, sw2, List.length_set, List.length_replicate, and_true, true_and, Nat.le_refl, simprocAttr]; done))) ?_
 rfl
 replace H := l5 h10 H
 refine d9 ?_
 refine a5 ?_
 obtain ⟨c11, H⟩ := d5 H
 obtain ⟨c12, H⟩ := d5 H
 have c12q := c12
 simp only [List.length_cons, List.length_nil] at c12q
 refine j1 9 o9 (by kernel_rfl) fun K hK => ?_
 change FW _ _ _ _ _
 refine FW.run ?_
 (simp only [go_sem, simprocAttr, sw0, z0W1a, z10W1a b4 at_.toNat (by omega), z11W1a b4 at_.toNat (by omega) (by decide), z12W1a b4 at_.toNat (by omega) 1 (by decide), z12W1a b4 at_.toNat (by omega) 2 (by decide), z12W1a b4 at_.toNat (by omega) 3 (by decide), z12W1a b4 at_.toNat (by omega) 4 (by decide), z12W1a b4 at_.toNat (by omega) 5 (by decide), z12W1a b4 at_.toNat (by omega) 6 (by decide), z12W1a b4 at_.toNat (by omega) 7 (by decide), z12W1a b4 at_.toNat (by omega) 8 (by decide), allOne_mapF Sx (fun _ => rfl)])
 repeat (refine And.intro (by omega) ?_)
 refine FW.nil ?_
 change OW _ _ _ _ _ _
 refine OW.run [5, 6, 8, 10, 13] ?_
 (simp only [go_sem, simprocAttr, sw0, z0W1a, z10W1a b4 at_.toNat (by omega), z11W1a b4 at_.toNat (by omega) (by decide), z12W1a b4 at_.toNat (by omega) 1 (by decide), z12W1a b4 at_.toNat (by omega) 2 (by decide), z12W1a b4 at_.toNat (by omega) 3 (by decide), z12W1a b4 at_.toNat (by omega) 4 (by decide), z12W1a b4 at_.toNat (by omega) 5 (by decide), z12W1a b4 at_.toNat (by omega) 6 (by decide), z12W1a b4 at_.toNat (by omega) 7 (by decide), z12W1a b4 at_.toNat (by omega) 8 (by decide), allOne_mapF Sx (fun _ => rfl)])
 repeat (refine And.intro (by omega) ?_)
 refine OW.nil (hK _ ?_)
 change PW _ _ _ _ _
 obtain ⟨c13, H⟩ := d5 H
 refine a0 fun K hK => OW.run [5, 6, 8, 10] ?_
 simp only [go_sem, simprocAttr, sw0]
 repeat (refine And.intro (by omega) ?_)
 refine OW.callM (r := (.own 4 0 ((b4.take at_.toNat ++ b4.drop (w64 (at_ + (1 : Int))).toNat).length) 9)) (objs' := [{ cells := [.d (I Zq), .d (I Zr), .d (I Zs), .d (L Zx)], e := 24 }, { cells := [.d (Sx Z1f), .d (I Z1d), .d (I Z1i), .d (I Z1l), .d (I Z1h), .d (I Z1e), .d (I Z1a), .d (I Z1j), .d (I Z1b)], e := 27 }, { cells := [.d (.val (.slice none 0 0)), .d (.val (.slice none 0 0))], e := 32 }, { cells := [.d (I x1), .d (I x11), .d (I x12), .d (L x13)], e := 141 }, { cells := ((b4.take at_.toNat ++ b4.drop (w64 (at_ + (1 : Int))).toNat).flatMap (fun (x : ByteArray × Int × Int × Int × Int × Int × Int × Int × Int) => [(Sx x.1), (I x.2.1), (I x.2.2.1), (I x.2.2.2.1), (I x.2.2.2.2.1), (I x.2.2.2.2.2.1), (I x.2.2.2.2.2.2.1), (I x.2.2.2.2.2.2.2.1), (I x.2.2.2.2.2.2.2.2)])).map .d, e := 27 }, { cells := [.own 4 0 b4.length 9, .own 6 0 ((b6 ++ ([(b4.getD at_.toNat default).1] : List ByteArray)).length) 1], e := 32 }, { cells := ((b6 ++ ([(b4.getD at_.toNat default).1] : List ByteArray)).map Sx).map .d, e := 9 }]) (ks := []) rfl rfl rfl (z13W1a (fun _ => rfl) (b := 4) (s := b4) (i := at_) (j := (w64 (at_ + (1 : Int)))) (by first | rfl | (simp only [go_sem, simprocAttr, sw0]; done) | (simp only [go_sem, simprocAttr, sw0]; rfl)) c13 (by first | rfl | (simp only [go_sem, simprocAttr, sw0]; done) | (simp only [go_sem, simprocAttr, sw0]; rfl))) (by exact Nat.le_refl _) (by (simp only [go_sem, Nat.reduceLT])) ?_
 try simp only [go_sem, simprocAttr]
 change OW _ _ _ _ _ _
 refine OW.run [5, 6, 8, 10] ?_
 simp only [go_sem, simprocAttr, sw0]
 repeat (refine And.intro (by omega) ?_)
 refine OW.nil (hK _ ?_)
 refine hN5 [] ((b4.take at_.toNat ++ b4.drop (w64 (at_ + (1 : Int))).toNat), (b6 ++ ([(b4.getD at_.toNat default).1] : List ByteArray))) _ H (by exact trivial) ?_
 simp only [sw1, go_sem, simprocAttr]

theorem law06_Best_ok (N : Nat)  (r : ByteArray × Int × Int × Int × Int × Int × Int × Int × Int) (H : law06_Best N  = some r) : CallOK Try.prog 85 [] (.d (.agg [(Sx r.1), (I r.2.1), (I r.2.2.1), (I r.2.2.2.1), (I r.2.2.2.2.1), (I r.2.2.2.2.2.1), (I r.2.2.2.2.2.2.1), (I r.2.2.2.2.2.2.2.1), (I r.2.2.2.2.2.2.2.2)])) [] := by
 refine d4 Try.func85 rfl (by rw [Try.results85]) Try.ntmps85 Try.call85 ?_
 change PW _ _ _ _ _
 try simp only [go_sem, simprocAttr]
 unfold law06_Best at H
 refine a5 ?_
 refine a0 fun K hK => OW.run [0] ?_
 simp only [go_sem, simprocAttr, sw0]
 refine OW.nil (hK _ ?_)
 refine a5 ?_
 refine a0 fun K hK => OW.run [0] ?_
 simp only [go_sem, simprocAttr, sw0]
 refine OW.nil (hK _ ?_)
 refine f0 ?_
 change PW.Ends _ _ _ _ _ _
 refine PW.Ends.intro (.inr rfl) ?_
 simp only [go_sem, simprocAttr, sw0]
 obtain rfl := Option.some.inj H
 refine a7 4 (by exact d6 rfl) ?_
 rfl

theorem sched_site_slotsErr_ok (N : Nat) (Zt : Int) (Zu : Int) (Zv : Int) (Zw : List Int) (bearers : Int) (l : List (List Int × List Int)) (r : Int) (H : sched_site_slotsErr N Zt Zu Zv Zw bearers l = some r) : CallOK Try.prog 139 [(.agg [(I Zt), (I Zu), (I Zv), (L Zw)]), (I bearers), (.list l.length (l.flatMap (fun (x : List Int × List Int) => [(L x.1), (L x.2)])))] (.d (I r)) [] := by
 refine d4 Try.func139 rfl (by rw [Try.results139]) Try.ntmps139 Try.call139 ?_
 change PW _ _ _ _ _
 try simp only [go_sem, simprocAttr]
 unfold sched_site_slotsErr at H
 refine a5 ?_
 refine a0 fun K hK => OW.run [1, 2, 3] ?_
 simp only [go_sem, simprocAttr, sw0]
 refine OW.nil (hK _ ?_)
 refine a5 ?_
 refine a5 ?_
 refine a0 fun K hK => OW.run [1, 2, 3, 13] ?_
 simp only [go_sem, simprocAttr, sw0]
 refine OW.nil (hK _ ?_)
 refine d8 rfl (fun h1 => ?_) (fun h1 => ?_)
 replace H := l4 h1 H
 refine a5 ?_
 refine a0 fun K hK => OW.run [6] ?_
 simp only [go_sem, simprocAttr, sw0]
 refine OW.nil (hK _ ?_)
 refine f0 ?_
 change PW.Ends _ _ _ _ _ _
 refine PW.Ends.intro (.inr rfl) ?_
 simp only [go_sem, simprocAttr, sw0]
 obtain rfl := Option.some.inj H
 refine a7 4 (by exact trivial) ?_
 rfl
 replace H := l5 h1 H
 refine d9 ?_
 refine i6 (τ := Unit) [] 0 (fun _ => []) (fun _ => []) _ _ r (by exact Nat.le_refl _) H ?_ ?_
 intro K_ H N2 hN2
 refine a5 ?_
 refine a0 fun K hK => OW.run [1, 3, 14, 15, 16] ?_
 simp only [go_sem, simprocAttr, sw0]
 refine OW.nil (hK _ ?_)
 refine PW.block ?_
 refine i7 (σ := Int) [1, 3, 14, 15, 16] 1 (fun t16 => [(16, .d (I t16))]) (fun t16 => [{ cells := [.d (I Zt), .d (I Zu), .d (I Zv), .d (L Zw)], e := 141 }]) (sched_site_slotsErr.b1 N Zt Zu Zv Zw bearers l K_) r N (0 : Int) (by exact Nat.zero_le _) H (by (simp only [sw1, go_sem, simprocAttr]; done)) ?_
 rintro n t16 H N3 hN3
 unfold sched_site_slotsErr.b1 at H
 try simp only [go_sem, simprocAttr]
 refine a5 ?_
 refine a0 fun K hK => OW.run [1, 3, 14, 15, 16, 17] ?_
 simp only [go_sem, simprocAttr, sw0]
 refine OW.nil (hK _ ?_)
 refine a5 ?_
 refine d8 rfl (fun h4 => ?_) (fun h4 => ?_)
 replace H := l4 h4 H
 refine d9 ?_
 refine i6 (τ := Unit) [1, 3, 14, 15, 16] 1 (fun _ => []) (fun _ => [{ cells := [.d (I Zt), .d (I Zu), .d (I Zv), .d (L Zw)], e := 141 }]) _ _ r (by exact Nat.zero_le _) H ?_ ?_
 intro K_1 H N5 hN5
 refine PW.block ?_
 refine a5 ?_
 obtain ⟨c6, H⟩ := d5 H
 refine a0 fun K hK => OW.run [1, 3, 8, 14, 15, 16] ?_
 (simp only [go_sem, simprocAttr, sw0, j5 2 (fun (x : List Int × List Int) => [(L x.1), (L x.2)]) (fun _ => rfl), sub_el 2 (fun (x : List Int × List Int) => [(L x.1), (L x.2)]) (fun _ => rfl) l t16.toNat (by omega)])
 repeat (refine And.intro (by omega) ?_)
 refine OW.nil (hK _ ?_)
 refine a5 ?_
 refine a5 ?_
 refine a0 fun K hK => OW.run [1, 3, 8, 14, 15, 16, 31] ?_
 simp only [go_sem, simprocAttr, sw0]
 repeat (refine And.intro (by omega) ?_)
 refine OW.nil (hK _ ?_)
 refine d8 rfl (fun h7 => ?_) (fun h7 => ?_)
 replace H := l4 h7 H
 refine a5 ?_
 refine a0 fun K hK => OW.run [6] ?_
 simp only [go_sem, simprocAttr, sw0]
 refine OW.nil (hK _ ?_)
 refine f0 ?_
 change PW.Ends _ _ _ _ _ _
 refine PW.Ends.intro (.inr rfl) ?_
 simp only [go_sem, simprocAttr, sw0]
 obtain rfl := Option.some.inj H
 refine a7 4 (by exact trivial) ?_
 rfl
 replace H := l5 h7 H
 refine d9 ?_
 refine a5 ?_
 refine a0 fun K hK => OW.run [1, 3, 8, 14, 15, 16, 33, 34, 35] ?_
 simp only [go_sem, simprocAttr, sw0]
 repeat (refine And.intro (by omega) ?_)
 refine OW.nil (hK _ ?_)
 refine PW.block ?_
 refine i7 (σ := Int) [1, 3, 8, 14, 15, 16, 33, 34, 35] 2 (fun t35 => [(35, .d (I t35))]) (fun t35 => [{ cells := [.d (I Zt), .d (I Zu), .d (I Zv), .d (L Zw)], e := 141 }, { cells := [.d (L ((l.getD t16.toNat default).1)), .d (L ((l.getD t16.toNat default).2))], e := 57 }]) (n2 N Zt Zu Zv Zw l t16 K_1) r N (0 : Int) (by exact Nat.zero_le _) H (by (simp only [sw1, go_sem, simprocAttr]; done)) ?_
 rintro n t35 H N8 hN8
 unfold n2 at H
 try simp only [go_sem, simprocAttr]
 refine a5 ?_
 refine a0 fun K hK => OW.run [1, 3, 8, 14, 15, 16, 33, 34, 35, 36] ?_
 simp only [go_sem, simprocAttr, sw0]
 refine OW.nil (hK _ ?_)
 refine a5 ?_
 refine d8 rfl (fun h9 => ?_) (fun h9 => ?_)
 ·
  replace H := l4 h9 H
  refine d9 ?_
  refine a5 ?_
  refine PW.block ?_
  refine a5 ?_
  obtain ⟨c10, H⟩ := d5 H
  refine a0 fun K hK => OW.run [1, 3, 8, 9, 10, 14, 15, 16, 33, 34, 35] ?_
  simp only [go_sem, simprocAttr, sw0]
  repeat (refine And.intro (by omega) ?_)
  refine OW.nil (hK _ ?_)
  refine a5 ?_
  obtain ⟨x1, e1, H⟩ := a8 H
  obtain ⟨c11, H⟩ := d5 H
  obtain ⟨x2, e2, H⟩ := a8 H
  refine a0 fun K hK => OW.run [1, 3, 8, 14, 15, 16, 33, 34, 35, 52] ?_
  simp only [go_sem, simprocAttr, sw0]
  repeat (refine And.intro (by first | omega | (intro hg; have hq := c11 (by first | exact hg | simpa using hg); first | omega | exact hq | (simp only [List.length_map]; omega)) | (first | omega | assumption | rfl | decide | (simp only [List.length_map, List.length_replicate, List.length_append, List.length_take, List.length_drop, List.length_set, List.length_cons, List.length_nil, Nat.zero_add, Int.toNat_natCast] at *; omega) | (simp only [List.length_map, List.length_replicate, List.length_append, List.length_take, List.length_drop, List.length_set, List.length_cons, List.length_nil, Nat.zero_add, Int.toNat_natCast]; done) | trivial)) ?_)
  refine d7 4 rfl rfl rfl (by ((simp only [go_sem, List.toList_toArray, simprocAttr]); exact rfl)) ?_ (sched_site_isReport_ok N _ _ _ _ _ _ e1) ?_ ?_ ?_ ?_
  rfl
  · (refine a6 ?_; (simp only [go_sem, sw2, List.length_set, List.length_replicate, and_true, true_and, Nat.le_refl, simprocAttr]; done))
  exact .inl rfl
  (simp only [go_sem, Nat.reduceLT])
  refine OW.run [1, 3, 8, 14, 15, 16, 33, 34, 35, 52] ?_
  simp only [go_sem, simprocAttr, sw0]
  repeat (refine And.intro (by first | omega | (intro hg; have hq := c11 (by first | exact hg | simpa using hg); first | omega | exact hq | (simp only [List.length_map]; omega)) | (first | omega | assumption | rfl | decide | (simp only [List.length_map, List.length_replicate, List.length_append, List.length_take, List.length_drop, List.length_set, List.length_cons, List.length_nil, Nat.zero_add, Int.toNat_natCast] at *; omega) | (simp only [List.length_map, List.length_replicate, List.length_append, List.length_take, List.length_drop, List.length_set, List.length_cons, List.length_nil, Nat.zero_add, Int.toNat_natCast]; done) | trivial)) ?_)
  refine l8 4 rfl rfl ?_ (fun hg => by first | rfl | (simp only [go_sem, ↓reduceIte]; rfl)) (fun hg => by ((simp only [go_sem, List.toList_toArray, simprocAttr]); exact rfl)) (fun hg => ?_) (fun hg => (f6 N _ _ _ _ (p9 hg e2))) ?_ ?_ ?_ ?_
  simp only [go_sem, simprocAttr]
  rfl
  exact d6 rfl
  exact .inl rfl
  (simp only [go_sem, Nat.reduceLT])
  refine OW.run [1, 3, 8, 14, 15, 16, 33, 34, 35, 52] ?_
  simp only [go_sem, simprocAttr, sw0]
  repeat (refine And.intro (by first | omega | (intro hg; have hq := c11 (by first | exact hg | simpa using hg); first | omega | exact hq | (simp only [List.length_map]; omega)) | (first | omega | assumption | rfl | decide | (simp only [List.length_map, List.length_replicate, List.length_append, List.length_take, List.length_drop, List.length_set, List.length_cons, List.length_nil, Nat.zero_add, Int.toNat_natCast] at *; omega) | (simp only [List.length_map, List.length_replicate, List.length_append, List.length_take, List.length_drop, List.length_set, List.length_cons, List.length_nil, Nat.zero_add, Int.toNat_natCast]; done) | trivial)) ?_)
  refine OW.nil (hK _ ?_)
  refine d8 rfl (fun h12 => ?_) (fun h12 => ?_)
  replace H := l4 h12 H
  refine a5 ?_
  refine a0 fun K hK => OW.run [6] ?_
  simp only [go_sem, simprocAttr, sw0]
  refine OW.nil (hK _ ?_)
  refine f0 ?_
  change PW.Ends _ _ _ _ _ _
  refine PW.Ends.intro (.inr rfl) ?_
  simp only [go_sem, simprocAttr, sw0]
  obtain rfl := Option.some.inj H
  refine a7 4 (by exact trivial) ?_
  rfl
  replace H := l5 h12 H
  refine d9 ?_
  refine a0 fun K hK => OW.run [1, 3, 8, 14, 15, 16, 33, 34, 35] ?_
  simp only [go_sem, simprocAttr, sw0]
  refine OW.nil (hK _ ?_)
  refine hN8 [] (w64 (t35 + (1 : Int))) _ H (by exact trivial) ?_
  simp only [sw1, go_sem, simprocAttr]
 replace H := l5 h9 H
 refine j2 ?_
 refine hN5 [] () _ H (by exact trivial) ?_
 simp only [sw1, go_sem, simprocAttr]
 rintro _ H
 try simp only [go_sem, simprocAttr]
 refine a0 fun K hK => OW.run [1, 3, 14, 15, 16] ?_
 simp only [go_sem, simprocAttr, sw0]
 refine OW.nil (hK _ ?_)
 refine hN3 [] (w64 (t16 + (1 : Int))) _ H (by exact trivial) ?_
 simp only [sw1, go_sem, simprocAttr]
 replace H := l5 h4 H
 refine j2 ?_
 refine hN2 [] () _ H (by exact trivial) ?_
 simp only [sw1, go_sem, simprocAttr]
 rintro _ H
 try simp only [go_sem, simprocAttr]
 refine a5 ?_
 refine a0 fun K hK => OW.run [6] ?_
 simp only [go_sem, simprocAttr, sw0]
 refine OW.nil (hK _ ?_)
 refine f0 ?_
 change PW.Ends _ _ _ _ _ _
 refine PW.Ends.intro (.inr rfl) ?_
 simp only [go_sem, simprocAttr, sw0]
 obtain rfl := Option.some.inj H
 refine a7 4 (by exact trivial) ?_
 rfl

theorem sched_run_left_ok (N : Nat) (Zm : Int) (Zn : Int) (Zo : Int) (Zp : List Int) (r_users : List TU) (r : Int × Int × Int) (H : sched_run_left N Zm Zn Zo Zp r_users = some r) : CallOK Try.prog 154 [(.ref [(I Zm), (I Zn), (I Zo), (L Zp), (.list r_users.length (r_users.map (fun (x : ByteArray × Int × Int × Int × Int × Int × Int × Int × Int × Int × Int × Int × Int × Int) => (.ref [(Sx x.1), (I x.2.1), (I x.2.2.1), (I x.2.2.2.1), (I x.2.2.2.2.1), (I x.2.2.2.2.2.1), (I x.2.2.2.2.2.2.1), (I x.2.2.2.2.2.2.2.1), (I x.2.2.2.2.2.2.2.2.1), (I x.2.2.2.2.2.2.2.2.2.1), (I x.2.2.2.2.2.2.2.2.2.2.1), (I x.2.2.2.2.2.2.2.2.2.2.2.1), (I x.2.2.2.2.2.2.2.2.2.2.2.2.1), (I x.2.2.2.2.2.2.2.2.2.2.2.2.2)]))))])] (.d (.agg [(I r.1), (I r.2.1), (I r.2.2)])) [] := by
 refine d4 Try.func154 rfl (by rw [Try.results154]) Try.ntmps154 Try.call154 ?_
 change PW _ _ _ _ _
 try simp only [go_sem, simprocAttr]
 unfold sched_run_left at H
 refine a5 ?_
 refine a0 fun K hK => OW.run [0, 2] ?_
 simp only [go_sem, simprocAttr, sw0]
 refine OW.nil (hK _ ?_)
 refine a5 ?_
 refine PW.drawO 20 [19] [62] o9 (by kernel_rfl) (by decide) rfl fun K hK => ?_
 refine FWO.run ?_
 simp only [go_sem, simprocAttr, sw0]
 repeat (refine And.intro (by first | omega | rfl) ?_)
 first | refine FWO.nil ?_ | skip
 change OW _ _ _ _ _ _
 refine OW.run [0, 2, 3] ?_
 simp only [go_sem, simprocAttr, sw0]
 refine OW.nil (hK _ ?_)
 refine i6 (τ := Int × Int × Int) [2, 3] 2 (fun (b1, b11, b12) => []) (fun (b1, b11, b12) => [{ cells := [.d (I (0 : Int)), .d (I (0 : Int)), .d (I (0 : Int))], e := 62 }, { cells := [.d (I b1), .d (I b11), .d (I b12)], e := 62 }]) _ _ r (by exact Nat.zero_le _) H ?_ ?_
 intro K_ H N1 hN1
 refine a5 ?_
 refine a0 fun K hK => OW.run [2, 3, 28, 29, 30] ?_
 simp only [go_sem, simprocAttr, sw0]
 repeat (refine And.intro (by omega) ?_)
 refine OW.nil (hK _ ?_)
 refine PW.block ?_
 refine i7 (σ := Int × Int × Int × Int) [2, 3, 28, 29, 30] 2 (fun (t30, b13, b14, b15) => [(30, .d (I t30))]) (fun (t30, b13, b14, b15) => [{ cells := [.d (I (0 : Int)), .d (I (0 : Int)), .d (I (0 : Int))], e := 62 }, { cells := [.d (I b13), .d (I b14), .d (I b15)], e := 62 }]) (sched_run_left.b1 N r_users K_) r N ((0 : Int), Zm, Zn, Zo) (by exact Nat.zero_le _) H (by (simp only [sw1, go_sem, simprocAttr]; done)) ?_
 rintro n ⟨t30, b13, b14, b15⟩ H N2 hN2
 unfold sched_run_left.b1 at H
 try simp only [go_sem, simprocAttr]
 refine a5 ?_
 refine a0 fun K hK => OW.run [2, 3, 28, 29, 30, 31] ?_
 simp only [go_sem, simprocAttr, sw0]
 refine OW.nil (hK _ ?_)
 refine a5 ?_
 refine d8 rfl (fun h3 => ?_) (fun h3 => ?_)
 replace H := l4 h3 H
 refine d9 ?_
 refine a5 ?_
 refine PW.block ?_
 refine a5 ?_
 obtain ⟨c4, H⟩ := d5 H
 refine a0 fun K hK => OW.run [2, 3, 5, 28, 29, 30] ?_
 (simp only [go_sem, simprocAttr, sw0, i9 (fun (x : ByteArray × Int × Int × Int × Int × Int × Int × Int × Int × Int × Int × Int × Int × Int) => (.ref [(Sx x.1), (I x.2.1), (I x.2.2.1), (I x.2.2.2.1), (I x.2.2.2.2.1), (I x.2.2.2.2.2.1), (I x.2.2.2.2.2.2.1), (I x.2.2.2.2.2.2.2.1), (I x.2.2.2.2.2.2.2.2.1), (I x.2.2.2.2.2.2.2.2.2.1), (I x.2.2.2.2.2.2.2.2.2.2.1), (I x.2.2.2.2.2.2.2.2.2.2.2.1), (I x.2.2.2.2.2.2.2.2.2.2.2.2.1), (I x.2.2.2.2.2.2.2.2.2.2.2.2.2)])) r_users t30.toNat default (by omega)])
 repeat (refine And.intro (by omega) ?_)
 refine OW.nil (hK _ ?_)
 refine a5 ?_
 refine j1 6 o9 (by kernel_rfl) fun K hK => ?_
 change FW _ _ _ _ _
 refine FW.run ?_
 simp only [go_sem, simprocAttr, sw0]
 repeat (refine And.intro (by omega) ?_)
 refine FW.nil ?_
 change OW _ _ _ _ _ _
 refine OW.run [2, 3, 5, 28, 29, 30] ?_
 simp only [go_sem, simprocAttr, sw0]
 repeat (refine And.intro (by omega) ?_)
 refine OW.nil (hK _ ?_)
 refine a5 ?_
 refine j1 12 o9 (by kernel_rfl) fun K hK => ?_
 change FW _ _ _ _ _
 refine FW.run ?_
 simp only [go_sem, simprocAttr, sw0]
 repeat (refine And.intro (by omega) ?_)
 refine FW.nil ?_
 change OW _ _ _ _ _ _
 refine OW.run [2, 3, 5, 28, 29, 30] ?_
 simp only [go_sem, simprocAttr, sw0]
 repeat (refine And.intro (by omega) ?_)
 refine OW.nil (hK _ ?_)
 refine a5 ?_
 refine a0 fun K hK => OW.run [2, 3, 28, 29, 30, 60] ?_
 simp only [go_sem, simprocAttr, sw0]
 repeat (refine And.intro (by omega) ?_)
 refine OW.nil (hK _ ?_)
 refine d8 rfl (fun h5 => ?_) (fun h5 => ?_)
 replace H := l4 h5 H
 refine a0 fun K hK => OW.run [2, 3, 28, 29, 30] ?_
 simp only [go_sem, simprocAttr, sw0]
 repeat (refine And.intro (by omega) ?_)
 refine OW.nil (hK _ ?_)
 refine a0 fun K hK => OW.run [2, 3, 28, 29, 30] ?_
 simp only [go_sem, simprocAttr, sw0]
 refine OW.nil (hK _ ?_)
 refine hN2 [] (w64 (t30 + (1 : Int)), w64 (b13 - ((r_users.getD t30.toNat default).2.2.2.2.2.2.2.2.2.2.2.2.2)), w64 (b14 - (1 : Int)), w64 (b15 - (w64 (((r_users.getD t30.toNat default).2.2.2.2.2.2.2.2.2.2.2.2.2) * ((r_users.getD t30.toNat default).2.2.2.2.1))))) _ H (by exact trivial) ?_
 simp only [sw1, go_sem, simprocAttr]
 replace H := l5 h5 H
 refine d9 ?_
 refine a0 fun K hK => OW.run [2, 3, 28, 29, 30] ?_
 simp only [go_sem, simprocAttr, sw0]
 refine OW.nil (hK _ ?_)
 refine hN2 [] (w64 (t30 + (1 : Int)), w64 (b13 - ((r_users.getD t30.toNat default).2.2.2.2.2.2.2.2.2.2.2.2.2)), b14, w64 (b15 - (w64 (((r_users.getD t30.toNat default).2.2.2.2.2.2.2.2.2.2.2.2.2) * ((r_users.getD t30.toNat default).2.2.2.2.1))))) _ H (by exact trivial) ?_
 simp only [sw1, go_sem, simprocAttr]
 replace H := l5 h3 H
 refine j2 ?_
 refine hN1 [] (b13, b14, b15) _ H (by exact trivial) ?_
 simp only [sw1, go_sem, simprocAttr]
 rintro ⟨b1, b11, b12⟩ H
 try simp only [go_sem, simprocAttr]
 refine a5 ?_
 refine a0 fun K hK => OW.run [2] ?_
 simp only [go_sem, simprocAttr, sw0]
 refine OW.nil (hK _ ?_)
 refine f0 ?_
 change PW.Ends _ _ _ _ _ _
 refine PW.Ends.intro (.inr rfl) ?_
 simp only [go_sem, simprocAttr, sw0]
 obtain rfl := Option.some.inj H
 refine a7 4 (by exact d6 rfl) ?_
 rfl

theorem f9 (N : Nat) (Z14 : ByteArray) (Z12 : Int) (Z16 : Int) (Z18 : Int) (Z15 : Int) (Z13 : Int) (Z10 : Int) (Z17 : Int) (Z11 : Int) (u_need : Int) (u_waits : Int) (u_sent : Int) (u_rate : Int) (u_blocks : Int) (r : Int) (H : l0 N Z14 Z12 Z16 Z18 Z15 Z13 Z10 Z17 Z11 u_need u_waits u_sent u_rate u_blocks = some r) : CallOK Try.prog 141 [(.ref [(Sx Z14), (I Z12), (I Z16), (I Z18), (I Z15), (I Z13), (I Z10), (I Z17), (I Z11), (I u_need), (I u_waits), (I u_sent), (I u_rate), (I u_blocks)])] (.d (I r)) [] := by
 refine d4 Try.func141 rfl (by rw [Try.results141]) Try.ntmps141 Try.call141 ?_
 change PW _ _ _ _ _
 try simp only [go_sem, simprocAttr]
 unfold l0 at H
 refine a5 ?_
 refine a0 fun K hK => OW.run [0] ?_
 simp only [go_sem, simprocAttr, sw0]
 refine OW.nil (hK _ ?_)
 refine a5 ?_
 refine j1 13 o9 (by kernel_rfl) fun K hK => ?_
 change FW _ _ _ _ _
 refine FW.run ?_
 simp only [go_sem, simprocAttr, sw0]
 repeat (refine And.intro (by omega) ?_)
 refine FW.nil ?_
 change OW _ _ _ _ _ _
 refine OW.run [2] ?_
 simp only [go_sem, simprocAttr, sw0]
 refine OW.nil (hK _ ?_)
 refine f0 ?_
 change PW.Ends _ _ _ _ _ _
 refine PW.Ends.intro (.inr rfl) ?_
 simp only [go_sem, simprocAttr, sw0]
 obtain rfl := Option.some.inj H
 refine a7 4 (by exact trivial) ?_
 rfl
end Go.Proofs.Ytabojpkmfkjjkaa
