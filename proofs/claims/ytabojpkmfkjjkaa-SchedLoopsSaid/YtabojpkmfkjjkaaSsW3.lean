import Derived.Test.YtabojpkmfkjjkaaSsBase
import Derived.Test.YtabojpkmfkjjkaaSsW0
set_option linter.all false
namespace Go.Proofs.Ytabojpkmfkjjkaa
open Go.PW Go.Sh

set_option maxRecDepth 20000
set_option maxHeartbeats 8000000
def z0W3a := j5 9 (fun (x : ByteArray × Int × Int × Int × Int × Int × Int × Int × Int) => [(Sx x.1), (I x.2.1), (I x.2.2.1), (I x.2.2.2.1), (I x.2.2.2.2.1), (I x.2.2.2.2.2.1), (I x.2.2.2.2.2.2.1), (I x.2.2.2.2.2.2.2.1), (I x.2.2.2.2.2.2.2.2)]) (fun _ => rfl)
def z1W3a := sub_el 9 (fun (x : ByteArray × Int × Int × Int × Int × Int × Int × Int × Int) => [(Sx x.1), (I x.2.1), (I x.2.2.1), (I x.2.2.2.1), (I x.2.2.2.2.1), (I x.2.2.2.2.2.1), (I x.2.2.2.2.2.2.1), (I x.2.2.2.2.2.2.2.1), (I x.2.2.2.2.2.2.2.2)]) (fun _ => rfl)
theorem sched_demandErr_ok (N : Nat) (Zk : Int) (Zj : List Int) (Zl : List Int) (r : Int) (H : sched_demandErr N Zk Zj Zl = some r) : CallOK Try.prog 129 [(.agg [(I Zk), (L Zj), (L Zl)])] (.d (I r)) [] := by
 refine d4 Try.func129 rfl (by rw [Try.results129]) Try.ntmps129 Try.call129 ?_
 change PW _ _ _ _ _
 try simp only [go_sem, simprocAttr]
 unfold sched_demandErr at H
 refine a5 ?_
 refine a0 fun K hK => OW.run [1] ?_
 simp only [go_sem, simprocAttr, sw0]
 refine OW.nil (hK _ ?_)
 refine a5 ?_
 obtain ⟨x1, e1, H⟩ := a8 H
 obtain ⟨x2, e2, H⟩ := a8 H
 obtain ⟨x3, e3, H⟩ := a8 H
 obtain ⟨x4, e4, H⟩ := a8 H
 obtain ⟨x5, e5, H⟩ := a8 H
 refine j1 22 o9 (by kernel_rfl) fun K hK => ?_
 change FW _ _ _ _ _
 refine FW.run ?_
 simp only [go_sem, simprocAttr, sw0]
 repeat (refine And.intro (by omega) ?_)
 refine k6 4 rfl rfl rfl (by ((simp only [go_sem, List.toList_toArray, simprocAttr]); exact rfl)) ?_ (f6 N _ _ _ _ e1) ?_ ?_ ?_ ?_
 rfl
 exact d6 rfl
 exact .inl rfl
 (simp only [go_sem, Nat.reduceLT])
 refine FW.run ?_
 simp only [go_sem, simprocAttr, sw0]
 refine k6 4 rfl rfl rfl (by ((simp only [go_sem, List.toList_toArray, simprocAttr]); exact rfl)) ?_ (f4 N _ _ _ e2) ?_ ?_ ?_ ?_
 rfl
 exact d6 rfl
 exact .inl rfl
 (simp only [go_sem, Nat.reduceLT])
 refine FW.run ?_
 simp only [go_sem, simprocAttr, sw0]
 repeat (refine And.intro (by omega) ?_)
 refine k6 4 rfl rfl rfl (by ((simp only [go_sem, List.toList_toArray, simprocAttr]); exact rfl)) ?_ (f4 N _ _ _ e3) ?_ ?_ ?_ ?_
 rfl
 exact d6 rfl
 exact .inl rfl
 (simp only [go_sem, Nat.reduceLT])
 refine FW.run ?_
 simp only [go_sem, simprocAttr, sw0]
 repeat (refine And.intro (by omega) ?_)
 refine FW.nil ?_
 change OW _ _ _ _ _ _
 refine OW.run [1, 3] ?_
 simp only [go_sem, simprocAttr, sw0]
 refine d7 4 rfl rfl rfl (by ((simp only [go_sem, List.toList_toArray, simprocAttr]); exact rfl)) ?_ (f4 N _ _ _ e4) ?_ ?_ ?_ ?_
 rfl
 exact d6 rfl
 exact .inl rfl
 (simp only [go_sem, Nat.reduceLT])
 refine OW.run [1, 3] ?_
 simp only [go_sem, simprocAttr, sw0]
 refine d7 4 rfl rfl rfl (by ((simp only [go_sem, List.toList_toArray, simprocAttr]); exact rfl)) ?_ (j8 N _ _ e5) ?_ ?_ ?_ ?_
 rfl
 · (refine a6 ?_; (simp only [go_sem, sw2, List.length_set, List.length_replicate, and_true, true_and, Nat.le_refl, simprocAttr]; simp only [seg, go_sem, sw2, List.length_set, List.length_replicate, and_true, true_and, Nat.le_refl, simprocAttr]; done))
 exact .inr ⟨rfl, rfl⟩
 (simp only [go_sem, Nat.reduceLT])
 refine OW.run [1, 3] ?_
 simp only [go_sem, simprocAttr, sw0]
 refine OW.nil (hK _ ?_)
 refine a5 ?_
 refine a5 ?_
 refine a0 fun K hK => OW.run [1, 3, 32] ?_
 simp only [go_sem, simprocAttr, sw0]
 refine OW.nil (hK _ ?_)
 refine d8 rfl (fun h1 => ?_) (fun h1 => ?_)
 replace H := l4 h1 H
 refine a5 ?_
 refine a0 fun K hK => OW.run [2] ?_
 simp only [go_sem, simprocAttr, sw0]
 refine OW.nil (hK _ ?_)
 refine f0 ?_
 change PW.Ends _ _ _ _ _ _
 refine PW.Ends.intro (.inr rfl) ?_
 simp only [go_sem, simprocAttr, sw0]
 obtain rfl := Option.some.inj H
 refine a7 4 (by exact trivial) ?_
 rfl
 replace H := l5 h1 H
 refine d9 ?_
 refine i6 (τ := Unit) [] 0 (fun _ => []) (fun _ => []) _ _ r (by exact Nat.le_refl _) H ?_ ?_
 intro K_ H N2 hN2
 refine a5 ?_
 refine a0 fun K hK => OW.run [1, 35, 36, 37] ?_
 simp only [go_sem, simprocAttr, sw0]
 repeat (refine And.intro (by omega) ?_)
 refine OW.nil (hK _ ?_)
 refine PW.block ?_
 refine i7 (σ := Int) [1, 35, 36, 37] 2 (fun t37 => [(37, .d (I t37))]) (fun t37 => [{ cells := [.d (I Zk), .d (L Zj), .d (L Zl)], e := 121 }, { cells := [.d (I x2), .d (I x3), .d (I x4)], e := 33 }]) (sched_demandErr.b1 N Zj Zl K_) r N (0 : Int) (by exact Nat.zero_le _) H (by (simp only [sw1, go_sem, simprocAttr]; done)) ?_
 rintro n t37 H N3 hN3
 unfold sched_demandErr.b1 at H
 try simp only [go_sem, simprocAttr]
 refine a5 ?_
 refine a0 fun K hK => OW.run [1, 35, 36, 37, 38] ?_
 simp only [go_sem, simprocAttr, sw0]
 refine OW.nil (hK _ ?_)
 refine a5 ?_
 refine d8 rfl (fun h4 => ?_) (fun h4 => ?_)
 ·
  replace H := l4 h4 H
  refine d9 ?_
  refine a5 ?_
  refine PW.block ?_
  refine a5 ?_
  obtain ⟨c5, H⟩ := d5 H
  refine a0 fun K hK => OW.run [1, 4, 5, 35, 36, 37] ?_
  simp only [go_sem, simprocAttr, sw0]
  repeat (refine And.intro (by omega) ?_)
  refine OW.nil (hK _ ?_)
  refine a5 ?_
  obtain ⟨x6, e6, H⟩ := a8 H
  obtain ⟨c6, H⟩ := d5 H
  obtain ⟨x7, e7, H⟩ := a8 H
  refine a0 fun K hK => OW.run [1, 35, 36, 37, 53] ?_
  simp only [go_sem, simprocAttr, sw0]
  repeat (refine And.intro (by first | omega | (intro hg; have hq := c6 (by first | exact hg | simpa using hg); first | omega | exact hq | (simp only [List.length_map]; omega)) | (first | omega | assumption | rfl | decide | (simp only [List.length_map, List.length_replicate, List.length_append, List.length_take, List.length_drop, List.length_set, List.length_cons, List.length_nil, Nat.zero_add, Int.toNat_natCast] at *; omega) | (simp only [List.length_map, List.length_replicate, List.length_append, List.length_take, List.length_drop, List.length_set, List.length_cons, List.length_nil, Nat.zero_add, Int.toNat_natCast]; done) | trivial)) ?_)
  refine d7 4 rfl rfl rfl (by ((simp only [go_sem, List.toList_toArray, simprocAttr]); exact rfl)) ?_ (f6 N _ _ _ _ e6) ?_ ?_ ?_ ?_
  rfl
  exact d6 rfl
  exact .inl rfl
  (simp only [go_sem, Nat.reduceLT])
  refine OW.run [1, 35, 36, 37, 53] ?_
  simp only [go_sem, simprocAttr, sw0]
  repeat (refine And.intro (by first | omega | (intro hg; have hq := c6 (by first | exact hg | simpa using hg); first | omega | exact hq | (simp only [List.length_map]; omega)) | (first | omega | assumption | rfl | decide | (simp only [List.length_map, List.length_replicate, List.length_append, List.length_take, List.length_drop, List.length_set, List.length_cons, List.length_nil, Nat.zero_add, Int.toNat_natCast] at *; omega) | (simp only [List.length_map, List.length_replicate, List.length_append, List.length_take, List.length_drop, List.length_set, List.length_cons, List.length_nil, Nat.zero_add, Int.toNat_natCast]; done) | trivial)) ?_)
  refine l8 4 rfl rfl ?_ (fun hg => by first | rfl | (simp only [go_sem, ↓reduceIte]; rfl)) (fun hg => by ((simp only [go_sem, List.toList_toArray, simprocAttr]); exact rfl)) (fun hg => ?_) (fun hg => (f6 N _ _ _ _ (p9 hg e7))) ?_ ?_ ?_ ?_
  simp only [go_sem, simprocAttr]
  rfl
  exact d6 rfl
  exact .inl rfl
  (simp only [go_sem, Nat.reduceLT])
  refine OW.run [1, 35, 36, 37, 53] ?_
  simp only [go_sem, simprocAttr, sw0]
  repeat (refine And.intro (by first | omega | (intro hg; have hq := c6 (by first | exact hg | simpa using hg); first | omega | exact hq | (simp only [List.length_map]; omega)) | (first | omega | assumption | rfl | decide | (simp only [List.length_map, List.length_replicate, List.length_append, List.length_take, List.length_drop, List.length_set, List.length_cons, List.length_nil, Nat.zero_add, Int.toNat_natCast] at *; omega) | (simp only [List.length_map, List.length_replicate, List.length_append, List.length_take, List.length_drop, List.length_set, List.length_cons, List.length_nil, Nat.zero_add, Int.toNat_natCast]; done) | trivial)) ?_)
  refine OW.nil (hK _ ?_)
  refine d8 rfl (fun h7 => ?_) (fun h7 => ?_)
  replace H := l4 h7 H
  refine a5 ?_
  refine a0 fun K hK => OW.run [2] ?_
  simp only [go_sem, simprocAttr, sw0]
  refine OW.nil (hK _ ?_)
  refine f0 ?_
  change PW.Ends _ _ _ _ _ _
  refine PW.Ends.intro (.inr rfl) ?_
  simp only [go_sem, simprocAttr, sw0]
  obtain rfl := Option.some.inj H
  refine a7 4 (by exact trivial) ?_
  rfl
  replace H := l5 h7 H
  refine d9 ?_
  refine a0 fun K hK => OW.run [1, 35, 36, 37] ?_
  simp only [go_sem, simprocAttr, sw0]
  refine OW.nil (hK _ ?_)
  refine hN3 [] (w64 (t37 + (1 : Int))) _ H (by exact trivial) ?_
  simp only [sw1, go_sem, simprocAttr]
 replace H := l5 h4 H
 refine j2 ?_
 refine hN2 [] () _ H (by exact trivial) ?_
 simp only [sw1, go_sem, simprocAttr]
 rintro _ H
 try simp only [go_sem, simprocAttr]
 refine a5 ?_
 refine a0 fun K hK => OW.run [2] ?_
 simp only [go_sem, simprocAttr, sw0]
 refine OW.nil (hK _ ?_)
 refine f0 ?_
 change PW.Ends _ _ _ _ _ _
 refine PW.Ends.intro (.inr rfl) ?_
 simp only [go_sem, simprocAttr, sw0]
 obtain rfl := Option.some.inj H
 refine a7 4 (by exact trivial) ?_
 rfl

theorem sched_divisor_ok (N : Nat) (l : List Int) (r : Int) (H : sched_divisor N l = some r) : CallOK Try.prog 126 [(L l)] (.d (I r)) [] := by
 refine d4 Try.func126 rfl (by rw [Try.results126]) Try.ntmps126 Try.call126 ?_
 change PW _ _ _ _ _
 try simp only [go_sem, simprocAttr]
 unfold sched_divisor at H
 refine a5 ?_
 refine a0 fun K hK => OW.run [0] ?_
 simp only [go_sem, simprocAttr, sw0]
 refine OW.nil (hK _ ?_)
 refine a5 ?_
 refine a0 fun K hK => OW.run [0, 3] ?_
 simp only [go_sem, simprocAttr, sw0]
 refine OW.nil (hK _ ?_)
 refine i6 (τ := Int) [3] 0 (fun a => [(3, .d (I a))]) (fun a => []) _ _ r (by exact Nat.le_refl _) H ?_ ?_
 intro K_ H N1 hN1
 refine a5 ?_
 refine a0 fun K hK => OW.run [3, 6, 7, 8] ?_
 simp only [go_sem, simprocAttr, sw0]
 refine OW.nil (hK _ ?_)
 refine PW.block ?_
 refine i7 (σ := Int × Int) [3, 6, 7, 8] 0 (fun (a1, t8) => [(3, .d (I a1)), (8, .d (I t8))]) (fun (a1, t8) => []) (sched_divisor.b1 N l K_) r N ((0 : Int), (0 : Int)) (by exact Nat.le_refl _) H (by (simp only [sw1, go_sem, simprocAttr]; done)) ?_
 rintro n ⟨a1, t8⟩ H N2 hN2
 unfold sched_divisor.b1 at H
 try simp only [go_sem, simprocAttr]
 refine a5 ?_
 refine a0 fun K hK => OW.run [3, 6, 7, 8, 9] ?_
 simp only [go_sem, simprocAttr, sw0]
 refine OW.nil (hK _ ?_)
 refine a5 ?_
 refine d8 rfl (fun h3 => ?_) (fun h3 => ?_)
 replace H := l4 h3 H
 refine d9 ?_
 refine i6 (τ := Int) [3, 6, 7, 8] 0 (fun a2 => [(3, .d (I a2))]) (fun a2 => []) _ _ r (by exact Nat.le_refl _) H ?_ ?_
 intro K_1 H N4 hN4
 refine PW.block ?_
 refine a5 ?_
 obtain ⟨c5, H⟩ := d5 H
 refine a0 fun K hK => OW.run [3, 5, 6, 7, 8] ?_
 simp only [go_sem, simprocAttr, sw0]
 repeat (refine And.intro (by omega) ?_)
 refine OW.nil (hK _ ?_)
 refine PW.block ?_
 refine i7 (σ := Int × Int) [3, 5, 6, 7, 8] 0 (fun (a3, b) => [(3, .d (I a3)), (5, .d (I b))]) (fun (a3, b) => []) (u1 N K_1) r N (a1, (l.getD t8.toNat 0)) (by exact Nat.le_refl _) H (by (simp only [sw1, go_sem, simprocAttr]; done)) ?_
 rintro n ⟨a3, b⟩ H N6 hN6
 unfold u1 at H
 try simp only [go_sem, simprocAttr]
 refine a5 ?_
 refine a5 ?_
 refine a0 fun K hK => OW.run [3, 5, 6, 7, 8, 13] ?_
 simp only [go_sem, simprocAttr, sw0]
 refine OW.nil (hK _ ?_)
 refine d8 rfl (fun h7 => ?_) (fun h7 => ?_)
 replace H := l4 h7 H
 refine d9 ?_
 refine PW.block ?_
 obtain ⟨c8, H⟩ := d5 H
 refine j1 5 o9 (by kernel_rfl) fun K hK => ?_
 change FW _ _ _ _ _
 refine FW.run ?_
 simp only [go_sem, simprocAttr, sw0]
 repeat (refine And.intro (by omega) ?_)
 refine FW.nil ?_
 change OW _ _ _ _ _ _
 refine OW.run [3, 5, 6, 7, 8] ?_
 simp only [go_sem, simprocAttr, sw0]
 refine OW.nil (hK _ ?_)
 refine hN6 [] (b, a3.tmod b) _ H (by exact trivial) ?_
 simp only [sw1, go_sem, simprocAttr]
 replace H := l5 h7 H
 refine j2 ?_
 refine hN4 [] a3 _ H (by exact trivial) ?_
 simp only [sw1, go_sem, simprocAttr]
 rintro a2 H
 try simp only [go_sem, simprocAttr]
 refine a0 fun K hK => OW.run [3, 6, 7, 8] ?_
 simp only [go_sem, simprocAttr, sw0]
 refine OW.nil (hK _ ?_)
 refine hN2 [] (a2, w64 (t8 + (1 : Int))) _ H (by exact trivial) ?_
 simp only [sw1, go_sem, simprocAttr]
 replace H := l5 h3 H
 refine j2 ?_
 refine hN1 [] a1 _ H (by exact trivial) ?_
 simp only [sw1, go_sem, simprocAttr]
 rintro a H
 try simp only [go_sem, simprocAttr]
 refine a5 ?_
 refine a0 fun K hK => OW.run [2] ?_
 simp only [go_sem, simprocAttr, sw0]
 refine OW.nil (hK _ ?_)
 refine f0 ?_
 change PW.Ends _ _ _ _ _ _
 refine PW.Ends.intro (.inr rfl) ?_
 simp only [go_sem, simprocAttr, sw0]
 obtain rfl := Option.some.inj H
 refine a7 4 (by exact trivial) ?_
 rfl

theorem sched_fair_ok (N : Nat) (Zk : Int) (Zj : List Int) (Zl : List Int) (r : Int × List Int) (H : sched_fair N Zk Zj Zl = some r) : CallOK Try.prog 130 [(.agg [(I Zk), (L Zj), (L Zl)])] (.d (.agg [(I r.1), (L r.2)])) [] := by
 refine d4 Try.func130 rfl (by rw [Try.results130]) Try.ntmps130 Try.call130 ?_
 change PW _ _ _ _ _
 try simp only [go_sem, simprocAttr]
 unfold sched_fair at H
 refine a5 ?_
 refine a0 fun K hK => OW.run [1, 2] ?_
 simp only [go_sem, simprocAttr, sw0]
 refine OW.nil (hK _ ?_)
 refine a5 ?_
 refine a0 fun K hK => OW.run [1, 2, 3, 4] ?_
 simp only [go_sem, simprocAttr, sw0]
 repeat (refine And.intro (by omega) ?_)
 refine OW.nil (hK _ ?_)
 refine i6 (τ := Int) [1, 2, 3, 4] 2 (fun weights => [(4, .d (I weights))]) (fun weights => [{ cells := [.d (I Zk), .d (L Zj), .d (L Zl)], e := 121 }, { cells := [.d (I (0 : Int)), .d (.val (.slice none 0 0))], e := 125 }]) _ _ r (by exact Nat.zero_le _) H ?_ ?_
 intro K_ H N1 hN1
 refine a5 ?_
 refine a0 fun K hK => OW.run [1, 2, 3, 4, 21, 22, 23] ?_
 simp only [go_sem, simprocAttr, sw0]
 repeat (refine And.intro (by omega) ?_)
 refine OW.nil (hK _ ?_)
 refine PW.block ?_
 refine i7 (σ := Int × Int) [1, 2, 3, 4, 21, 22, 23] 2 (fun (weights1, t23) => [(4, .d (I weights1)), (23, .d (I t23))]) (fun (weights1, t23) => [{ cells := [.d (I Zk), .d (L Zj), .d (L Zl)], e := 121 }, { cells := [.d (I (0 : Int)), .d (.val (.slice none 0 0))], e := 125 }]) (sched_fair.b1 N Zl K_) r N ((0 : Int), (0 : Int)) (by exact Nat.zero_le _) H (by (simp only [sw1, go_sem, simprocAttr]; done)) ?_
 rintro n ⟨weights1, t23⟩ H N2 hN2
 unfold sched_fair.b1 at H
 try simp only [go_sem, simprocAttr]
 refine a5 ?_
 refine a0 fun K hK => OW.run [1, 2, 3, 4, 21, 22, 23, 24] ?_
 simp only [go_sem, simprocAttr, sw0]
 refine OW.nil (hK _ ?_)
 refine a5 ?_
 refine d8 rfl (fun h3 => ?_) (fun h3 => ?_)
 replace H := l4 h3 H
 refine d9 ?_
 refine a5 ?_
 refine PW.block ?_
 refine a5 ?_
 obtain ⟨c4, H⟩ := d5 H
 refine a0 fun K hK => OW.run [1, 2, 3, 4, 6, 21, 22, 23] ?_
 simp only [go_sem, simprocAttr, sw0]
 repeat (refine And.intro (by omega) ?_)
 refine OW.nil (hK _ ?_)
 refine a0 fun K hK => OW.run [1, 2, 3, 4, 21, 22, 23] ?_
 simp only [go_sem, simprocAttr, sw0]
 refine OW.nil (hK _ ?_)
 refine a0 fun K hK => OW.run [1, 2, 3, 4, 21, 22, 23] ?_
 simp only [go_sem, simprocAttr, sw0]
 refine OW.nil (hK _ ?_)
 refine hN2 [] (w64 (weights1 + (Zl.getD t23.toNat 0)), w64 (t23 + (1 : Int))) _ H (by exact trivial) ?_
 simp only [sw1, go_sem, simprocAttr]
 replace H := l5 h3 H
 refine j2 ?_
 refine hN1 [] weights1 _ H (by exact trivial) ?_
 simp only [sw1, go_sem, simprocAttr]
 rintro weights H
 try simp only [go_sem, simprocAttr]
 refine a5 ?_
 obtain ⟨c5, H⟩ := d5 H
 refine a0 fun K hK => OW.run [1, 2, 3, 4, 7] ?_
 simp only [go_sem, simprocAttr, sw0]
 repeat (refine And.intro (by omega) ?_)
 refine OW.nil (hK _ ?_)
 refine i6 (τ := Int × Int × List Bool) [1, 2, 3, 4, 7] 3 (fun (left, weights2, b2) => [(3, .d (I left)), (4, .d (I weights2)), (7, .own 2 0 b2.length 1)]) (fun (left, weights2, b2) => [{ cells := [.d (I Zk), .d (L Zj), .d (L Zl)], e := 121 }, { cells := [.d (I (0 : Int)), .d (.val (.slice none 0 0))], e := 125 }, { cells := (b2.map Bo).map .d, e := 4 }]) _ _ r (by exact Nat.zero_le _) H ?_ ?_
 intro K_1 H N6 hN6
 refine a5 ?_
 refine a0 fun K hK => OW.run [1, 2, 3, 4, 7, 8] ?_
 simp only [go_sem, simprocAttr, sw0]
 refine OW.nil (hK _ ?_)
 refine PW.block ?_
 refine i7 (σ := Int × Int × Bool × List Bool) [1, 2, 3, 4, 7, 8] 3 (fun (left1, weights3, more, b21) => [(3, .d (I left1)), (4, .d (I weights3)), (7, .own 2 0 b21.length 1), (8, .d (Bo more))]) (fun (left1, weights3, more, b21) => [{ cells := [.d (I Zk), .d (L Zj), .d (L Zl)], e := 121 }, { cells := [.d (I (0 : Int)), .d (.val (.slice none 0 0))], e := 125 }, { cells := (b21.map Bo).map .d, e := 4 }]) (w7 N Zj Zl K_1) r N (Zk, weights, true, (List.replicate (Zj.length : Int).toNat false)) (by exact Nat.zero_le _) H (by (simp only [sw1, go_sem, simprocAttr]; done)) ?_
 rintro n ⟨left1, weights3, more, b21⟩ H N7 hN7
 generalize hgrec1 : rds (w7 N Zj Zl K_1) n = rec1 at H hN7
 unfold w7 at H
 try simp only [go_sem, simprocAttr]
 refine a5 ?_
 refine a5 ?_
 refine a0 fun K hK => OW.run [1, 2, 3, 4, 7, 35] ?_
 simp only [go_sem, simprocAttr, sw0]
 refine OW.nil (hK _ ?_)
 refine d8 rfl (fun h8 => ?_) (fun h8 => ?_)
 replace H := l4 h8 H
 refine d9 ?_
 refine PW.block ?_
 refine a5 ?_
 refine a0 fun K hK => OW.run [1, 2, 3, 4, 7, 8] ?_
 simp only [go_sem, simprocAttr, sw0]
 refine OW.nil (hK _ ?_)
 refine a5 ?_
 refine a0 fun K hK => OW.run [1, 2, 3, 4, 7, 8, 37, 38, 39] ?_
 simp only [go_sem, simprocAttr, sw0]
 repeat (refine And.intro (by omega) ?_)
 refine OW.nil (hK _ ?_)
 refine PW.block ?_
 refine i7 (σ := Int × Int × Bool × Int × List Bool) [1, 2, 3, 4, 7, 8, 37, 38, 39] 3 (fun (left2, weights4, more1, t39, b22) => [(3, .d (I left2)), (4, .d (I weights4)), (7, .own 2 0 b22.length 1), (8, .d (Bo more1)), (39, .d (I t39))]) (fun (left2, weights4, more1, t39, b22) => [{ cells := [.d (I Zk), .d (L Zj), .d (L Zl)], e := 121 }, { cells := [.d (I (0 : Int)), .d (.val (.slice none 0 0))], e := 125 }, { cells := (b22.map Bo).map .d, e := 4 }]) (sched_fair.b3 N Zj Zl rec1) r N (left1, weights3, false, (0 : Int), b21) (by exact Nat.zero_le _) H (by (simp only [sw1, go_sem, simprocAttr]; done)) ?_
 rintro n ⟨left2, weights4, more1, t39, b22⟩ H N9 hN9
 unfold sched_fair.b3 at H
 try simp only [go_sem, simprocAttr]
 refine a5 ?_
 refine a0 fun K hK => OW.run [1, 2, 3, 4, 7, 8, 37, 38, 39, 40] ?_
 simp only [go_sem, simprocAttr, sw0]
 refine OW.nil (hK _ ?_)
 refine a5 ?_
 refine d8 rfl (fun h10 => ?_) (fun h10 => ?_)
 ·
  replace H := l4 h10 H
  refine d9 ?_
  refine a5 ?_
  refine PW.block ?_
  refine a5 ?_
  obtain ⟨c11, H⟩ := d5 H
  refine a0 fun K hK => OW.run [1, 2, 3, 4, 7, 8, 9, 10, 37, 38, 39] ?_
  simp only [go_sem, simprocAttr, sw0]
  repeat (refine And.intro (by omega) ?_)
  refine OW.nil (hK _ ?_)
  refine a5 ?_
  obtain ⟨c12, H⟩ := d5 H
  obtain ⟨c13, H⟩ := d5 H
  refine a0 fun K hK => OW.run [1, 2, 3, 4, 7, 8, 9, 10, 37, 38, 39, 61] ?_
  (simp only [go_sem, simprocAttr, sw0, getD_mapVF Bo b22 t39.toNat default (by omega)])
  repeat (refine And.intro (by first | omega | (intro hg; have hq := c13 (by first | exact hg | simpa using hg); first | omega | exact hq | (simp only [List.length_map]; omega)) | (first | omega | assumption | rfl | decide | (simp only [List.length_map, List.length_replicate, List.length_append, List.length_take, List.length_drop, List.length_set, List.length_cons, List.length_nil, Nat.zero_add, Int.toNat_natCast] at *; omega) | (simp only [List.length_map, List.length_replicate, List.length_append, List.length_take, List.length_drop, List.length_set, List.length_cons, List.length_nil, Nat.zero_add, Int.toNat_natCast]; done) | trivial)) ?_)
  refine OW.nil (hK _ ?_)
  refine d8 rfl (fun h14 => ?_) (fun h14 => ?_)
  replace H := l4 h14 H
  refine a5 ?_
  obtain ⟨c15, H⟩ := d5 H
  refine a0 fun K hK => OW.run [1, 2, 3, 4, 7, 8, 9, 10, 37, 38, 39] ?_
  (simp only [go_sem, simprocAttr, sw0, getD_mapVF Bo b22 t39.toNat default (by omega), set_mapF])
  repeat (refine And.intro (by omega) ?_)
  refine OW.nil (hK _ ?_)
  change PW _ _ _ _ _
  obtain ⟨c16, H⟩ := d5 H
  refine j1 11 o9 (by kernel_rfl) fun K hK => ?_
  change FW _ _ _ _ _
  refine FW.run ?_
  simp only [go_sem, simprocAttr, sw0]
  repeat (refine And.intro (by omega) ?_)
  refine FW.nil ?_
  change OW _ _ _ _ _ _
  refine OW.run [1, 2, 3, 4, 7, 8, 37, 38, 39] ?_
  simp only [go_sem, simprocAttr, sw0]
  refine OW.nil (hK _ ?_)
  refine a0 fun K hK => OW.run [1, 2, 3, 4, 7, 8, 37, 38, 39] ?_
  simp only [go_sem, simprocAttr, sw0]
  refine OW.nil (hK _ ?_)
  refine hN9 [] (w64 (left2 - (Zj.getD t39.toNat 0)), w64 (weights4 - (Zl.getD t39.toNat 0)), true, w64 (t39 + (1 : Int)), (b22.set t39.toNat true)) _ H (by exact trivial) ?_
  simp only [sw1, go_sem, simprocAttr]
  replace H := l5 h14 H
  refine d9 ?_
  refine a0 fun K hK => OW.run [1, 2, 3, 4, 7, 8, 37, 38, 39] ?_
  simp only [go_sem, simprocAttr, sw0]
  refine OW.nil (hK _ ?_)
  refine hN9 [] (left2, weights4, more1, w64 (t39 + (1 : Int)), b22) _ H (by exact trivial) ?_
  simp only [sw1, go_sem, simprocAttr]
 replace H := l5 h10 H
 refine j2 ?_
 refine hN7 [] (left2, weights4, more1, b22) _ H (by exact trivial) ?_
 simp only [sw1, go_sem, simprocAttr]
 replace H := l5 h8 H
 refine j2 ?_
 refine hN6 [] (left1, weights3, b21) _ H (by exact trivial) ?_
 simp only [sw1, go_sem, simprocAttr]
 rintro ⟨left, weights2, b2⟩ H
 try simp only [go_sem, simprocAttr]
 refine a5 ?_
 refine a0 fun K hK => OW.run [1, 2, 3, 7, 11] ?_
 simp only [go_sem, simprocAttr, sw0]
 refine OW.nil (hK _ ?_)
 refine a5 ?_
 refine a0 fun K hK => OW.run [1, 2, 3, 7, 11, 12] ?_
 simp only [go_sem, simprocAttr, sw0]
 refine OW.nil (hK _ ?_)
 refine a5 ?_
 refine a0 fun K hK => OW.run [1, 2, 3, 7, 11, 12, 13] ?_
 simp only [go_sem, simprocAttr, sw0]
 refine OW.nil (hK _ ?_)
 refine i6 (τ := Int × List Int) [2, 11, 12, 13] 5 (fun (common, b4) => [(13, .d (I common))]) (fun (common, b4) => [{ cells := [.d (I Zk), .d (L Zj), .d (L Zl)], e := 121 }, { cells := [.d (I (0 : Int)), .d (.val (.slice none 0 0))], e := 125 }, { cells := (b2.map Bo).map .d, e := 4 }, { cells := [.d (I (0 : Int)), .own 4 0 b4.length 1], e := 125 }, { cells := (b4.map I).map .d, e := 3 }]) _ _ r (by exact Nat.zero_le _) H ?_ ?_
 intro K_2 H N17 hN17
 refine a5 ?_
 refine a0 fun K hK => OW.run [1, 2, 3, 7, 11, 12, 13, 81, 82, 83] ?_
 simp only [go_sem, simprocAttr, sw0]
 repeat (refine And.intro (by omega) ?_)
 refine OW.nil (hK _ ?_)
 refine PW.block ?_
 refine PW.virtC 3 1 3 1 _ rfl rfl ?_
 try simp only [go_sem, simprocAttr]
 refine i7 (σ := Int × Int × List Int) [1, 2, 3, 7, 11, 12, 13, 81, 82, 83] 5 (fun (common1, t83, b41) => [(13, .d (I common1)), (83, .d (I t83))]) (fun (common1, t83, b41) => [{ cells := [.d (I Zk), .d (L Zj), .d (L Zl)], e := 121 }, { cells := [.d (I (0 : Int)), .d (.val (.slice none 0 0))], e := 125 }, { cells := (b2.map Bo).map .d, e := 4 }, { cells := [.d (I (0 : Int)), .own 4 0 b41.length 1], e := 125 }, { cells := (b41.map I).map .d, e := 3 }]) (sched_fair.b4 N Zj Zl left weights2 b2 K_2) r N ((if (1 : Int) < weights2 then weights2 else (1 : Int)), (0 : Int), ([] : List Int)) (by exact Nat.zero_le _) H (by (simp only [sw1, go_sem, simprocAttr]; done)) ?_
 rintro n ⟨common1, t83, b41⟩ H N18 hN18
 unfold sched_fair.b4 at H
 try simp only [go_sem, simprocAttr]
 refine a5 ?_
 refine a0 fun K hK => OW.run [1, 2, 3, 7, 11, 12, 13, 81, 82, 83, 84] ?_
 simp only [go_sem, simprocAttr, sw0]
 refine OW.nil (hK _ ?_)
 refine a5 ?_
 refine d8 rfl (fun h19 => ?_) (fun h19 => ?_)
 replace H := l4 h19 H
 refine d9 ?_
 refine a5 ?_
 refine PW.block ?_
 refine a5 ?_
 obtain ⟨c20, H⟩ := d5 H
 refine a0 fun K hK => OW.run [1, 2, 3, 7, 11, 12, 13, 14, 15, 81, 82, 83] ?_
 simp only [go_sem, simprocAttr, sw0]
 repeat (refine And.intro (by omega) ?_)
 refine OW.nil (hK _ ?_)
 refine a5 ?_
 obtain ⟨c21, H⟩ := d5 H
 refine a0 fun K hK => OW.run [1, 2, 3, 7, 11, 12, 13, 14, 15, 16, 81, 82, 83] ?_
 simp only [go_sem, simprocAttr, sw0]
 repeat (refine And.intro (by omega) ?_)
 refine OW.nil (hK _ ?_)
 refine a5 ?_
 refine a5 ?_
 obtain ⟨c22, H⟩ := d5 H
 refine a0 fun K hK => OW.run [1, 2, 3, 7, 11, 12, 13, 15, 16, 81, 82, 83, 98] ?_
 (simp only [go_sem, simprocAttr, sw0, getD_mapVF Bo b2 t83.toNat default (by omega)])
 repeat (refine And.intro (by omega) ?_)
 refine OW.nil (hK _ ?_)
 refine d8 rfl (fun h23 => ?_) (fun h23 => ?_)
 replace H := l4 h23 H
 refine a0 fun K hK => OW.run [1, 2, 3, 7, 11, 12, 13, 16, 81, 82, 83] ?_
 simp only [go_sem, simprocAttr, sw0]
 refine OW.nil (hK _ ?_)
 change PW _ _ _ _ _
 obtain ⟨c24, H⟩ := d5 H
 obtain ⟨x1, e1, H⟩ := a8 H
 refine a0 fun K hK => OW.run [1, 2, 3, 7, 11, 12, 13, 81, 82, 83] ?_
 simp only [go_sem, simprocAttr, sw0]
 repeat (refine And.intro (by omega) ?_)
 refine d7 4 rfl rfl rfl (by ((simp only [go_sem, List.toList_toArray, simprocAttr]); exact rfl)) ?_ (sched_divisor_ok N _ _ e1) ?_ ?_ ?_ ?_
 rfl
 · (refine a6 ?_; (simp only [go_sem, sw2, List.length_set, List.length_replicate, and_true, true_and, Nat.le_refl, simprocAttr]; simp only [seg, go_sem, sw2, List.length_set, List.length_replicate, and_true, true_and, Nat.le_refl, simprocAttr]; done))
 exact .inr ⟨rfl, rfl⟩
 (simp only [go_sem, Nat.reduceLT])
 refine OW.run [1, 2, 3, 7, 11, 12, 13, 81, 82, 83] ?_
 simp only [go_sem, simprocAttr, sw0]
 repeat (refine And.intro (by omega) ?_)
 refine OW.nil (hK _ ?_)
 refine a0 fun K hK => OW.run [1, 2, 3, 7, 11, 12, 13, 81, 82, 83] ?_
 simp only [go_sem, simprocAttr, sw0]
 refine OW.nil (hK _ ?_)
 refine hN18 [] (x1, w64 (t83 + (1 : Int)), (b41 ++ ([w64 ((Zj.getD t83.toNat 0) * (if (1 : Int) < weights2 then weights2 else (1 : Int)))] : List Int))) _ H (by exact trivial) ?_
 simp only [sw1, go_sem, simprocAttr]
 replace H := l5 h23 H
 refine d9 ?_
 change PW _ _ _ _ _
 obtain ⟨c25, H⟩ := d5 H
 obtain ⟨x2, e2, H⟩ := a8 H
 refine a0 fun K hK => OW.run [1, 2, 3, 7, 11, 12, 13, 81, 82, 83] ?_
 simp only [go_sem, simprocAttr, sw0]
 repeat (refine And.intro (by omega) ?_)
 refine d7 4 rfl rfl rfl (by ((simp only [go_sem, List.toList_toArray, simprocAttr]); exact rfl)) ?_ (sched_divisor_ok N _ _ e2) ?_ ?_ ?_ ?_
 rfl
 · (refine a6 ?_; (simp only [go_sem, sw2, List.length_set, List.length_replicate, and_true, true_and, Nat.le_refl, simprocAttr]; simp only [seg, go_sem, sw2, List.length_set, List.length_replicate, and_true, true_and, Nat.le_refl, simprocAttr]; done))
 exact .inr ⟨rfl, rfl⟩
 (simp only [go_sem, Nat.reduceLT])
 refine OW.run [1, 2, 3, 7, 11, 12, 13, 81, 82, 83] ?_
 simp only [go_sem, simprocAttr, sw0]
 repeat (refine And.intro (by omega) ?_)
 refine OW.nil (hK _ ?_)
 refine a0 fun K hK => OW.run [1, 2, 3, 7, 11, 12, 13, 81, 82, 83] ?_
 simp only [go_sem, simprocAttr, sw0]
 refine OW.nil (hK _ ?_)
 refine hN18 [] (x2, w64 (t83 + (1 : Int)), (b41 ++ ([w64 (left * (Zl.getD t83.toNat 0))] : List Int))) _ H (by exact trivial) ?_
 simp only [sw1, go_sem, simprocAttr]
 replace H := l5 h19 H
 refine j2 ?_
 refine hN17 [] (common1, b41) _ H (by exact trivial) ?_
 simp only [sw1, go_sem, simprocAttr]
 rintro ⟨common, b4⟩ H
 try simp only [go_sem, simprocAttr]
 refine i6 (τ := List Int) [2, 11, 12, 13] 5 (fun b42 => []) (fun b42 => [{ cells := [.d (I Zk), .d (L Zj), .d (L Zl)], e := 121 }, { cells := [.d (I (0 : Int)), .d (.val (.slice none 0 0))], e := 125 }, { cells := (b2.map Bo).map .d, e := 4 }, { cells := [.d (I (0 : Int)), .own 4 0 b42.length 1], e := 125 }, { cells := (b42.map I).map .d, e := 3 }]) _ _ r (by exact Nat.zero_le _) H ?_ ?_
 intro K_3 H N26 hN26
 refine a5 ?_
 refine a0 fun K hK => OW.run [2, 11, 12, 13, 115, 116] ?_
 simp only [go_sem, simprocAttr, sw0]
 repeat (refine And.intro (by omega) ?_)
 refine OW.nil (hK _ ?_)
 refine PW.block ?_
 refine i7 (σ := Int × List Int) [2, 11, 12, 13, 115, 116] 5 (fun (t116, b43) => [(116, .d (I t116))]) (fun (t116, b43) => [{ cells := [.d (I Zk), .d (L Zj), .d (L Zl)], e := 121 }, { cells := [.d (I (0 : Int)), .d (.val (.slice none 0 0))], e := 125 }, { cells := (b2.map Bo).map .d, e := 4 }, { cells := [.d (I (0 : Int)), .own 4 0 b43.length 1], e := 125 }, { cells := (b43.map I).map .d, e := 3 }]) (sched_fair.b5 N common b4 K_3) r N ((0 : Int), b4) (by exact Nat.zero_le _) H (by (simp only [sw1, go_sem, simprocAttr]; done)) ?_
 rintro n ⟨t116, b43⟩ H N27 hN27
 unfold sched_fair.b5 at H
 try simp only [go_sem, simprocAttr]
 refine a5 ?_
 refine a0 fun K hK => OW.run [2, 11, 12, 13, 115, 116, 117] ?_
 simp only [go_sem, simprocAttr, sw0]
 refine OW.nil (hK _ ?_)
 refine a5 ?_
 refine d8 rfl (fun h28 => ?_) (fun h28 => ?_)
 replace H := l4 h28 H
 refine d9 ?_
 refine a5 ?_
 refine PW.block ?_
 refine a5 ?_
 refine a0 fun K hK => OW.run [2, 11, 12, 13, 17, 115, 116] ?_
 simp only [go_sem, simprocAttr, sw0]
 refine OW.nil (hK _ ?_)
 change PW _ _ _ _ _
 obtain ⟨c29, H⟩ := d5 H
 obtain ⟨c30, H⟩ := d5 H
 obtain ⟨c31, H⟩ := d5 H
 refine a0 fun K hK => OW.run [2, 11, 12, 13, 115, 116] ?_
 simp only [go_sem, simprocAttr, sw0]
 repeat (refine And.intro (by omega) ?_)
 refine OW.nil (hK _ ?_)
 refine a0 fun K hK => OW.run [2, 11, 12, 13, 115, 116] ?_
 simp only [go_sem, simprocAttr, sw0]
 refine OW.nil (hK _ ?_)
 refine hN27 [] (w64 (t116 + (1 : Int)), (b43.set t116.toNat (w64 ((b43.getD t116.toNat 0).tdiv common)))) _ H (by exact trivial) ?_
 simp only [sw1, go_sem, simprocAttr]
 replace H := l5 h28 H
 refine j2 ?_
 refine hN26 [] b43 _ H (by exact trivial) ?_
 simp only [sw1, go_sem, simprocAttr]
 rintro b42 H
 try simp only [go_sem, simprocAttr]
 refine a5 ?_
 obtain ⟨c32, H⟩ := d5 H
 refine a0 fun K hK => OW.run [2, 12] ?_
 simp only [go_sem, simprocAttr, sw0]
 repeat (refine And.intro (by omega) ?_)
 refine OW.nil (hK _ ?_)
 refine a5 ?_
 refine a0 fun K hK => OW.run [2] ?_
 simp only [go_sem, simprocAttr, sw0]
 refine OW.nil (hK _ ?_)
 refine f0 ?_
 change PW.Ends _ _ _ _ _ _
 refine PW.Ends.intro (.inr rfl) ?_
 simp only [go_sem, simprocAttr, sw0]
 obtain rfl := Option.some.inj H
 refine a7 4 (by (refine a6 ?_; (simp only [go_sem, sw2, List.length_set, List.length_replicate, and_true, true_and, Nat.le_refl, simprocAttr]; done))) ?_
 · (((simp only [go_sem, sw1, simprocAttr]; try simp only [seg, go_sem, simprocAttr])); done)

theorem sched_SharesOf_ok (N : Nat) (Zk : Int) (Zj : List Int) (Zl : List Int) (r : Int × List Int × Int) (H : sched_SharesOf N Zk Zj Zl = some r) : CallOK Try.prog 73 [(.agg [(I Zk), (L Zj), (L Zl)])] (.d (.tup [(.agg [(I r.1), (L r.2.1)]), (I r.2.2)])) [] := by
 refine d4 Try.func73 rfl (by rw [Try.results73]) Try.ntmps73 Try.call73 ?_
 change PW _ _ _ _ _
 try simp only [go_sem, simprocAttr]
 unfold sched_SharesOf at H
 refine a5 ?_
 refine a0 fun K hK => OW.run [1, 2] ?_
 simp only [go_sem, simprocAttr, sw0]
 refine OW.nil (hK _ ?_)
 refine a5 ?_
 refine a5 ?_
 obtain ⟨x1, e1, H⟩ := a8 H
 refine a0 fun K hK => OW.run [1, 2, 4] ?_
 simp only [go_sem, simprocAttr, sw0]
 refine d7 4 rfl rfl rfl (by ((simp only [go_sem, List.toList_toArray, simprocAttr]); exact rfl)) ?_ (sched_demandErr_ok N _ _ _ _ e1) ?_ ?_ ?_ ?_
 rfl
 · (refine a6 ?_; (simp only [go_sem, sw2, List.length_set, List.length_replicate, and_true, true_and, Nat.le_refl, simprocAttr]; done))
 exact .inl rfl
 (simp only [go_sem, Nat.reduceLT])
 refine OW.run [1, 2, 4] ?_
 simp only [go_sem, simprocAttr, sw0]
 refine OW.nil (hK _ ?_)
 refine a5 ?_
 refine a0 fun K hK => OW.run [1, 2, 4, 8] ?_
 simp only [go_sem, simprocAttr, sw0]
 refine OW.nil (hK _ ?_)
 refine d8 rfl (fun h1 => ?_) (fun h1 => ?_)
 replace H := l4 h1 H
 refine a5 ?_
 refine a0 fun K hK => OW.run [2, 3] ?_
 simp only [go_sem, simprocAttr, sw0]
 refine OW.nil (hK _ ?_)
 refine f0 ?_
 change PW.Ends _ _ _ _ _ _
 refine PW.Ends.intro (.inr rfl) ?_
 simp only [go_sem, simprocAttr, sw0]
 obtain rfl := Option.some.inj H
 refine a7 4 (by (refine a6 ?_; (simp only [go_sem, sw2, List.length_set, List.length_replicate, and_true, true_and, Nat.le_refl, simprocAttr]; done))) ?_
 rfl
 replace H := l5 h1 H
 refine d9 ?_
 refine a5 ?_
 obtain ⟨⟨x2, x21⟩, e2, H⟩ := a8 H
 refine a0 fun K hK => OW.run [2, 3] ?_
 simp only [go_sem, simprocAttr, sw0]
 refine d7 4 rfl rfl rfl (by ((simp only [go_sem, List.toList_toArray, simprocAttr]); exact rfl)) ?_ (sched_fair_ok N _ _ _ _ e2) ?_ ?_ ?_ ?_
 rfl
 · (refine a6 ?_; (simp only [go_sem, sw2, List.length_set, List.length_replicate, and_true, true_and, Nat.le_refl, simprocAttr]; done))
 exact .inl rfl
 (simp only [go_sem, Nat.reduceLT])
 refine OW.run [2, 3] ?_
 simp only [go_sem, simprocAttr, sw0]
 refine OW.nil (hK _ ?_)
 refine f0 ?_
 change PW.Ends _ _ _ _ _ _
 refine PW.Ends.intro (.inr rfl) ?_
 simp only [go_sem, simprocAttr, sw0]
 obtain rfl := Option.some.inj H
 refine a7 4 (by (refine a6 ?_; (simp only [go_sem, sw2, List.length_set, List.length_replicate, and_true, true_and, Nat.le_refl, simprocAttr]; done))) ?_
 rfl

theorem slices_IndexFunc_ii_ok (N : Nat) (s : List Int) (f_g : FuncId) (f_c : List D) (f : Int → Option Bool) (f_h : ∀ y0 r0, f y0 = some r0 → CallOK Try.prog f_g ((I y0) :: f_c.map nz) (.d (Bo r0)) []) (r : Int) (H : slices_IndexFunc_ii N s f = some r) : CallOK Try.prog 145 [(L s), .clo f_g f_c] (.d (I r)) [] := by
 refine d4 Try.func145 rfl (by rw [Try.results145]) Try.ntmps145 Try.call145 ?_
 change PW _ _ _ _ _
 try simp only [go_sem, simprocAttr]
 unfold slices_IndexFunc_ii at H
 refine a5 ?_
 refine a0 fun K hK => OW.run [0, 1] ?_
 simp only [go_sem, simprocAttr, sw0]
 refine OW.nil (hK _ ?_)
 refine i6 (τ := Unit) [] 0 (fun _ => []) (fun _ => []) _ _ r (by exact Nat.le_refl _) H ?_ ?_
 intro K_ H N1 hN1
 refine a5 ?_
 refine a0 fun K hK => OW.run [0, 1, 7, 8] ?_
 simp only [go_sem, simprocAttr, sw0]
 refine OW.nil (hK _ ?_)
 refine PW.block ?_
 refine i7 (σ := Int) [0, 1, 7, 8] 0 (fun t8 => [(8, .d (I t8))]) (fun t8 => []) (slices_IndexFunc_ii.b1 N s f K_) r N (0 : Int) (by exact Nat.le_refl _) H (by (simp only [sw1, go_sem, simprocAttr]; done)) ?_
 rintro n t8 H N2 hN2
 unfold slices_IndexFunc_ii.b1 at H
 try simp only [go_sem, simprocAttr]
 refine a5 ?_
 refine a0 fun K hK => OW.run [0, 1, 7, 8, 9] ?_
 simp only [go_sem, simprocAttr, sw0]
 refine OW.nil (hK _ ?_)
 refine a5 ?_
 refine d8 rfl (fun h3 => ?_) (fun h3 => ?_)
 replace H := l4 h3 H
 refine d9 ?_
 refine a5 ?_
 refine PW.block ?_
 refine a5 ?_
 refine a0 fun K hK => OW.run [0, 1, 5, 7, 8] ?_
 simp only [go_sem, simprocAttr, sw0]
 refine OW.nil (hK _ ?_)
 refine a5 ?_
 obtain ⟨c4, H⟩ := d5 H
 obtain ⟨x1, e1, H⟩ := a8 H
 refine a0 fun K hK => OW.run [0, 1, 5, 7, 8, 16] ?_
 simp only [go_sem, simprocAttr, sw0]
 repeat (refine And.intro (by omega) ?_)
 refine d7 4 rfl rfl rfl (by ((simp only [go_sem, List.toList_toArray, simprocAttr]); exact rfl)) ?_ (f_h _ _ e1) ?_ ?_ ?_ ?_
 · (((simp only [go_sem, sw1, simprocAttr]; try simp only [seg, go_sem, simprocAttr])); done)
 · (refine a6 ?_; (simp only [go_sem, sw2, List.length_set, List.length_replicate, and_true, true_and, Nat.le_refl, simprocAttr]; done))
 exact .inr ⟨rfl, rfl⟩
 (simp only [go_sem, Nat.reduceLT])
 refine OW.run [0, 1, 5, 7, 8, 16] ?_
 simp only [go_sem, simprocAttr, sw0]
 refine OW.nil (hK _ ?_)
 refine d8 rfl (fun h5 => ?_) (fun h5 => ?_)
 replace H := l4 h5 H
 refine a5 ?_
 refine a0 fun K hK => OW.run [4] ?_
 simp only [go_sem, simprocAttr, sw0]
 refine OW.nil (hK _ ?_)
 refine f0 ?_
 change PW.Ends _ _ _ _ _ _
 refine PW.Ends.intro (.inr rfl) ?_
 simp only [go_sem, simprocAttr, sw0]
 obtain rfl := Option.some.inj H
 refine a7 4 (by exact trivial) ?_
 rfl
 replace H := l5 h5 H
 refine d9 ?_
 refine a0 fun K hK => OW.run [0, 1, 7, 8] ?_
 simp only [go_sem, simprocAttr, sw0]
 refine OW.nil (hK _ ?_)
 refine hN2 [] (w64 (t8 + (1 : Int))) _ H (by exact trivial) ?_
 simp only [sw1, go_sem, simprocAttr]
 replace H := l5 h3 H
 refine j2 ?_
 refine hN1 [] () _ H (by exact trivial) ?_
 simp only [sw1, go_sem, simprocAttr]
 rintro _ H
 try simp only [go_sem, simprocAttr]
 refine a5 ?_
 refine a0 fun K hK => OW.run [4] ?_
 simp only [go_sem, simprocAttr, sw0]
 refine OW.nil (hK _ ?_)
 refine f0 ?_
 change PW.Ends _ _ _ _ _ _
 refine PW.Ends.intro (.inr rfl) ?_
 simp only [go_sem, simprocAttr, sw0]
 obtain rfl := Option.some.inj H
 refine a7 4 (by exact trivial) ?_
 rfl

theorem slices_ContainsFunc_ii_ok (N : Nat) (s : List Int) (f_g : FuncId) (f_c : List D) (f : Int → Option Bool) (f_h : ∀ y0 r0, f y0 = some r0 → CallOK Try.prog f_g ((I y0) :: f_c.map nz) (.d (Bo r0)) []) (r : Bool) (H : n1 N s f = some r) : CallOK Try.prog 118 [(L s), .clo f_g f_c] (.d (Bo r)) [] := by
 refine d4 Try.func118 rfl (by rw [Try.results118]) Try.ntmps118 Try.call118 ?_
 change PW _ _ _ _ _
 try simp only [go_sem, simprocAttr]
 unfold n1 at H
 refine a5 ?_
 refine a0 fun K hK => OW.run [0, 1] ?_
 simp only [go_sem, simprocAttr, sw0]
 refine OW.nil (hK _ ?_)
 refine a5 ?_
 obtain ⟨x1, e1, H⟩ := a8 H
 refine a0 fun K hK => OW.run [4] ?_
 simp only [go_sem, simprocAttr, sw0]
 refine d7 4 rfl rfl rfl (by ((simp only [go_sem, List.toList_toArray, simprocAttr]); exact rfl)) ?_ (slices_IndexFunc_ii_ok N _ f_g f_c f f_h _ e1) ?_ ?_ ?_ ?_
 rfl
 exact d6 rfl
 exact .inl rfl
 (simp only [go_sem, Nat.reduceLT])
 refine OW.run [4] ?_
 simp only [go_sem, simprocAttr, sw0]
 refine OW.nil (hK _ ?_)
 refine f0 ?_
 change PW.Ends _ _ _ _ _ _
 refine PW.Ends.intro (.inr rfl) ?_
 simp only [go_sem, simprocAttr, sw0]
 obtain rfl := Option.some.inj H
 refine a7 4 (by exact trivial) ?_
 rfl

theorem sched_caseErr_1_ok (N : Nat) (n : Int) (r : Bool) (H : r9 N n = some r) : CallOK Try.prog 142 [(I n)] (.d (Bo r)) [] := by
 refine d4 Try.func142 rfl (by rw [Try.results142]) Try.ntmps142 Try.call142 ?_
 change PW _ _ _ _ _
 try simp only [go_sem, simprocAttr]
 unfold r9 at H
 refine a5 ?_
 refine a0 fun K hK => OW.run [0] ?_
 simp only [go_sem, simprocAttr, sw0]
 refine OW.nil (hK _ ?_)
 refine a5 ?_
 obtain ⟨x1, e1, H⟩ := a8 H
 refine a0 fun K hK => OW.run [2] ?_
 simp only [go_sem, simprocAttr, sw0]
 refine d7 4 rfl rfl rfl (by ((simp only [go_sem, List.toList_toArray, simprocAttr]); exact rfl)) ?_ (f6 N _ _ _ _ e1) ?_ ?_ ?_ ?_
 rfl
 exact d6 rfl
 exact .inl rfl
 (simp only [go_sem, Nat.reduceLT])
 refine OW.run [2] ?_
 simp only [go_sem, simprocAttr, sw0]
 refine OW.nil (hK _ ?_)
 refine f0 ?_
 change PW.Ends _ _ _ _ _ _
 refine PW.Ends.intro (.inr rfl) ?_
 simp only [go_sem, simprocAttr, sw0]
 obtain rfl := Option.some.inj H
 refine a7 4 (by exact trivial) ?_
 rfl

theorem sched_caseErr_ok (N : Nat) (r_ : List (List Int)) (r : Int) (H : sched_caseErr N r_ = some r) : CallOK Try.prog 114 [(.list r_.length (r_.map L))] (.d (I r)) [] := by
 refine d4 Try.func114 rfl (by rw [Try.results114]) Try.ntmps114 Try.call114 ?_
 change PW _ _ _ _ _
 try simp only [go_sem, simprocAttr]
 unfold sched_caseErr at H
 refine a5 ?_
 refine a0 fun K hK => OW.run [0] ?_
 simp only [go_sem, simprocAttr, sw0]
 refine OW.nil (hK _ ?_)
 refine a5 ?_
 refine a5 ?_
 obtain ⟨c1, H⟩ := d5 H
 refine a0 fun K hK => ?_
 refine OW.toS [(0, .d (.list r_.length (r_.map L))), (16, .d (Bo (((r_.length : Int) == (0 : Int)) || (((r_.getD 0 default).length : Int) == (0 : Int)))))] [] ?_ (hK _ ?_)
 intro K hKE
 rcases Bool.eq_false_or_eq_true (((r_.length : Int) == (0 : Int))) with ha0 | ha0
 ·
  try simp only [ha0, sb0, true_implies, false_implies, forall_const] at c1
  refine OW.run [0, 16] ?_
  (simp only [go_sem, simprocAttr, sw0, ha0])
  repeat (refine And.intro (by first | omega | (intro hg; have hq := c1 (by first | exact hg | simpa using hg); first | omega | exact hq | (simp only [List.length_map]; omega)) | (first | omega | assumption | rfl | decide | (simp only [List.length_map, List.length_replicate, List.length_append, List.length_take, List.length_drop, List.length_set, List.length_cons, List.length_nil, Nat.zero_add, Int.toNat_natCast] at *; omega) | (simp only [List.length_map, List.length_replicate, List.length_append, List.length_take, List.length_drop, List.length_set, List.length_cons, List.length_nil, Nat.zero_add, Int.toNat_natCast]; done) | trivial)) ?_)
  refine OW.nil ((congrArg K ?_).mpr hKE)
  · (first | rfl | (simp only [go_sem, simprocAttr, ha0]; done) | (simp only [go_sem, simprocAttr, ha0]; rfl))
 ·
  try simp only [ha0, sb0, true_implies, false_implies, forall_const] at c1
  refine OW.run [0, 16] ?_
  (simp only [go_sem, simprocAttr, sw0, i9 L r_ 0 default (by omega), ha0])
  repeat (refine And.intro (by first | omega | (intro hg; have hq := c1 (by first | exact hg | simpa using hg); first | omega | exact hq | (simp only [List.length_map]; omega)) | (first | omega | assumption | rfl | decide | (simp only [List.length_map, List.length_replicate, List.length_append, List.length_take, List.length_drop, List.length_set, List.length_cons, List.length_nil, Nat.zero_add, Int.toNat_natCast] at *; omega) | (simp only [List.length_map, List.length_replicate, List.length_append, List.length_take, List.length_drop, List.length_set, List.length_cons, List.length_nil, Nat.zero_add, Int.toNat_natCast]; done) | trivial)) ?_)
  refine OW.nil ((congrArg K ?_).mpr hKE)
  · (first | rfl | (simp only [go_sem, simprocAttr, ha0]; done) | (simp only [go_sem, simprocAttr, ha0]; rfl))
 clear hK K
 refine d8 rfl (fun h2 => ?_) (fun h2 => ?_)
 replace H := l4 h2 H
 refine a5 ?_
 refine a0 fun K hK => OW.run [2] ?_
 simp only [go_sem, simprocAttr, sw0]
 refine OW.nil (hK _ ?_)
 refine f0 ?_
 change PW.Ends _ _ _ _ _ _
 refine PW.Ends.intro (.inr rfl) ?_
 simp only [go_sem, simprocAttr, sw0]
 obtain rfl := Option.some.inj H
 refine a7 4 (by exact trivial) ?_
 rfl
 replace H := l5 h2 H
 refine d9 ?_
 refine a5 ?_
 refine a5 ?_
 obtain ⟨c3, H⟩ := d5 H
 refine a0 fun K hK => ?_
 refine OW.toS [(0, .d (.list r_.length (r_.map L))), (26, .d (Bo ((decide ((r_.length : Int) > (6 : Int))) || (decide (((r_.getD 0 default).length : Int) > (4 : Int))))))] [] ?_ (hK _ ?_)
 intro K hKE
 rcases Bool.eq_false_or_eq_true ((decide ((r_.length : Int) > (6 : Int)))) with ha0 | ha0
 ·
  try simp only [ha0, sb0, true_implies, false_implies, forall_const] at c3
  refine OW.run [0, 26] ?_
  (simp only [go_sem, simprocAttr, sw0, ha0])
  repeat (refine And.intro (by first | omega | (intro hg; have hq := c3 (by first | exact hg | simpa using hg); first | omega | exact hq | (simp only [List.length_map]; omega)) | (first | omega | assumption | rfl | decide | (simp only [List.length_map, List.length_replicate, List.length_append, List.length_take, List.length_drop, List.length_set, List.length_cons, List.length_nil, Nat.zero_add, Int.toNat_natCast] at *; omega) | (simp only [List.length_map, List.length_replicate, List.length_append, List.length_take, List.length_drop, List.length_set, List.length_cons, List.length_nil, Nat.zero_add, Int.toNat_natCast]; done) | trivial)) ?_)
  refine OW.nil ((congrArg K ?_).mpr hKE)
  · (first | rfl | (simp only [go_sem, simprocAttr, ha0]; done) | (simp only [go_sem, simprocAttr, ha0]; rfl))
 ·
  try simp only [ha0, sb0, true_implies, false_implies, forall_const] at c3
  refine OW.run [0, 26] ?_
  (simp only [go_sem, simprocAttr, sw0, i9 L r_ 0 default (by omega), ha0])
  repeat (refine And.intro (by first | omega | (intro hg; have hq := c3 (by first | exact hg | simpa using hg); first | omega | exact hq | (simp only [List.length_map]; omega)) | (first | omega | assumption | rfl | decide | (simp only [List.length_map, List.length_replicate, List.length_append, List.length_take, List.length_drop, List.length_set, List.length_cons, List.length_nil, Nat.zero_add, Int.toNat_natCast] at *; omega) | (simp only [List.length_map, List.length_replicate, List.length_append, List.length_take, List.length_drop, List.length_set, List.length_cons, List.length_nil, Nat.zero_add, Int.toNat_natCast]; done) | trivial)) ?_)
  refine OW.nil ((congrArg K ?_).mpr hKE)
  · (first | rfl | (simp only [go_sem, simprocAttr, ha0]; done) | (simp only [go_sem, simprocAttr, ha0]; rfl))
 clear hK K
 refine d8 rfl (fun h4 => ?_) (fun h4 => ?_)
 replace H := l4 h4 H
 refine a5 ?_
 refine a0 fun K hK => OW.run [2] ?_
 simp only [go_sem, simprocAttr, sw0]
 refine OW.nil (hK _ ?_)
 refine f0 ?_
 change PW.Ends _ _ _ _ _ _
 refine PW.Ends.intro (.inr rfl) ?_
 simp only [go_sem, simprocAttr, sw0]
 obtain rfl := Option.some.inj H
 refine a7 4 (by exact trivial) ?_
 rfl
 replace H := l5 h4 H
 refine d9 ?_
 refine i6 (τ := Unit) [] 0 (fun _ => []) (fun _ => []) _ _ r (by exact Nat.le_refl _) H ?_ ?_
 intro K_ H N5 hN5
 refine a5 ?_
 refine a0 fun K hK => OW.run [0, 27, 28, 29] ?_
 simp only [go_sem, simprocAttr, sw0]
 refine OW.nil (hK _ ?_)
 refine PW.block ?_
 refine i7 (σ := Int) [0, 27, 28, 29] 0 (fun t29 => [(29, .d (I t29))]) (fun t29 => []) (sched_caseErr.b1 N r_ K_) r N (0 : Int) (by exact Nat.le_refl _) H (by (simp only [sw1, go_sem, simprocAttr]; done)) ?_
 rintro n t29 H N6 hN6
 unfold sched_caseErr.b1 at H
 try simp only [go_sem, simprocAttr]
 refine a5 ?_
 refine a0 fun K hK => OW.run [0, 27, 28, 29, 30] ?_
 simp only [go_sem, simprocAttr, sw0]
 refine OW.nil (hK _ ?_)
 refine a5 ?_
 refine d8 rfl (fun h7 => ?_) (fun h7 => ?_)
 replace H := l4 h7 H
 refine d9 ?_
 refine a5 ?_
 refine PW.block ?_
 refine a5 ?_
 obtain ⟨c8, H⟩ := d5 H
 refine a0 fun K hK => OW.run [0, 4, 27, 28, 29] ?_
 (simp only [go_sem, simprocAttr, sw0, i9 L r_ t29.toNat default (by omega)])
 repeat (refine And.intro (by omega) ?_)
 refine OW.nil (hK _ ?_)
 refine a5 ?_
 obtain ⟨x1, e1, H⟩ := a8 H
 refine a0 fun K hK => OW.run [0, 4, 5, 27, 28, 29] ?_
 simp only [go_sem, simprocAttr, sw0]
 refine d7 4 rfl rfl rfl (by ((simp only [go_sem, List.toList_toArray, simprocAttr]); exact rfl)) ?_ (slices_ContainsFunc_ii_ok N _ 142 [] (fun y0 => r9 N y0) (fun y0 r h => sched_caseErr_1_ok N y0 r h) _ e1) ?_ ?_ ?_ ?_
 rfl
 exact d6 rfl
 exact .inl rfl
 (simp only [go_sem, Nat.reduceLT])
 refine OW.run [0, 4, 5, 27, 28, 29] ?_
 simp only [go_sem, simprocAttr, sw0]
 refine OW.nil (hK _ ?_)
 refine a5 ?_
 obtain ⟨c9, H⟩ := d5 H
 obtain ⟨x2, e2, H⟩ := a8 H
 obtain ⟨x3, e3, H⟩ := a8 H
 obtain ⟨x4, e4, H⟩ := a8 H
 refine a0 fun K hK => OW.run [0, 6, 27, 28, 29] ?_
 (simp only [go_sem, simprocAttr, sw0, i9 L r_ 0 default (by omega)])
 repeat (refine And.intro (by omega) ?_)
 refine d7 4 rfl rfl rfl (by ((simp only [go_sem, List.toList_toArray, simprocAttr]); exact rfl)) ?_ (f4 N _ _ _ e2) ?_ ?_ ?_ ?_
 rfl
 exact d6 rfl
 exact .inl rfl
 (simp only [go_sem, Nat.reduceLT])
 refine OW.run [0, 6, 27, 28, 29] ?_
 (simp only [go_sem, simprocAttr, sw0, i9 L r_ 0 default (by omega)])
 refine d7 4 rfl rfl rfl (by ((simp only [go_sem, List.toList_toArray, simprocAttr]); exact rfl)) ?_ (f4 N _ _ _ e3) ?_ ?_ ?_ ?_
 rfl
 exact d6 rfl
 exact .inl rfl
 (simp only [go_sem, Nat.reduceLT])
 refine OW.run [0, 6, 27, 28, 29] ?_
 (simp only [go_sem, simprocAttr, sw0, i9 L r_ 0 default (by omega)])
 refine d7 4 rfl rfl rfl (by ((simp only [go_sem, List.toList_toArray, simprocAttr]); exact rfl)) ?_ (j8 N _ _ e4) ?_ ?_ ?_ ?_
 rfl
 · (refine a6 ?_; (simp only [go_sem, sw2, List.length_set, List.length_replicate, and_true, true_and, Nat.le_refl, simprocAttr]; simp only [seg, go_sem, sw2, List.length_set, List.length_replicate, and_true, true_and, Nat.le_refl, simprocAttr]; done))
 exact .inr ⟨rfl, rfl⟩
 (simp only [go_sem, Nat.reduceLT])
 refine OW.run [0, 6, 27, 28, 29] ?_
 (simp only [go_sem, simprocAttr, sw0, i9 L r_ 0 default (by omega)])
 refine OW.nil (hK _ ?_)
 refine a5 ?_
 refine a0 fun K hK => OW.run [0, 6, 27, 28, 29, 49] ?_
 simp only [go_sem, simprocAttr, sw0]
 refine OW.nil (hK _ ?_)
 refine d8 rfl (fun h10 => ?_) (fun h10 => ?_)
 replace H := l4 h10 H
 refine a5 ?_
 refine a0 fun K hK => OW.run [2] ?_
 simp only [go_sem, simprocAttr, sw0]
 refine OW.nil (hK _ ?_)
 refine f0 ?_
 change PW.Ends _ _ _ _ _ _
 refine PW.Ends.intro (.inr rfl) ?_
 simp only [go_sem, simprocAttr, sw0]
 obtain rfl := Option.some.inj H
 refine a7 4 (by exact trivial) ?_
 rfl
 replace H := l5 h10 H
 refine d9 ?_
 refine a0 fun K hK => OW.run [0, 27, 28, 29] ?_
 simp only [go_sem, simprocAttr, sw0]
 refine OW.nil (hK _ ?_)
 refine hN6 [] (w64 (t29 + (1 : Int))) _ H (by exact trivial) ?_
 simp only [sw1, go_sem, simprocAttr]
 replace H := l5 h7 H
 refine j2 ?_
 refine hN5 [] () _ H (by exact trivial) ?_
 simp only [sw1, go_sem, simprocAttr]
 rintro _ H
 try simp only [go_sem, simprocAttr]
 refine a5 ?_
 refine a0 fun K hK => OW.run [2] ?_
 simp only [go_sem, simprocAttr, sw0]
 refine OW.nil (hK _ ?_)
 refine f0 ?_
 change PW.Ends _ _ _ _ _ _
 refine PW.Ends.intro (.inr rfl) ?_
 simp only [go_sem, simprocAttr, sw0]
 obtain rfl := Option.some.inj H
 refine a7 4 (by exact trivial) ?_
 rfl

theorem sched_choices_ok (N : Nat) (turns : Int) (users : Int) (r : Unit) (H : sched_choices N turns users = some r) : CallOK Try.prog 116 [(I turns), (I users)] (.d (.clo 144 [.ref [(I turns)], .ref [(I users)]])) [] := by
 refine d4 Try.func116 rfl (by rw [Try.results116]) Try.ntmps116 Try.call116 ?_
 change PW _ _ _ _ _
 try simp only [go_sem, simprocAttr]
 unfold sched_choices at H
 refine a5 ?_
 refine a0 fun K hK => OW.run [2, 3] ?_
 simp only [go_sem, simprocAttr, sw0]
 refine OW.nil (hK _ ?_)
 refine a5 ?_
 refine a0 fun K hK => OW.run [4] ?_
 simp only [go_sem, simprocAttr, sw0]
 refine OW.nil (hK _ ?_)
 refine f0 ?_
 change PW.Ends _ _ _ _ _ _
 refine PW.Ends.intro (.inr rfl) ?_
 simp only [go_sem, simprocAttr, sw0]
 refine a7 4 (by (refine a6 ?_; (simp only [go_sem, sw2, List.length_set, List.length_replicate, and_true, true_and, Nat.le_refl, simprocAttr]; done))) ?_
 rfl

theorem slices_Min_ii_ok (N : Nat) (x : List Int) (r : Int) (H : slices_Min_ii N x = some r) : CallOK Try.prog 143 [(L x)] (.d (I r)) [] := by
 refine d4 Try.func143 rfl (by rw [Try.results143]) Try.ntmps143 Try.call143 ?_
 change PW _ _ _ _ _
 try simp only [go_sem, simprocAttr]
 unfold slices_Min_ii at H
 refine a5 ?_
 refine a0 fun K hK => OW.run [0] ?_
 simp only [go_sem, simprocAttr, sw0]
 refine OW.nil (hK _ ?_)
 refine i6 (τ := Unit) [0] 0 (fun _ => []) (fun _ => []) _ _ r (by exact Nat.le_refl _) H ?_ ?_
 intro K_ H N1 hN1
 refine a5 ?_
 refine a0 fun K hK => OW.run [0, 7] ?_
 simp only [go_sem, simprocAttr, sw0]
 refine OW.nil (hK _ ?_)
 refine d8 rfl (fun h2 => ?_) (fun h2 => ?_)
 replace H := l4 h2 H
 cases H
 replace H := l5 h2 H
 refine d9 ?_
 refine hN1 [] () _ H (by exact trivial) ?_
 simp only [sw1, go_sem, simprocAttr]
 rintro _ H
 try simp only [go_sem, simprocAttr]
 refine a5 ?_
 obtain ⟨c3, H⟩ := d5 H
 refine a0 fun K hK => OW.run [0, 3] ?_
 simp only [go_sem, simprocAttr, sw0]
 repeat (refine And.intro (by omega) ?_)
 refine OW.nil (hK _ ?_)
 refine i6 (τ := Int) [3] 0 (fun m => [(3, .d (I m))]) (fun m => []) _ _ r (by exact Nat.le_refl _) H ?_ ?_
 intro K_1 H N4 hN4
 refine a5 ?_
 refine a0 fun K hK => OW.run [0, 3, 4] ?_
 simp only [go_sem, simprocAttr, sw0]
 refine OW.nil (hK _ ?_)
 refine PW.block ?_
 refine i7 (σ := Int × Int) [0, 3, 4] 0 (fun (m1, i) => [(3, .d (I m1)), (4, .d (I i))]) (fun (m1, i) => []) (slices_Min_ii.b1 N x K_1) r N ((x.getD 0 0), (1 : Int)) (by exact Nat.le_refl _) H (by (simp only [sw1, go_sem, simprocAttr]; done)) ?_
 rintro n ⟨m1, i⟩ H N5 hN5
 unfold slices_Min_ii.b1 at H
 try simp only [go_sem, simprocAttr]
 refine a5 ?_
 refine a5 ?_
 refine a0 fun K hK => OW.run [0, 3, 4, 15] ?_
 simp only [go_sem, simprocAttr, sw0]
 refine OW.nil (hK _ ?_)
 refine d8 rfl (fun h6 => ?_) (fun h6 => ?_)
 replace H := l4 h6 H
 refine d9 ?_
 refine a5 ?_
 refine PW.block ?_
 obtain ⟨c7, H⟩ := d5 H
 refine a0 fun K hK => OW.run [0, 3, 4] ?_
 simp only [go_sem, simprocAttr, sw0]
 repeat (refine And.intro (by omega) ?_)
 refine OW.nil (hK _ ?_)
 refine a0 fun K hK => OW.run [0, 3, 4] ?_
 simp only [go_sem, simprocAttr, sw0]
 refine OW.nil (hK _ ?_)
 refine hN5 [] ((if (x.getD i.toNat 0) < m1 then (x.getD i.toNat 0) else m1), w64 (i + (1 : Int))) _ H (by exact trivial) ?_
 simp only [sw1, go_sem, simprocAttr]
 replace H := l5 h6 H
 refine j2 ?_
 refine hN4 [] m1 _ H (by exact trivial) ?_
 simp only [sw1, go_sem, simprocAttr]
 rintro m H
 try simp only [go_sem, simprocAttr]
 refine a5 ?_
 refine a0 fun K hK => OW.run [2] ?_
 simp only [go_sem, simprocAttr, sw0]
 refine OW.nil (hK _ ?_)
 refine f0 ?_
 change PW.Ends _ _ _ _ _ _
 refine PW.Ends.intro (.inr rfl) ?_
 simp only [go_sem, simprocAttr, sw0]
 obtain rfl := Option.some.inj H
 refine a7 4 (by exact trivial) ?_
 rfl

theorem sched_least_ok (N : Nat) (r_ : List (List Int)) (turns : List Int) (r : Int) (H : sched_least N r_ turns = some r) : CallOK Try.prog 115 [(.list r_.length (r_.map L)), (L turns)] (.d (I r)) [] := by
 refine d4 Try.func115 rfl (by rw [Try.results115]) Try.ntmps115 Try.call115 ?_
 change PW _ _ _ _ _
 try simp only [go_sem, simprocAttr]
 unfold sched_least at H
 refine a5 ?_
 refine a0 fun K hK => OW.run [0, 1] ?_
 simp only [go_sem, simprocAttr, sw0]
 refine OW.nil (hK _ ?_)
 refine a5 ?_
 obtain ⟨c1, H⟩ := d5 H
 obtain ⟨c2, H⟩ := d5 H
 refine a0 fun K hK => OW.run [0, 1, 5] ?_
 (simp only [go_sem, simprocAttr, sw0, i9 L r_ 0 default (by omega)])
 repeat (refine And.intro (by omega) ?_)
 refine OW.nil (hK _ ?_)
 refine i6 (τ := List Int) [5] 1 (fun b0 => [(5, .own 0 0 b0.length 1)]) (fun b0 => [{ cells := (b0.map I).map .d, e := 3 }]) _ _ r (by exact Nat.zero_le _) H ?_ ?_
 intro K_ H N3 hN3
 refine a5 ?_
 refine a0 fun K hK => OW.run [0, 5, 13, 14, 15] ?_
 simp only [go_sem, simprocAttr, sw0]
 refine OW.nil (hK _ ?_)
 refine PW.block ?_
 refine i7 (σ := Int × List Int) [0, 5, 13, 14, 15] 1 (fun (t15, b01) => [(5, .own 0 0 b01.length 1), (15, .d (I t15))]) (fun (t15, b01) => [{ cells := (b01.map I).map .d, e := 3 }]) (sched_least.b1 N r_ turns K_) r N ((0 : Int), (List.replicate ((r_.getD 0 default).length : Int).toNat (0 : Int))) (by exact Nat.zero_le _) H (by (simp only [sw1, go_sem, simprocAttr]; done)) ?_
 rintro n ⟨t15, b01⟩ H N4 hN4
 unfold sched_least.b1 at H
 try simp only [go_sem, simprocAttr]
 refine a5 ?_
 refine a0 fun K hK => OW.run [0, 5, 13, 14, 15, 16] ?_
 simp only [go_sem, simprocAttr, sw0]
 refine OW.nil (hK _ ?_)
 refine a5 ?_
 refine d8 rfl (fun h5 => ?_) (fun h5 => ?_)
 replace H := l4 h5 H
 refine d9 ?_
 refine a5 ?_
 refine PW.block ?_
 refine a5 ?_
 obtain ⟨c6, H⟩ := d5 H
 refine a0 fun K hK => OW.run [0, 5, 6, 7, 13, 14, 15] ?_
 simp only [go_sem, simprocAttr, sw0]
 repeat (refine And.intro (by omega) ?_)
 refine OW.nil (hK _ ?_)
 change PW _ _ _ _ _
 obtain ⟨c7, H⟩ := d5 H
 obtain ⟨c8, H⟩ := d5 H
 obtain ⟨c9, H⟩ := d5 H
 obtain ⟨c10, H⟩ := d5 H
 refine j1 11 o9 (by kernel_rfl) fun K hK => ?_
 change FW _ _ _ _ _
 refine FW.run ?_
 (simp only [go_sem, simprocAttr, sw0, i9 L r_ t15.toNat default (by omega)])
 repeat (refine And.intro (by omega) ?_)
 refine FW.nil ?_
 change OW _ _ _ _ _ _
 refine OW.run [0, 5, 13, 14, 15] ?_
 (simp only [go_sem, simprocAttr, sw0, i9 L r_ t15.toNat default (by omega)])
 repeat (refine And.intro (by omega) ?_)
 refine OW.nil (hK _ ?_)
 refine a0 fun K hK => OW.run [0, 5, 13, 14, 15] ?_
 simp only [go_sem, simprocAttr, sw0]
 refine OW.nil (hK _ ?_)
 refine hN4 [] (w64 (t15 + (1 : Int)), (b01.set ((turns.getD t15.toNat 0).toNat) (w64 ((b01.getD ((turns.getD t15.toNat 0).toNat) 0) + ((r_.getD t15.toNat default).getD ((turns.getD t15.toNat 0).toNat) 0))))) _ H (by exact trivial) ?_
 simp only [sw1, go_sem, simprocAttr]
 replace H := l5 h5 H
 refine j2 ?_
 refine hN3 [] b01 _ H (by exact trivial) ?_
 simp only [sw1, go_sem, simprocAttr]
 rintro b0 H
 try simp only [go_sem, simprocAttr]
 refine a5 ?_
 obtain ⟨x1, e1, H⟩ := a8 H
 refine a0 fun K hK => OW.run [4] ?_
 simp only [go_sem, simprocAttr, sw0]
 refine d7 4 rfl rfl rfl (by ((simp only [go_sem, List.toList_toArray, simprocAttr]); exact rfl)) ?_ (slices_Min_ii_ok N _ _ e1) ?_ ?_ ?_ ?_
 · (((simp only [go_sem, sw1, simprocAttr]; try simp only [seg, go_sem, simprocAttr])); done)
 · (refine a6 ?_; (simp only [go_sem, sw2, List.length_set, List.length_replicate, and_true, true_and, Nat.le_refl, simprocAttr]; done))
 exact .inr ⟨rfl, rfl⟩
 (simp only [go_sem, Nat.reduceLT])
 refine OW.run [4] ?_
 simp only [go_sem, simprocAttr, sw0]
 refine OW.nil (hK _ ?_)
 refine f0 ?_
 change PW.Ends _ _ _ _ _ _
 refine PW.Ends.intro (.inr rfl) ?_
 simp only [go_sem, simprocAttr, sw0]
 obtain rfl := Option.some.inj H
 refine a7 4 (by exact trivial) ?_
 rfl

theorem sched_BestTurns_ok (N : Nat) (r_ : List (List Int)) (r : List Int × Int × Int) (H : sched_BestTurns N r_ = some r) : CallOK Try.prog 46 [(.list r_.length (r_.map L))] (.d (.tup [(L r.1), (I r.2.1), (I r.2.2)])) [] := by
 refine d4 Try.func46 rfl (by rw [Try.results46]) Try.ntmps46 Try.call46 ?_
 refine PW.least ?_
 try simp only [go_sem, simprocAttr]
 unfold sched_BestTurns at H
 refine a5 ?_
 refine a0 fun K hK => OW.run [1] ?_
 simp only [go_sem, simprocAttr, sw0]
 refine OW.nil (hK _ ?_); clear hK K
 refine a5 ?_
 refine a5 ?_
 obtain ⟨x1, e1, H⟩ := a8 H
 refine a0 fun K hK => OW.run [1, 5] ?_
 simp only [go_sem, simprocAttr, sw0]
 refine d7 4 rfl rfl rfl (by ((simp only [go_sem, List.toList_toArray, simprocAttr]); exact rfl)) ?_ (sched_caseErr_ok N _ _ e1) ?_ ?_ ?_ ?_
 rfl
 exact d6 rfl
 exact .inl rfl
 (simp only [go_sem, Nat.reduceLT])
 refine OW.run [1, 5] ?_
 simp only [go_sem, simprocAttr, sw0]
 refine OW.nil (hK _ ?_); clear hK K
 refine a5 ?_
 refine a0 fun K hK => OW.run [1, 5, 13] ?_
 simp only [go_sem, simprocAttr, sw0]
 refine OW.nil (hK _ ?_); clear hK K
 refine d8 rfl (fun h1 => ?_) (fun h1 => ?_)
 replace H := l4 h1 H
 refine a5 ?_
 refine a0 fun K hK => OW.run [2, 3, 4] ?_
 simp only [go_sem, simprocAttr, sw0]
 refine OW.nil (hK _ ?_); clear hK K
 refine f0 ?_
 change PW.Ends _ _ _ _ _ _
 refine PW.Ends.intro (.inr rfl) ?_
 simp only [go_sem, simprocAttr, sw0]
 obtain rfl := Option.some.inj H
 refine a7 4 (by exact d6 rfl) ?_
 rfl
 replace H := l5 h1 H
 refine d9 ?_
 refine a5 ?_
 refine a0 fun K hK => OW.run [1, 6] ?_
 simp only [go_sem, simprocAttr, sw0]
 refine OW.nil (hK _ ?_); clear hK K
 refine a5 ?_
 refine a0 fun K hK => OW.run [1, 6, 7] ?_
 simp only [go_sem, simprocAttr, sw0]
 refine OW.nil (hK _ ?_); clear hK K
 refine PW.nilCell 1 0 _ rfl rfl ?_
 try simp only [go_sem, simprocAttr]
 refine i6 (τ := List Int × Int) [6, 7] 3 (fun (b1, b2) => []) (fun (b1, b2) => [{ cells := [.d (.list r_.length (r_.map L))], e := 50 }, { cells := [.d (L b1)], e := 22 }, { cells := [.d (I b2)], e := 3 }]) _ _ r (by exact Nat.zero_le _) H ?_ ?_
 intro K_ H N2 hN2
 refine a5 ?_
 obtain ⟨c3, H⟩ := d5 H
 obtain ⟨_, e2, H⟩ := a8 H
 refine j1 6 o9 (by kernel_rfl) fun K hK => ?_
 change FW _ _ _ _ _
 refine FW.run ?_
 (simp only [go_sem, simprocAttr, sw0, i9 L r_ 0 default (by omega)])
 repeat (refine And.intro (by omega) ?_)
 refine FW.nil ?_
 change OW _ _ _ _ _ _
 refine OW.run [1, 6, 7, 21] ?_
 (simp only [go_sem, simprocAttr, sw0, i9 L r_ 0 default (by omega)])
 refine d7 4 rfl rfl rfl (by ((simp only [go_sem, List.toList_toArray, simprocAttr]); exact rfl)) ?_ (sched_choices_ok N _ _ _ e2) ?_ ?_ ?_ ?_
 rfl
 exact d6 rfl
 exact .inl rfl
 (simp only [go_sem, Nat.reduceLT])
 refine OW.run [1, 6, 7, 21] ?_
 (simp only [go_sem, simprocAttr, sw0, i9 L r_ 0 default (by omega)])
 refine OW.nil (hK _ ?_); clear hK K
 refine PW.block ?_
 refine PW.kept [1, 6, 7, 21] ?_
 try simp only [go_sem, simprocAttr]
 refine PW.range (fun _ => none) rfl rfl Try.func144 rfl (by rw [Try.results144]) Try.ntmps144 Try.call144 ?_
 rintro lc3 lc3_1 lc3_2 lc3_3 lc3_4 lc3_5
 change PW _ _ _ _ _
 try simp only [go_sem, simprocAttr]
 refine a5 ?_
 obtain ⟨c4, H⟩ := d5 H
 refine a0 fun K hK => OW.run [0, 1, 2, 4] ?_
 simp only [go_sem, simprocAttr, sw0]
 repeat (refine And.intro (by omega) ?_)
 refine OW.nil (hK _ ?_); clear hK K
 refine PW.block ?_
 refine i7 (σ := List Int × Int × List Int) [0, 1, 2, 4] 4 (fun (b11, b21, b3) => [(4, .own 3 0 b3.length 1)]) (fun (b11, b21, b3) => [{ cells := [.d (.list r_.length (r_.map L))], e := 50 }, { cells := [.d (L b11)], e := 22 }, { cells := [.d (I b21)], e := 3 }, { cells := (b3.map I).map .d, e := 3 }]) (sched_BestTurns.b1 N r_ K_) r N (([] : List Int), (-1 : Int), (List.replicate (r_.length : Int).toNat (0 : Int))) (by (simp only [go_sem]; omega)) H (by (simp only [sw1, go_sem, simprocAttr]; rfl)) ?_
 rintro n ⟨b11, b21, b3⟩ H N5 hN5
 unfold sched_BestTurns.b1 at H
 try simp only [go_sem, simprocAttr]
 refine a5 ?_
 refine a5 ?_
 refine a0 fun K hK => OW.run [0, 1, 2, 4, 10] ?_
 simp only [go_sem, simprocAttr, sw0]
 refine OW.yield lc3 34 _ _ [] rfl rfl rfl rfl lc3_5 (by rw [lc3_1]; rfl) (by rw [lc3_1]; decide) (List.append_nil _).symm (by (simp only [go_sem, Nat.reduceLT])) ?_
 intro us
 rw [lc3_1, lc3_2]
 change PW _ _ _ _ _
 try simp only [go_sem, simprocAttr]
 refine a0 fun K hK => OW.run [1, 6, 7, 8] ?_
 simp only [go_sem, simprocAttr, sw0]
 refine OW.nil (hK _ ?_); clear hK K
 refine ⟨rfl, rfl, ?_⟩
 rw [lc3_3]
 change PW _ _ _ _ _
 try simp only [go_sem, simprocAttr]
 refine PW.block ?_
 refine a5 ?_
 obtain ⟨x3, e3, H⟩ := a8 H
 refine a0 fun K hK => OW.run [6, 7, 8, 9] ?_
 simp only [go_sem, simprocAttr, sw0]
 refine d7 4 rfl rfl rfl (by ((simp only [go_sem, List.toList_toArray, simprocAttr]); exact rfl)) ?_ (sched_least_ok N _ _ _ e3) ?_ ?_ ?_ ?_
 · (((simp only [go_sem, sw1, simprocAttr]; try simp only [seg, go_sem, simprocAttr])); done)
 · (refine a6 ?_; (simp only [go_sem, sw2, List.length_set, List.length_replicate, and_true, true_and, Nat.le_refl, simprocAttr]; done))
 exact .inr ⟨rfl, rfl⟩
 (simp only [go_sem, Nat.reduceLT])
 refine OW.run [6, 7, 8, 9] ?_
 simp only [go_sem, simprocAttr, sw0]
 refine OW.nil (hK _ ?_); clear hK K
 refine a5 ?_
 refine a0 fun K hK => OW.run [6, 7, 8, 9, 28] ?_
 simp only [go_sem, simprocAttr, sw0]
 refine OW.nil (hK _ ?_); clear hK K
 refine d8 rfl (fun h6 => ?_) (fun h6 => ?_)
 replace H := l4 h6 H
 obtain ⟨x4, e4, H⟩ := a8 H
 refine a0 fun K hK => OW.run [] ?_
 simp only [go_sem, simprocAttr, sw0]
 refine d7 4 rfl rfl rfl (by ((simp only [go_sem, List.toList_toArray, simprocAttr]); exact rfl)) ?_ (slices_Clone_ii_ok N _ _ e4) ?_ ?_ ?_ ?_
 · (((simp only [go_sem, sw1, simprocAttr]; try simp only [seg, go_sem, simprocAttr])); done)
 · (refine a6 ?_; (simp only [go_sem, sw2, List.length_set, List.length_replicate, and_true, true_and, Nat.le_refl, simprocAttr]; done))
 exact .inr ⟨rfl, by simp only [List.all_cons, List.all_nil, all_isValD_I, Bool.and_self]⟩
 (simp only [go_sem, Nat.reduceLT])
 refine OW.run [] ?_
 simp only [go_sem, simprocAttr, sw0]
 refine OW.frz 4 (by exact Nat.le_refl _) (by exact allD_mapV _) ?_
 simp only [r5, n6, n5, r4, nz_int, z2, nz_str, z1, nz_ref, nz_nil, go_sem, simprocAttr]
 refine OW.nil (hK _ ?_); clear hK K
 refine ⟨0, .inl ⟨rfl, rfl⟩, rfl, rfl, ?_⟩
 try simp only [go_sem, simprocAttr]
 change OW _ _ _ _ _ _
 refine OW.run [0, 1, 2, 4, 10] ?_
 simp only [go_sem, simprocAttr, sw0]
 refine OW.nil (hK _ ?_); clear hK K
 refine d8 rfl (fun h7 => ?_) (fun h7 => ?_)
 replace H := l4 h7 H
 refine d9 ?_
 refine PW.block ?_
 refine a5 ?_
 refine a0 fun K hK => OW.run [0, 1, 2, 4, 5] ?_
 simp only [go_sem, simprocAttr, sw0]
 refine OW.nil (hK _ ?_); clear hK K
 refine i6 (τ := Int × List Int) [0, 1, 2, 4, 5] 4 (fun (i, b31) => [(4, .own 3 0 b31.length 1), (5, .d (I i))]) (fun (i, b31) => [{ cells := [.d (.list r_.length (r_.map L))], e := 50 }, { cells := [.d (L x4)], e := 22 }, { cells := [.d (I x3)], e := 3 }, { cells := (b31.map I).map .d, e := 3 }]) _ _ r (by (simp only [go_sem]; omega)) H ?_ ?_
 ·
  intro K_1 H N8 hN8
  refine PW.block ?_
  refine i7 (σ := Int × List Int) [0, 1, 2, 4, 5] 5 (fun (i1, b32) => [(4, .own 3 0 b32.length 1), (5, .d (I i1))]) (fun (i1, b32) => [{ cells := [.d (.list r_.length (r_.map L))], e := 50 }, { cells := [.d (L x4)], e := 22 }, { cells := [.d (I x3)], e := 3 }, { cells := (b32.map I).map .d, e := 3 }, { cells := [], e := 3 }]) (q8 N r_ K_1) r N (w64 ((r_.length : Int) - (1 : Int)), b3) (by (simp only [go_sem]; omega)) H (by (simp only [sw1, go_sem, simprocAttr]; done)) ?_
  rintro n ⟨i1, b32⟩ H N9 hN9
  unfold q8 at H
  try simp only [go_sem, simprocAttr]
  refine a5 ?_
  refine a5 ?_
  obtain ⟨c10, H⟩ := d5 H
  refine j1 9 o9 (by kernel_rfl) fun K hK => ?_
  change FW _ _ _ _ _
  refine FW.run ?_
  simp only [go_sem, simprocAttr, sw0]
  repeat (refine And.intro (by first | omega | (intro hg; have hq := c10 (by first | exact hg | simpa using hg); first | omega | exact hq | (simp only [List.length_map]; omega)) | (first | omega | assumption | rfl | decide | (simp only [List.length_map, List.length_replicate, List.length_append, List.length_take, List.length_drop, List.length_set, List.length_cons, List.length_nil, Nat.zero_add, Int.toNat_natCast] at *; omega) | (simp only [List.length_map, List.length_replicate, List.length_append, List.length_take, List.length_drop, List.length_set, List.length_cons, List.length_nil, Nat.zero_add, Int.toNat_natCast]; done) | trivial)) ?_)
  refine FW.nil ?_
  change OW _ _ _ _ _ _
  refine OW.run [0, 1, 2, 4, 5, 23] ?_
  simp only [go_sem, simprocAttr, sw0]
  repeat (refine And.intro (by first | omega | (intro hg; have hq := c10 (by first | exact hg | simpa using hg); first | omega | exact hq | (simp only [List.length_map]; omega)) | (first | omega | assumption | rfl | decide | (simp only [List.length_map, List.length_replicate, List.length_append, List.length_take, List.length_drop, List.length_set, List.length_cons, List.length_nil, Nat.zero_add, Int.toNat_natCast] at *; omega) | (simp only [List.length_map, List.length_replicate, List.length_append, List.length_take, List.length_drop, List.length_set, List.length_cons, List.length_nil, Nat.zero_add, Int.toNat_natCast]; done) | trivial)) ?_)
  refine OW.nil (hK _ ?_); clear hK K
  refine d8 rfl (fun h11 => ?_) (fun h11 => ?_)
  replace H := l4 h11 H
  refine d9 ?_
  refine a5 ?_
  refine PW.block ?_
  obtain ⟨c12, H⟩ := d5 H
  refine a0 fun K hK => OW.run [0, 1, 2, 4, 5] ?_
  simp only [go_sem, simprocAttr, sw0]
  repeat (refine And.intro (by omega) ?_)
  refine OW.nil (hK _ ?_); clear hK K
  refine a0 fun K hK => OW.run [0, 1, 2, 4, 5] ?_
  simp only [go_sem, simprocAttr, sw0]
  refine OW.nil (hK _ ?_); clear hK K
  refine hN9 [] (w64 (i1 - (1 : Int)), (b32.set i1.toNat (0 : Int))) _ H (by exact trivial) ?_
  simp only [sw1, go_sem, simprocAttr]
  replace H := l5 h11 H
  refine j2 ?_
  refine hN8 [] (i1, b32) _ H (by exact trivial) ?_
  simp only [sw1, go_sem, simprocAttr]
 rintro ⟨i, b31⟩ H
 try simp only [go_sem, simprocAttr]
 refine a5 ?_
 refine a5 ?_
 refine a0 fun K hK => OW.run [0, 1, 2, 4, 5, 30] ?_
 simp only [go_sem, simprocAttr, sw0]
 refine OW.nil (hK _ ?_); clear hK K
 refine d8 rfl (fun h13 => ?_) (fun h13 => ?_)
 replace H := l4 h13 H
 refine f0 ?_
 refine ⟨.inr rfl, 0, rfl, rfl, fun _ => ?_, fun h => absurd rfl h⟩
 try simp only [go_sem, simprocAttr]
 refine hN2 [] (x4, x3) _ H (by exact trivial) ?_
 simp only [sw1, go_sem, simprocAttr]
 replace H := l5 h13 H
 refine d9 ?_
 change PW _ _ _ _ _
 obtain ⟨c14, H⟩ := d5 H
 obtain ⟨c15, H⟩ := d5 H
 refine a0 fun K hK => OW.run [0, 1, 2, 4] ?_
 simp only [go_sem, simprocAttr, sw0]
 repeat (refine And.intro (by omega) ?_)
 refine OW.nil (hK _ ?_); clear hK K
 refine hN5 [] (x4, x3, (b31.set i.toNat (w64 ((b31.getD i.toNat 0) + (1 : Int))))) _ H (by exact trivial) ?_
 simp only [sw1, go_sem, simprocAttr]
 replace H := l5 h7 H
 cases H
 replace H := l5 h6 H
 refine d9 ?_
 refine ⟨0, .inl ⟨rfl, rfl⟩, rfl, rfl, ?_⟩
 try simp only [go_sem, simprocAttr]
 change OW _ _ _ _ _ _
 refine OW.run [0, 1, 2, 4, 10] ?_
 simp only [go_sem, simprocAttr, sw0]
 refine OW.nil (hK _ ?_); clear hK K
 refine d8 rfl (fun h16 => ?_) (fun h16 => ?_)
 replace H := l4 h16 H
 refine d9 ?_
 refine PW.block ?_
 refine a5 ?_
 refine a0 fun K hK => OW.run [0, 1, 2, 4, 5] ?_
 simp only [go_sem, simprocAttr, sw0]
 refine OW.nil (hK _ ?_); clear hK K
 refine i6 (τ := Int × List Int) [0, 1, 2, 4, 5] 4 (fun (i2, b33) => [(4, .own 3 0 b33.length 1), (5, .d (I i2))]) (fun (i2, b33) => [{ cells := [.d (.list r_.length (r_.map L))], e := 50 }, { cells := [.d (L b11)], e := 22 }, { cells := [.d (I b21)], e := 3 }, { cells := (b33.map I).map .d, e := 3 }]) _ _ r (by (simp only [go_sem]; omega)) H ?_ ?_
 ·
  intro K_2 H N17 hN17
  refine PW.block ?_
  refine i7 (σ := Int × List Int) [0, 1, 2, 4, 5] 4 (fun (i3, b34) => [(4, .own 3 0 b34.length 1), (5, .d (I i3))]) (fun (i3, b34) => [{ cells := [.d (.list r_.length (r_.map L))], e := 50 }, { cells := [.d (L b11)], e := 22 }, { cells := [.d (I b21)], e := 3 }, { cells := (b34.map I).map .d, e := 3 }]) (q7 N r_ K_2) r N (w64 ((r_.length : Int) - (1 : Int)), b3) (by (simp only [go_sem]; omega)) H (by (simp only [sw1, go_sem, simprocAttr]; done)) ?_
  rintro n ⟨i3, b34⟩ H N18 hN18
  unfold q7 at H
  try simp only [go_sem, simprocAttr]
  refine a5 ?_
  refine a5 ?_
  obtain ⟨c19, H⟩ := d5 H
  refine j1 9 o9 (by kernel_rfl) fun K hK => ?_
  change FW _ _ _ _ _
  refine FW.run ?_
  simp only [go_sem, simprocAttr, sw0]
  repeat (refine And.intro (by first | omega | (intro hg; have hq := c19 (by first | exact hg | simpa using hg); first | omega | exact hq | (simp only [List.length_map]; omega)) | (first | omega | assumption | rfl | decide | (simp only [List.length_map, List.length_replicate, List.length_append, List.length_take, List.length_drop, List.length_set, List.length_cons, List.length_nil, Nat.zero_add, Int.toNat_natCast] at *; omega) | (simp only [List.length_map, List.length_replicate, List.length_append, List.length_take, List.length_drop, List.length_set, List.length_cons, List.length_nil, Nat.zero_add, Int.toNat_natCast]; done) | trivial)) ?_)
  refine FW.nil ?_
  change OW _ _ _ _ _ _
  refine OW.run [0, 1, 2, 4, 5, 23] ?_
  simp only [go_sem, simprocAttr, sw0]
  repeat (refine And.intro (by first | omega | (intro hg; have hq := c19 (by first | exact hg | simpa using hg); first | omega | exact hq | (simp only [List.length_map]; omega)) | (first | omega | assumption | rfl | decide | (simp only [List.length_map, List.length_replicate, List.length_append, List.length_take, List.length_drop, List.length_set, List.length_cons, List.length_nil, Nat.zero_add, Int.toNat_natCast] at *; omega) | (simp only [List.length_map, List.length_replicate, List.length_append, List.length_take, List.length_drop, List.length_set, List.length_cons, List.length_nil, Nat.zero_add, Int.toNat_natCast]; done) | trivial)) ?_)
  refine OW.nil (hK _ ?_); clear hK K
  refine d8 rfl (fun h20 => ?_) (fun h20 => ?_)
  replace H := l4 h20 H
  refine d9 ?_
  refine a5 ?_
  refine PW.block ?_
  obtain ⟨c21, H⟩ := d5 H
  refine a0 fun K hK => OW.run [0, 1, 2, 4, 5] ?_
  simp only [go_sem, simprocAttr, sw0]
  repeat (refine And.intro (by omega) ?_)
  refine OW.nil (hK _ ?_); clear hK K
  refine a0 fun K hK => OW.run [0, 1, 2, 4, 5] ?_
  simp only [go_sem, simprocAttr, sw0]
  refine OW.nil (hK _ ?_); clear hK K
  refine hN18 [] (w64 (i3 - (1 : Int)), (b34.set i3.toNat (0 : Int))) _ H (by exact trivial) ?_
  simp only [sw1, go_sem, simprocAttr]
  replace H := l5 h20 H
  refine j2 ?_
  refine hN17 [] (i3, b34) _ H (by exact trivial) ?_
  simp only [sw1, go_sem, simprocAttr]
 rintro ⟨i2, b33⟩ H
 try simp only [go_sem, simprocAttr]
 refine a5 ?_
 refine a5 ?_
 refine a0 fun K hK => OW.run [0, 1, 2, 4, 5, 30] ?_
 simp only [go_sem, simprocAttr, sw0]
 refine OW.nil (hK _ ?_); clear hK K
 refine d8 rfl (fun h22 => ?_) (fun h22 => ?_)
 replace H := l4 h22 H
 refine f0 ?_
 refine ⟨.inr rfl, 0, rfl, rfl, fun _ => ?_, fun h => absurd rfl h⟩
 try simp only [go_sem, simprocAttr]
 refine hN2 [] (b11, b21) _ H (by exact trivial) ?_
 simp only [sw1, go_sem, simprocAttr]
 replace H := l5 h22 H
 refine d9 ?_
 change PW _ _ _ _ _
 obtain ⟨c23, H⟩ := d5 H
 obtain ⟨c24, H⟩ := d5 H
 refine a0 fun K hK => OW.run [0, 1, 2, 4] ?_
 simp only [go_sem, simprocAttr, sw0]
 repeat (refine And.intro (by omega) ?_)
 refine OW.nil (hK _ ?_); clear hK K
 refine hN5 [] (b11, b21, (b33.set i2.toNat (w64 ((b33.getD i2.toNat 0) + (1 : Int))))) _ H (by exact trivial) ?_
 simp only [sw1, go_sem, simprocAttr]
 replace H := l5 h16 H
 cases H
 rintro ⟨b1, b2⟩ H
 try simp only [go_sem, simprocAttr]
 refine a5 ?_
 refine j1 3 o9 (by kernel_rfl) fun K hK => ?_
 change FW _ _ _ _ _
 refine FW.run ?_
 simp only [go_sem, simprocAttr, sw0]
 refine FW.nil ?_
 change OW _ _ _ _ _ _
 refine OW.run [2, 3, 4] ?_
 simp only [go_sem, simprocAttr, sw0]
 refine OW.nil (hK _ ?_); clear hK K
 refine f0 ?_
 change PW.Ends _ _ _ _ _ _
 refine PW.Ends.intro (.inr rfl) ?_
 simp only [go_sem, simprocAttr, sw0]
 obtain rfl := Option.some.inj H
 refine a7 4 (by exact d6 rfl) ?_
 rfl

theorem base_Texts_ok (N : Nat) (a : List ByteArray) (b : List ByteArray) (r : Bool) (H : base_Texts N a b = some r) : CallOK Try.prog 100 [(.list a.length (a.map Sx)), (.list b.length (b.map Sx))] (.d (Bo r)) [] := by
 refine d4 Try.func100 rfl (by rw [Try.results100]) Try.ntmps100 Try.call100 ?_
 change PW _ _ _ _ _
 try simp only [go_sem, simprocAttr]
 unfold base_Texts at H
 refine a5 ?_
 refine a0 fun K hK => OW.run [0, 1] ?_
 simp only [go_sem, simprocAttr, sw0]
 refine OW.nil (hK _ ?_)
 refine a5 ?_
 refine a5 ?_
 refine a0 fun K hK => OW.run [0, 1, 10] ?_
 simp only [go_sem, simprocAttr, sw0]
 refine OW.nil (hK _ ?_)
 refine d8 rfl (fun h1 => ?_) (fun h1 => ?_)
 replace H := l4 h1 H
 refine a5 ?_
 refine a0 fun K hK => OW.run [4] ?_
 simp only [go_sem, simprocAttr, sw0]
 refine OW.nil (hK _ ?_)
 refine f0 ?_
 change PW.Ends _ _ _ _ _ _
 refine PW.Ends.intro (.inr rfl) ?_
 simp only [go_sem, simprocAttr, sw0]
 obtain rfl := Option.some.inj H
 refine a7 4 (by exact trivial) ?_
 rfl
 replace H := l5 h1 H
 refine d9 ?_
 refine i6 (τ := Unit) [] 0 (fun _ => []) (fun _ => []) _ _ r (by exact Nat.le_refl _) H ?_ ?_
 intro K_ H N2 hN2
 refine a5 ?_
 refine a0 fun K hK => OW.run [0, 1, 5] ?_
 simp only [go_sem, simprocAttr, sw0]
 refine OW.nil (hK _ ?_)
 refine PW.block ?_
 refine i7 (σ := Int) [0, 1, 5] 0 (fun i => [(5, .d (I i))]) (fun i => []) (base_Texts.b1 N a b K_) r N (0 : Int) (by exact Nat.le_refl _) H (by (simp only [sw1, go_sem, simprocAttr]; done)) ?_
 rintro n i H N3 hN3
 unfold base_Texts.b1 at H
 try simp only [go_sem, simprocAttr]
 refine a5 ?_
 refine a5 ?_
 refine a0 fun K hK => OW.run [0, 1, 5, 14] ?_
 simp only [go_sem, simprocAttr, sw0]
 refine OW.nil (hK _ ?_)
 refine d8 rfl (fun h4 => ?_) (fun h4 => ?_)
 replace H := l4 h4 H
 refine d9 ?_
 refine a5 ?_
 refine PW.block ?_
 refine a5 ?_
 obtain ⟨c5, H⟩ := d5 H
 obtain ⟨c6, H⟩ := d5 H
 refine j1 8 o9 (by kernel_rfl) fun K hK => ?_
 change FW _ _ _ _ _
 refine FW.run ?_
 (simp only [go_sem, simprocAttr, sw0, i9 Sx a i.toNat default (by omega), i9 Sx b i.toNat default (by omega)])
 repeat (refine And.intro (by omega) ?_)
 refine FW.nil ?_
 change OW _ _ _ _ _ _
 refine OW.run [0, 1, 5, 25] ?_
 (simp only [go_sem, simprocAttr, sw0, i9 Sx a i.toNat default (by omega), i9 Sx b i.toNat default (by omega)])
 refine OW.nil (hK _ ?_)
 refine d8 rfl (fun h7 => ?_) (fun h7 => ?_)
 replace H := l4 h7 H
 refine a5 ?_
 refine a0 fun K hK => OW.run [4] ?_
 simp only [go_sem, simprocAttr, sw0]
 refine OW.nil (hK _ ?_)
 refine f0 ?_
 change PW.Ends _ _ _ _ _ _
 refine PW.Ends.intro (.inr rfl) ?_
 simp only [go_sem, simprocAttr, sw0]
 obtain rfl := Option.some.inj H
 refine a7 4 (by exact trivial) ?_
 rfl
 replace H := l5 h7 H
 refine d9 ?_
 refine a0 fun K hK => OW.run [0, 1, 5] ?_
 simp only [go_sem, simprocAttr, sw0]
 refine OW.nil (hK _ ?_)
 refine hN3 [] (w64 (i + (1 : Int))) _ H (by exact trivial) ?_
 simp only [sw1, go_sem, simprocAttr]
 replace H := l5 h4 H
 refine j2 ?_
 refine hN2 [] () _ H (by exact trivial) ?_
 simp only [sw1, go_sem, simprocAttr]
 rintro _ H
 try simp only [go_sem, simprocAttr]
 refine a5 ?_
 refine a0 fun K hK => OW.run [4] ?_
 simp only [go_sem, simprocAttr, sw0]
 refine OW.nil (hK _ ?_)
 refine f0 ?_
 change PW.Ends _ _ _ _ _ _
 refine PW.Ends.intro (.inr rfl) ?_
 simp only [go_sem, simprocAttr, sw0]
 obtain rfl := Option.some.inj H
 refine a7 4 (by exact trivial) ?_
 rfl

theorem ref06_SameAdmission_ok (N : Nat) (Z0 : List TB) (Z5 : List ByteArray) (Z7 : List TB) (Zc : List ByteArray) (r : Bool) (H : ref06_SameAdmission N Z0 Z5 Z7 Zc = some r) : CallOK Try.prog 25 [(.agg [(.list Z0.length (Z0.flatMap (fun (x : ByteArray × Int × Int × Int × Int × Int × Int × Int × Int) => [(Sx x.1), (I x.2.1), (I x.2.2.1), (I x.2.2.2.1), (I x.2.2.2.2.1), (I x.2.2.2.2.2.1), (I x.2.2.2.2.2.2.1), (I x.2.2.2.2.2.2.2.1), (I x.2.2.2.2.2.2.2.2)]))), (.list Z5.length (Z5.map Sx))]), (.agg [(.list Z7.length (Z7.flatMap (fun (x : ByteArray × Int × Int × Int × Int × Int × Int × Int × Int) => [(Sx x.1), (I x.2.1), (I x.2.2.1), (I x.2.2.2.1), (I x.2.2.2.2.1), (I x.2.2.2.2.2.1), (I x.2.2.2.2.2.2.1), (I x.2.2.2.2.2.2.2.1), (I x.2.2.2.2.2.2.2.2)]))), (.list Zc.length (Zc.map Sx))])] (.d (Bo r)) [] := by
 refine d4 Try.func25 rfl (by rw [Try.results25]) Try.ntmps25 Try.call25 ?_
 change PW _ _ _ _ _
 try simp only [go_sem, simprocAttr]
 unfold ref06_SameAdmission at H
 refine a5 ?_
 refine a0 fun K hK => OW.run [2, 3] ?_
 simp only [go_sem, simprocAttr, sw0]
 refine OW.nil (hK _ ?_)
 refine a5 ?_
 refine a5 ?_
 refine a0 fun K hK => OW.run [2, 3, 12] ?_
 simp only [go_sem, simprocAttr, sw0]
 repeat (refine And.intro (by omega) ?_)
 refine OW.nil (hK _ ?_)
 refine d8 rfl (fun h1 => ?_) (fun h1 => ?_)
 replace H := l4 h1 H
 refine a5 ?_
 refine a0 fun K hK => OW.run [4] ?_
 simp only [go_sem, simprocAttr, sw0]
 refine OW.nil (hK _ ?_)
 refine f0 ?_
 change PW.Ends _ _ _ _ _ _
 refine PW.Ends.intro (.inr rfl) ?_
 simp only [go_sem, simprocAttr, sw0]
 obtain rfl := Option.some.inj H
 refine a7 4 (by exact trivial) ?_
 rfl
 replace H := l5 h1 H
 refine d9 ?_
 refine i6 (τ := Unit) [2, 3] 2 (fun _ => []) (fun _ => [{ cells := [.d (.list Z0.length (Z0.flatMap (fun (x : ByteArray × Int × Int × Int × Int × Int × Int × Int × Int) => [(Sx x.1), (I x.2.1), (I x.2.2.1), (I x.2.2.2.1), (I x.2.2.2.2.1), (I x.2.2.2.2.2.1), (I x.2.2.2.2.2.2.1), (I x.2.2.2.2.2.2.2.1), (I x.2.2.2.2.2.2.2.2)]))), .d (.list Z5.length (Z5.map Sx))], e := 32 }, { cells := [.d (.list Z7.length (Z7.flatMap (fun (x : ByteArray × Int × Int × Int × Int × Int × Int × Int × Int) => [(Sx x.1), (I x.2.1), (I x.2.2.1), (I x.2.2.2.1), (I x.2.2.2.2.1), (I x.2.2.2.2.2.1), (I x.2.2.2.2.2.2.1), (I x.2.2.2.2.2.2.2.1), (I x.2.2.2.2.2.2.2.2)]))), .d (.list Zc.length (Zc.map Sx))], e := 32 }]) _ _ r (by exact Nat.zero_le _) H ?_ ?_
 intro K_ H N2 hN2
 refine a5 ?_
 refine a0 fun K hK => OW.run [2, 3, 5] ?_
 simp only [go_sem, simprocAttr, sw0]
 refine OW.nil (hK _ ?_)
 refine PW.block ?_
 refine i7 (σ := Int) [2, 3, 5] 2 (fun i => [(5, .d (I i))]) (fun i => [{ cells := [.d (.list Z0.length (Z0.flatMap (fun (x : ByteArray × Int × Int × Int × Int × Int × Int × Int × Int) => [(Sx x.1), (I x.2.1), (I x.2.2.1), (I x.2.2.2.1), (I x.2.2.2.2.1), (I x.2.2.2.2.2.1), (I x.2.2.2.2.2.2.1), (I x.2.2.2.2.2.2.2.1), (I x.2.2.2.2.2.2.2.2)]))), .d (.list Z5.length (Z5.map Sx))], e := 32 }, { cells := [.d (.list Z7.length (Z7.flatMap (fun (x : ByteArray × Int × Int × Int × Int × Int × Int × Int × Int) => [(Sx x.1), (I x.2.1), (I x.2.2.1), (I x.2.2.2.1), (I x.2.2.2.2.1), (I x.2.2.2.2.2.1), (I x.2.2.2.2.2.2.1), (I x.2.2.2.2.2.2.2.1), (I x.2.2.2.2.2.2.2.2)]))), .d (.list Zc.length (Zc.map Sx))], e := 32 }]) (ref06_SameAdmission.b1 N Z0 Z7 K_) r N (0 : Int) (by exact Nat.zero_le _) H (by (simp only [sw1, go_sem, simprocAttr]; done)) ?_
 rintro n i H N3 hN3
 unfold ref06_SameAdmission.b1 at H
 try simp only [go_sem, simprocAttr]
 refine a5 ?_
 refine a5 ?_
 refine a0 fun K hK => OW.run [2, 3, 5, 17] ?_
 simp only [go_sem, simprocAttr, sw0]
 repeat (refine And.intro (by omega) ?_)
 refine OW.nil (hK _ ?_)
 refine d8 rfl (fun h4 => ?_) (fun h4 => ?_)
 replace H := l4 h4 H
 refine d9 ?_
 refine a5 ?_
 refine PW.block ?_
 refine a5 ?_
 obtain ⟨c5, H⟩ := d5 H
 obtain ⟨c6, H⟩ := d5 H
 refine j1 10 o9 (by kernel_rfl) fun K hK => ?_
 change FW _ _ _ _ _
 refine FW.run ?_
 (simp only [go_sem, simprocAttr, sw0, z0W3a, z1W3a Z0 i.toNat (by omega), z1W3a Z7 i.toNat (by omega)])
 repeat (refine And.intro (by omega) ?_)
 refine FW.nil ?_
 change OW _ _ _ _ _ _
 refine OW.run [2, 3, 5, 30] ?_
 (simp only [go_sem, simprocAttr, sw0, z0W3a, z1W3a Z0 i.toNat (by omega), z1W3a Z7 i.toNat (by omega)])
 refine OW.nil (hK _ ?_)
 refine d8 rfl (fun h7 => ?_) (fun h7 => ?_)
 replace H := l4 h7 H
 refine a5 ?_
 refine a0 fun K hK => OW.run [4] ?_
 simp only [go_sem, simprocAttr, sw0]
 refine OW.nil (hK _ ?_)
 refine f0 ?_
 change PW.Ends _ _ _ _ _ _
 refine PW.Ends.intro (.inr rfl) ?_
 simp only [go_sem, simprocAttr, sw0]
 obtain rfl := Option.some.inj H
 refine a7 4 (by exact trivial) ?_
 rfl
 replace H := l5 h7 H
 refine d9 ?_
 refine a0 fun K hK => OW.run [2, 3, 5] ?_
 simp only [go_sem, simprocAttr, sw0]
 refine OW.nil (hK _ ?_)
 refine hN3 [] (w64 (i + (1 : Int))) _ H (by exact trivial) ?_
 simp only [sw1, go_sem, simprocAttr]
 replace H := l5 h4 H
 refine j2 ?_
 refine hN2 [] () _ H (by exact trivial) ?_
 simp only [sw1, go_sem, simprocAttr]
 rintro _ H
 try simp only [go_sem, simprocAttr]
 refine a5 ?_
 obtain ⟨x1, e1, H⟩ := a8 H
 refine a0 fun K hK => OW.run [4] ?_
 simp only [go_sem, simprocAttr, sw0]
 repeat (refine And.intro (by omega) ?_)
 refine d7 4 rfl rfl rfl (by ((simp only [go_sem, List.toList_toArray, simprocAttr]); exact rfl)) ?_ (base_Texts_ok N _ _ _ e1) ?_ ?_ ?_ ?_
 rfl
 exact d6 rfl
 exact .inl rfl
 (simp only [go_sem, Nat.reduceLT])
 refine OW.run [4] ?_
 simp only [go_sem, simprocAttr, sw0]
 refine OW.nil (hK _ ?_)
 refine f0 ?_
 change PW.Ends _ _ _ _ _ _
 refine PW.Ends.intro (.inr rfl) ?_
 simp only [go_sem, simprocAttr, sw0]
 obtain rfl := Option.some.inj H
 refine a7 4 (by exact trivial) ?_
 rfl

theorem base_Ints_ok (N : Nat) (a : List Int) (b : List Int) (r : Bool) (H : base_Ints N a b = some r) : CallOK Try.prog 49 [(L a), (L b)] (.d (Bo r)) [] := by
 refine d4 Try.func49 rfl (by rw [Try.results49]) Try.ntmps49 Try.call49 ?_
 change PW _ _ _ _ _
 try simp only [go_sem, simprocAttr]
 unfold base_Ints at H
 refine a5 ?_
 refine a0 fun K hK => OW.run [0, 1] ?_
 simp only [go_sem, simprocAttr, sw0]
 refine OW.nil (hK _ ?_)
 refine a5 ?_
 refine a5 ?_
 refine a0 fun K hK => OW.run [0, 1, 10] ?_
 simp only [go_sem, simprocAttr, sw0]
 refine OW.nil (hK _ ?_)
 refine d8 rfl (fun h1 => ?_) (fun h1 => ?_)
 replace H := l4 h1 H
 refine a5 ?_
 refine a0 fun K hK => OW.run [4] ?_
 simp only [go_sem, simprocAttr, sw0]
 refine OW.nil (hK _ ?_)
 refine f0 ?_
 change PW.Ends _ _ _ _ _ _
 refine PW.Ends.intro (.inr rfl) ?_
 simp only [go_sem, simprocAttr, sw0]
 obtain rfl := Option.some.inj H
 refine a7 4 (by exact trivial) ?_
 rfl
 replace H := l5 h1 H
 refine d9 ?_
 refine i6 (τ := Unit) [] 0 (fun _ => []) (fun _ => []) _ _ r (by exact Nat.le_refl _) H ?_ ?_
 intro K_ H N2 hN2
 refine a5 ?_
 refine a0 fun K hK => OW.run [0, 1, 5] ?_
 simp only [go_sem, simprocAttr, sw0]
 refine OW.nil (hK _ ?_)
 refine PW.block ?_
 refine i7 (σ := Int) [0, 1, 5] 0 (fun i => [(5, .d (I i))]) (fun i => []) (base_Ints.b1 N a b K_) r N (0 : Int) (by exact Nat.le_refl _) H (by (simp only [sw1, go_sem, simprocAttr]; done)) ?_
 rintro n i H N3 hN3
 unfold base_Ints.b1 at H
 try simp only [go_sem, simprocAttr]
 refine a5 ?_
 refine a5 ?_
 refine a0 fun K hK => OW.run [0, 1, 5, 14] ?_
 simp only [go_sem, simprocAttr, sw0]
 refine OW.nil (hK _ ?_)
 refine d8 rfl (fun h4 => ?_) (fun h4 => ?_)
 replace H := l4 h4 H
 refine d9 ?_
 refine a5 ?_
 refine PW.block ?_
 refine a5 ?_
 obtain ⟨c5, H⟩ := d5 H
 obtain ⟨c6, H⟩ := d5 H
 refine j1 8 o9 (by kernel_rfl) fun K hK => ?_
 change FW _ _ _ _ _
 refine FW.run ?_
 simp only [go_sem, simprocAttr, sw0]
 repeat (refine And.intro (by omega) ?_)
 refine FW.nil ?_
 change OW _ _ _ _ _ _
 refine OW.run [0, 1, 5, 25] ?_
 simp only [go_sem, simprocAttr, sw0]
 refine OW.nil (hK _ ?_)
 refine d8 rfl (fun h7 => ?_) (fun h7 => ?_)
 replace H := l4 h7 H
 refine a5 ?_
 refine a0 fun K hK => OW.run [4] ?_
 simp only [go_sem, simprocAttr, sw0]
 refine OW.nil (hK _ ?_)
 refine f0 ?_
 change PW.Ends _ _ _ _ _ _
 refine PW.Ends.intro (.inr rfl) ?_
 simp only [go_sem, simprocAttr, sw0]
 obtain rfl := Option.some.inj H
 refine a7 4 (by exact trivial) ?_
 rfl
 replace H := l5 h7 H
 refine d9 ?_
 refine a0 fun K hK => OW.run [0, 1, 5] ?_
 simp only [go_sem, simprocAttr, sw0]
 refine OW.nil (hK _ ?_)
 refine hN3 [] (w64 (i + (1 : Int))) _ H (by exact trivial) ?_
 simp only [sw1, go_sem, simprocAttr]
 replace H := l5 h4 H
 refine j2 ?_
 refine hN2 [] () _ H (by exact trivial) ?_
 simp only [sw1, go_sem, simprocAttr]
 rintro _ H
 try simp only [go_sem, simprocAttr]
 refine a5 ?_
 refine a0 fun K hK => OW.run [4] ?_
 simp only [go_sem, simprocAttr, sw0]
 refine OW.nil (hK _ ?_)
 refine f0 ?_
 change PW.Ends _ _ _ _ _ _
 refine PW.Ends.intro (.inr rfl) ?_
 simp only [go_sem, simprocAttr, sw0]
 obtain rfl := Option.some.inj H
 refine a7 4 (by exact trivial) ?_
 rfl
end Go.Proofs.Ytabojpkmfkjjkaa
