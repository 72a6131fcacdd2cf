import Derived.Test.YtabojpkmfkjjkaaSsBase
set_option linter.all false
namespace Go.Proofs.Ytabojpkmfkjjkaa
open Go.PW Go.Sh

set_option maxRecDepth 20000
set_option maxHeartbeats 8000000
def z0W0a := j5 9 (fun (x : ByteArray × Int × Int × Int × Int × Int × Int × Int × Int) => [(Sx x.1), (I x.2.1), (I x.2.2.1), (I x.2.2.2.1), (I x.2.2.2.2.1), (I x.2.2.2.2.2.1), (I x.2.2.2.2.2.2.1), (I x.2.2.2.2.2.2.2.1), (I x.2.2.2.2.2.2.2.2)]) (fun _ => rfl)
def z1W0a := sub_el 9 (fun (x : ByteArray × Int × Int × Int × Int × Int × Int × Int × Int) => [(Sx x.1), (I x.2.1), (I x.2.2.1), (I x.2.2.2.1), (I x.2.2.2.2.1), (I x.2.2.2.2.2.1), (I x.2.2.2.2.2.2.1), (I x.2.2.2.2.2.2.2.1), (I x.2.2.2.2.2.2.2.2)]) (fun _ => rfl)
def z2W0a := take_flatMap 9 (fun (x : ByteArray × Int × Int × Int × Int × Int × Int × Int × Int) => [(Sx x.1), (I x.2.1), (I x.2.2.1), (I x.2.2.2.1), (I x.2.2.2.2.1), (I x.2.2.2.2.2.1), (I x.2.2.2.2.2.2.1), (I x.2.2.2.2.2.2.2.1), (I x.2.2.2.2.2.2.2.2)]) (fun _ => rfl)
theorem law06_Site_ok (N : Nat)  (r : Int × Int × Int × List Int) (H : law06_Site N  = some r) : CallOK Try.prog 82 [] (.d (.agg [(I r.1), (I r.2.1), (I r.2.2.1), (L r.2.2.2)])) [] := by
 refine d3 Try.func82 rfl (by rw [Try.results82]) Try.ntmps82 Try.call82 ?_
 change PW _ _ _ _ _
 try simp only [go_sem, simprocAttr]
 unfold law06_Site at H
 refine a5 ?_
 refine a0 fun K hK => OW.run [0] ?_
 simp only [go_sem, simprocAttr, sw0]
 refine OW.nil (hK _ ?_)
 refine a5 ?_
 refine a0 fun K hK => OW.run [0] ?_
 simp only [go_sem, simprocAttr, sw0]
 refine OW.nil (hK _ ?_)
 refine f4 ?_
 change PW.Ends _ _ _ _ _ _
 refine PW.Ends.intro (.inr rfl) ?_
 simp only [go_sem, simprocAttr, sw0]
 obtain rfl := Option.some.inj H
 refine a6 4 (by (refine a7 ?_; (simp only [go_sem, sw2, List.length_set, List.length_replicate, and_true, true_and, Nat.le_refl, simprocAttr]; simp only [seg, go_sem, sw2, List.length_set, List.length_replicate, and_true, true_and, Nat.le_refl, simprocAttr]; done))) ?_
 rfl

theorem law06_Voice_ok (N : Nat)  (r : ByteArray × Int × Int × Int × Int × Int × Int × Int × Int) (H : law06_Voice N  = some r) : CallOK Try.prog 83 [] (.d (.agg [(Sx r.1), (I r.2.1), (I r.2.2.1), (I r.2.2.2.1), (I r.2.2.2.2.1), (I r.2.2.2.2.2.1), (I r.2.2.2.2.2.2.1), (I r.2.2.2.2.2.2.2.1), (I r.2.2.2.2.2.2.2.2)])) [] := by
 refine d3 Try.func83 rfl (by rw [Try.results83]) Try.ntmps83 Try.call83 ?_
 change PW _ _ _ _ _
 try simp only [go_sem, simprocAttr]
 unfold law06_Voice at H
 refine a5 ?_
 refine a0 fun K hK => OW.run [0] ?_
 simp only [go_sem, simprocAttr, sw0]
 refine OW.nil (hK _ ?_)
 refine a5 ?_
 refine a0 fun K hK => OW.run [0] ?_
 simp only [go_sem, simprocAttr, sw0]
 refine OW.nil (hK _ ?_)
 refine f4 ?_
 change PW.Ends _ _ _ _ _ _
 refine PW.Ends.intro (.inr rfl) ?_
 simp only [go_sem, simprocAttr, sw0]
 obtain rfl := Option.some.inj H
 refine a6 4 (by exact d8 rfl) ?_
 rfl

theorem f7 (N : Nat) (n : Int) (lo : Int) (hi : Int) (r : Bool) (H : g9 N n lo hi = some r) : CallOK Try.prog 111 [(I n), (I lo), (I hi)] (.d (Bo r)) [] := by
 refine d3 Try.func111 rfl (by rw [Try.results111]) Try.ntmps111 Try.call111 ?_
 change PW _ _ _ _ _
 try simp only [go_sem, simprocAttr]
 unfold g9 at H
 refine a5 ?_
 refine a0 fun K hK => OW.run [0, 1, 2] ?_
 simp only [go_sem, simprocAttr, sw0]
 refine OW.nil (hK _ ?_)
 refine a5 ?_
 refine a0 fun K hK => OW.run [6] ?_
 simp only [go_sem, simprocAttr, sw0]
 refine OW.nil (hK _ ?_)
 refine f4 ?_
 change PW.Ends _ _ _ _ _ _
 refine PW.Ends.intro (.inr rfl) ?_
 simp only [go_sem, simprocAttr, sw0]
 obtain rfl := Option.some.inj H
 refine a6 4 (by exact trivial) ?_
 rfl

theorem f5 (N : Nat) (is_ : Bool) (e : Int) (r : Int) (H : f6 N is_ e = some r) : CallOK Try.prog 90 [(Bo is_), (I e)] (.d (I r)) [] := by
 refine d3 Try.func90 rfl (by rw [Try.results90]) Try.ntmps90 Try.call90 ?_
 change PW _ _ _ _ _
 try simp only [go_sem, simprocAttr]
 unfold f6 at H
 refine a5 ?_
 refine a0 fun K hK => OW.run [0, 1] ?_
 simp only [go_sem, simprocAttr, sw0]
 refine OW.nil (hK _ ?_)
 refine a5 ?_
 refine a5 ?_
 refine a0 fun K hK => OW.run [1, 5] ?_
 simp only [go_sem, simprocAttr, sw0]
 refine OW.nil (hK _ ?_)
 refine d9 rfl (fun h1 => ?_) (fun h1 => ?_)
 replace H := k7 h1 H
 refine a5 ?_
 refine a0 fun K hK => OW.run [4] ?_
 simp only [go_sem, simprocAttr, sw0]
 refine OW.nil (hK _ ?_)
 refine f4 ?_
 change PW.Ends _ _ _ _ _ _
 refine PW.Ends.intro (.inr rfl) ?_
 simp only [go_sem, simprocAttr, sw0]
 obtain rfl := Option.some.inj H
 refine a6 4 (by exact trivial) ?_
 rfl
 replace H := k8 h1 H
 refine f0 ?_
 refine a5 ?_
 refine a0 fun K hK => OW.run [4] ?_
 simp only [go_sem, simprocAttr, sw0]
 refine OW.nil (hK _ ?_)
 refine f4 ?_
 change PW.Ends _ _ _ _ _ _
 refine PW.Ends.intro (.inr rfl) ?_
 simp only [go_sem, simprocAttr, sw0]
 obtain rfl := Option.some.inj H
 refine a6 4 (by exact trivial) ?_
 rfl

theorem j9 (N : Nat) (l : List Int) (r : Int) (H : sched_first N l = some r) : CallOK Try.prog 88 [(L l)] (.d (I r)) [] := by
 refine d3 Try.func88 rfl (by rw [Try.results88]) Try.ntmps88 Try.call88 ?_
 change PW _ _ _ _ _
 try simp only [go_sem, simprocAttr]
 unfold sched_first at H
 refine a5 ?_
 refine a0 fun K hK => OW.run [0] ?_
 simp only [go_sem, simprocAttr, sw0]
 refine OW.nil (hK _ ?_)
 refine i4 (τ := Unit) [] 0 (fun _ => []) (fun _ => []) _ _ r (by exact Nat.le_refl _) H ?_ ?_
 intro K_ H N1 hN1
 refine a5 ?_
 refine a0 fun K hK => OW.run [5, 6, 7] ?_
 simp only [go_sem, simprocAttr, sw0]
 refine OW.nil (hK _ ?_)
 refine PW.block ?_
 refine i8 (σ := Int) [5, 6, 7] 0 (fun t7 => [(7, .d (I t7))]) (fun t7 => []) (sched_first.b1 N l K_) r N (0 : Int) (by exact Nat.le_refl _) H (by (simp only [sw1, go_sem, simprocAttr]; done)) ?_
 rintro n t7 H N2 hN2
 unfold sched_first.b1 at H
 try simp only [go_sem, simprocAttr]
 refine a5 ?_
 refine a0 fun K hK => OW.run [5, 6, 7, 8] ?_
 simp only [go_sem, simprocAttr, sw0]
 refine OW.nil (hK _ ?_)
 refine a5 ?_
 refine d9 rfl (fun h3 => ?_) (fun h3 => ?_)
 replace H := k7 h3 H
 refine f0 ?_
 refine a5 ?_
 refine PW.block ?_
 refine a5 ?_
 obtain ⟨c4, H⟩ := d7 H
 refine a0 fun K hK => OW.run [4, 5, 6, 7] ?_
 simp only [go_sem, simprocAttr, sw0]
 repeat (refine And.intro (by omega) ?_)
 refine OW.nil (hK _ ?_)
 refine a5 ?_
 refine a0 fun K hK => OW.run [4, 5, 6, 7, 12] ?_
 simp only [go_sem, simprocAttr, sw0]
 refine OW.nil (hK _ ?_)
 refine d9 rfl (fun h5 => ?_) (fun h5 => ?_)
 replace H := k7 h5 H
 refine a5 ?_
 refine a0 fun K hK => OW.run [2] ?_
 simp only [go_sem, simprocAttr, sw0]
 refine OW.nil (hK _ ?_)
 refine f4 ?_
 change PW.Ends _ _ _ _ _ _
 refine PW.Ends.intro (.inr rfl) ?_
 simp only [go_sem, simprocAttr, sw0]
 obtain rfl := Option.some.inj H
 refine a6 4 (by exact trivial) ?_
 rfl
 replace H := k8 h5 H
 refine f0 ?_
 refine a0 fun K hK => OW.run [5, 6, 7] ?_
 simp only [go_sem, simprocAttr, sw0]
 refine OW.nil (hK _ ?_)
 refine hN2 [] (w64 (t7 + (1 : Int))) _ H (by exact trivial) ?_
 simp only [sw1, go_sem, simprocAttr]
 replace H := k8 h3 H
 refine j3 ?_
 refine hN1 [] () _ H (by exact trivial) ?_
 simp only [sw1, go_sem, simprocAttr]
 rintro _ H
 try simp only [go_sem, simprocAttr]
 refine a5 ?_
 refine a0 fun K hK => OW.run [2] ?_
 simp only [go_sem, simprocAttr, sw0]
 refine OW.nil (hK _ ?_)
 refine f4 ?_
 change PW.Ends _ _ _ _ _ _
 refine PW.Ends.intro (.inr rfl) ?_
 simp only [go_sem, simprocAttr, sw0]
 obtain rfl := Option.some.inj H
 refine a6 4 (by exact trivial) ?_
 rfl

theorem sched_CheckSite_ok (N : Nat) (Zq : Int) (Zr : Int) (Zs : Int) (Zx : List Int) (r : Int) (H : sched_CheckSite N Zq Zr Zs Zx = some r) : CallOK Try.prog 65 [(.agg [(I Zq), (I Zr), (I Zs), (L Zx)])] (.d (I r)) [] := by
 refine d3 Try.func65 rfl (by rw [Try.results65]) Try.ntmps65 Try.call65 ?_
 change PW _ _ _ _ _
 try simp only [go_sem, simprocAttr]
 unfold sched_CheckSite at H
 refine a5 ?_
 refine a0 fun K hK => OW.run [1] ?_
 simp only [go_sem, simprocAttr, sw0]
 refine OW.nil (hK _ ?_)
 refine a5 ?_
 obtain ⟨x1, e1, H⟩ := a8 H
 obtain ⟨x2, e2, H⟩ := a8 H
 obtain ⟨x3, e3, H⟩ := a8 H
 obtain ⟨x4, e4, H⟩ := a8 H
 obtain ⟨x5, e5, H⟩ := a8 H
 obtain ⟨x6, e6, H⟩ := a8 H
 obtain ⟨x7, e7, H⟩ := a8 H
 refine j0 23 n9 (by kernel_rfl) fun K hK => ?_
 change FW _ _ _ _ _
 refine FW.run ?_
 simp only [go_sem, simprocAttr, sw0]
 repeat (refine And.intro (by omega) ?_)
 refine l0 4 rfl rfl rfl (by ((simp only [go_sem, List.toList_toArray, simprocAttr]); exact rfl)) ?_ (f7 N _ _ _ _ e1) ?_ ?_ ?_ ?_
 rfl
 exact d8 rfl
 exact .inl rfl
 (simp only [go_sem, Nat.reduceLT])
 refine FW.run ?_
 simp only [go_sem, simprocAttr, sw0]
 repeat (refine And.intro (by omega) ?_)
 refine v4 4 rfl rfl ?_ (fun hg => by first | rfl | (simp only [go_sem, ↓reduceIte]; rfl)) (fun hg => by ((simp only [go_sem, List.toList_toArray, simprocAttr]); exact rfl)) (fun hg => ?_) (fun hg => (f7 N _ _ _ _ (p8 hg e2))) ?_ ?_ ?_ ?_
 simp only [go_sem, simprocAttr]
 rfl
 exact d8 rfl
 exact .inl rfl
 (simp only [go_sem, Nat.reduceLT])
 refine FW.run ?_
 simp only [go_sem, simprocAttr, sw0]
 repeat (refine And.intro (by omega) ?_)
 refine v4 4 rfl rfl ?_ (fun hg => by first | rfl | (simp only [go_sem, ↓reduceIte]; rfl)) (fun hg => by ((simp only [go_sem, List.toList_toArray, simprocAttr]); exact rfl)) (fun hg => ?_) (fun hg => (f7 N _ _ _ _ (p8 hg e3))) ?_ ?_ ?_ ?_
 simp only [go_sem, simprocAttr]
 rfl
 exact d8 rfl
 exact .inl rfl
 (simp only [go_sem, Nat.reduceLT])
 refine FW.run ?_
 simp only [go_sem, simprocAttr, sw0]
 refine l0 4 rfl rfl rfl (by ((simp only [go_sem, List.toList_toArray, simprocAttr]); exact rfl)) ?_ (f5 N _ _ _ e4) ?_ ?_ ?_ ?_
 rfl
 exact d8 rfl
 exact .inl rfl
 (simp only [go_sem, Nat.reduceLT])
 refine FW.run ?_
 simp only [go_sem, simprocAttr, sw0]
 repeat (refine And.intro (by omega) ?_)
 refine l0 4 rfl rfl rfl (by ((simp only [go_sem, List.toList_toArray, simprocAttr]); exact rfl)) ?_ (f5 N _ _ _ e5) ?_ ?_ ?_ ?_
 rfl
 exact d8 rfl
 exact .inl rfl
 (simp only [go_sem, Nat.reduceLT])
 refine FW.run ?_
 simp only [go_sem, simprocAttr, sw0]
 repeat (refine And.intro (by omega) ?_)
 refine FW.nil ?_
 change OW _ _ _ _ _ _
 refine OW.run [1, 3] ?_
 simp only [go_sem, simprocAttr, sw0]
 refine d5 4 rfl rfl rfl (by ((simp only [go_sem, List.toList_toArray, simprocAttr]); exact rfl)) ?_ (f5 N _ _ _ e6) ?_ ?_ ?_ ?_
 rfl
 exact d8 rfl
 exact .inl rfl
 (simp only [go_sem, Nat.reduceLT])
 refine OW.run [1, 3] ?_
 simp only [go_sem, simprocAttr, sw0]
 refine d5 4 rfl rfl rfl (by ((simp only [go_sem, List.toList_toArray, simprocAttr]); exact rfl)) ?_ (j9 N _ _ e7) ?_ ?_ ?_ ?_
 rfl
 · (refine a7 ?_; (simp only [go_sem, sw2, List.length_set, List.length_replicate, and_true, true_and, Nat.le_refl, simprocAttr]; simp only [seg, go_sem, sw2, List.length_set, List.length_replicate, and_true, true_and, Nat.le_refl, simprocAttr]; done))
 exact .inr ⟨rfl, rfl⟩
 (simp only [go_sem, Nat.reduceLT])
 refine OW.run [1, 3] ?_
 simp only [go_sem, simprocAttr, sw0]
 refine OW.nil (hK _ ?_)
 refine a5 ?_
 refine a5 ?_
 refine a0 fun K hK => OW.run [1, 3, 35] ?_
 simp only [go_sem, simprocAttr, sw0]
 refine OW.nil (hK _ ?_)
 refine d9 rfl (fun h1 => ?_) (fun h1 => ?_)
 replace H := k7 h1 H
 refine a5 ?_
 refine a0 fun K hK => OW.run [2] ?_
 simp only [go_sem, simprocAttr, sw0]
 refine OW.nil (hK _ ?_)
 refine f4 ?_
 change PW.Ends _ _ _ _ _ _
 refine PW.Ends.intro (.inr rfl) ?_
 simp only [go_sem, simprocAttr, sw0]
 obtain rfl := Option.some.inj H
 refine a6 4 (by exact trivial) ?_
 rfl
 replace H := k8 h1 H
 refine f0 ?_
 refine a5 ?_
 refine a0 fun K hK => OW.run [1, 4] ?_
 simp only [go_sem, simprocAttr, sw0]
 refine OW.nil (hK _ ?_)
 refine i4 (τ := Unit) [] 0 (fun _ => []) (fun _ => []) _ _ r (by exact Nat.le_refl _) H ?_ ?_
 intro K_ H N2 hN2
 refine a5 ?_
 refine a0 fun K hK => OW.run [4, 38, 39, 40] ?_
 simp only [go_sem, simprocAttr, sw0]
 repeat (refine And.intro (by omega) ?_)
 refine OW.nil (hK _ ?_)
 refine PW.block ?_
 refine i8 (σ := Int × Int) [4, 38, 39, 40] 2 (fun (before, t40) => [(4, .d (I before)), (40, .d (I t40))]) (fun (before, t40) => [{ cells := [.d (I Zq), .d (I Zr), .d (I Zs), .d (L Zx)], e := 24 }, { cells := [.d (I x4), .d (I x5), .d (I x6)], e := 33 }]) (sched_CheckSite.b1 N Zx K_) r N ((0 : Int), (0 : Int)) (by exact Nat.zero_le _) H (by (simp only [sw1, go_sem, simprocAttr]; done)) ?_
 rintro n ⟨before, t40⟩ H N3 hN3
 unfold sched_CheckSite.b1 at H
 try simp only [go_sem, simprocAttr]
 refine a5 ?_
 refine a0 fun K hK => OW.run [4, 38, 39, 40, 41] ?_
 simp only [go_sem, simprocAttr, sw0]
 refine OW.nil (hK _ ?_)
 refine a5 ?_
 refine d9 rfl (fun h4 => ?_) (fun h4 => ?_)
 replace H := k7 h4 H
 refine f0 ?_
 refine a5 ?_
 refine PW.block ?_
 refine a5 ?_
 obtain ⟨c5, H⟩ := d7 H
 refine a0 fun K hK => OW.run [4, 6, 38, 39, 40] ?_
 simp only [go_sem, simprocAttr, sw0]
 repeat (refine And.intro (by omega) ?_)
 refine OW.nil (hK _ ?_)
 refine a5 ?_
 refine a5 ?_
 obtain ⟨x8, e8, H⟩ := a8 H
 obtain ⟨x9, e9, H⟩ := a8 H
 obtain ⟨x10, e10, H⟩ := a8 H
 obtain ⟨x11, e11, H⟩ := a8 H
 refine a0 fun K hK => OW.run [6, 7, 38, 39, 40] ?_
 simp only [go_sem, simprocAttr, sw0]
 refine d5 4 rfl rfl rfl (by ((simp only [go_sem, List.toList_toArray, simprocAttr]); exact rfl)) ?_ (f7 N _ _ _ _ e8) ?_ ?_ ?_ ?_
 rfl
 exact d8 rfl
 exact .inl rfl
 (simp only [go_sem, Nat.reduceLT])
 refine OW.run [6, 7, 38, 39, 40] ?_
 simp only [go_sem, simprocAttr, sw0]
 refine d5 4 rfl rfl rfl (by ((simp only [go_sem, List.toList_toArray, simprocAttr]); exact rfl)) ?_ (f5 N _ _ _ e9) ?_ ?_ ?_ ?_
 rfl
 exact d8 rfl
 exact .inl rfl
 (simp only [go_sem, Nat.reduceLT])
 refine OW.run [6, 7, 38, 39, 40] ?_
 simp only [go_sem, simprocAttr, sw0]
 refine d5 4 rfl rfl rfl (by ((simp only [go_sem, List.toList_toArray, simprocAttr]); exact rfl)) ?_ (f5 N _ _ _ e10) ?_ ?_ ?_ ?_
 rfl
 exact d8 rfl
 exact .inl rfl
 (simp only [go_sem, Nat.reduceLT])
 refine OW.run [6, 7, 38, 39, 40] ?_
 simp only [go_sem, simprocAttr, sw0]
 refine d5 4 rfl rfl rfl (by ((simp only [go_sem, List.toList_toArray, simprocAttr]); exact rfl)) ?_ (j9 N _ _ e11) ?_ ?_ ?_ ?_
 rfl
 · (refine a7 ?_; (simp only [go_sem, sw2, List.length_set, List.length_replicate, and_true, true_and, Nat.le_refl, simprocAttr]; simp only [seg, go_sem, sw2, List.length_set, List.length_replicate, and_true, true_and, Nat.le_refl, simprocAttr]; done))
 exact .inr ⟨rfl, rfl⟩
 (simp only [go_sem, Nat.reduceLT])
 refine OW.run [6, 7, 38, 39, 40] ?_
 simp only [go_sem, simprocAttr, sw0]
 refine OW.nil (hK _ ?_)
 refine a5 ?_
 refine a0 fun K hK => OW.run [6, 7, 38, 39, 40, 54] ?_
 simp only [go_sem, simprocAttr, sw0]
 refine OW.nil (hK _ ?_)
 refine d9 rfl (fun h6 => ?_) (fun h6 => ?_)
 replace H := k7 h6 H
 refine a5 ?_
 refine a0 fun K hK => OW.run [2] ?_
 simp only [go_sem, simprocAttr, sw0]
 refine OW.nil (hK _ ?_)
 refine f4 ?_
 change PW.Ends _ _ _ _ _ _
 refine PW.Ends.intro (.inr rfl) ?_
 simp only [go_sem, simprocAttr, sw0]
 obtain rfl := Option.some.inj H
 refine a6 4 (by exact trivial) ?_
 rfl
 replace H := k8 h6 H
 refine f0 ?_
 refine a0 fun K hK => OW.run [4, 38, 39, 40] ?_
 simp only [go_sem, simprocAttr, sw0]
 refine OW.nil (hK _ ?_)
 refine a0 fun K hK => OW.run [4, 38, 39, 40] ?_
 simp only [go_sem, simprocAttr, sw0]
 refine OW.nil (hK _ ?_)
 refine hN3 [] ((Zx.getD t40.toNat 0), w64 (t40 + (1 : Int))) _ H (by exact trivial) ?_
 simp only [sw1, go_sem, simprocAttr]
 replace H := k8 h4 H
 refine j3 ?_
 refine hN2 [] () _ H (by exact trivial) ?_
 simp only [sw1, go_sem, simprocAttr]
 rintro _ H
 try simp only [go_sem, simprocAttr]
 refine a5 ?_
 refine a0 fun K hK => OW.run [2] ?_
 simp only [go_sem, simprocAttr, sw0]
 refine OW.nil (hK _ ?_)
 refine f4 ?_
 change PW.Ends _ _ _ _ _ _
 refine PW.Ends.intro (.inr rfl) ?_
 simp only [go_sem, simprocAttr, sw0]
 obtain rfl := Option.some.inj H
 refine a6 4 (by exact trivial) ?_
 rfl

theorem sched_open_ok (N : Nat) (Zq : Int) (Zr : Int) (Zs : Int) (Zx : List Int) (r : Int × Int × Int × List Int × Int) (H : sched_open N Zq Zr Zs Zx = some r) : CallOK Try.prog 101 [(.agg [(I Zq), (I Zr), (I Zs), (L Zx)])] (.d (.tup [(.agg [(I r.1), (I r.2.1), (I r.2.2.1), (L r.2.2.2.1)]), (I r.2.2.2.2)])) [] := by
 refine d3 Try.func101 rfl (by rw [Try.results101]) Try.ntmps101 Try.call101 ?_
 change PW _ _ _ _ _
 try simp only [go_sem, simprocAttr]
 unfold sched_open at H
 refine a5 ?_
 refine a0 fun K hK => OW.run [1, 2] ?_
 simp only [go_sem, simprocAttr, sw0]
 refine OW.nil (hK _ ?_)
 refine a5 ?_
 obtain ⟨x1, e1, H⟩ := a8 H
 refine j0 4 n9 (by kernel_rfl) fun K hK => ?_
 change FW _ _ _ _ _
 refine FW.run ?_
 simp only [go_sem, simprocAttr, sw0]
 refine l0 4 rfl rfl rfl (by ((simp only [go_sem, List.toList_toArray, simprocAttr]); exact rfl)) ?_ (sched_CheckSite_ok N _ _ _ _ _ e1) ?_ ?_ ?_ ?_
 rfl
 · (refine a7 ?_; (simp only [go_sem, sw2, List.length_set, List.length_replicate, and_true, true_and, Nat.le_refl, simprocAttr]; done))
 exact .inl rfl
 (simp only [go_sem, Nat.reduceLT])
 refine FW.run ?_
 simp only [go_sem, simprocAttr, sw0]
 refine FW.nil ?_
 change OW _ _ _ _ _ _
 refine OW.run [2, 3] ?_
 simp only [go_sem, simprocAttr, sw0]
 refine OW.nil (hK _ ?_)
 refine f4 ?_
 change PW.Ends _ _ _ _ _ _
 refine PW.Ends.intro (.inr rfl) ?_
 simp only [go_sem, simprocAttr, sw0]
 obtain rfl := Option.some.inj H
 refine a6 4 (by (refine a7 ?_; (simp only [go_sem, sw2, List.length_set, List.length_replicate, and_true, true_and, Nat.le_refl, simprocAttr]; done))) ?_
 rfl

theorem sched_isName_ok (N : Nat) (s : ByteArray) (r : Bool) (H : sched_isName N s = some r) : CallOK Try.prog 135 [(Sx s)] (.d (Bo r)) [] := by
 refine d3 Try.func135 rfl (by rw [Try.results135]) Try.ntmps135 Try.call135 ?_
 change PW _ _ _ _ _
 try simp only [go_sem, simprocAttr]
 unfold sched_isName at H
 refine a5 ?_
 refine a0 fun K hK => OW.run [0] ?_
 simp only [go_sem, simprocAttr, sw0]
 refine OW.nil (hK _ ?_)
 refine i4 (τ := Unit) [0] 0 (fun _ => []) (fun _ => []) _ _ r (by exact Nat.le_refl _) H ?_ ?_
 intro K_ H N1 hN1
 refine a5 ?_
 refine a0 fun K hK => ?_
 refine A8 rfl ?_
 simp only [go_sem, simprocAttr, sw0]
 refine OW.bytes rfl rfl Try.underlying9 Try.underlying208 Try.underlying5 rfl (by (simp only [go_sem, Nat.reduceLT])) ?_
 refine OW.run [0, 7, 8, 9] ?_
 simp only [go_sem, simprocAttr, sw0]
 refine OW.nil (hK _ ?_)
 refine PW.block ?_
 refine i8 (σ := Int) [0, 7, 8, 9] 0 (fun t9 => [(9, .d (I t9))]) (fun t9 => []) (sched_isName.b1 N s K_) r N (0 : Int) (by exact Nat.le_refl _) H (by (simp only [sw1, go_sem, simprocAttr]; done)) ?_
 rintro n t9 H N2 hN2
 unfold sched_isName.b1 at H
 try simp only [go_sem, simprocAttr]
 refine a5 ?_
 refine a0 fun K hK => OW.run [0, 7, 8, 9, 10] ?_
 simp only [go_sem, simprocAttr, sw0]
 refine OW.nil (hK _ ?_)
 refine a5 ?_
 refine d9 rfl (fun h3 => ?_) (fun h3 => ?_)
 replace H := k7 h3 H
 refine f0 ?_
 refine a5 ?_
 refine PW.block ?_
 refine a5 ?_
 obtain ⟨c4, H⟩ := d7 H
 refine a0 fun K hK => OW.run [0, 3, 4, 7, 8, 9] ?_
 (simp only [go_sem, simprocAttr, sw0, j1 (fun (x : Int) => (.val (.int .u8 x))) (i5 s) t9.toNat 0 (by omega)])
 repeat (refine And.intro (by omega) ?_)
 refine OW.nil (hK _ ?_)
 refine a5 ?_
 refine a0 fun K hK => ?_
 refine OW.toS [(0, .d (Sx s)), (3, .d (I t9)), (4, .d (.val (.int .u8 ((i5 s).getD t9.toNat 0)))), (5, .d (Bo (((decide (((i5 s).getD t9.toNat 0) ≥ (97 : Int))) && (decide (((i5 s).getD t9.toNat 0) ≤ (122 : Int)))) || ((decide (((i5 s).getD t9.toNat 0) ≥ (65 : Int))) && (decide (((i5 s).getD t9.toNat 0) ≤ (90 : Int))))))), (7, .d (.list (i5 s).length ((i5 s).map (fun (x : Int) => (.val (.int .u8 x)))))), (8, .d (I ((i5 s).length : Int))), (9, .d (I t9))] [] ?_ (hK _ ?_)
 intro K hKE
 rcases Bool.eq_false_or_eq_true ((decide (((i5 s).getD t9.toNat 0) ≥ (97 : Int)))) with ha0 | ha0
 rcases Bool.eq_false_or_eq_true ((decide (((i5 s).getD t9.toNat 0) ≤ (122 : Int)))) with ha1 | ha1
 refine OW.run [0, 3, 4, 5, 7, 8, 9] ?_
 (simp only [go_sem, simprocAttr, sw0, ha0, ha1])
 refine OW.nil ((congrArg K ?_).mpr hKE)
 · (first | rfl | (simp only [go_sem, simprocAttr, ha0, ha1]; done) | (simp only [go_sem, simprocAttr, ha0, ha1]; rfl))
 rcases Bool.eq_false_or_eq_true ((decide (((i5 s).getD t9.toNat 0) ≥ (65 : Int)))) with ha2 | ha2
 refine OW.run [0, 3, 4, 5, 7, 8, 9] ?_
 (simp only [go_sem, simprocAttr, sw0, ha0, ha1, ha2])
 refine OW.nil ((congrArg K ?_).mpr hKE)
 · (first | rfl | (simp only [go_sem, simprocAttr, ha0, ha1, ha2]; done) | (simp only [go_sem, simprocAttr, ha0, ha1, ha2]; rfl))
 refine OW.run [0, 3, 4, 5, 7, 8, 9] ?_
 (simp only [go_sem, simprocAttr, sw0, ha0, ha1, ha2])
 refine OW.nil ((congrArg K ?_).mpr hKE)
 · (first | rfl | (simp only [go_sem, simprocAttr, ha0, ha1, ha2]; done) | (simp only [go_sem, simprocAttr, ha0, ha1, ha2]; rfl))
 rcases Bool.eq_false_or_eq_true ((decide (((i5 s).getD t9.toNat 0) ≤ (122 : Int)))) with ha1 | ha1
 rcases Bool.eq_false_or_eq_true ((decide (((i5 s).getD t9.toNat 0) ≥ (65 : Int)))) with ha2 | ha2
 refine OW.run [0, 3, 4, 5, 7, 8, 9] ?_
 (simp only [go_sem, simprocAttr, sw0, ha0, ha1, ha2])
 refine OW.nil ((congrArg K ?_).mpr hKE)
 · (first | rfl | (simp only [go_sem, simprocAttr, ha0, ha1, ha2]; done) | (simp only [go_sem, simprocAttr, ha0, ha1, ha2]; rfl))
 refine OW.run [0, 3, 4, 5, 7, 8, 9] ?_
 (simp only [go_sem, simprocAttr, sw0, ha0, ha1, ha2])
 refine OW.nil ((congrArg K ?_).mpr hKE)
 · (first | rfl | (simp only [go_sem, simprocAttr, ha0, ha1, ha2]; done) | (simp only [go_sem, simprocAttr, ha0, ha1, ha2]; rfl))
 rcases Bool.eq_false_or_eq_true ((decide (((i5 s).getD t9.toNat 0) ≥ (65 : Int)))) with ha2 | ha2
 refine OW.run [0, 3, 4, 5, 7, 8, 9] ?_
 (simp only [go_sem, simprocAttr, sw0, ha0, ha1, ha2])
 refine OW.nil ((congrArg K ?_).mpr hKE)
 · (first | rfl | (simp only [go_sem, simprocAttr, ha0, ha1, ha2]; done) | (simp only [go_sem, simprocAttr, ha0, ha1, ha2]; rfl))
 refine OW.run [0, 3, 4, 5, 7, 8, 9] ?_
 (simp only [go_sem, simprocAttr, sw0, ha0, ha1, ha2])
 refine OW.nil ((congrArg K ?_).mpr hKE)
 · (first | rfl | (simp only [go_sem, simprocAttr, ha0, ha1, ha2]; done) | (simp only [go_sem, simprocAttr, ha0, ha1, ha2]; rfl))
 clear hK K
 refine a5 ?_
 refine a0 fun K hK => ?_
 refine OW.toS [(0, .d (Sx s)), (7, .d (.list (i5 s).length ((i5 s).map (fun (x : Int) => (.val (.int .u8 x)))))), (8, .d (I ((i5 s).length : Int))), (9, .d (I t9)), (45, .d (Bo ((!(((decide (((i5 s).getD t9.toNat 0) ≥ (97 : Int))) && (decide (((i5 s).getD t9.toNat 0) ≤ (122 : Int)))) || ((decide (((i5 s).getD t9.toNat 0) ≥ (65 : Int))) && (decide (((i5 s).getD t9.toNat 0) ≤ (90 : Int)))))) && ((t9 == (0 : Int)) || ((((i5 s).getD t9.toNat 0) != (45 : Int)) && ((decide (((i5 s).getD t9.toNat 0) < (48 : Int))) || (decide (((i5 s).getD t9.toNat 0) > (57 : Int)))))))))] [] ?_ (hK _ ?_)
 intro K hKE
 rcases Bool.eq_false_or_eq_true ((decide (((i5 s).getD t9.toNat 0) ≥ (97 : Int)))) with ha0 | ha0
 rcases Bool.eq_false_or_eq_true ((decide (((i5 s).getD t9.toNat 0) ≤ (122 : Int)))) with ha1 | ha1
 refine OW.run [0, 7, 8, 9, 45] ?_
 (simp only [go_sem, simprocAttr, sw0, ha0, ha1])
 refine OW.nil ((congrArg K ?_).mpr hKE)
 · (first | rfl | (simp only [go_sem, simprocAttr, ha0, ha1]; done) | (simp only [go_sem, simprocAttr, ha0, ha1]; rfl))
 rcases Bool.eq_false_or_eq_true ((decide (((i5 s).getD t9.toNat 0) ≥ (65 : Int)))) with ha2 | ha2
 rcases Bool.eq_false_or_eq_true ((decide (((i5 s).getD t9.toNat 0) ≤ (90 : Int)))) with ha3 | ha3
 refine OW.run [0, 7, 8, 9, 45] ?_
 (simp only [go_sem, simprocAttr, sw0, ha0, ha1, ha2, ha3])
 refine OW.nil ((congrArg K ?_).mpr hKE)
 · (first | rfl | (simp only [go_sem, simprocAttr, ha0, ha1, ha2, ha3]; done) | (simp only [go_sem, simprocAttr, ha0, ha1, ha2, ha3]; rfl))
 rcases Bool.eq_false_or_eq_true ((t9 == (0 : Int))) with ha4 | ha4
 refine OW.run [0, 7, 8, 9, 45] ?_
 (simp only [go_sem, simprocAttr, sw0, ha0, ha1, ha2, ha3, ha4])
 refine OW.nil ((congrArg K ?_).mpr hKE)
 · (first | rfl | (simp only [go_sem, simprocAttr, ha0, ha1, ha2, ha3, ha4]; done) | (simp only [go_sem, simprocAttr, ha0, ha1, ha2, ha3, ha4]; rfl))
 rcases Bool.eq_false_or_eq_true ((((i5 s).getD t9.toNat 0) != (45 : Int))) with ha5 | ha5
 rcases Bool.eq_false_or_eq_true ((decide (((i5 s).getD t9.toNat 0) < (48 : Int)))) with ha6 | ha6
 refine OW.run [0, 7, 8, 9, 45] ?_
 (simp only [go_sem, simprocAttr, sw0, ha0, ha1, ha2, ha3, ha4, ha5, ha6])
 refine OW.nil ((congrArg K ?_).mpr hKE)
 · (first | rfl | (simp only [go_sem, simprocAttr, ha0, ha1, ha2, ha3, ha4, ha5, ha6]; done) | (simp only [go_sem, simprocAttr, ha0, ha1, ha2, ha3, ha4, ha5, ha6]; rfl))
 refine OW.run [0, 7, 8, 9, 45] ?_
 (simp only [go_sem, simprocAttr, sw0, ha0, ha1, ha2, ha3, ha4, ha5, ha6])
 refine OW.nil ((congrArg K ?_).mpr hKE)
 · (first | rfl | (simp only [go_sem, simprocAttr, ha0, ha1, ha2, ha3, ha4, ha5, ha6]; done) | (simp only [go_sem, simprocAttr, ha0, ha1, ha2, ha3, ha4, ha5, ha6]; rfl))
 refine OW.run [0, 7, 8, 9, 45] ?_
 (simp only [go_sem, simprocAttr, sw0, ha0, ha1, ha2, ha3, ha4, ha5])
 refine OW.nil ((congrArg K ?_).mpr hKE)
 · (first | rfl | (simp only [go_sem, simprocAttr, ha0, ha1, ha2, ha3, ha4, ha5]; done) | (simp only [go_sem, simprocAttr, ha0, ha1, ha2, ha3, ha4, ha5]; rfl))
 rcases Bool.eq_false_or_eq_true ((decide (((i5 s).getD t9.toNat 0) ≤ (90 : Int)))) with ha3 | ha3
 rcases Bool.eq_false_or_eq_true ((t9 == (0 : Int))) with ha4 | ha4
 refine OW.run [0, 7, 8, 9, 45] ?_
 (simp only [go_sem, simprocAttr, sw0, ha0, ha1, ha2, ha3, ha4])
 refine OW.nil ((congrArg K ?_).mpr hKE)
 · (first | rfl | (simp only [go_sem, simprocAttr, ha0, ha1, ha2, ha3, ha4]; done) | (simp only [go_sem, simprocAttr, ha0, ha1, ha2, ha3, ha4]; rfl))
 rcases Bool.eq_false_or_eq_true ((((i5 s).getD t9.toNat 0) != (45 : Int))) with ha5 | ha5
 rcases Bool.eq_false_or_eq_true ((decide (((i5 s).getD t9.toNat 0) < (48 : Int)))) with ha6 | ha6
 refine OW.run [0, 7, 8, 9, 45] ?_
 (simp only [go_sem, simprocAttr, sw0, ha0, ha1, ha2, ha3, ha4, ha5, ha6])
 refine OW.nil ((congrArg K ?_).mpr hKE)
 · (first | rfl | (simp only [go_sem, simprocAttr, ha0, ha1, ha2, ha3, ha4, ha5, ha6]; done) | (simp only [go_sem, simprocAttr, ha0, ha1, ha2, ha3, ha4, ha5, ha6]; rfl))
 refine OW.run [0, 7, 8, 9, 45] ?_
 (simp only [go_sem, simprocAttr, sw0, ha0, ha1, ha2, ha3, ha4, ha5, ha6])
 refine OW.nil ((congrArg K ?_).mpr hKE)
 · (first | rfl | (simp only [go_sem, simprocAttr, ha0, ha1, ha2, ha3, ha4, ha5, ha6]; done) | (simp only [go_sem, simprocAttr, ha0, ha1, ha2, ha3, ha4, ha5, ha6]; rfl))
 refine OW.run [0, 7, 8, 9, 45] ?_
 (simp only [go_sem, simprocAttr, sw0, ha0, ha1, ha2, ha3, ha4, ha5])
 refine OW.nil ((congrArg K ?_).mpr hKE)
 · (first | rfl | (simp only [go_sem, simprocAttr, ha0, ha1, ha2, ha3, ha4, ha5]; done) | (simp only [go_sem, simprocAttr, ha0, ha1, ha2, ha3, ha4, ha5]; rfl))
 rcases Bool.eq_false_or_eq_true ((t9 == (0 : Int))) with ha4 | ha4
 refine OW.run [0, 7, 8, 9, 45] ?_
 (simp only [go_sem, simprocAttr, sw0, ha0, ha1, ha2, ha3, ha4])
 refine OW.nil ((congrArg K ?_).mpr hKE)
 · (first | rfl | (simp only [go_sem, simprocAttr, ha0, ha1, ha2, ha3, ha4]; done) | (simp only [go_sem, simprocAttr, ha0, ha1, ha2, ha3, ha4]; rfl))
 rcases Bool.eq_false_or_eq_true ((((i5 s).getD t9.toNat 0) != (45 : Int))) with ha5 | ha5
 rcases Bool.eq_false_or_eq_true ((decide (((i5 s).getD t9.toNat 0) < (48 : Int)))) with ha6 | ha6
 refine OW.run [0, 7, 8, 9, 45] ?_
 (simp only [go_sem, simprocAttr, sw0, ha0, ha1, ha2, ha3, ha4, ha5, ha6])
 refine OW.nil ((congrArg K ?_).mpr hKE)
 · (first | rfl | (simp only [go_sem, simprocAttr, ha0, ha1, ha2, ha3, ha4, ha5, ha6]; done) | (simp only [go_sem, simprocAttr, ha0, ha1, ha2, ha3, ha4, ha5, ha6]; rfl))
 refine OW.run [0, 7, 8, 9, 45] ?_
 (simp only [go_sem, simprocAttr, sw0, ha0, ha1, ha2, ha3, ha4, ha5, ha6])
 refine OW.nil ((congrArg K ?_).mpr hKE)
 · (first | rfl | (simp only [go_sem, simprocAttr, ha0, ha1, ha2, ha3, ha4, ha5, ha6]; done) | (simp only [go_sem, simprocAttr, ha0, ha1, ha2, ha3, ha4, ha5, ha6]; rfl))
 refine OW.run [0, 7, 8, 9, 45] ?_
 (simp only [go_sem, simprocAttr, sw0, ha0, ha1, ha2, ha3, ha4, ha5])
 refine OW.nil ((congrArg K ?_).mpr hKE)
 · (first | rfl | (simp only [go_sem, simprocAttr, ha0, ha1, ha2, ha3, ha4, ha5]; done) | (simp only [go_sem, simprocAttr, ha0, ha1, ha2, ha3, ha4, ha5]; rfl))
 rcases Bool.eq_false_or_eq_true ((decide (((i5 s).getD t9.toNat 0) ≤ (122 : Int)))) with ha1 | ha1
 rcases Bool.eq_false_or_eq_true ((decide (((i5 s).getD t9.toNat 0) ≥ (65 : Int)))) with ha2 | ha2
 rcases Bool.eq_false_or_eq_true ((decide (((i5 s).getD t9.toNat 0) ≤ (90 : Int)))) with ha3 | ha3
 refine OW.run [0, 7, 8, 9, 45] ?_
 (simp only [go_sem, simprocAttr, sw0, ha0, ha1, ha2, ha3])
 refine OW.nil ((congrArg K ?_).mpr hKE)
 · (first | rfl | (simp only [go_sem, simprocAttr, ha0, ha1, ha2, ha3]; done) | (simp only [go_sem, simprocAttr, ha0, ha1, ha2, ha3]; rfl))
 rcases Bool.eq_false_or_eq_true ((t9 == (0 : Int))) with ha4 | ha4
 refine OW.run [0, 7, 8, 9, 45] ?_
 (simp only [go_sem, simprocAttr, sw0, ha0, ha1, ha2, ha3, ha4])
 refine OW.nil ((congrArg K ?_).mpr hKE)
 · (first | rfl | (simp only [go_sem, simprocAttr, ha0, ha1, ha2, ha3, ha4]; done) | (simp only [go_sem, simprocAttr, ha0, ha1, ha2, ha3, ha4]; rfl))
 rcases Bool.eq_false_or_eq_true ((((i5 s).getD t9.toNat 0) != (45 : Int))) with ha5 | ha5
 rcases Bool.eq_false_or_eq_true ((decide (((i5 s).getD t9.toNat 0) < (48 : Int)))) with ha6 | ha6
 refine OW.run [0, 7, 8, 9, 45] ?_
 (simp only [go_sem, simprocAttr, sw0, ha0, ha1, ha2, ha3, ha4, ha5, ha6])
 refine OW.nil ((congrArg K ?_).mpr hKE)
 · (first | rfl | (simp only [go_sem, simprocAttr, ha0, ha1, ha2, ha3, ha4, ha5, ha6]; done) | (simp only [go_sem, simprocAttr, ha0, ha1, ha2, ha3, ha4, ha5, ha6]; rfl))
 refine OW.run [0, 7, 8, 9, 45] ?_
 (simp only [go_sem, simprocAttr, sw0, ha0, ha1, ha2, ha3, ha4, ha5, ha6])
 refine OW.nil ((congrArg K ?_).mpr hKE)
 · (first | rfl | (simp only [go_sem, simprocAttr, ha0, ha1, ha2, ha3, ha4, ha5, ha6]; done) | (simp only [go_sem, simprocAttr, ha0, ha1, ha2, ha3, ha4, ha5, ha6]; rfl))
 refine OW.run [0, 7, 8, 9, 45] ?_
 (simp only [go_sem, simprocAttr, sw0, ha0, ha1, ha2, ha3, ha4, ha5])
 refine OW.nil ((congrArg K ?_).mpr hKE)
 · (first | rfl | (simp only [go_sem, simprocAttr, ha0, ha1, ha2, ha3, ha4, ha5]; done) | (simp only [go_sem, simprocAttr, ha0, ha1, ha2, ha3, ha4, ha5]; rfl))
 rcases Bool.eq_false_or_eq_true ((decide (((i5 s).getD t9.toNat 0) ≤ (90 : Int)))) with ha3 | ha3
 rcases Bool.eq_false_or_eq_true ((t9 == (0 : Int))) with ha4 | ha4
 refine OW.run [0, 7, 8, 9, 45] ?_
 (simp only [go_sem, simprocAttr, sw0, ha0, ha1, ha2, ha3, ha4])
 refine OW.nil ((congrArg K ?_).mpr hKE)
 · (first | rfl | (simp only [go_sem, simprocAttr, ha0, ha1, ha2, ha3, ha4]; done) | (simp only [go_sem, simprocAttr, ha0, ha1, ha2, ha3, ha4]; rfl))
 rcases Bool.eq_false_or_eq_true ((((i5 s).getD t9.toNat 0) != (45 : Int))) with ha5 | ha5
 rcases Bool.eq_false_or_eq_true ((decide (((i5 s).getD t9.toNat 0) < (48 : Int)))) with ha6 | ha6
 refine OW.run [0, 7, 8, 9, 45] ?_
 (simp only [go_sem, simprocAttr, sw0, ha0, ha1, ha2, ha3, ha4, ha5, ha6])
 refine OW.nil ((congrArg K ?_).mpr hKE)
 · (first | rfl | (simp only [go_sem, simprocAttr, ha0, ha1, ha2, ha3, ha4, ha5, ha6]; done) | (simp only [go_sem, simprocAttr, ha0, ha1, ha2, ha3, ha4, ha5, ha6]; rfl))
 refine OW.run [0, 7, 8, 9, 45] ?_
 (simp only [go_sem, simprocAttr, sw0, ha0, ha1, ha2, ha3, ha4, ha5, ha6])
 refine OW.nil ((congrArg K ?_).mpr hKE)
 · (first | rfl | (simp only [go_sem, simprocAttr, ha0, ha1, ha2, ha3, ha4, ha5, ha6]; done) | (simp only [go_sem, simprocAttr, ha0, ha1, ha2, ha3, ha4, ha5, ha6]; rfl))
 refine OW.run [0, 7, 8, 9, 45] ?_
 (simp only [go_sem, simprocAttr, sw0, ha0, ha1, ha2, ha3, ha4, ha5])
 refine OW.nil ((congrArg K ?_).mpr hKE)
 · (first | rfl | (simp only [go_sem, simprocAttr, ha0, ha1, ha2, ha3, ha4, ha5]; done) | (simp only [go_sem, simprocAttr, ha0, ha1, ha2, ha3, ha4, ha5]; rfl))
 rcases Bool.eq_false_or_eq_true ((t9 == (0 : Int))) with ha4 | ha4
 refine OW.run [0, 7, 8, 9, 45] ?_
 (simp only [go_sem, simprocAttr, sw0, ha0, ha1, ha2, ha3, ha4])
 refine OW.nil ((congrArg K ?_).mpr hKE)
 · (first | rfl | (simp only [go_sem, simprocAttr, ha0, ha1, ha2, ha3, ha4]; done) | (simp only [go_sem, simprocAttr, ha0, ha1, ha2, ha3, ha4]; rfl))
 rcases Bool.eq_false_or_eq_true ((((i5 s).getD t9.toNat 0) != (45 : Int))) with ha5 | ha5
 rcases Bool.eq_false_or_eq_true ((decide (((i5 s).getD t9.toNat 0) < (48 : Int)))) with ha6 | ha6
 refine OW.run [0, 7, 8, 9, 45] ?_
 (simp only [go_sem, simprocAttr, sw0, ha0, ha1, ha2, ha3, ha4, ha5, ha6])
 refine OW.nil ((congrArg K ?_).mpr hKE)
 · (first | rfl | (simp only [go_sem, simprocAttr, ha0, ha1, ha2, ha3, ha4, ha5, ha6]; done) | (simp only [go_sem, simprocAttr, ha0, ha1, ha2, ha3, ha4, ha5, ha6]; rfl))
 refine OW.run [0, 7, 8, 9, 45] ?_
 (simp only [go_sem, simprocAttr, sw0, ha0, ha1, ha2, ha3, ha4, ha5, ha6])
 refine OW.nil ((congrArg K ?_).mpr hKE)
 · (first | rfl | (simp only [go_sem, simprocAttr, ha0, ha1, ha2, ha3, ha4, ha5, ha6]; done) | (simp only [go_sem, simprocAttr, ha0, ha1, ha2, ha3, ha4, ha5, ha6]; rfl))
 refine OW.run [0, 7, 8, 9, 45] ?_
 (simp only [go_sem, simprocAttr, sw0, ha0, ha1, ha2, ha3, ha4, ha5])
 refine OW.nil ((congrArg K ?_).mpr hKE)
 · (first | rfl | (simp only [go_sem, simprocAttr, ha0, ha1, ha2, ha3, ha4, ha5]; done) | (simp only [go_sem, simprocAttr, ha0, ha1, ha2, ha3, ha4, ha5]; rfl))
 rcases Bool.eq_false_or_eq_true ((decide (((i5 s).getD t9.toNat 0) ≥ (65 : Int)))) with ha2 | ha2
 rcases Bool.eq_false_or_eq_true ((decide (((i5 s).getD t9.toNat 0) ≤ (90 : Int)))) with ha3 | ha3
 refine OW.run [0, 7, 8, 9, 45] ?_
 (simp only [go_sem, simprocAttr, sw0, ha0, ha1, ha2, ha3])
 refine OW.nil ((congrArg K ?_).mpr hKE)
 · (first | rfl | (simp only [go_sem, simprocAttr, ha0, ha1, ha2, ha3]; done) | (simp only [go_sem, simprocAttr, ha0, ha1, ha2, ha3]; rfl))
 rcases Bool.eq_false_or_eq_true ((t9 == (0 : Int))) with ha4 | ha4
 refine OW.run [0, 7, 8, 9, 45] ?_
 (simp only [go_sem, simprocAttr, sw0, ha0, ha1, ha2, ha3, ha4])
 refine OW.nil ((congrArg K ?_).mpr hKE)
 · (first | rfl | (simp only [go_sem, simprocAttr, ha0, ha1, ha2, ha3, ha4]; done) | (simp only [go_sem, simprocAttr, ha0, ha1, ha2, ha3, ha4]; rfl))
 rcases Bool.eq_false_or_eq_true ((((i5 s).getD t9.toNat 0) != (45 : Int))) with ha5 | ha5
 rcases Bool.eq_false_or_eq_true ((decide (((i5 s).getD t9.toNat 0) < (48 : Int)))) with ha6 | ha6
 refine OW.run [0, 7, 8, 9, 45] ?_
 (simp only [go_sem, simprocAttr, sw0, ha0, ha1, ha2, ha3, ha4, ha5, ha6])
 refine OW.nil ((congrArg K ?_).mpr hKE)
 · (first | rfl | (simp only [go_sem, simprocAttr, ha0, ha1, ha2, ha3, ha4, ha5, ha6]; done) | (simp only [go_sem, simprocAttr, ha0, ha1, ha2, ha3, ha4, ha5, ha6]; rfl))
 refine OW.run [0, 7, 8, 9, 45] ?_
 (simp only [go_sem, simprocAttr, sw0, ha0, ha1, ha2, ha3, ha4, ha5, ha6])
 refine OW.nil ((congrArg K ?_).mpr hKE)
 · (first | rfl | (simp only [go_sem, simprocAttr, ha0, ha1, ha2, ha3, ha4, ha5, ha6]; done) | (simp only [go_sem, simprocAttr, ha0, ha1, ha2, ha3, ha4, ha5, ha6]; rfl))
 refine OW.run [0, 7, 8, 9, 45] ?_
 (simp only [go_sem, simprocAttr, sw0, ha0, ha1, ha2, ha3, ha4, ha5])
 refine OW.nil ((congrArg K ?_).mpr hKE)
 · (first | rfl | (simp only [go_sem, simprocAttr, ha0, ha1, ha2, ha3, ha4, ha5]; done) | (simp only [go_sem, simprocAttr, ha0, ha1, ha2, ha3, ha4, ha5]; rfl))
 rcases Bool.eq_false_or_eq_true ((decide (((i5 s).getD t9.toNat 0) ≤ (90 : Int)))) with ha3 | ha3
 rcases Bool.eq_false_or_eq_true ((t9 == (0 : Int))) with ha4 | ha4
 refine OW.run [0, 7, 8, 9, 45] ?_
 (simp only [go_sem, simprocAttr, sw0, ha0, ha1, ha2, ha3, ha4])
 refine OW.nil ((congrArg K ?_).mpr hKE)
 · (first | rfl | (simp only [go_sem, simprocAttr, ha0, ha1, ha2, ha3, ha4]; done) | (simp only [go_sem, simprocAttr, ha0, ha1, ha2, ha3, ha4]; rfl))
 rcases Bool.eq_false_or_eq_true ((((i5 s).getD t9.toNat 0) != (45 : Int))) with ha5 | ha5
 rcases Bool.eq_false_or_eq_true ((decide (((i5 s).getD t9.toNat 0) < (48 : Int)))) with ha6 | ha6
 refine OW.run [0, 7, 8, 9, 45] ?_
 (simp only [go_sem, simprocAttr, sw0, ha0, ha1, ha2, ha3, ha4, ha5, ha6])
 refine OW.nil ((congrArg K ?_).mpr hKE)
 · (first | rfl | (simp only [go_sem, simprocAttr, ha0, ha1, ha2, ha3, ha4, ha5, ha6]; done) | (simp only [go_sem, simprocAttr, ha0, ha1, ha2, ha3, ha4, ha5, ha6]; rfl))
 refine OW.run [0, 7, 8, 9, 45] ?_
 (simp only [go_sem, simprocAttr, sw0, ha0, ha1, ha2, ha3, ha4, ha5, ha6])
 refine OW.nil ((congrArg K ?_).mpr hKE)
 · (first | rfl | (simp only [go_sem, simprocAttr, ha0, ha1, ha2, ha3, ha4, ha5, ha6]; done) | (simp only [go_sem, simprocAttr, ha0, ha1, ha2, ha3, ha4, ha5, ha6]; rfl))
 refine OW.run [0, 7, 8, 9, 45] ?_
 (simp only [go_sem, simprocAttr, sw0, ha0, ha1, ha2, ha3, ha4, ha5])
 refine OW.nil ((congrArg K ?_).mpr hKE)
 · (first | rfl | (simp only [go_sem, simprocAttr, ha0, ha1, ha2, ha3, ha4, ha5]; done) | (simp only [go_sem, simprocAttr, ha0, ha1, ha2, ha3, ha4, ha5]; rfl))
 rcases Bool.eq_false_or_eq_true ((t9 == (0 : Int))) with ha4 | ha4
 refine OW.run [0, 7, 8, 9, 45] ?_
 (simp only [go_sem, simprocAttr, sw0, ha0, ha1, ha2, ha3, ha4])
 refine OW.nil ((congrArg K ?_).mpr hKE)
 · (first | rfl | (simp only [go_sem, simprocAttr, ha0, ha1, ha2, ha3, ha4]; done) | (simp only [go_sem, simprocAttr, ha0, ha1, ha2, ha3, ha4]; rfl))
 rcases Bool.eq_false_or_eq_true ((((i5 s).getD t9.toNat 0) != (45 : Int))) with ha5 | ha5
 rcases Bool.eq_false_or_eq_true ((decide (((i5 s).getD t9.toNat 0) < (48 : Int)))) with ha6 | ha6
 refine OW.run [0, 7, 8, 9, 45] ?_
 (simp only [go_sem, simprocAttr, sw0, ha0, ha1, ha2, ha3, ha4, ha5, ha6])
 refine OW.nil ((congrArg K ?_).mpr hKE)
 · (first | rfl | (simp only [go_sem, simprocAttr, ha0, ha1, ha2, ha3, ha4, ha5, ha6]; done) | (simp only [go_sem, simprocAttr, ha0, ha1, ha2, ha3, ha4, ha5, ha6]; rfl))
 refine OW.run [0, 7, 8, 9, 45] ?_
 (simp only [go_sem, simprocAttr, sw0, ha0, ha1, ha2, ha3, ha4, ha5, ha6])
 refine OW.nil ((congrArg K ?_).mpr hKE)
 · (first | rfl | (simp only [go_sem, simprocAttr, ha0, ha1, ha2, ha3, ha4, ha5, ha6]; done) | (simp only [go_sem, simprocAttr, ha0, ha1, ha2, ha3, ha4, ha5, ha6]; rfl))
 refine OW.run [0, 7, 8, 9, 45] ?_
 (simp only [go_sem, simprocAttr, sw0, ha0, ha1, ha2, ha3, ha4, ha5])
 refine OW.nil ((congrArg K ?_).mpr hKE)
 · (first | rfl | (simp only [go_sem, simprocAttr, ha0, ha1, ha2, ha3, ha4, ha5]; done) | (simp only [go_sem, simprocAttr, ha0, ha1, ha2, ha3, ha4, ha5]; rfl))
 clear hK K
 refine d9 rfl (fun h5 => ?_) (fun h5 => ?_)
 replace H := k7 h5 H
 refine a5 ?_
 refine a0 fun K hK => OW.run [2] ?_
 simp only [go_sem, simprocAttr, sw0]
 refine OW.nil (hK _ ?_)
 refine f4 ?_
 change PW.Ends _ _ _ _ _ _
 refine PW.Ends.intro (.inr rfl) ?_
 simp only [go_sem, simprocAttr, sw0]
 obtain rfl := Option.some.inj H
 refine a6 4 (by exact trivial) ?_
 rfl
 replace H := k8 h5 H
 refine f0 ?_
 refine a0 fun K hK => OW.run [0, 7, 8, 9] ?_
 simp only [go_sem, simprocAttr, sw0]
 refine OW.nil (hK _ ?_)
 refine hN2 [] (w64 (t9 + (1 : Int))) _ H (by exact trivial) ?_
 simp only [sw1, go_sem, simprocAttr]
 replace H := k8 h3 H
 refine j3 ?_
 refine hN1 [] () _ H (by exact trivial) ?_
 simp only [sw1, go_sem, simprocAttr]
 rintro _ H
 try simp only [go_sem, simprocAttr]
 refine a5 ?_
 refine a0 fun K hK => OW.run [2] ?_
 simp only [go_sem, simprocAttr, sw0]
 refine OW.nil (hK _ ?_)
 refine f4 ?_
 change PW.Ends _ _ _ _ _ _
 refine PW.Ends.intro (.inr rfl) ?_
 simp only [go_sem, simprocAttr, sw0]
 obtain rfl := Option.some.inj H
 refine a6 4 (by exact trivial) ?_
 rfl

theorem r4 (N : Nat) (Zt : Int) (Zu : Int) (Zv : Int) (Zw : List Int) (n : Int) (r : Bool) (H : j8 N Zt Zu Zv Zw n = some r) : CallOK Try.prog 128 [(.agg [(I Zt), (I Zu), (I Zv), (L Zw)]), (I n)] (.d (Bo r)) [] := by
 refine d3 Try.func128 rfl (by rw [Try.results128]) Try.ntmps128 Try.call128 ?_
 change PW _ _ _ _ _
 try simp only [go_sem, simprocAttr]
 unfold j8 at H
 refine a5 ?_
 refine a0 fun K hK => OW.run [1, 2] ?_
 simp only [go_sem, simprocAttr, sw0]
 refine OW.nil (hK _ ?_)
 refine a5 ?_
 obtain ⟨x1, e1, H⟩ := a8 H
 refine a0 fun K hK => OW.run [4] ?_
 simp only [go_sem, simprocAttr, sw0]
 repeat (refine And.intro (by omega) ?_)
 refine d5 4 rfl rfl rfl (by ((simp only [go_sem, List.toList_toArray, simprocAttr]); exact rfl)) ?_ (f7 N _ _ _ _ e1) ?_ ?_ ?_ ?_
 rfl
 exact d8 rfl
 exact .inl rfl
 (simp only [go_sem, Nat.reduceLT])
 refine OW.run [4] ?_
 simp only [go_sem, simprocAttr, sw0]
 refine OW.nil (hK _ ?_)
 refine f4 ?_
 change PW.Ends _ _ _ _ _ _
 refine PW.Ends.intro (.inr rfl) ?_
 simp only [go_sem, simprocAttr, sw0]
 obtain rfl := Option.some.inj H
 refine a6 4 (by exact trivial) ?_
 rfl

theorem q3 (N : Nat) (Zt : Int) (Zu : Int) (Zv : Int) (Zw : List Int) (Z1f : ByteArray) (Z1d : Int) (Z1i : Int) (Z1l : Int) (Z1h : Int) (Z1e : Int) (Z1a : Int) (Z1j : Int) (Z1b : Int) (r : Int) (H : l4 N Zt Zu Zv Zw Z1f Z1d Z1i Z1l Z1h Z1e Z1a Z1j Z1b = some r) : CallOK Try.prog 89 [(.agg [(I Zt), (I Zu), (I Zv), (L Zw)]), (.agg [(Sx Z1f), (I Z1d), (I Z1i), (I Z1l), (I Z1h), (I Z1e), (I Z1a), (I Z1j), (I Z1b)])] (.d (I r)) [] := by
 refine d3 Try.func89 rfl (by rw [Try.results89]) Try.ntmps89 Try.call89 ?_
 change PW _ _ _ _ _
 try simp only [go_sem, simprocAttr]
 unfold l4 at H
 refine a5 ?_
 refine a0 fun K hK => OW.run [2, 3] ?_
 simp only [go_sem, simprocAttr, sw0]
 refine OW.nil (hK _ ?_)
 refine a5 ?_
 obtain ⟨x1, e1, H⟩ := a8 H
 obtain ⟨x2, e2, H⟩ := a8 H
 obtain ⟨x3, e3, H⟩ := a8 H
 refine a0 fun K hK => OW.run [2, 3, 5] ?_
 simp only [go_sem, simprocAttr, sw0]
 repeat (refine And.intro (by omega) ?_)
 refine d5 4 rfl rfl rfl (by ((simp only [go_sem, List.toList_toArray, simprocAttr]); exact rfl)) ?_ (f7 N _ _ _ _ e1) ?_ ?_ ?_ ?_
 rfl
 exact d8 rfl
 exact .inl rfl
 (simp only [go_sem, Nat.reduceLT])
 refine OW.run [2, 3, 5] ?_
 simp only [go_sem, simprocAttr, sw0]
 repeat (refine And.intro (by omega) ?_)
 refine l5 4 rfl rfl ?_ (fun hg => by first | rfl | (simp only [go_sem, ↓reduceIte]; rfl)) (fun hg => by ((simp only [go_sem, List.toList_toArray, simprocAttr]); exact rfl)) (fun hg => ?_) (fun hg => (f7 N _ _ _ _ (p8 hg e2))) ?_ ?_ ?_ ?_
 simp only [go_sem, simprocAttr]
 rfl
 exact d8 rfl
 exact .inl rfl
 (simp only [go_sem, Nat.reduceLT])
 refine OW.run [2, 3, 5] ?_
 simp only [go_sem, simprocAttr, sw0]
 repeat (refine And.intro (by omega) ?_)
 refine l5 4 rfl rfl ?_ (fun hg => by first | rfl | (simp only [go_sem, ↓reduceIte]; rfl)) (fun hg => by ((simp only [go_sem, List.toList_toArray, simprocAttr]); exact rfl)) (fun hg => ?_) (fun hg => (f7 N _ _ _ _ (p8 hg e3))) ?_ ?_ ?_ ?_
 simp only [go_sem, simprocAttr]
 rfl
 exact d8 rfl
 exact .inl rfl
 (simp only [go_sem, Nat.reduceLT])
 refine OW.run [2, 3, 5] ?_
 simp only [go_sem, simprocAttr, sw0]
 refine OW.nil (hK _ ?_)
 refine a5 ?_
 obtain ⟨x4, e4, H⟩ := a8 H
 obtain ⟨x5, e5, H⟩ := a8 H
 obtain ⟨x6, e6, H⟩ := a8 H
 obtain ⟨x7, e7, H⟩ := a8 H
 obtain ⟨x8, e8, H⟩ := a8 H
 obtain ⟨x9, e9, H⟩ := a8 H
 refine j0 9 n9 (by kernel_rfl) fun K hK => ?_
 change FW _ _ _ _ _
 refine FW.run ?_
 simp only [go_sem, simprocAttr, sw0]
 repeat (refine And.intro (by omega) ?_)
 refine l0 4 rfl rfl rfl (by ((simp only [go_sem, List.toList_toArray, simprocAttr]); exact rfl)) ?_ (sched_isName_ok N _ _ e4) ?_ ?_ ?_ ?_
 rfl
 exact d8 rfl
 exact .inl rfl
 (simp only [go_sem, Nat.reduceLT])
 refine FW.run ?_
 simp only [go_sem, simprocAttr, sw0]
 refine l0 4 rfl rfl rfl (by ((simp only [go_sem, List.toList_toArray, simprocAttr]); exact rfl)) ?_ (f5 N _ _ _ e5) ?_ ?_ ?_ ?_
 rfl
 exact d8 rfl
 exact .inl rfl
 (simp only [go_sem, Nat.reduceLT])
 refine FW.run ?_
 simp only [go_sem, simprocAttr, sw0]
 repeat (refine And.intro (by omega) ?_)
 refine l0 4 rfl rfl rfl (by ((simp only [go_sem, List.toList_toArray, simprocAttr]); exact rfl)) ?_ (f7 N _ _ _ _ e6) ?_ ?_ ?_ ?_
 rfl
 exact d8 rfl
 exact .inl rfl
 (simp only [go_sem, Nat.reduceLT])
 refine FW.run ?_
 simp only [go_sem, simprocAttr, sw0]
 refine l0 4 rfl rfl rfl (by ((simp only [go_sem, List.toList_toArray, simprocAttr]); exact rfl)) ?_ (f5 N _ _ _ e7) ?_ ?_ ?_ ?_
 rfl
 exact d8 rfl
 exact .inl rfl
 (simp only [go_sem, Nat.reduceLT])
 refine FW.run ?_
 simp only [go_sem, simprocAttr, sw0]
 refine FW.nil ?_
 change OW _ _ _ _ _ _
 refine OW.run [2, 3, 6] ?_
 simp only [go_sem, simprocAttr, sw0]
 refine d5 4 rfl rfl rfl (by ((simp only [go_sem, List.toList_toArray, simprocAttr]); exact rfl)) ?_ (f5 N _ _ _ e8) ?_ ?_ ?_ ?_
 rfl
 exact d8 rfl
 exact .inl rfl
 (simp only [go_sem, Nat.reduceLT])
 refine OW.run [2, 3, 6] ?_
 simp only [go_sem, simprocAttr, sw0]
 refine d5 4 rfl rfl rfl (by ((simp only [go_sem, List.toList_toArray, simprocAttr]); exact rfl)) ?_ (j9 N _ _ e9) ?_ ?_ ?_ ?_
 rfl
 · (refine a7 ?_; (simp only [go_sem, sw2, List.length_set, List.length_replicate, and_true, true_and, Nat.le_refl, simprocAttr]; simp only [seg, go_sem, sw2, List.length_set, List.length_replicate, and_true, true_and, Nat.le_refl, simprocAttr]; done))
 exact .inr ⟨rfl, rfl⟩
 (simp only [go_sem, Nat.reduceLT])
 refine OW.run [2, 3, 6] ?_
 simp only [go_sem, simprocAttr, sw0]
 refine OW.nil (hK _ ?_)
 refine a5 ?_
 refine PW.block ?_
 refine a5 ?_
 refine a0 fun K hK => OW.run [2, 3, 6, 33] ?_
 simp only [go_sem, simprocAttr, sw0]
 refine OW.nil (hK _ ?_)
 refine d9 rfl (fun h1 => ?_) (fun h1 => ?_)
 replace H := k7 h1 H
 refine a5 ?_
 refine a0 fun K hK => OW.run [4] ?_
 simp only [go_sem, simprocAttr, sw0]
 refine OW.nil (hK _ ?_)
 refine f4 ?_
 change PW.Ends _ _ _ _ _ _
 refine PW.Ends.intro (.inr rfl) ?_
 simp only [go_sem, simprocAttr, sw0]
 obtain rfl := Option.some.inj H
 refine a6 4 (by exact trivial) ?_
 rfl
 replace H := k8 h1 H
 refine a5 ?_
 refine a0 fun K hK => OW.run [2, 3, 37] ?_
 simp only [go_sem, simprocAttr, sw0]
 repeat (refine And.intro (by omega) ?_)
 refine OW.nil (hK _ ?_)
 refine d9 rfl (fun h2 => ?_) (fun h2 => ?_)
 replace H := k7 h2 H
 refine a5 ?_
 obtain ⟨x10, e10, H⟩ := a8 H
 refine a0 fun K hK => OW.run [4] ?_
 simp only [go_sem, simprocAttr, sw0]
 repeat (refine And.intro (by omega) ?_)
 refine d5 4 rfl rfl rfl (by ((simp only [go_sem, List.toList_toArray, simprocAttr]); exact rfl)) ?_ (f5 N _ _ _ e10) ?_ ?_ ?_ ?_
 rfl
 exact d8 rfl
 exact .inl rfl
 (simp only [go_sem, Nat.reduceLT])
 refine OW.run [4] ?_
 simp only [go_sem, simprocAttr, sw0]
 refine OW.nil (hK _ ?_)
 refine f4 ?_
 change PW.Ends _ _ _ _ _ _
 refine PW.Ends.intro (.inr rfl) ?_
 simp only [go_sem, simprocAttr, sw0]
 obtain rfl := Option.some.inj H
 refine a6 4 (by exact trivial) ?_
 rfl
 replace H := k8 h2 H
 refine a5 ?_
 obtain ⟨x11, e11, H⟩ := a8 H
 refine a0 fun K hK => OW.run [2, 3, 60] ?_
 simp only [go_sem, simprocAttr, sw0]
 repeat (refine And.intro (by omega) ?_)
 refine d5 4 rfl rfl rfl (by ((simp only [go_sem, List.toList_toArray, simprocAttr]); exact rfl)) ?_ (r4 N _ _ _ _ _ _ e11) ?_ ?_ ?_ ?_
 rfl
 · (refine a7 ?_; (simp only [go_sem, sw2, List.length_set, List.length_replicate, and_true, true_and, Nat.le_refl, simprocAttr]; done))
 exact .inl rfl
 (simp only [go_sem, Nat.reduceLT])
 refine OW.run [2, 3, 60] ?_
 simp only [go_sem, simprocAttr, sw0]
 refine OW.nil (hK _ ?_)
 refine d9 rfl (fun h3 => ?_) (fun h3 => ?_)
 replace H := k7 h3 H
 refine a5 ?_
 refine a0 fun K hK => OW.run [4] ?_
 simp only [go_sem, simprocAttr, sw0]
 refine OW.nil (hK _ ?_)
 refine f4 ?_
 change PW.Ends _ _ _ _ _ _
 refine PW.Ends.intro (.inr rfl) ?_
 simp only [go_sem, simprocAttr, sw0]
 obtain rfl := Option.some.inj H
 refine a6 4 (by exact trivial) ?_
 rfl
 replace H := k8 h3 H
 refine f0 ?_
 refine a5 ?_
 obtain ⟨x12, e12, H⟩ := a8 H
 obtain ⟨x13, e13, H⟩ := a8 H
 obtain ⟨x14, e14, H⟩ := a8 H
 refine a0 fun K hK => OW.run [2, 3, 7] ?_
 simp only [go_sem, simprocAttr, sw0]
 repeat (refine And.intro (by omega) ?_)
 refine d5 4 rfl rfl rfl (by ((simp only [go_sem, List.toList_toArray, simprocAttr]); exact rfl)) ?_ (f7 N _ _ _ _ e12) ?_ ?_ ?_ ?_
 rfl
 exact d8 rfl
 exact .inl rfl
 (simp only [go_sem, Nat.reduceLT])
 refine OW.run [2, 3, 7] ?_
 simp only [go_sem, simprocAttr, sw0]
 repeat (refine And.intro (by omega) ?_)
 refine l5 4 rfl rfl ?_ (fun hg => by first | rfl | (simp only [go_sem, ↓reduceIte]; rfl)) (fun hg => by ((simp only [go_sem, List.toList_toArray, simprocAttr]); exact rfl)) (fun hg => ?_) (fun hg => (f7 N _ _ _ _ (p8 hg e13))) ?_ ?_ ?_ ?_
 simp only [go_sem, simprocAttr]
 rfl
 exact d8 rfl
 exact .inl rfl
 (simp only [go_sem, Nat.reduceLT])
 refine OW.run [2, 3, 7] ?_
 simp only [go_sem, simprocAttr, sw0]
 repeat (refine And.intro (by omega) ?_)
 refine l5 4 rfl rfl ?_ (fun hg => by first | rfl | (simp only [go_sem, ↓reduceIte]; rfl)) (fun hg => by ((simp only [go_sem, List.toList_toArray, simprocAttr]); exact rfl)) (fun hg => ?_) (fun hg => (f7 N _ _ _ _ (p8 hg e14))) ?_ ?_ ?_ ?_
 simp only [go_sem, simprocAttr]
 rfl
 exact d8 rfl
 exact .inl rfl
 (simp only [go_sem, Nat.reduceLT])
 refine OW.run [2, 3, 7] ?_
 simp only [go_sem, simprocAttr, sw0]
 refine OW.nil (hK _ ?_)
 refine a5 ?_
 obtain ⟨x15, e15, H⟩ := a8 H
 obtain ⟨c4, H⟩ := d7 H
 obtain ⟨x16, e16, H⟩ := a8 H
 obtain ⟨x17, e17, H⟩ := a8 H
 refine j0 10 n9 (by kernel_rfl) fun K hK => ?_
 change FW _ _ _ _ _
 refine FW.run ?_
 simp only [go_sem, simprocAttr, sw0]
 refine l0 4 rfl rfl rfl (by ((simp only [go_sem, List.toList_toArray, simprocAttr]); exact rfl)) ?_ (f5 N _ _ _ e15) ?_ ?_ ?_ ?_
 rfl
 exact d8 rfl
 exact .inl rfl
 (simp only [go_sem, Nat.reduceLT])
 refine FW.run ?_
 simp only [go_sem, simprocAttr, sw0]
 repeat (refine And.intro (by omega) ?_)
 refine FW.nil ?_
 change OW _ _ _ _ _ _
 refine OW.run [4] ?_
 simp only [go_sem, simprocAttr, sw0]
 refine d5 4 rfl rfl rfl (by ((simp only [go_sem, List.toList_toArray, simprocAttr]); exact rfl)) ?_ (f5 N _ _ _ e16) ?_ ?_ ?_ ?_
 rfl
 exact d8 rfl
 exact .inl rfl
 (simp only [go_sem, Nat.reduceLT])
 refine OW.run [4] ?_
 simp only [go_sem, simprocAttr, sw0]
 refine d5 4 rfl rfl rfl (by ((simp only [go_sem, List.toList_toArray, simprocAttr]); exact rfl)) ?_ (j9 N _ _ e17) ?_ ?_ ?_ ?_
 rfl
 · (refine a7 ?_; (simp only [go_sem, sw2, List.length_set, List.length_replicate, and_true, true_and, Nat.le_refl, simprocAttr]; simp only [seg, go_sem, sw2, List.length_set, List.length_replicate, and_true, true_and, Nat.le_refl, simprocAttr]; done))
 exact .inr ⟨rfl, rfl⟩
 (simp only [go_sem, Nat.reduceLT])
 refine OW.run [4] ?_
 simp only [go_sem, simprocAttr, sw0]
 refine OW.nil (hK _ ?_)
 refine f4 ?_
 change PW.Ends _ _ _ _ _ _
 refine PW.Ends.intro (.inr rfl) ?_
 simp only [go_sem, simprocAttr, sw0]
 obtain rfl := Option.some.inj H
 refine a6 4 (by exact trivial) ?_
 rfl

theorem sched_openBearer_ok (N : Nat) (Zq : Int) (Zr : Int) (Zs : Int) (Zx : List Int) (Z1f : ByteArray) (Z1d : Int) (Z1i : Int) (Z1l : Int) (Z1h : Int) (Z1e : Int) (Z1a : Int) (Z1j : Int) (Z1b : Int) (r : Int × Int × Int × List Int × Int) (H : v5 N Zq Zr Zs Zx Z1f Z1d Z1i Z1l Z1h Z1e Z1a Z1j Z1b = some r) : CallOK Try.prog 106 [(.agg [(I Zq), (I Zr), (I Zs), (L Zx)]), (.agg [(Sx Z1f), (I Z1d), (I Z1i), (I Z1l), (I Z1h), (I Z1e), (I Z1a), (I Z1j), (I Z1b)])] (.d (.tup [(.agg [(I r.1), (I r.2.1), (I r.2.2.1), (L r.2.2.2.1)]), (I r.2.2.2.2)])) [] := by
 refine d3 Try.func106 rfl (by rw [Try.results106]) Try.ntmps106 Try.call106 ?_
 change PW _ _ _ _ _
 try simp only [go_sem, simprocAttr]
 unfold v5 at H
 refine a5 ?_
 refine a0 fun K hK => OW.run [2, 3, 4] ?_
 simp only [go_sem, simprocAttr, sw0]
 refine OW.nil (hK _ ?_)
 refine a5 ?_
 obtain ⟨⟨x1, x11, x12, x13, x14⟩, e1, H⟩ := a8 H
 refine a0 fun K hK => OW.run [3, 4, 6, 7] ?_
 simp only [go_sem, simprocAttr, sw0]
 refine d5 4 rfl rfl rfl (by ((simp only [go_sem, List.toList_toArray, simprocAttr]); exact rfl)) ?_ (sched_open_ok N _ _ _ _ _ e1) ?_ ?_ ?_ ?_
 rfl
 · (refine a7 ?_; (simp only [go_sem, sw2, List.length_set, List.length_replicate, and_true, true_and, Nat.le_refl, simprocAttr]; done))
 exact .inl rfl
 (simp only [go_sem, Nat.reduceLT])
 refine OW.run [3, 4, 6, 7] ?_
 simp only [go_sem, simprocAttr, sw0]
 refine OW.nil (hK _ ?_)
 refine a5 ?_
 refine a5 ?_
 refine a0 fun K hK => OW.run [3, 4, 6, 7, 14] ?_
 simp only [go_sem, simprocAttr, sw0]
 refine OW.nil (hK _ ?_)
 refine d9 rfl (fun h1 => ?_) (fun h1 => ?_)
 replace H := k7 h1 H
 refine a5 ?_
 refine a0 fun K hK => OW.run [4, 5] ?_
 simp only [go_sem, simprocAttr, sw0]
 refine OW.nil (hK _ ?_)
 refine f4 ?_
 change PW.Ends _ _ _ _ _ _
 refine PW.Ends.intro (.inr rfl) ?_
 simp only [go_sem, simprocAttr, sw0]
 obtain rfl := Option.some.inj H
 refine a6 4 (by (refine a7 ?_; (simp only [go_sem, sw2, List.length_set, List.length_replicate, and_true, true_and, Nat.le_refl, simprocAttr]; done))) ?_
 rfl
 replace H := k8 h1 H
 refine f0 ?_
 refine a5 ?_
 obtain ⟨x2, e2, H⟩ := a8 H
 refine j0 4 n9 (by kernel_rfl) fun K hK => ?_
 change FW _ _ _ _ _
 refine FW.run ?_
 simp only [go_sem, simprocAttr, sw0]
 refine l0 4 rfl rfl rfl (by ((simp only [go_sem, List.toList_toArray, simprocAttr]); exact rfl)) ?_ (q3 N _ _ _ _ _ _ _ _ _ _ _ _ _ _ e2) ?_ ?_ ?_ ?_
 rfl
 · (refine a7 ?_; (simp only [go_sem, sw2, List.length_set, List.length_replicate, and_true, true_and, Nat.le_refl, simprocAttr]; done))
 exact .inl rfl
 (simp only [go_sem, Nat.reduceLT])
 refine FW.run ?_
 simp only [go_sem, simprocAttr, sw0]
 refine FW.nil ?_
 change OW _ _ _ _ _ _
 refine OW.run [4, 5] ?_
 simp only [go_sem, simprocAttr, sw0]
 refine OW.nil (hK _ ?_)
 refine f4 ?_
 change PW.Ends _ _ _ _ _ _
 refine PW.Ends.intro (.inr rfl) ?_
 simp only [go_sem, simprocAttr, sw0]
 obtain rfl := Option.some.inj H
 refine a6 4 (by (refine a7 ?_; (simp only [go_sem, sw2, List.length_set, List.length_replicate, and_true, true_and, Nat.le_refl, simprocAttr]; done))) ?_
 rfl

theorem v8 (N : Nat) (Z1f : ByteArray) (Z1d : Int) (Z1i : Int) (Z1l : Int) (Z1h : Int) (Z1e : Int) (Z1a : Int) (Z1j : Int) (Z1b : Int) (r : Bool) (H : q6 N Z1f Z1d Z1i Z1l Z1h Z1e Z1a Z1j Z1b = some r) : CallOK Try.prog 110 [(.agg [(Sx Z1f), (I Z1d), (I Z1i), (I Z1l), (I Z1h), (I Z1e), (I Z1a), (I Z1j), (I Z1b)])] (.d (Bo r)) [] := by
 refine d3 Try.func110 rfl (by rw [Try.results110]) Try.ntmps110 Try.call110 ?_
 change PW _ _ _ _ _
 try simp only [go_sem, simprocAttr]
 unfold q6 at H
 refine a5 ?_
 refine a0 fun K hK => OW.run [1] ?_
 simp only [go_sem, simprocAttr, sw0]
 refine OW.nil (hK _ ?_)
 refine a5 ?_
 refine a0 fun K hK => OW.run [2] ?_
 simp only [go_sem, simprocAttr, sw0]
 repeat (refine And.intro (by omega) ?_)
 refine OW.nil (hK _ ?_)
 refine f4 ?_
 change PW.Ends _ _ _ _ _ _
 refine PW.Ends.intro (.inr rfl) ?_
 simp only [go_sem, simprocAttr, sw0]
 obtain rfl := Option.some.inj H
 refine a6 4 (by exact trivial) ?_
 rfl

theorem sched_ceil_ok (N : Nat) (n : Int) (by_ : Int) (r : Int) (H : sched_ceil N n by_ = some r) : CallOK Try.prog 112 [(I n), (I by_)] (.d (I r)) [] := by
 refine d3 Try.func112 rfl (by rw [Try.results112]) Try.ntmps112 Try.call112 ?_
 change PW _ _ _ _ _
 try simp only [go_sem, simprocAttr]
 unfold sched_ceil at H
 refine a5 ?_
 refine a0 fun K hK => OW.run [0, 1] ?_
 simp only [go_sem, simprocAttr, sw0]
 refine OW.nil (hK _ ?_)
 refine a5 ?_
 obtain ⟨c1, H⟩ := d7 H
 refine a0 fun K hK => OW.run [4] ?_
 simp only [go_sem, simprocAttr, sw0]
 repeat (refine And.intro (by omega) ?_)
 refine OW.nil (hK _ ?_)
 refine f4 ?_
 change PW.Ends _ _ _ _ _ _
 refine PW.Ends.intro (.inr rfl) ?_
 simp only [go_sem, simprocAttr, sw0]
 obtain rfl := Option.some.inj H
 refine a6 4 (by exact trivial) ?_
 rfl

theorem z4 (N : Nat) (Zt : Int) (Zu : Int) (Zv : Int) (Zw : List Int) (Z1f : ByteArray) (Z1d : Int) (Z1i : Int) (Z1l : Int) (Z1h : Int) (Z1e : Int) (Z1a : Int) (Z1j : Int) (Z1b : Int) (r : Int × Int × Int) (H : p6 N Zt Zu Zv Zw Z1f Z1d Z1i Z1l Z1h Z1e Z1a Z1j Z1b = some r) : CallOK Try.prog 107 [(.agg [(I Zt), (I Zu), (I Zv), (L Zw)]), (.agg [(Sx Z1f), (I Z1d), (I Z1i), (I Z1l), (I Z1h), (I Z1e), (I Z1a), (I Z1j), (I Z1b)])] (.d (.agg [(I r.1), (I r.2.1), (I r.2.2)])) [] := by
 refine d3 Try.func107 rfl (by rw [Try.results107]) Try.ntmps107 Try.call107 ?_
 change PW _ _ _ _ _
 try simp only [go_sem, simprocAttr]
 unfold p6 at H
 refine a5 ?_
 refine a0 fun K hK => OW.run [2, 3, 4] ?_
 simp only [go_sem, simprocAttr, sw0]
 refine OW.nil (hK _ ?_)
 refine a5 ?_
 refine a5 ?_
 obtain ⟨x1, e1, H⟩ := a8 H
 refine a0 fun K hK => OW.run [2, 3, 4, 8] ?_
 simp only [go_sem, simprocAttr, sw0]
 refine d5 4 rfl rfl rfl (by ((simp only [go_sem, List.toList_toArray, simprocAttr]); exact rfl)) ?_ (v8 N _ _ _ _ _ _ _ _ _ _ e1) ?_ ?_ ?_ ?_
 rfl
 · (refine a7 ?_; (simp only [go_sem, sw2, List.length_set, List.length_replicate, and_true, true_and, Nat.le_refl, simprocAttr]; done))
 exact .inl rfl
 (simp only [go_sem, Nat.reduceLT])
 refine OW.run [2, 3, 4, 8] ?_
 simp only [go_sem, simprocAttr, sw0]
 refine OW.nil (hK _ ?_)
 refine d9 rfl (fun h1 => ?_) (fun h1 => ?_)
 replace H := k7 h1 H
 refine a5 ?_
 refine a0 fun K hK => OW.run [4] ?_
 simp only [go_sem, simprocAttr, sw0]
 refine OW.nil (hK _ ?_)
 refine f4 ?_
 change PW.Ends _ _ _ _ _ _
 refine PW.Ends.intro (.inr rfl) ?_
 simp only [go_sem, simprocAttr, sw0]
 obtain rfl := Option.some.inj H
 refine a6 4 (by exact d8 rfl) ?_
 rfl
 replace H := k8 h1 H
 refine f0 ?_
 refine a5 ?_
 obtain ⟨x2, e2, H⟩ := a8 H
 obtain ⟨c2, H⟩ := d7 H
 obtain ⟨x3, e3, H⟩ := a8 H
 refine j0 15 n9 (by kernel_rfl) fun K hK => ?_
 change FW _ _ _ _ _
 refine FW.run ?_
 simp only [go_sem, simprocAttr, sw0]
 repeat (refine And.intro (by omega) ?_)
 refine l0 4 rfl rfl rfl (by ((simp only [go_sem, List.toList_toArray, simprocAttr]); exact rfl)) ?_ (sched_ceil_ok N _ _ _ e2) ?_ ?_ ?_ ?_
 rfl
 exact d8 rfl
 exact .inl rfl
 (simp only [go_sem, Nat.reduceLT])
 refine FW.run ?_
 simp only [go_sem, simprocAttr, sw0]
 repeat (refine And.intro (by omega) ?_)
 refine FW.nil ?_
 change OW _ _ _ _ _ _
 refine OW.run [3, 4, 5] ?_
 simp only [go_sem, simprocAttr, sw0]
 refine d5 4 rfl rfl rfl (by ((simp only [go_sem, List.toList_toArray, simprocAttr]); exact rfl)) ?_ (sched_ceil_ok N _ _ _ e3) ?_ ?_ ?_ ?_
 rfl
 exact d8 rfl
 exact .inl rfl
 (simp only [go_sem, Nat.reduceLT])
 refine OW.run [3, 4, 5] ?_
 simp only [go_sem, simprocAttr, sw0]
 refine OW.nil (hK _ ?_)
 refine a5 ?_
 refine a0 fun K hK => OW.run [4] ?_
 simp only [go_sem, simprocAttr, sw0]
 repeat (refine And.intro (by omega) ?_)
 refine OW.nil (hK _ ?_)
 refine f4 ?_
 change PW.Ends _ _ _ _ _ _
 refine PW.Ends.intro (.inr rfl) ?_
 simp only [go_sem, simprocAttr, sw0]
 obtain rfl := Option.some.inj H
 refine a6 4 (by exact d8 rfl) ?_
 rfl

theorem sched_NeedOf_ok (N : Nat) (Zq : Int) (Zr : Int) (Zs : Int) (Zx : List Int) (Z1f : ByteArray) (Z1d : Int) (Z1i : Int) (Z1l : Int) (Z1h : Int) (Z1e : Int) (Z1a : Int) (Z1j : Int) (Z1b : Int) (r : Int × Int × Int × Int) (H : sched_NeedOf N Zq Zr Zs Zx Z1f Z1d Z1i Z1l Z1h Z1e Z1a Z1j Z1b = some r) : CallOK Try.prog 34 [(.agg [(I Zq), (I Zr), (I Zs), (L Zx)]), (.agg [(Sx Z1f), (I Z1d), (I Z1i), (I Z1l), (I Z1h), (I Z1e), (I Z1a), (I Z1j), (I Z1b)])] (.d (.tup [(.agg [(I r.1), (I r.2.1), (I r.2.2.1)]), (I r.2.2.2)])) [] := by
 refine d3 Try.func34 rfl (by rw [Try.results34]) Try.ntmps34 Try.call34 ?_
 change PW _ _ _ _ _
 try simp only [go_sem, simprocAttr]
 unfold sched_NeedOf at H
 refine a5 ?_
 refine a0 fun K hK => OW.run [2, 3, 4] ?_
 simp only [go_sem, simprocAttr, sw0]
 refine OW.nil (hK _ ?_)
 refine a5 ?_
 obtain ⟨⟨x1, x11, x12, x13, x14⟩, e1, H⟩ := a8 H
 refine a0 fun K hK => OW.run [3, 4, 6, 7] ?_
 simp only [go_sem, simprocAttr, sw0]
 refine d5 4 rfl rfl rfl (by ((simp only [go_sem, List.toList_toArray, simprocAttr]); exact rfl)) ?_ (sched_openBearer_ok N _ _ _ _ _ _ _ _ _ _ _ _ _ _ e1) ?_ ?_ ?_ ?_
 rfl
 · (refine a7 ?_; (simp only [go_sem, sw2, List.length_set, List.length_replicate, and_true, true_and, Nat.le_refl, simprocAttr]; done))
 exact .inl rfl
 (simp only [go_sem, Nat.reduceLT])
 refine OW.run [3, 4, 6, 7] ?_
 simp only [go_sem, simprocAttr, sw0]
 refine OW.nil (hK _ ?_)
 refine a5 ?_
 refine a5 ?_
 refine a0 fun K hK => OW.run [3, 4, 6, 7, 15] ?_
 simp only [go_sem, simprocAttr, sw0]
 refine OW.nil (hK _ ?_)
 refine d9 rfl (fun h1 => ?_) (fun h1 => ?_)
 replace H := k7 h1 H
 refine a5 ?_
 refine a0 fun K hK => OW.run [4, 5] ?_
 simp only [go_sem, simprocAttr, sw0]
 refine OW.nil (hK _ ?_)
 refine f4 ?_
 change PW.Ends _ _ _ _ _ _
 refine PW.Ends.intro (.inr rfl) ?_
 simp only [go_sem, simprocAttr, sw0]
 obtain rfl := Option.some.inj H
 refine a6 4 (by (refine a7 ?_; (simp only [go_sem, sw2, List.length_set, List.length_replicate, and_true, true_and, Nat.le_refl, simprocAttr]; done))) ?_
 rfl
 replace H := k8 h1 H
 refine f0 ?_
 refine a5 ?_
 obtain ⟨⟨x2, x21, x22⟩, e2, H⟩ := a8 H
 refine a0 fun K hK => OW.run [4, 5] ?_
 simp only [go_sem, simprocAttr, sw0]
 refine d5 4 rfl rfl rfl (by ((simp only [go_sem, List.toList_toArray, simprocAttr]); exact rfl)) ?_ (z4 N _ _ _ _ _ _ _ _ _ _ _ _ _ _ e2) ?_ ?_ ?_ ?_
 rfl
 · (refine a7 ?_; (simp only [go_sem, sw2, List.length_set, List.length_replicate, and_true, true_and, Nat.le_refl, simprocAttr]; done))
 exact .inl rfl
 (simp only [go_sem, Nat.reduceLT])
 refine OW.run [4, 5] ?_
 simp only [go_sem, simprocAttr, sw0]
 refine OW.nil (hK _ ?_)
 refine f4 ?_
 change PW.Ends _ _ _ _ _ _
 refine PW.Ends.intro (.inr rfl) ?_
 simp only [go_sem, simprocAttr, sw0]
 obtain rfl := Option.some.inj H
 refine a6 4 (by (refine a7 ?_; (simp only [go_sem, sw2, List.length_set, List.length_replicate, and_true, true_and, Nat.le_refl, simprocAttr]; done))) ?_
 rfl

theorem law06_Alarm_ok (N : Nat)  (r : ByteArray × Int × Int × Int × Int × Int × Int × Int × Int) (H : law06_Alarm N  = some r) : CallOK Try.prog 84 [] (.d (.agg [(Sx r.1), (I r.2.1), (I r.2.2.1), (I r.2.2.2.1), (I r.2.2.2.2.1), (I r.2.2.2.2.2.1), (I r.2.2.2.2.2.2.1), (I r.2.2.2.2.2.2.2.1), (I r.2.2.2.2.2.2.2.2)])) [] := by
 refine d3 Try.func84 rfl (by rw [Try.results84]) Try.ntmps84 Try.call84 ?_
 change PW _ _ _ _ _
 try simp only [go_sem, simprocAttr]
 unfold law06_Alarm at H
 refine a5 ?_
 refine a0 fun K hK => OW.run [0] ?_
 simp only [go_sem, simprocAttr, sw0]
 refine OW.nil (hK _ ?_)
 refine a5 ?_
 refine a0 fun K hK => OW.run [0] ?_
 simp only [go_sem, simprocAttr, sw0]
 refine OW.nil (hK _ ?_)
 refine f4 ?_
 change PW.Ends _ _ _ _ _ _
 refine PW.Ends.intro (.inr rfl) ?_
 simp only [go_sem, simprocAttr, sw0]
 obtain rfl := Option.some.inj H
 refine a6 4 (by exact d8 rfl) ?_
 rfl

theorem sched_named_1_ok (N : Nat) (Z1f : ByteArray) (Z1d : Int) (Z1i : Int) (Z1l : Int) (Z1h : Int) (Z1e : Int) (Z1a : Int) (Z1j : Int) (Z1b : Int) (a1 : ByteArray) (r : Bool) (H : z6 N Z1f Z1d Z1i Z1l Z1h Z1e Z1a Z1j Z1b a1 = some r) : CallOK Try.prog 137 [(.agg [(Sx Z1f), (I Z1d), (I Z1i), (I Z1l), (I Z1h), (I Z1e), (I Z1a), (I Z1j), (I Z1b)]), (.ref [(Sx a1)])] (.d (Bo r)) [] := by
 refine d3 Try.func137 rfl (by rw [Try.results137]) Try.ntmps137 Try.call137 ?_
 change PW _ _ _ _ _
 try simp only [go_sem, simprocAttr]
 unfold z6 at H
 refine a5 ?_
 refine a0 fun K hK => OW.run [1, 2] ?_
 simp only [go_sem, simprocAttr, sw0]
 refine OW.nil (hK _ ?_)
 refine a5 ?_
 refine a0 fun K hK => OW.run [3] ?_
 simp only [go_sem, simprocAttr, sw0]
 repeat (refine And.intro (by omega) ?_)
 refine OW.nil (hK _ ?_)
 refine f4 ?_
 change PW.Ends _ _ _ _ _ _
 refine PW.Ends.intro (.inr rfl) ?_
 simp only [go_sem, simprocAttr, sw0]
 obtain rfl := Option.some.inj H
 refine a6 4 (by exact trivial) ?_
 rfl

theorem n3 (N : Nat) (s : List TB) (f_g : FuncId) (f_c : List D) (f : ByteArray → Int → Int → Int → Int → Int → Int → Int → Int → Option Bool) (f_h : ∀ y0 y1 y2 y3 y4 y5 y6 y7 y8 r0, f y0 y1 y2 y3 y4 y5 y6 y7 y8 = some r0 → CallOK Try.prog f_g ((.agg [(Sx y0), (I y1), (I y2), (I y3), (I y4), (I y5), (I y6), (I y7), (I y8)]) :: f_c.map nz) (.d (Bo r0)) []) (r : Int) (H : slices_IndexFunc_api_SchedBearer_api_SchedBearer N s f = some r) : CallOK Try.prog 153 [(.list s.length (s.flatMap (fun (x : ByteArray × Int × Int × Int × Int × Int × Int × Int × Int) => [(Sx x.1), (I x.2.1), (I x.2.2.1), (I x.2.2.2.1), (I x.2.2.2.2.1), (I x.2.2.2.2.2.1), (I x.2.2.2.2.2.2.1), (I x.2.2.2.2.2.2.2.1), (I x.2.2.2.2.2.2.2.2)]))), .clo f_g f_c] (.d (I r)) [] := by
 refine d3 Try.func153 rfl (by rw [Try.results153]) Try.ntmps153 Try.call153 ?_
 change PW _ _ _ _ _
 try simp only [go_sem, simprocAttr]
 unfold slices_IndexFunc_api_SchedBearer_api_SchedBearer at H
 refine a5 ?_
 refine a0 fun K hK => OW.run [0, 1] ?_
 simp only [go_sem, simprocAttr, sw0]
 refine OW.nil (hK _ ?_)
 refine i4 (τ := Unit) [] 0 (fun _ => []) (fun _ => []) _ _ r (by exact Nat.le_refl _) H ?_ ?_
 intro K_ H N1 hN1
 refine a5 ?_
 refine a0 fun K hK => OW.run [0, 1, 7, 8] ?_
 simp only [go_sem, simprocAttr, sw0]
 refine OW.nil (hK _ ?_)
 refine PW.block ?_
 refine i8 (σ := Int) [0, 1, 7, 8] 0 (fun t8 => [(8, .d (I t8))]) (fun t8 => []) (slices_IndexFunc_api_SchedBearer_api_SchedBearer.b1 N s f K_) r N (0 : Int) (by exact Nat.le_refl _) H (by (simp only [sw1, go_sem, simprocAttr]; done)) ?_
 rintro n t8 H N2 hN2
 unfold slices_IndexFunc_api_SchedBearer_api_SchedBearer.b1 at H
 try simp only [go_sem, simprocAttr]
 refine a5 ?_
 refine a0 fun K hK => OW.run [0, 1, 7, 8, 9] ?_
 simp only [go_sem, simprocAttr, sw0]
 refine OW.nil (hK _ ?_)
 refine a5 ?_
 refine d9 rfl (fun h3 => ?_) (fun h3 => ?_)
 replace H := k7 h3 H
 refine f0 ?_
 refine a5 ?_
 refine PW.block ?_
 refine a5 ?_
 refine a0 fun K hK => OW.run [0, 1, 5, 7, 8] ?_
 simp only [go_sem, simprocAttr, sw0]
 refine OW.nil (hK _ ?_)
 refine a5 ?_
 obtain ⟨c4, H⟩ := d7 H
 obtain ⟨x1, e1, H⟩ := a8 H
 refine a0 fun K hK => OW.run [0, 1, 5, 7, 8, 16] ?_
 (simp only [go_sem, simprocAttr, sw0, z0W0a, z1W0a s t8.toNat (by omega)])
 repeat (refine And.intro (by omega) ?_)
 refine d5 4 rfl rfl rfl (by ((simp only [go_sem, List.toList_toArray, simprocAttr]); exact rfl)) ?_ (f_h _ _ _ _ _ _ _ _ _ _ e1) ?_ ?_ ?_ ?_
 · (((simp only [go_sem, sw1, simprocAttr]; try simp only [seg, go_sem, simprocAttr])); done)
 · (refine a7 ?_; (simp only [go_sem, sw2, List.length_set, List.length_replicate, and_true, true_and, Nat.le_refl, simprocAttr]; done))
 exact .inr ⟨rfl, rfl⟩
 (simp only [go_sem, Nat.reduceLT])
 refine OW.run [0, 1, 5, 7, 8, 16] ?_
 (simp only [go_sem, simprocAttr, sw0, z0W0a, z1W0a s t8.toNat (by omega)])
 refine OW.nil (hK _ ?_)
 refine d9 rfl (fun h5 => ?_) (fun h5 => ?_)
 replace H := k7 h5 H
 refine a5 ?_
 refine a0 fun K hK => OW.run [4] ?_
 simp only [go_sem, simprocAttr, sw0]
 refine OW.nil (hK _ ?_)
 refine f4 ?_
 change PW.Ends _ _ _ _ _ _
 refine PW.Ends.intro (.inr rfl) ?_
 simp only [go_sem, simprocAttr, sw0]
 obtain rfl := Option.some.inj H
 refine a6 4 (by exact trivial) ?_
 rfl
 replace H := k8 h5 H
 refine f0 ?_
 refine a0 fun K hK => OW.run [0, 1, 7, 8] ?_
 simp only [go_sem, simprocAttr, sw0]
 refine OW.nil (hK _ ?_)
 refine hN2 [] (w64 (t8 + (1 : Int))) _ H (by exact trivial) ?_
 simp only [sw1, go_sem, simprocAttr]
 replace H := k8 h3 H
 refine j3 ?_
 refine hN1 [] () _ H (by exact trivial) ?_
 simp only [sw1, go_sem, simprocAttr]
 rintro _ H
 try simp only [go_sem, simprocAttr]
 refine a5 ?_
 refine a0 fun K hK => OW.run [4] ?_
 simp only [go_sem, simprocAttr, sw0]
 refine OW.nil (hK _ ?_)
 refine f4 ?_
 change PW.Ends _ _ _ _ _ _
 refine PW.Ends.intro (.inr rfl) ?_
 simp only [go_sem, simprocAttr, sw0]
 obtain rfl := Option.some.inj H
 refine a6 4 (by exact trivial) ?_
 rfl

theorem m8 (N : Nat) (s : List TB) (f_g : FuncId) (f_c : List D) (f : ByteArray → Int → Int → Int → Int → Int → Int → Int → Int → Option Bool) (f_h : ∀ y0 y1 y2 y3 y4 y5 y6 y7 y8 r0, f y0 y1 y2 y3 y4 y5 y6 y7 y8 = some r0 → CallOK Try.prog f_g ((.agg [(Sx y0), (I y1), (I y2), (I y3), (I y4), (I y5), (I y6), (I y7), (I y8)]) :: f_c.map nz) (.d (Bo r0)) []) (r : Bool) (H : f9 N s f = some r) : CallOK Try.prog 136 [(.list s.length (s.flatMap (fun (x : ByteArray × Int × Int × Int × Int × Int × Int × Int × Int) => [(Sx x.1), (I x.2.1), (I x.2.2.1), (I x.2.2.2.1), (I x.2.2.2.2.1), (I x.2.2.2.2.2.1), (I x.2.2.2.2.2.2.1), (I x.2.2.2.2.2.2.2.1), (I x.2.2.2.2.2.2.2.2)]))), .clo f_g f_c] (.d (Bo r)) [] := by
 refine d3 Try.func136 rfl (by rw [Try.results136]) Try.ntmps136 Try.call136 ?_
 change PW _ _ _ _ _
 try simp only [go_sem, simprocAttr]
 unfold f9 at H
 refine a5 ?_
 refine a0 fun K hK => OW.run [0, 1] ?_
 simp only [go_sem, simprocAttr, sw0]
 refine OW.nil (hK _ ?_)
 refine a5 ?_
 obtain ⟨x1, e1, H⟩ := a8 H
 refine a0 fun K hK => OW.run [4] ?_
 simp only [go_sem, simprocAttr, sw0]
 refine d5 4 rfl rfl rfl (by ((simp only [go_sem, List.toList_toArray, simprocAttr]); exact rfl)) ?_ (n3 N _ f_g f_c f f_h _ e1) ?_ ?_ ?_ ?_
 rfl
 exact d8 rfl
 exact .inl rfl
 (simp only [go_sem, Nat.reduceLT])
 refine OW.run [4] ?_
 simp only [go_sem, simprocAttr, sw0]
 refine OW.nil (hK _ ?_)
 refine f4 ?_
 change PW.Ends _ _ _ _ _ _
 refine PW.Ends.intro (.inr rfl) ?_
 simp only [go_sem, simprocAttr, sw0]
 obtain rfl := Option.some.inj H
 refine a6 4 (by exact trivial) ?_
 rfl

theorem sched_named_ok (N : Nat) (l : List TB) (name : ByteArray) (r : Bool) (H : sched_named N l name = some r) : CallOK Try.prog 91 [(.list l.length (l.flatMap (fun (x : ByteArray × Int × Int × Int × Int × Int × Int × Int × Int) => [(Sx x.1), (I x.2.1), (I x.2.2.1), (I x.2.2.2.1), (I x.2.2.2.2.1), (I x.2.2.2.2.2.1), (I x.2.2.2.2.2.2.1), (I x.2.2.2.2.2.2.2.1), (I x.2.2.2.2.2.2.2.2)]))), (Sx name)] (.d (Bo r)) [] := by
 refine d3 Try.func91 rfl (by rw [Try.results91]) Try.ntmps91 Try.call91 ?_
 change PW _ _ _ _ _
 try simp only [go_sem, simprocAttr]
 unfold sched_named at H
 refine a5 ?_
 refine a0 fun K hK => OW.run [0, 3] ?_
 simp only [go_sem, simprocAttr, sw0]
 refine OW.nil (hK _ ?_)
 refine a5 ?_
 obtain ⟨x1, e1, H⟩ := a8 H
 refine a0 fun K hK => OW.run [4] ?_
 simp only [go_sem, simprocAttr, sw0]
 refine d5 4 rfl rfl rfl (by ((simp only [go_sem, List.toList_toArray, simprocAttr]); exact rfl)) ?_ (m8 N _ 137 [(.ref [(Sx name)])] (fun y0 y1 y2 y3 y4 y5 y6 y7 y8 => z6 N y0 y1 y2 y3 y4 y5 y6 y7 y8 name) (fun y0 y1 y2 y3 y4 y5 y6 y7 y8 r h => sched_named_1_ok N y0 y1 y2 y3 y4 y5 y6 y7 y8 _ r h) _ e1) ?_ ?_ ?_ ?_
 rfl
 · (refine a7 ?_; (simp only [go_sem, sw2, List.length_set, List.length_replicate, and_true, true_and, Nat.le_refl, simprocAttr]; done))
 exact .inr ⟨rfl, rfl⟩
 (simp only [go_sem, Nat.reduceLT])
 refine OW.run [4] ?_
 simp only [go_sem, simprocAttr, sw0]
 refine OW.nil (hK _ ?_)
 refine f4 ?_
 change PW.Ends _ _ _ _ _ _
 refine PW.Ends.intro (.inr rfl) ?_
 simp only [go_sem, simprocAttr, sw0]
 obtain rfl := Option.some.inj H
 refine a6 4 (by exact trivial) ?_
 rfl

theorem sched_site_room_ok (N : Nat) (Zt : Int) (Zu : Int) (Zv : Int) (Zw : List Int) (l : List TB) (r : Int × Int × Int) (H : sched_site_room N Zt Zu Zv Zw l = some r) : CallOK Try.prog 108 [(.agg [(I Zt), (I Zu), (I Zv), (L Zw)]), (.list l.length (l.flatMap (fun (x : ByteArray × Int × Int × Int × Int × Int × Int × Int × Int) => [(Sx x.1), (I x.2.1), (I x.2.2.1), (I x.2.2.2.1), (I x.2.2.2.2.1), (I x.2.2.2.2.2.1), (I x.2.2.2.2.2.2.1), (I x.2.2.2.2.2.2.2.1), (I x.2.2.2.2.2.2.2.2)])))] (.d (.agg [(I r.1), (I r.2.1), (I r.2.2)])) [] := by
 refine d3 Try.func108 rfl (by rw [Try.results108]) Try.ntmps108 Try.call108 ?_
 change PW _ _ _ _ _
 try simp only [go_sem, simprocAttr]
 unfold sched_site_room at H
 refine a5 ?_
 refine a0 fun K hK => OW.run [1, 2, 4] ?_
 simp only [go_sem, simprocAttr, sw0]
 refine OW.nil (hK _ ?_)
 refine a5 ?_
 refine a0 fun K hK => OW.run [1, 2, 4, 5] ?_
 simp only [go_sem, simprocAttr, sw0]
 repeat (refine And.intro (by omega) ?_)
 refine OW.nil (hK _ ?_)
 refine i4 (τ := Int × Int × Int) [4, 5] 3 (fun (b2, b21, b22) => []) (fun (b2, b21, b22) => [{ cells := [.d (I Zt), .d (I Zu), .d (I Zv), .d (L Zw)], e := 141 }, { cells := [.d (I (0 : Int)), .d (I (0 : Int)), .d (I (0 : Int))], e := 62 }, { cells := [.d (I b2), .d (I b21), .d (I b22)], e := 62 }]) _ _ r (by exact Nat.zero_le _) H ?_ ?_
 intro K_ H N1 hN1
 refine a5 ?_
 refine a0 fun K hK => OW.run [2, 4, 5, 19, 20, 21] ?_
 simp only [go_sem, simprocAttr, sw0]
 refine OW.nil (hK _ ?_)
 refine PW.block ?_
 refine i8 (σ := Int × Int × Int × Int) [2, 4, 5, 19, 20, 21] 3 (fun (t21, b23, b24, b25) => [(21, .d (I t21))]) (fun (t21, b23, b24, b25) => [{ cells := [.d (I Zt), .d (I Zu), .d (I Zv), .d (L Zw)], e := 141 }, { cells := [.d (I (0 : Int)), .d (I (0 : Int)), .d (I (0 : Int))], e := 62 }, { cells := [.d (I b23), .d (I b24), .d (I b25)], e := 62 }]) (sched_site_room.b1 N Zt Zu Zv Zw l K_) r N ((0 : Int), Zt, Zu, Zv) (by exact Nat.zero_le _) H (by (simp only [sw1, go_sem, simprocAttr]; done)) ?_
 rintro n ⟨t21, b23, b24, b25⟩ H N2 hN2
 unfold sched_site_room.b1 at H
 try simp only [go_sem, simprocAttr]
 refine a5 ?_
 refine a0 fun K hK => OW.run [2, 4, 5, 19, 20, 21, 22] ?_
 simp only [go_sem, simprocAttr, sw0]
 refine OW.nil (hK _ ?_)
 refine a5 ?_
 refine d9 rfl (fun h3 => ?_) (fun h3 => ?_)
 replace H := k7 h3 H
 refine f0 ?_
 refine a5 ?_
 refine PW.block ?_
 refine a5 ?_
 obtain ⟨c4, H⟩ := d7 H
 refine a0 fun K hK => OW.run [2, 4, 5, 7, 19, 20, 21] ?_
 (simp only [go_sem, simprocAttr, sw0, z0W0a, z1W0a l t21.toNat (by omega)])
 repeat (refine And.intro (by omega) ?_)
 refine OW.nil (hK _ ?_)
 refine a5 ?_
 obtain ⟨⟨x1, x11, x12⟩, e1, H⟩ := a8 H
 refine a0 fun K hK => OW.run [2, 4, 5, 8, 19, 20, 21] ?_
 simp only [go_sem, simprocAttr, sw0]
 refine d5 4 rfl rfl rfl (by ((simp only [go_sem, List.toList_toArray, simprocAttr]); exact rfl)) ?_ (z4 N _ _ _ _ _ _ _ _ _ _ _ _ _ _ e1) ?_ ?_ ?_ ?_
 rfl
 · (refine a7 ?_; (simp only [go_sem, sw2, List.length_set, List.length_replicate, and_true, true_and, Nat.le_refl, simprocAttr]; done))
 exact .inl rfl
 (simp only [go_sem, Nat.reduceLT])
 refine OW.run [2, 4, 5, 8, 19, 20, 21] ?_
 simp only [go_sem, simprocAttr, sw0]
 refine OW.nil (hK _ ?_)
 refine a0 fun K hK => OW.run [2, 4, 5, 19, 20, 21] ?_
 simp only [go_sem, simprocAttr, sw0]
 repeat (refine And.intro (by omega) ?_)
 refine OW.nil (hK _ ?_)
 refine a0 fun K hK => OW.run [2, 4, 5, 19, 20, 21] ?_
 simp only [go_sem, simprocAttr, sw0]
 refine OW.nil (hK _ ?_)
 refine hN2 [] (w64 (t21 + (1 : Int)), w64 (b23 - x1), w64 (b24 - x11), w64 (b25 - x12)) _ H (by exact trivial) ?_
 simp only [sw1, go_sem, simprocAttr]
 replace H := k8 h3 H
 refine j3 ?_
 refine hN1 [] (b23, b24, b25) _ H (by exact trivial) ?_
 simp only [sw1, go_sem, simprocAttr]
 rintro ⟨b2, b21, b22⟩ H
 try simp only [go_sem, simprocAttr]
 refine a5 ?_
 refine a0 fun K hK => OW.run [4] ?_
 simp only [go_sem, simprocAttr, sw0]
 refine OW.nil (hK _ ?_)
 refine f4 ?_
 change PW.Ends _ _ _ _ _ _
 refine PW.Ends.intro (.inr rfl) ?_
 simp only [go_sem, simprocAttr, sw0]
 obtain rfl := Option.some.inj H
 refine a6 4 (by exact d8 rfl) ?_
 rfl

theorem sched_site_fit_ok (N : Nat) (Zt : Int) (Zu : Int) (Zv : Int) (Zw : List Int) (l : List TB) (r : Bool) (H : q9 N Zt Zu Zv Zw l = some r) : CallOK Try.prog 92 [(.agg [(I Zt), (I Zu), (I Zv), (L Zw)]), (.list l.length (l.flatMap (fun (x : ByteArray × Int × Int × Int × Int × Int × Int × Int × Int) => [(Sx x.1), (I x.2.1), (I x.2.2.1), (I x.2.2.2.1), (I x.2.2.2.2.1), (I x.2.2.2.2.2.1), (I x.2.2.2.2.2.2.1), (I x.2.2.2.2.2.2.2.1), (I x.2.2.2.2.2.2.2.2)])))] (.d (Bo r)) [] := by
 refine d3 Try.func92 rfl (by rw [Try.results92]) Try.ntmps92 Try.call92 ?_
 change PW _ _ _ _ _
 try simp only [go_sem, simprocAttr]
 unfold q9 at H
 refine a5 ?_
 refine a0 fun K hK => OW.run [1, 2] ?_
 simp only [go_sem, simprocAttr, sw0]
 refine OW.nil (hK _ ?_)
 refine a5 ?_
 obtain ⟨⟨x1, x11, x12⟩, e1, H⟩ := a8 H
 refine a0 fun K hK => OW.run [5] ?_
 simp only [go_sem, simprocAttr, sw0]
 refine d5 4 rfl rfl rfl (by ((simp only [go_sem, List.toList_toArray, simprocAttr]); exact rfl)) ?_ (sched_site_room_ok N _ _ _ _ _ _ e1) ?_ ?_ ?_ ?_
 rfl
 · (refine a7 ?_; (simp only [go_sem, sw2, List.length_set, List.length_replicate, and_true, true_and, Nat.le_refl, simprocAttr]; done))
 exact .inl rfl
 (simp only [go_sem, Nat.reduceLT])
 refine OW.run [5] ?_
 simp only [go_sem, simprocAttr, sw0]
 refine OW.nil (hK _ ?_)
 refine a5 ?_
 refine a0 fun K hK => OW.run [4] ?_
 simp only [go_sem, simprocAttr, sw0]
 repeat (refine And.intro (by omega) ?_)
 refine OW.nil (hK _ ?_)
 refine f4 ?_
 change PW.Ends _ _ _ _ _ _
 refine PW.Ends.intro (.inr rfl) ?_
 simp only [go_sem, simprocAttr, sw0]
 obtain rfl := Option.some.inj H
 refine a6 4 (by exact trivial) ?_
 rfl

theorem sched_site_bearersErr_ok (N : Nat) (Zt : Int) (Zu : Int) (Zv : Int) (Zw : List Int) (l : List TB) (r : Int × Int) (H : sched_site_bearersErr N Zt Zu Zv Zw l = some r) : CallOK Try.prog 102 [(.agg [(I Zt), (I Zu), (I Zv), (L Zw)]), (.list l.length (l.flatMap (fun (x : ByteArray × Int × Int × Int × Int × Int × Int × Int × Int) => [(Sx x.1), (I x.2.1), (I x.2.2.1), (I x.2.2.2.1), (I x.2.2.2.2.1), (I x.2.2.2.2.2.1), (I x.2.2.2.2.2.2.1), (I x.2.2.2.2.2.2.2.1), (I x.2.2.2.2.2.2.2.2)])))] (.d (.tup [(I r.1), (I r.2)])) [] := by
 refine d3 Try.func102 rfl (by rw [Try.results102]) Try.ntmps102 Try.call102 ?_
 change PW _ _ _ _ _
 try simp only [go_sem, simprocAttr]
 unfold sched_site_bearersErr at H
 refine a5 ?_
 refine a0 fun K hK => OW.run [1, 2] ?_
 simp only [go_sem, simprocAttr, sw0]
 refine OW.nil (hK _ ?_)
 refine a5 ?_
 refine a5 ?_
 refine a0 fun K hK => OW.run [1, 2, 11] ?_
 simp only [go_sem, simprocAttr, sw0]
 refine OW.nil (hK _ ?_)
 refine d9 rfl (fun h1 => ?_) (fun h1 => ?_)
 replace H := k7 h1 H
 refine a5 ?_
 refine a0 fun K hK => OW.run [4, 5] ?_
 simp only [go_sem, simprocAttr, sw0]
 refine OW.nil (hK _ ?_)
 refine f4 ?_
 change PW.Ends _ _ _ _ _ _
 refine PW.Ends.intro (.inr rfl) ?_
 simp only [go_sem, simprocAttr, sw0]
 obtain rfl := Option.some.inj H
 refine a6 4 (by exact d8 rfl) ?_
 rfl
 replace H := k8 h1 H
 refine f0 ?_
 refine i4 (τ := Unit) [1, 2] 1 (fun _ => []) (fun _ => [{ cells := [.d (I Zt), .d (I Zu), .d (I Zv), .d (L Zw)], e := 141 }]) _ _ r (by exact Nat.zero_le _) H ?_ ?_
 intro K_ H N2 hN2
 refine a5 ?_
 refine a0 fun K hK => OW.run [1, 2, 12, 13, 14] ?_
 simp only [go_sem, simprocAttr, sw0]
 refine OW.nil (hK _ ?_)
 refine PW.block ?_
 refine i8 (σ := Int) [1, 2, 12, 13, 14] 1 (fun t14 => [(14, .d (I t14))]) (fun t14 => [{ cells := [.d (I Zt), .d (I Zu), .d (I Zv), .d (L Zw)], e := 141 }]) (sched_site_bearersErr.b1 N Zt Zu Zv Zw l K_) r N (0 : Int) (by exact Nat.zero_le _) H (by (simp only [sw1, go_sem, simprocAttr]; done)) ?_
 rintro n t14 H N3 hN3
 unfold sched_site_bearersErr.b1 at H
 try simp only [go_sem, simprocAttr]
 refine a5 ?_
 refine a0 fun K hK => OW.run [1, 2, 12, 13, 14, 15] ?_
 simp only [go_sem, simprocAttr, sw0]
 refine OW.nil (hK _ ?_)
 refine a5 ?_
 refine d9 rfl (fun h4 => ?_) (fun h4 => ?_)
 replace H := k7 h4 H
 refine f0 ?_
 refine a5 ?_
 refine PW.block ?_
 refine a5 ?_
 obtain ⟨c5, H⟩ := d7 H
 refine a0 fun K hK => OW.run [1, 2, 6, 7, 12, 13, 14] ?_
 (simp only [go_sem, simprocAttr, sw0, z0W0a, z1W0a l t14.toNat (by omega)])
 repeat (refine And.intro (by omega) ?_)
 refine OW.nil (hK _ ?_)
 refine a5 ?_
 obtain ⟨x1, e1, H⟩ := a8 H
 obtain ⟨c6, H⟩ := d7 H
 obtain ⟨x2, e2, H⟩ := a8 H
 obtain ⟨x3, e3, H⟩ := a8 H
 obtain ⟨x4, e4, H⟩ := a8 H
 refine j0 8 n9 (by kernel_rfl) fun K hK => ?_
 change FW _ _ _ _ _
 refine FW.run ?_
 (simp only [go_sem, simprocAttr, sw0, z2W0a, slice_lenF (fun (x : ByteArray × Int × Int × Int × Int × Int × Int × Int × Int) => [(Sx x.1), (I x.2.1), (I x.2.2.1), (I x.2.2.2.1), (I x.2.2.2.2.1), (I x.2.2.2.2.2.1), (I x.2.2.2.2.2.2.1), (I x.2.2.2.2.2.2.2.1), (I x.2.2.2.2.2.2.2.2)]) (l.take t14.toNat) t14.toNat (by simp only [List.length_take, List.length_drop]; omega)])
 refine l0 4 rfl rfl rfl (by ((simp only [go_sem, List.toList_toArray, simprocAttr]); exact rfl)) ?_ (q3 N _ _ _ _ _ _ _ _ _ _ _ _ _ _ e1) ?_ ?_ ?_ ?_
 rfl
 · (refine a7 ?_; (simp only [go_sem, sw2, List.length_set, List.length_replicate, and_true, true_and, Nat.le_refl, simprocAttr]; done))
 exact .inl rfl
 (simp only [go_sem, Nat.reduceLT])
 refine FW.run ?_
 (simp only [go_sem, simprocAttr, sw0, z2W0a, slice_lenF (fun (x : ByteArray × Int × Int × Int × Int × Int × Int × Int × Int) => [(Sx x.1), (I x.2.1), (I x.2.2.1), (I x.2.2.2.1), (I x.2.2.2.2.1), (I x.2.2.2.2.2.1), (I x.2.2.2.2.2.2.1), (I x.2.2.2.2.2.2.2.1), (I x.2.2.2.2.2.2.2.2)]) (l.take t14.toNat) t14.toNat (by simp only [List.length_take, List.length_drop]; omega)])
 repeat (refine And.intro (by omega) ?_)
 refine FW.nil ?_
 change OW _ _ _ _ _ _
 refine OW.run [1, 2, 6, 8, 12, 13, 14] ?_
 (simp only [go_sem, simprocAttr, sw0, z2W0a, slice_lenF (fun (x : ByteArray × Int × Int × Int × Int × Int × Int × Int × Int) => [(Sx x.1), (I x.2.1), (I x.2.2.1), (I x.2.2.2.1), (I x.2.2.2.2.1), (I x.2.2.2.2.2.1), (I x.2.2.2.2.2.2.1), (I x.2.2.2.2.2.2.2.1), (I x.2.2.2.2.2.2.2.2)]) (l.take t14.toNat) t14.toNat (by simp only [List.length_take, List.length_drop]; omega)])
 refine d5 4 rfl rfl rfl (by ((simp only [go_sem, List.toList_toArray, simprocAttr]); exact rfl)) ?_ (sched_named_ok N _ _ _ e2) ?_ ?_ ?_ ?_
 rfl
 exact d8 rfl
 exact .inl rfl
 (simp only [go_sem, Nat.reduceLT])
 refine OW.run [1, 2, 6, 8, 12, 13, 14] ?_
 (simp only [go_sem, simprocAttr, sw0, z2W0a, slice_lenF (fun (x : ByteArray × Int × Int × Int × Int × Int × Int × Int × Int) => [(Sx x.1), (I x.2.1), (I x.2.2.1), (I x.2.2.2.1), (I x.2.2.2.2.1), (I x.2.2.2.2.2.1), (I x.2.2.2.2.2.2.1), (I x.2.2.2.2.2.2.2.1), (I x.2.2.2.2.2.2.2.2)]) (l.take t14.toNat) t14.toNat (by simp only [List.length_take, List.length_drop]; omega)])
 refine d5 4 rfl rfl rfl (by ((simp only [go_sem, List.toList_toArray, simprocAttr]); exact rfl)) ?_ (f5 N _ _ _ e3) ?_ ?_ ?_ ?_
 rfl
 exact d8 rfl
 exact .inl rfl
 (simp only [go_sem, Nat.reduceLT])
 refine OW.run [1, 2, 6, 8, 12, 13, 14] ?_
 (simp only [go_sem, simprocAttr, sw0, z2W0a, slice_lenF (fun (x : ByteArray × Int × Int × Int × Int × Int × Int × Int × Int) => [(Sx x.1), (I x.2.1), (I x.2.2.1), (I x.2.2.2.1), (I x.2.2.2.2.1), (I x.2.2.2.2.2.1), (I x.2.2.2.2.2.2.1), (I x.2.2.2.2.2.2.2.1), (I x.2.2.2.2.2.2.2.2)]) (l.take t14.toNat) t14.toNat (by simp only [List.length_take, List.length_drop]; omega)])
 refine d5 4 rfl rfl rfl (by ((simp only [go_sem, List.toList_toArray, simprocAttr]); exact rfl)) ?_ (j9 N _ _ e4) ?_ ?_ ?_ ?_
 rfl
 · (refine a7 ?_; (simp only [go_sem, sw2, List.length_set, List.length_replicate, and_true, true_and, Nat.le_refl, simprocAttr]; simp only [seg, go_sem, sw2, List.length_set, List.length_replicate, and_true, true_and, Nat.le_refl, simprocAttr]; done))
 exact .inr ⟨rfl, rfl⟩
 (simp only [go_sem, Nat.reduceLT])
 refine OW.run [1, 2, 6, 8, 12, 13, 14] ?_
 (simp only [go_sem, simprocAttr, sw0, z2W0a, slice_lenF (fun (x : ByteArray × Int × Int × Int × Int × Int × Int × Int × Int) => [(Sx x.1), (I x.2.1), (I x.2.2.1), (I x.2.2.2.1), (I x.2.2.2.2.1), (I x.2.2.2.2.2.1), (I x.2.2.2.2.2.2.1), (I x.2.2.2.2.2.2.2.1), (I x.2.2.2.2.2.2.2.2)]) (l.take t14.toNat) t14.toNat (by simp only [List.length_take, List.length_drop]; omega)])
 refine OW.nil (hK _ ?_)
 refine a5 ?_
 refine a0 fun K hK => OW.run [1, 2, 6, 8, 12, 13, 14, 33] ?_
 simp only [go_sem, simprocAttr, sw0]
 refine OW.nil (hK _ ?_)
 refine d9 rfl (fun h7 => ?_) (fun h7 => ?_)
 replace H := k7 h7 H
 refine a5 ?_
 refine a0 fun K hK => OW.run [4, 5] ?_
 simp only [go_sem, simprocAttr, sw0]
 refine OW.nil (hK _ ?_)
 refine f4 ?_
 change PW.Ends _ _ _ _ _ _
 refine PW.Ends.intro (.inr rfl) ?_
 simp only [go_sem, simprocAttr, sw0]
 obtain rfl := Option.some.inj H
 refine a6 4 (by exact d8 rfl) ?_
 rfl
 replace H := k8 h7 H
 refine f0 ?_
 refine a0 fun K hK => OW.run [1, 2, 12, 13, 14] ?_
 simp only [go_sem, simprocAttr, sw0]
 refine OW.nil (hK _ ?_)
 refine hN3 [] (w64 (t14 + (1 : Int))) _ H (by exact trivial) ?_
 simp only [sw1, go_sem, simprocAttr]
 replace H := k8 h4 H
 refine j3 ?_
 refine hN2 [] () _ H (by exact trivial) ?_
 simp only [sw1, go_sem, simprocAttr]
 rintro _ H
 try simp only [go_sem, simprocAttr]
 refine a5 ?_
 obtain ⟨x5, e5, H⟩ := a8 H
 obtain ⟨x6, e6, H⟩ := a8 H
 refine a0 fun K hK => OW.run [4, 5] ?_
 simp only [go_sem, simprocAttr, sw0]
 refine d5 4 rfl rfl rfl (by ((simp only [go_sem, List.toList_toArray, simprocAttr]); exact rfl)) ?_ (sched_site_fit_ok N _ _ _ _ _ _ e5) ?_ ?_ ?_ ?_
 rfl
 · (refine a7 ?_; (simp only [go_sem, sw2, List.length_set, List.length_replicate, and_true, true_and, Nat.le_refl, simprocAttr]; done))
 exact .inl rfl
 (simp only [go_sem, Nat.reduceLT])
 refine OW.run [4, 5] ?_
 simp only [go_sem, simprocAttr, sw0]
 refine d5 4 rfl rfl rfl (by ((simp only [go_sem, List.toList_toArray, simprocAttr]); exact rfl)) ?_ (f5 N _ _ _ e6) ?_ ?_ ?_ ?_
 rfl
 exact d8 rfl
 exact .inl rfl
 (simp only [go_sem, Nat.reduceLT])
 refine OW.run [4, 5] ?_
 simp only [go_sem, simprocAttr, sw0]
 refine OW.nil (hK _ ?_)
 refine f4 ?_
 change PW.Ends _ _ _ _ _ _
 refine PW.Ends.intro (.inr rfl) ?_
 simp only [go_sem, simprocAttr, sw0]
 obtain rfl := Option.some.inj H
 refine a6 4 (by exact d8 rfl) ?_
 rfl

theorem sched_CheckBearers_ok (N : Nat) (Zq : Int) (Zr : Int) (Zs : Int) (Zx : List Int) (l : List TB) (r : Int × Int) (H : r5 N Zq Zr Zs Zx l = some r) : CallOK Try.prog 26 [(.agg [(I Zq), (I Zr), (I Zs), (L Zx)]), (.list l.length (l.flatMap (fun (x : ByteArray × Int × Int × Int × Int × Int × Int × Int × Int) => [(Sx x.1), (I x.2.1), (I x.2.2.1), (I x.2.2.2.1), (I x.2.2.2.2.1), (I x.2.2.2.2.2.1), (I x.2.2.2.2.2.2.1), (I x.2.2.2.2.2.2.2.1), (I x.2.2.2.2.2.2.2.2)])))] (.d (.tup [(I r.1), (I r.2)])) [] := by
 refine d3 Try.func26 rfl (by rw [Try.results26]) Try.ntmps26 Try.call26 ?_
 change PW _ _ _ _ _
 try simp only [go_sem, simprocAttr]
 unfold r5 at H
 refine a5 ?_
 refine a0 fun K hK => OW.run [1, 2] ?_
 simp only [go_sem, simprocAttr, sw0]
 refine OW.nil (hK _ ?_)
 refine a5 ?_
 obtain ⟨⟨x1, x11, x12, x13, x14⟩, e1, H⟩ := a8 H
 refine a0 fun K hK => OW.run [1, 6, 7] ?_
 simp only [go_sem, simprocAttr, sw0]
 refine d5 4 rfl rfl rfl (by ((simp only [go_sem, List.toList_toArray, simprocAttr]); exact rfl)) ?_ (sched_open_ok N _ _ _ _ _ e1) ?_ ?_ ?_ ?_
 rfl
 · (refine a7 ?_; (simp only [go_sem, sw2, List.length_set, List.length_replicate, and_true, true_and, Nat.le_refl, simprocAttr]; done))
 exact .inl rfl
 (simp only [go_sem, Nat.reduceLT])
 refine OW.run [1, 6, 7] ?_
 simp only [go_sem, simprocAttr, sw0]
 refine OW.nil (hK _ ?_)
 refine a5 ?_
 refine a5 ?_
 refine a0 fun K hK => OW.run [1, 6, 7, 14] ?_
 simp only [go_sem, simprocAttr, sw0]
 refine OW.nil (hK _ ?_)
 refine d9 rfl (fun h1 => ?_) (fun h1 => ?_)
 replace H := k7 h1 H
 refine a5 ?_
 refine a0 fun K hK => OW.run [4, 5] ?_
 simp only [go_sem, simprocAttr, sw0]
 refine OW.nil (hK _ ?_)
 refine f4 ?_
 change PW.Ends _ _ _ _ _ _
 refine PW.Ends.intro (.inr rfl) ?_
 simp only [go_sem, simprocAttr, sw0]
 obtain rfl := Option.some.inj H
 refine a6 4 (by exact d8 rfl) ?_
 rfl
 replace H := k8 h1 H
 refine f0 ?_
 refine a5 ?_
 obtain ⟨⟨x2, x21⟩, e2, H⟩ := a8 H
 refine a0 fun K hK => OW.run [4, 5] ?_
 simp only [go_sem, simprocAttr, sw0]
 refine d5 4 rfl rfl rfl (by ((simp only [go_sem, List.toList_toArray, simprocAttr]); exact rfl)) ?_ (sched_site_bearersErr_ok N _ _ _ _ _ _ e2) ?_ ?_ ?_ ?_
 rfl
 · (refine a7 ?_; (simp only [go_sem, sw2, List.length_set, List.length_replicate, and_true, true_and, Nat.le_refl, simprocAttr]; done))
 exact .inl rfl
 (simp only [go_sem, Nat.reduceLT])
 refine OW.run [4, 5] ?_
 simp only [go_sem, simprocAttr, sw0]
 refine OW.nil (hK _ ?_)
 refine f4 ?_
 change PW.Ends _ _ _ _ _ _
 refine PW.Ends.intro (.inr rfl) ?_
 simp only [go_sem, simprocAttr, sw0]
 obtain rfl := Option.some.inj H
 refine a6 4 (by exact d8 rfl) ?_
 rfl

theorem sched_openAll_ok (N : Nat) (Zq : Int) (Zr : Int) (Zs : Int) (Zx : List Int) (l : List TB) (r : Int × Int × Int × List Int × Int) (H : z5 N Zq Zr Zs Zx l = some r) : CallOK Try.prog 87 [(.agg [(I Zq), (I Zr), (I Zs), (L Zx)]), (.list l.length (l.flatMap (fun (x : ByteArray × Int × Int × Int × Int × Int × Int × Int × Int) => [(Sx x.1), (I x.2.1), (I x.2.2.1), (I x.2.2.2.1), (I x.2.2.2.2.1), (I x.2.2.2.2.2.1), (I x.2.2.2.2.2.2.1), (I x.2.2.2.2.2.2.2.1), (I x.2.2.2.2.2.2.2.2)])))] (.d (.tup [(.agg [(I r.1), (I r.2.1), (I r.2.2.1), (L r.2.2.2.1)]), (I r.2.2.2.2)])) [] := by
 refine d3 Try.func87 rfl (by rw [Try.results87]) Try.ntmps87 Try.call87 ?_
 change PW _ _ _ _ _
 try simp only [go_sem, simprocAttr]
 unfold z5 at H
 refine a5 ?_
 refine a0 fun K hK => OW.run [1, 2, 4] ?_
 simp only [go_sem, simprocAttr, sw0]
 refine OW.nil (hK _ ?_)
 refine a5 ?_
 obtain ⟨⟨x1, x11⟩, e1, H⟩ := a8 H
 refine a0 fun K hK => OW.run [2, 4, 7] ?_
 simp only [go_sem, simprocAttr, sw0]
 refine d5 4 rfl rfl rfl (by ((simp only [go_sem, List.toList_toArray, simprocAttr]); exact rfl)) ?_ (sched_CheckBearers_ok N _ _ _ _ _ _ e1) ?_ ?_ ?_ ?_
 rfl
 · (refine a7 ?_; (simp only [go_sem, sw2, List.length_set, List.length_replicate, and_true, true_and, Nat.le_refl, simprocAttr]; done))
 exact .inl rfl
 (simp only [go_sem, Nat.reduceLT])
 refine OW.run [2, 4, 7] ?_
 simp only [go_sem, simprocAttr, sw0]
 refine OW.nil (hK _ ?_)
 refine a5 ?_
 refine a0 fun K hK => OW.run [4, 5] ?_
 simp only [go_sem, simprocAttr, sw0]
 refine OW.nil (hK _ ?_)
 refine f4 ?_
 change PW.Ends _ _ _ _ _ _
 refine PW.Ends.intro (.inr rfl) ?_
 simp only [go_sem, simprocAttr, sw0]
 obtain rfl := Option.some.inj H
 refine a6 4 (by (refine a7 ?_; (simp only [go_sem, sw2, List.length_set, List.length_replicate, and_true, true_and, Nat.le_refl, simprocAttr]; done))) ?_
 rfl
end Go.Proofs.Ytabojpkmfkjjkaa
