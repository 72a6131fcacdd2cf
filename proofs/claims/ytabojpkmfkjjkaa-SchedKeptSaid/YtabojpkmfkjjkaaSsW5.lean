import Derived.Test.YtabojpkmfkjjkaaSsBase
import Derived.Test.YtabojpkmfkjjkaaSsW4
set_option linter.all false
namespace Go.Proofs.Ytabojpkmfkjjkaa
open Go.PW Go.Sh

set_option maxRecDepth 20000
set_option maxHeartbeats 8000000
def z0W5a := f4 9 (fun (x : ByteArray × Int × Int × Int × Int × Int × Int × Int × Int) => [(Sx x.1), (I x.2.1), (I x.2.2.1), (I x.2.2.2.1), (I x.2.2.2.2.1), (I x.2.2.2.2.2.1), (I x.2.2.2.2.2.2.1), (I x.2.2.2.2.2.2.2.1), (I x.2.2.2.2.2.2.2.2)]) (fun _ => rfl)
def z1W5a := q9 9 (fun (x : ByteArray × Int × Int × Int × Int × Int × Int × Int × Int) => [(Sx x.1), (I x.2.1), (I x.2.2.1), (I x.2.2.2.1), (I x.2.2.2.2.1), (I x.2.2.2.2.2.1), (I x.2.2.2.2.2.2.1), (I x.2.2.2.2.2.2.2.1), (I x.2.2.2.2.2.2.2.2)]) (fun _ => rfl)
def z2W5a := take_flatMap 9 (fun (x : ByteArray × Int × Int × Int × Int × Int × Int × Int × Int) => [(Sx x.1), (I x.2.1), (I x.2.2.1), (I x.2.2.2.1), (I x.2.2.2.2.1), (I x.2.2.2.2.2.1), (I x.2.2.2.2.2.2.1), (I x.2.2.2.2.2.2.2.1), (I x.2.2.2.2.2.2.2.2)]) (fun _ => rfl)
theorem ref06_CheckBearers_ok (N : Nat) (Zq : Int) (Zr : Int) (Zs : Int) (Zx : List Int) (l : List TB) (r : Int × Int) (H : ref06_CheckBearers N Zq Zr Zs Zx l = some r) : CallOK Try.prog 38 [(.agg [(I Zq), (I Zr), (I Zs), (L Zx)]), (.list l.length (l.flatMap (fun (x : ByteArray × Int × Int × Int × Int × Int × Int × Int × Int) => [(Sx x.1), (I x.2.1), (I x.2.2.1), (I x.2.2.2.1), (I x.2.2.2.2.1), (I x.2.2.2.2.2.1), (I x.2.2.2.2.2.2.1), (I x.2.2.2.2.2.2.2.1), (I x.2.2.2.2.2.2.2.2)])))] (.d (.tup [(I r.1), (I r.2)])) [] := by
 refine d4 Try.func38 rfl (by rw [Try.results38]) Try.ntmps38 Try.call38 ?_
 change PW _ _ _ _ _
 try simp only [go_sem, simprocAttr]
 unfold ref06_CheckBearers at H
 refine a5 ?_
 refine a0 fun K hK => OW.run [1, 2] ?_
 simp only [go_sem, simprocAttr, sw0]
 refine OW.nil (hK _ ?_)
 refine a5 ?_
 refine a5 ?_
 refine a0 fun K hK => OW.run [1, 2, 10] ?_
 simp only [go_sem, simprocAttr, sw0]
 refine OW.nil (hK _ ?_)
 refine d6 rfl (fun h1 => ?_) (fun h1 => ?_)
 replace H := l4 h1 H
 refine a5 ?_
 refine a0 fun K hK => OW.run [4, 5] ?_
 simp only [go_sem, simprocAttr, sw0]
 refine OW.nil (hK _ ?_)
 refine f0 ?_
 change PW.Ends _ _ _ _ _ _
 refine PW.Ends.intro (.inr rfl) ?_
 simp only [go_sem, simprocAttr, sw0]
 obtain rfl := Option.some.inj H
 refine a6 4 (by exact e0 rfl) ?_
 rfl
 replace H := l5 h1 H
 refine d7 ?_
 refine f8 (τ := Unit) [1, 2] 1 (fun _ => []) (fun _ => [{ cells := [.d (I Zq), .d (I Zr), .d (I Zs), .d (L Zx)], e := 24 }]) _ _ r (by exact Nat.zero_le _) H ?_ ?_
 intro K_ H N2 hN2
 refine a5 ?_
 refine a0 fun K hK => OW.run [1, 2, 6] ?_
 simp only [go_sem, simprocAttr, sw0]
 refine OW.nil (hK _ ?_)
 refine PW.block ?_
 refine g9 (σ := Int) [1, 2, 6] 1 (fun i => [(6, .d (I i))]) (fun i => [{ cells := [.d (I Zq), .d (I Zr), .d (I Zs), .d (L Zx)], e := 24 }]) (ref06_CheckBearers.b1 N Zq Zr Zs Zx l K_) r N (0 : Int) (by exact Nat.zero_le _) H (by (simp only [sw1, go_sem, simprocAttr]; done)) ?_
 rintro n i H N3 hN3
 unfold ref06_CheckBearers.b1 at H
 try simp only [go_sem, simprocAttr]
 refine a5 ?_
 refine a5 ?_
 refine a0 fun K hK => OW.run [1, 2, 6, 14] ?_
 simp only [go_sem, simprocAttr, sw0]
 refine OW.nil (hK _ ?_)
 refine d6 rfl (fun h4 => ?_) (fun h4 => ?_)
 replace H := l4 h4 H
 refine d7 ?_
 refine a5 ?_
 refine PW.block ?_
 refine a5 ?_
 refine a5 ?_
 obtain ⟨c5, H⟩ := d3 H
 obtain ⟨x1, e1, H⟩ := a8 H
 refine j7 5 q6 (by kernel_rfl) fun K hK => ?_
 change FW _ _ _ _ _
 refine FW.run ?_
 (simp only [go_sem, simprocAttr, sw0, z0W5a, z1W5a l i.toNat (by omega)])
 repeat (refine And.intro (by omega) ?_)
 refine FW.nil ?_
 change OW _ _ _ _ _ _
 refine OW.run [1, 2, 6, 7] ?_
 (simp only [go_sem, simprocAttr, sw0, z0W5a, z1W5a l i.toNat (by omega)])
 refine d8 4 rfl rfl rfl (by ((simp only [go_sem, List.toList_toArray, simprocAttr]); exact rfl)) ?_ (ref06_BearerErr_ok N _ _ _ _ _ _ _ _ _ _ _ _ _ _ e1) ?_ ?_ ?_ ?_
 rfl
 · (refine a7 ?_; (simp only [go_sem, sw2, List.length_set, List.length_replicate, and_true, true_and, Nat.le_refl, simprocAttr]; done))
 exact .inl rfl
 (simp only [go_sem, Nat.reduceLT])
 refine OW.run [1, 2, 6, 7] ?_
 (simp only [go_sem, simprocAttr, sw0, z0W5a, z1W5a l i.toNat (by omega)])
 refine OW.nil (hK _ ?_)
 refine a5 ?_
 refine a0 fun K hK => OW.run [1, 2, 6, 7, 24] ?_
 simp only [go_sem, simprocAttr, sw0]
 refine OW.nil (hK _ ?_)
 refine d6 rfl (fun h6 => ?_) (fun h6 => ?_)
 replace H := l4 h6 H
 refine a5 ?_
 refine a0 fun K hK => OW.run [4, 5] ?_
 simp only [go_sem, simprocAttr, sw0]
 refine OW.nil (hK _ ?_)
 refine f0 ?_
 change PW.Ends _ _ _ _ _ _
 refine PW.Ends.intro (.inr rfl) ?_
 simp only [go_sem, simprocAttr, sw0]
 obtain rfl := Option.some.inj H
 refine a6 4 (by exact e0 rfl) ?_
 rfl
 replace H := l5 h6 H
 refine d7 ?_
 refine a5 ?_
 obtain ⟨c7, H⟩ := d3 H
 obtain ⟨c8, H⟩ := d3 H
 obtain ⟨x2, e2, H⟩ := a8 H
 refine j7 8 q6 (by kernel_rfl) fun K hK => ?_
 change FW _ _ _ _ _
 refine FW.run ?_
 (simp only [go_sem, simprocAttr, sw0, z2W5a, C0 (fun (x : ByteArray × Int × Int × Int × Int × Int × Int × Int × Int) => [(Sx x.1), (I x.2.1), (I x.2.2.1), (I x.2.2.2.1), (I x.2.2.2.2.1), (I x.2.2.2.2.2.1), (I x.2.2.2.2.2.2.1), (I x.2.2.2.2.2.2.2.1), (I x.2.2.2.2.2.2.2.2)]) (l.take i.toNat) i.toNat (by simp only [List.length_take, List.length_drop]; omega), z0W5a, z1W5a l i.toNat (by omega)])
 repeat (refine And.intro (by omega) ?_)
 refine FW.nil ?_
 change OW _ _ _ _ _ _
 refine OW.run [1, 2, 6, 36] ?_
 (simp only [go_sem, simprocAttr, sw0, z2W5a, C0 (fun (x : ByteArray × Int × Int × Int × Int × Int × Int × Int × Int) => [(Sx x.1), (I x.2.1), (I x.2.2.1), (I x.2.2.2.1), (I x.2.2.2.2.1), (I x.2.2.2.2.2.1), (I x.2.2.2.2.2.2.1), (I x.2.2.2.2.2.2.2.1), (I x.2.2.2.2.2.2.2.2)]) (l.take i.toNat) i.toNat (by simp only [List.length_take, List.length_drop]; omega), z0W5a, z1W5a l i.toNat (by omega)])
 refine d8 4 rfl rfl rfl (by ((simp only [go_sem, List.toList_toArray, simprocAttr]); exact rfl)) ?_ (ref06_find_ok N _ _ _ e2) ?_ ?_ ?_ ?_
 rfl
 exact e0 rfl
 exact .inl rfl
 (simp only [go_sem, Nat.reduceLT])
 refine OW.run [1, 2, 6, 36] ?_
 (simp only [go_sem, simprocAttr, sw0, z2W5a, C0 (fun (x : ByteArray × Int × Int × Int × Int × Int × Int × Int × Int) => [(Sx x.1), (I x.2.1), (I x.2.2.1), (I x.2.2.2.1), (I x.2.2.2.2.1), (I x.2.2.2.2.2.1), (I x.2.2.2.2.2.2.1), (I x.2.2.2.2.2.2.2.1), (I x.2.2.2.2.2.2.2.2)]) (l.take i.toNat) i.toNat (by simp only [List.length_take, List.length_drop]; omega), z0W5a, z1W5a l i.toNat (by omega)])
 refine OW.nil (hK _ ?_)
 refine d6 rfl (fun h9 => ?_) (fun h9 => ?_)
 replace H := l4 h9 H
 refine a5 ?_
 refine a0 fun K hK => OW.run [4, 5] ?_
 simp only [go_sem, simprocAttr, sw0]
 refine OW.nil (hK _ ?_)
 refine f0 ?_
 change PW.Ends _ _ _ _ _ _
 refine PW.Ends.intro (.inr rfl) ?_
 simp only [go_sem, simprocAttr, sw0]
 obtain rfl := Option.some.inj H
 refine a6 4 (by exact e0 rfl) ?_
 rfl
 replace H := l5 h9 H
 refine d7 ?_
 refine a0 fun K hK => OW.run [1, 2, 6] ?_
 simp only [go_sem, simprocAttr, sw0]
 refine OW.nil (hK _ ?_)
 refine hN3 [] (w64 (i + (1 : Int))) _ H (by exact trivial) ?_
 simp only [sw1, go_sem, simprocAttr]
 replace H := l5 h4 H
 refine i9 ?_
 refine hN2 [] () _ H (by exact trivial) ?_
 simp only [sw1, go_sem, simprocAttr]
 rintro _ H
 try simp only [go_sem, simprocAttr]
 refine a5 ?_
 refine a5 ?_
 obtain ⟨x3, e3, H⟩ := a8 H
 refine a0 fun K hK => OW.run [41] ?_
 simp only [go_sem, simprocAttr, sw0]
 refine d8 4 rfl rfl rfl (by ((simp only [go_sem, List.toList_toArray, simprocAttr]); exact rfl)) ?_ (ref06_Fit_ok N _ _ _ _ _ _ e3) ?_ ?_ ?_ ?_
 rfl
 · (refine a7 ?_; (simp only [go_sem, sw2, List.length_set, List.length_replicate, and_true, true_and, Nat.le_refl, simprocAttr]; done))
 exact .inl rfl
 (simp only [go_sem, Nat.reduceLT])
 refine OW.run [41] ?_
 simp only [go_sem, simprocAttr, sw0]
 refine OW.nil (hK _ ?_)
 refine d6 rfl (fun h10 => ?_) (fun h10 => ?_)
 replace H := l4 h10 H
 refine a5 ?_
 refine a0 fun K hK => OW.run [4, 5] ?_
 simp only [go_sem, simprocAttr, sw0]
 refine OW.nil (hK _ ?_)
 refine f0 ?_
 change PW.Ends _ _ _ _ _ _
 refine PW.Ends.intro (.inr rfl) ?_
 simp only [go_sem, simprocAttr, sw0]
 obtain rfl := Option.some.inj H
 refine a6 4 (by exact e0 rfl) ?_
 rfl
 replace H := l5 h10 H
 refine d7 ?_
 refine a5 ?_
 refine a0 fun K hK => OW.run [4, 5] ?_
 simp only [go_sem, simprocAttr, sw0]
 refine OW.nil (hK _ ?_)
 refine f0 ?_
 change PW.Ends _ _ _ _ _ _
 refine PW.Ends.intro (.inr rfl) ?_
 simp only [go_sem, simprocAttr, sw0]
 obtain rfl := Option.some.inj H
 refine a6 4 (by exact e0 rfl) ?_
 rfl

theorem ref06_BothErr_ok (N : Nat) (Zq : Int) (Zr : Int) (Zs : Int) (Zx : List Int) (l : List TB) (r : Int) (H : F0 N Zq Zr Zs Zx l = some r) : CallOK Try.prog 22 [(.agg [(I Zq), (I Zr), (I Zs), (L Zx)]), (.list l.length (l.flatMap (fun (x : ByteArray × Int × Int × Int × Int × Int × Int × Int × Int) => [(Sx x.1), (I x.2.1), (I x.2.2.1), (I x.2.2.2.1), (I x.2.2.2.2.1), (I x.2.2.2.2.2.1), (I x.2.2.2.2.2.2.1), (I x.2.2.2.2.2.2.2.1), (I x.2.2.2.2.2.2.2.2)])))] (.d (I r)) [] := by
 refine d4 Try.func22 rfl (by rw [Try.results22]) Try.ntmps22 Try.call22 ?_
 change PW _ _ _ _ _
 try simp only [go_sem, simprocAttr]
 unfold F0 at H
 refine a5 ?_
 refine a0 fun K hK => OW.run [1, 2] ?_
 simp only [go_sem, simprocAttr, sw0]
 refine OW.nil (hK _ ?_)
 refine a5 ?_
 refine a5 ?_
 obtain ⟨x1, e1, H⟩ := a8 H
 refine a0 fun K hK => OW.run [1, 2, 5] ?_
 simp only [go_sem, simprocAttr, sw0]
 refine d8 4 rfl rfl rfl (by ((simp only [go_sem, List.toList_toArray, simprocAttr]); exact rfl)) ?_ (ref06_SiteErr_ok N _ _ _ _ _ e1) ?_ ?_ ?_ ?_
 rfl
 · (refine a7 ?_; (simp only [go_sem, sw2, List.length_set, List.length_replicate, and_true, true_and, Nat.le_refl, simprocAttr]; done))
 exact .inl rfl
 (simp only [go_sem, Nat.reduceLT])
 refine OW.run [1, 2, 5] ?_
 simp only [go_sem, simprocAttr, sw0]
 refine OW.nil (hK _ ?_)
 refine a5 ?_
 refine a0 fun K hK => OW.run [1, 2, 5, 11] ?_
 simp only [go_sem, simprocAttr, sw0]
 refine OW.nil (hK _ ?_)
 refine d6 rfl (fun h1 => ?_) (fun h1 => ?_)
 replace H := l4 h1 H
 refine a5 ?_
 refine a0 fun K hK => OW.run [4] ?_
 simp only [go_sem, simprocAttr, sw0]
 refine OW.nil (hK _ ?_)
 refine f0 ?_
 change PW.Ends _ _ _ _ _ _
 refine PW.Ends.intro (.inr rfl) ?_
 simp only [go_sem, simprocAttr, sw0]
 obtain rfl := Option.some.inj H
 refine a6 4 (by exact trivial) ?_
 rfl
 replace H := l5 h1 H
 refine d7 ?_
 refine a5 ?_
 obtain ⟨⟨x2, x21⟩, e2, H⟩ := a8 H
 refine a0 fun K hK => OW.run [7] ?_
 simp only [go_sem, simprocAttr, sw0]
 refine d8 4 rfl rfl rfl (by ((simp only [go_sem, List.toList_toArray, simprocAttr]); exact rfl)) ?_ (ref06_CheckBearers_ok N _ _ _ _ _ _ e2) ?_ ?_ ?_ ?_
 rfl
 · (refine a7 ?_; (simp only [go_sem, sw2, List.length_set, List.length_replicate, and_true, true_and, Nat.le_refl, simprocAttr]; done))
 exact .inl rfl
 (simp only [go_sem, Nat.reduceLT])
 refine OW.run [7] ?_
 simp only [go_sem, simprocAttr, sw0]
 refine OW.nil (hK _ ?_)
 refine a5 ?_
 refine a0 fun K hK => OW.run [4] ?_
 simp only [go_sem, simprocAttr, sw0]
 refine OW.nil (hK _ ?_)
 refine f0 ?_
 change PW.Ends _ _ _ _ _ _
 refine PW.Ends.intro (.inr rfl) ?_
 simp only [go_sem, simprocAttr, sw0]
 obtain rfl := Option.some.inj H
 refine a6 4 (by exact trivial) ?_
 rfl

end Go.Proofs.Ytabojpkmfkjjkaa
