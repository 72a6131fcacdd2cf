import Derived.Test.YtabojpkmfkjjkaaSsBase
import Derived.Test.YtabojpkmfkjjkaaSsW0
import Derived.Test.YtabojpkmfkjjkaaSsW3
import Derived.Test.YtabojpkmfkjjkaaSsW4
import Derived.Test.YtabojpkmfkjjkaaSsW9
import Derived.Test.YtabojpkmfkjjkaaSsW10
set_option linter.all false
namespace Go.Proofs.Ytabojpkmfkjjkaa
open Go.PW Go.Sh

set_option maxRecDepth 20000
set_option maxHeartbeats 8000000
theorem sched_RateOf_ok (N : Nat) (Zq : Int) (Zr : Int) (Zs : Int) (Zx : List Int) (report : Int) (r : Int × Int) (H : sched_RateOf N Zq Zr Zs Zx report = some r) : CallOK Try.prog 66 [(.agg [(I Zq), (I Zr), (I Zs), (L Zx)]), (I report)] (.d (.tup [(I r.1), (I r.2)])) [] := by
 refine d3 Try.func66 rfl (by rw [Try.results66]) Try.ntmps66 Try.call66 ?_
 change PW _ _ _ _ _
 try simp only [go_sem, simprocAttr]
 unfold sched_RateOf at H
 refine a5 ?_
 refine a0 fun K hK => OW.run [1, 2] ?_
 simp only [go_sem, simprocAttr, sw0]
 refine OW.nil (hK _ ?_)
 refine a5 ?_
 obtain ⟨⟨x1, x11, x12, x13, x14⟩, e1, H⟩ := a8 H
 refine a0 fun K hK => OW.run [1, 2, 6, 7] ?_
 simp only [go_sem, simprocAttr, sw0]
 refine d5 4 rfl rfl rfl (by ((simp only [go_sem, List.toList_toArray, simprocAttr]); exact rfl)) ?_ (sched_open_ok N _ _ _ _ _ e1) ?_ ?_ ?_ ?_
 rfl
 · (refine a7 ?_; (simp only [go_sem, sw2, List.length_set, List.length_replicate, and_true, true_and, Nat.le_refl, simprocAttr]; done))
 exact .inl rfl
 (simp only [go_sem, Nat.reduceLT])
 refine OW.run [1, 2, 6, 7] ?_
 simp only [go_sem, simprocAttr, sw0]
 refine OW.nil (hK _ ?_)
 refine a5 ?_
 refine a5 ?_
 obtain ⟨x2, e2, H⟩ := a8 H
 obtain ⟨x3, e3, H⟩ := a8 H
 obtain ⟨x4, e4, H⟩ := a8 H
 refine a0 fun K hK => OW.run [1, 2, 7] ?_
 simp only [go_sem, simprocAttr, sw0]
 refine d5 4 rfl rfl rfl (by ((simp only [go_sem, List.toList_toArray, simprocAttr]); exact rfl)) ?_ (r4 N _ _ _ _ _ _ e2) ?_ ?_ ?_ ?_
 rfl
 · (refine a7 ?_; (simp only [go_sem, sw2, List.length_set, List.length_replicate, and_true, true_and, Nat.le_refl, simprocAttr]; done))
 exact .inl rfl
 (simp only [go_sem, Nat.reduceLT])
 refine OW.run [1, 2, 7] ?_
 simp only [go_sem, simprocAttr, sw0]
 refine d5 4 rfl rfl rfl (by ((simp only [go_sem, List.toList_toArray, simprocAttr]); exact rfl)) ?_ (f5 N _ _ _ e3) ?_ ?_ ?_ ?_
 rfl
 exact d8 rfl
 exact .inl rfl
 (simp only [go_sem, Nat.reduceLT])
 refine OW.run [1, 2, 7] ?_
 simp only [go_sem, simprocAttr, sw0]
 refine d5 4 rfl rfl rfl (by ((simp only [go_sem, List.toList_toArray, simprocAttr]); exact rfl)) ?_ (j9 N _ _ e4) ?_ ?_ ?_ ?_
 rfl
 · (refine a7 ?_; (simp only [go_sem, sw2, List.length_set, List.length_replicate, and_true, true_and, Nat.le_refl, simprocAttr]; simp only [seg, go_sem, sw2, List.length_set, List.length_replicate, and_true, true_and, Nat.le_refl, simprocAttr]; done))
 exact .inr ⟨rfl, rfl⟩
 (simp only [go_sem, Nat.reduceLT])
 refine OW.run [1, 2, 7] ?_
 simp only [go_sem, simprocAttr, sw0]
 refine OW.nil (hK _ ?_)
 refine a5 ?_
 refine a0 fun K hK => OW.run [1, 2, 7, 21] ?_
 simp only [go_sem, simprocAttr, sw0]
 refine OW.nil (hK _ ?_)
 refine d9 rfl (fun h1 => ?_) (fun h1 => ?_)
 replace H := k7 h1 H
 refine a5 ?_
 refine a0 fun K hK => OW.run [4, 5] ?_
 simp only [go_sem, simprocAttr, sw0]
 refine OW.nil (hK _ ?_)
 refine f4 ?_
 change PW.Ends _ _ _ _ _ _
 refine PW.Ends.intro (.inr rfl) ?_
 simp only [go_sem, simprocAttr, sw0]
 obtain rfl := Option.some.inj H
 refine a6 4 (by exact d8 rfl) ?_
 rfl
 replace H := k8 h1 H
 refine f0 ?_
 refine a5 ?_
 obtain ⟨c2, H⟩ := d7 H
 refine a0 fun K hK => OW.run [4, 5] ?_
 simp only [go_sem, simprocAttr, sw0]
 repeat (refine And.intro (by omega) ?_)
 refine OW.nil (hK _ ?_)
 refine f4 ?_
 change PW.Ends _ _ _ _ _ _
 refine PW.Ends.intro (.inr rfl) ?_
 simp only [go_sem, simprocAttr, sw0]
 obtain rfl := Option.some.inj H
 refine a6 4 (by exact d8 rfl) ?_
 rfl

theorem sched_Adapted_ok (N : Nat) (Zh : Int) (Zi : Int) (Ze : Int) (Zg : Int) (Zf : Int) (report : Int) (r : Int × Int) (H : z8 N Zh Zi Ze Zg Zf report = some r) : CallOK Try.prog 68 [(.agg [(I Zh), (I Zi), (I Ze), (I Zg), (I Zf)]), (I report)] (.d (.tup [(I r.1), (I r.2)])) [] := by
 refine d3 Try.func68 rfl (by rw [Try.results68]) Try.ntmps68 Try.call68 ?_
 change PW _ _ _ _ _
 try simp only [go_sem, simprocAttr]
 unfold z8 at H
 refine a5 ?_
 refine a0 fun K hK => OW.run [1, 2] ?_
 simp only [go_sem, simprocAttr, sw0]
 refine OW.nil (hK _ ?_)
 refine a5 ?_
 refine a5 ?_
 obtain ⟨x1, e1, H⟩ := a8 H
 obtain ⟨x2, e2, H⟩ := a8 H
 obtain ⟨x3, e3, H⟩ := a8 H
 obtain ⟨x4, e4, H⟩ := a8 H
 refine a0 fun K hK => OW.run [1, 2, 6] ?_
 simp only [go_sem, simprocAttr, sw0]
 refine d5 4 rfl rfl rfl (by ((simp only [go_sem, List.toList_toArray, simprocAttr]); exact rfl)) ?_ (sched_loopErr_ok N _ _ _ _ _ _ e1) ?_ ?_ ?_ ?_
 rfl
 · (refine a7 ?_; (simp only [go_sem, sw2, List.length_set, List.length_replicate, and_true, true_and, Nat.le_refl, simprocAttr]; done))
 exact .inl rfl
 (simp only [go_sem, Nat.reduceLT])
 refine OW.run [1, 2, 6] ?_
 simp only [go_sem, simprocAttr, sw0]
 refine d5 4 rfl rfl rfl (by ((simp only [go_sem, List.toList_toArray, simprocAttr]); exact rfl)) ?_ (f7 N _ _ _ _ e2) ?_ ?_ ?_ ?_
 rfl
 exact d8 rfl
 exact .inl rfl
 (simp only [go_sem, Nat.reduceLT])
 refine OW.run [1, 2, 6] ?_
 simp only [go_sem, simprocAttr, sw0]
 refine d5 4 rfl rfl rfl (by ((simp only [go_sem, List.toList_toArray, simprocAttr]); exact rfl)) ?_ (f5 N _ _ _ e3) ?_ ?_ ?_ ?_
 rfl
 exact d8 rfl
 exact .inl rfl
 (simp only [go_sem, Nat.reduceLT])
 refine OW.run [1, 2, 6] ?_
 simp only [go_sem, simprocAttr, sw0]
 refine d5 4 rfl rfl rfl (by ((simp only [go_sem, List.toList_toArray, simprocAttr]); exact rfl)) ?_ (j9 N _ _ e4) ?_ ?_ ?_ ?_
 rfl
 · (refine a7 ?_; (simp only [go_sem, sw2, List.length_set, List.length_replicate, and_true, true_and, Nat.le_refl, simprocAttr]; simp only [seg, go_sem, sw2, List.length_set, List.length_replicate, and_true, true_and, Nat.le_refl, simprocAttr]; done))
 exact .inr ⟨rfl, rfl⟩
 (simp only [go_sem, Nat.reduceLT])
 refine OW.run [1, 2, 6] ?_
 simp only [go_sem, simprocAttr, sw0]
 refine OW.nil (hK _ ?_)
 refine a5 ?_
 refine a0 fun K hK => OW.run [1, 2, 6, 16] ?_
 simp only [go_sem, simprocAttr, sw0]
 refine OW.nil (hK _ ?_)
 refine d9 rfl (fun h1 => ?_) (fun h1 => ?_)
 replace H := k7 h1 H
 refine a5 ?_
 refine a0 fun K hK => OW.run [4, 5] ?_
 simp only [go_sem, simprocAttr, sw0]
 refine OW.nil (hK _ ?_)
 refine f4 ?_
 change PW.Ends _ _ _ _ _ _
 refine PW.Ends.intro (.inr rfl) ?_
 simp only [go_sem, simprocAttr, sw0]
 obtain rfl := Option.some.inj H
 refine a6 4 (by exact d8 rfl) ?_
 rfl
 replace H := k8 h1 H
 refine f0 ?_
 refine a5 ?_
 refine a0 fun K hK => OW.run [1, 2, 7] ?_
 simp only [go_sem, simprocAttr, sw0]
 repeat (refine And.intro (by omega) ?_)
 refine OW.nil (hK _ ?_)
 refine a5 ?_
 refine a5 ?_
 refine a0 fun K hK => OW.run [1, 7, 24] ?_
 simp only [go_sem, simprocAttr, sw0]
 repeat (refine And.intro (by omega) ?_)
 refine OW.nil (hK _ ?_)
 refine d9 rfl (fun h2 => ?_) (fun h2 => ?_)
 replace H := k7 h2 H
 refine a0 fun K hK => OW.run [1, 7] ?_
 simp only [go_sem, simprocAttr, sw0]
 refine OW.nil (hK _ ?_)
 refine a5 ?_
 refine a0 fun K hK => OW.run [4, 5] ?_
 simp only [go_sem, simprocAttr, sw0]
 refine OW.nil (hK _ ?_)
 refine f4 ?_
 change PW.Ends _ _ _ _ _ _
 refine PW.Ends.intro (.inr rfl) ?_
 simp only [go_sem, simprocAttr, sw0]
 obtain rfl := Option.some.inj H
 refine a6 4 (by exact d8 rfl) ?_
 rfl
 replace H := k8 h2 H
 refine f0 ?_
 refine a5 ?_
 refine a0 fun K hK => OW.run [4, 5] ?_
 simp only [go_sem, simprocAttr, sw0]
 refine OW.nil (hK _ ?_)
 refine f4 ?_
 change PW.Ends _ _ _ _ _ _
 refine PW.Ends.intro (.inr rfl) ?_
 simp only [go_sem, simprocAttr, sw0]
 obtain rfl := Option.some.inj H
 refine a6 4 (by exact d8 rfl) ?_
 rfl

theorem ref06_LoopAfter_ok (N : Nat) (Zh : Int) (Zi : Int) (Ze : Int) (Zg : Int) (Zf : Int) (acks : List Bool) (r : Int × Int × Int × Int × Int) (H : ref06_LoopAfter N Zh Zi Ze Zg Zf acks = some r) : CallOK Try.prog 69 [(.agg [(I Zh), (I Zi), (I Ze), (I Zg), (I Zf)]), (.list acks.length (acks.map Bo))] (.d (.agg [(I r.1), (I r.2.1), (I r.2.2.1), (I r.2.2.2.1), (I r.2.2.2.2)])) [] := by
 refine d3 Try.func69 rfl (by rw [Try.results69]) Try.ntmps69 Try.call69 ?_
 change PW _ _ _ _ _
 try simp only [go_sem, simprocAttr]
 unfold ref06_LoopAfter at H
 refine a5 ?_
 refine a0 fun K hK => OW.run [1, 2, 4] ?_
 simp only [go_sem, simprocAttr, sw0]
 refine OW.nil (hK _ ?_)
 refine i4 (τ := Int) [2, 4] 2 (fun b0 => []) (fun b0 => [{ cells := [.d (I b0), .d (I Zi), .d (I Ze), .d (I Zg), .d (I Zf)], e := 96 }, { cells := [.d (I (0 : Int)), .d (I (0 : Int)), .d (I (0 : Int)), .d (I (0 : Int)), .d (I (0 : Int))], e := 96 }]) _ _ r (by exact Nat.zero_le _) H ?_ ?_
 intro K_ H N1 hN1
 refine a5 ?_
 refine a0 fun K hK => OW.run [1, 2, 4, 5] ?_
 simp only [go_sem, simprocAttr, sw0]
 refine OW.nil (hK _ ?_)
 refine PW.block ?_
 refine i8 (σ := Int × Int) [1, 2, 4, 5] 2 (fun (i, b01) => [(5, .d (I i))]) (fun (i, b01) => [{ cells := [.d (I b01), .d (I Zi), .d (I Ze), .d (I Zg), .d (I Zf)], e := 96 }, { cells := [.d (I (0 : Int)), .d (I (0 : Int)), .d (I (0 : Int)), .d (I (0 : Int)), .d (I (0 : Int))], e := 96 }]) (ref06_LoopAfter.b1 N Zi Ze Zg Zf acks K_) r N ((0 : Int), Zh) (by exact Nat.zero_le _) H (by (simp only [sw1, go_sem, simprocAttr]; done)) ?_
 rintro n ⟨i, b01⟩ H N2 hN2
 unfold ref06_LoopAfter.b1 at H
 try simp only [go_sem, simprocAttr]
 refine a5 ?_
 refine a5 ?_
 refine a0 fun K hK => OW.run [1, 2, 4, 5, 9] ?_
 simp only [go_sem, simprocAttr, sw0]
 refine OW.nil (hK _ ?_)
 refine d9 rfl (fun h3 => ?_) (fun h3 => ?_)
 replace H := k7 h3 H
 refine f0 ?_
 refine a5 ?_
 refine PW.block ?_
 refine a5 ?_
 obtain ⟨c4, H⟩ := d7 H
 refine a0 fun K hK => OW.run [1, 2, 4, 5, 15] ?_
 (simp only [go_sem, simprocAttr, sw0, j1 Bo acks i.toNat default (by omega)])
 repeat (refine And.intro (by omega) ?_)
 refine OW.nil (hK _ ?_)
 refine d9 rfl (fun h5 => ?_) (fun h5 => ?_)
 replace H := k7 h5 H
 refine a0 fun K hK => OW.run [1, 2, 4, 5] ?_
 simp only [go_sem, simprocAttr, sw0]
 repeat (refine And.intro (by omega) ?_)
 refine OW.nil (hK _ ?_)
 refine a0 fun K hK => OW.run [1, 2, 4, 5] ?_
 simp only [go_sem, simprocAttr, sw0]
 refine OW.nil (hK _ ?_)
 refine hN2 [] (w64 (i + (1 : Int)), (if w64 (b01 + Zi) < Zf then w64 (b01 + Zi) else Zf)) _ H (by exact trivial) ?_
 simp only [sw1, go_sem, simprocAttr]
 replace H := k8 h5 H
 refine a0 fun K hK => OW.run [1, 2, 4, 5] ?_
 simp only [go_sem, simprocAttr, sw0]
 repeat (refine And.intro (by omega) ?_)
 refine OW.nil (hK _ ?_)
 refine a0 fun K hK => OW.run [1, 2, 4, 5] ?_
 simp only [go_sem, simprocAttr, sw0]
 refine OW.nil (hK _ ?_)
 refine hN2 [] (w64 (i + (1 : Int)), (if Zg < w64 (b01 - Ze) then w64 (b01 - Ze) else Zg)) _ H (by exact trivial) ?_
 simp only [sw1, go_sem, simprocAttr]
 replace H := k8 h3 H
 refine j3 ?_
 refine hN1 [] b01 _ H (by exact trivial) ?_
 simp only [sw1, go_sem, simprocAttr]
 rintro b0 H
 try simp only [go_sem, simprocAttr]
 refine a5 ?_
 refine a0 fun K hK => OW.run [4] ?_
 simp only [go_sem, simprocAttr, sw0]
 refine OW.nil (hK _ ?_)
 refine f4 ?_
 change PW.Ends _ _ _ _ _ _
 refine PW.Ends.intro (.inr rfl) ?_
 simp only [go_sem, simprocAttr, sw0]
 obtain rfl := Option.some.inj H
 refine a6 4 (by exact d8 rfl) ?_
 rfl

theorem ref06_Adapted_ok (N : Nat) (Zh : Int) (Zi : Int) (Ze : Int) (Zg : Int) (Zf : Int) (report : Int) (r : Int) (H : A1 N Zh Zi Ze Zg Zf report = some r) : CallOK Try.prog 70 [(.agg [(I Zh), (I Zi), (I Ze), (I Zg), (I Zf)]), (I report)] (.d (I r)) [] := by
 refine d3 Try.func70 rfl (by rw [Try.results70]) Try.ntmps70 Try.call70 ?_
 change PW _ _ _ _ _
 try simp only [go_sem, simprocAttr]
 unfold A1 at H
 refine a5 ?_
 refine a0 fun K hK => OW.run [1, 2] ?_
 simp only [go_sem, simprocAttr, sw0]
 refine OW.nil (hK _ ?_)
 refine a5 ?_
 obtain ⟨x1, e1, H⟩ := a8 H
 refine a0 fun K hK => OW.run [4] ?_
 simp only [go_sem, simprocAttr, sw0]
 repeat (refine And.intro (by omega) ?_)
 refine d5 4 rfl rfl rfl (by ((simp only [go_sem, List.toList_toArray, simprocAttr]); exact rfl)) ?_ (base_Floor_ok N _ _ _ e1) ?_ ?_ ?_ ?_
 rfl
 exact d8 rfl
 exact .inl rfl
 (simp only [go_sem, Nat.reduceLT])
 refine OW.run [4] ?_
 simp only [go_sem, simprocAttr, sw0]
 refine OW.nil (hK _ ?_)
 refine f4 ?_
 change PW.Ends _ _ _ _ _ _
 refine PW.Ends.intro (.inr rfl) ?_
 simp only [go_sem, simprocAttr, sw0]
 obtain rfl := Option.some.inj H
 refine a6 4 (by exact trivial) ?_
 rfl

end Go.Proofs.Ytabojpkmfkjjkaa
