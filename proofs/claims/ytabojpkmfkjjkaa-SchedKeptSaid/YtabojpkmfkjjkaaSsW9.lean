import Derived.Test.YtabojpkmfkjjkaaSsBase
import Derived.Test.YtabojpkmfkjjkaaSsW0
import Derived.Test.YtabojpkmfkjjkaaSsW3
import Derived.Test.YtabojpkmfkjjkaaSsW4
set_option linter.all false
namespace Go.Proofs.Ytabojpkmfkjjkaa
open Go.PW Go.Sh

set_option maxRecDepth 20000
set_option maxHeartbeats 8000000
theorem sched_Breaks_1_ok (N : Nat) (n : Int) (r : Bool) (H : v6 N n = some r) : CallOK Try.prog 119 [(I n)] (.d (Bo r)) [] := by
 refine d4 Try.func119 rfl (by rw [Try.results119]) Try.ntmps119 Try.call119 ?_
 change PW _ _ _ _ _
 try simp only [go_sem, simprocAttr]
 unfold v6 at H
 refine a5 ?_
 refine a0 fun K hK => OW.run [0] ?_
 simp only [go_sem, simprocAttr, sw0]
 refine OW.nil (hK _ ?_)
 refine a5 ?_
 obtain ⟨x1, e1, H⟩ := a8 H
 refine a0 fun K hK => OW.run [2] ?_
 simp only [go_sem, simprocAttr, sw0]
 refine d8 4 rfl rfl rfl (by ((simp only [go_sem, List.toList_toArray, simprocAttr]); exact rfl)) ?_ (i8 N _ _ _ _ e1) ?_ ?_ ?_ ?_
 rfl
 exact e0 rfl
 exact .inl rfl
 (simp only [go_sem, Nat.reduceLT])
 refine OW.run [2] ?_
 simp only [go_sem, simprocAttr, sw0]
 refine OW.nil (hK _ ?_)
 refine f0 ?_
 change PW.Ends _ _ _ _ _ _
 refine PW.Ends.intro (.inr rfl) ?_
 simp only [go_sem, simprocAttr, sw0]
 obtain rfl := Option.some.inj H
 refine a6 4 (by exact trivial) ?_
 rfl

theorem sched_Breaks_ok (N : Nat) (Zq : Int) (Zr : Int) (Zs : Int) (Zx : List Int) (Z1e : ByteArray) (Z1c : Int) (Z1h : Int) (Z1j : Int) (Z1g : Int) (Z1d : Int) (Z19 : Int) (Z1i : Int) (Z1a : Int) (arrivals : List Int) (r : Int × Int × Int) (H : sched_Breaks N Zq Zr Zs Zx Z1e Z1c Z1h Z1j Z1g Z1d Z19 Z1i Z1a arrivals = some r) : CallOK Try.prog 52 [(.agg [(I Zq), (I Zr), (I Zs), (L Zx)]), (.agg [(Sx Z1e), (I Z1c), (I Z1h), (I Z1j), (I Z1g), (I Z1d), (I Z19), (I Z1i), (I Z1a)]), (L arrivals)] (.d (.tup [(.agg [(I r.1), (I r.2.1)]), (I r.2.2)])) [] := by
 refine d4 Try.func52 rfl (by rw [Try.results52]) Try.ntmps52 Try.call52 ?_
 change PW _ _ _ _ _
 try simp only [go_sem, simprocAttr]
 unfold sched_Breaks at H
 refine a5 ?_
 refine a0 fun K hK => OW.run [2, 3, 4, 6] ?_
 simp only [go_sem, simprocAttr, sw0]
 refine OW.nil (hK _ ?_)
 refine a5 ?_
 obtain ⟨⟨x1, x11, x12, x13, x14⟩, e1, H⟩ := a8 H
 refine a0 fun K hK => OW.run [2, 4, 6, 9] ?_
 simp only [go_sem, simprocAttr, sw0]
 refine d8 4 rfl rfl rfl (by ((simp only [go_sem, List.toList_toArray, simprocAttr]); exact rfl)) ?_ (sched_openBearer_ok N _ _ _ _ _ _ _ _ _ _ _ _ _ _ e1) ?_ ?_ ?_ ?_
 rfl
 · (refine a7 ?_; (simp only [go_sem, sw2, List.length_set, List.length_replicate, and_true, true_and, Nat.le_refl, simprocAttr]; done))
 exact .inl rfl
 (simp only [go_sem, Nat.reduceLT])
 refine OW.run [2, 4, 6, 9] ?_
 simp only [go_sem, simprocAttr, sw0]
 refine OW.nil (hK _ ?_)
 refine a5 ?_
 obtain ⟨x2, e2, H⟩ := a8 H
 refine a0 fun K hK => OW.run [2, 4, 6, 9, 10] ?_
 simp only [go_sem, simprocAttr, sw0]
 refine d8 4 rfl rfl rfl (by ((simp only [go_sem, List.toList_toArray, simprocAttr]); exact rfl)) ?_ (C8 N _ 119 [] (fun y0 => v6 N y0) (fun y0 r h => sched_Breaks_1_ok N y0 r h) _ e2) ?_ ?_ ?_ ?_
 rfl
 exact e0 rfl
 exact .inl rfl
 (simp only [go_sem, Nat.reduceLT])
 refine OW.run [2, 4, 6, 9, 10] ?_
 simp only [go_sem, simprocAttr, sw0]
 refine OW.nil (hK _ ?_)
 refine a5 ?_
 obtain ⟨x3, e3, H⟩ := a8 H
 obtain ⟨x4, e4, H⟩ := a8 H
 obtain ⟨x5, e5, H⟩ := a8 H
 obtain ⟨x6, e6, H⟩ := a8 H
 obtain ⟨x7, e7, H⟩ := a8 H
 refine a0 fun K hK => OW.run [2, 4, 6, 9] ?_
 simp only [go_sem, simprocAttr, sw0]
 refine d8 4 rfl rfl rfl (by ((simp only [go_sem, List.toList_toArray, simprocAttr]); exact rfl)) ?_ (t0 N _ _ _ _ _ _ _ _ _ _ e3) ?_ ?_ ?_ ?_
 rfl
 · (refine a7 ?_; (simp only [go_sem, sw2, List.length_set, List.length_replicate, and_true, true_and, Nat.le_refl, simprocAttr]; done))
 exact .inl rfl
 (simp only [go_sem, Nat.reduceLT])
 refine OW.run [2, 4, 6, 9] ?_
 simp only [go_sem, simprocAttr, sw0]
 refine d8 4 rfl rfl rfl (by ((simp only [go_sem, List.toList_toArray, simprocAttr]); exact rfl)) ?_ (g8 N _ _ _ e4) ?_ ?_ ?_ ?_
 rfl
 exact e0 rfl
 exact .inl rfl
 (simp only [go_sem, Nat.reduceLT])
 refine OW.run [2, 4, 6, 9] ?_
 simp only [go_sem, simprocAttr, sw0]
 refine d8 4 rfl rfl rfl (by ((simp only [go_sem, List.toList_toArray, simprocAttr]); exact rfl)) ?_ (g8 N _ _ _ e5) ?_ ?_ ?_ ?_
 rfl
 exact e0 rfl
 exact .inl rfl
 (simp only [go_sem, Nat.reduceLT])
 refine OW.run [2, 4, 6, 9] ?_
 simp only [go_sem, simprocAttr, sw0]
 refine d8 4 rfl rfl rfl (by ((simp only [go_sem, List.toList_toArray, simprocAttr]); exact rfl)) ?_ (g8 N _ _ _ e6) ?_ ?_ ?_ ?_
 rfl
 exact e0 rfl
 exact .inl rfl
 (simp only [go_sem, Nat.reduceLT])
 refine OW.run [2, 4, 6, 9] ?_
 simp only [go_sem, simprocAttr, sw0]
 refine d8 4 rfl rfl rfl (by ((simp only [go_sem, List.toList_toArray, simprocAttr]); exact rfl)) ?_ (p3 N _ _ e7) ?_ ?_ ?_ ?_
 rfl
 · (refine a7 ?_; (simp only [go_sem, sw2, List.length_set, List.length_replicate, and_true, true_and, Nat.le_refl, simprocAttr]; simp only [seg, go_sem, sw2, List.length_set, List.length_replicate, and_true, true_and, Nat.le_refl, simprocAttr]; done))
 exact .inr ⟨rfl, rfl⟩
 (simp only [go_sem, Nat.reduceLT])
 refine OW.run [2, 4, 6, 9] ?_
 simp only [go_sem, simprocAttr, sw0]
 refine OW.nil (hK _ ?_)
 refine a5 ?_
 refine a5 ?_
 refine a0 fun K hK => OW.run [2, 4, 6, 9, 38] ?_
 simp only [go_sem, simprocAttr, sw0]
 refine OW.nil (hK _ ?_)
 refine d6 rfl (fun h1 => ?_) (fun h1 => ?_)
 replace H := l4 h1 H
 refine a5 ?_
 refine a0 fun K hK => OW.run [6, 7] ?_
 simp only [go_sem, simprocAttr, sw0]
 refine OW.nil (hK _ ?_)
 refine f0 ?_
 change PW.Ends _ _ _ _ _ _
 refine PW.Ends.intro (.inr rfl) ?_
 simp only [go_sem, simprocAttr, sw0]
 obtain rfl := Option.some.inj H
 refine a6 4 (by (refine a7 ?_; (simp only [go_sem, sw2, List.length_set, List.length_replicate, and_true, true_and, Nat.le_refl, simprocAttr]; done))) ?_
 rfl
 replace H := l5 h1 H
 refine d7 ?_
 refine f8 (τ := Unit) [6] 3 (fun _ => []) (fun _ => [{ cells := [.d (I Zq), .d (I Zr), .d (I Zs), .d (L Zx)], e := 24 }, { cells := [.d (Sx Z1e), .d (I Z1c), .d (I Z1h), .d (I Z1j), .d (I Z1g), .d (I Z1d), .d (I Z19), .d (I Z1i), .d (I Z1a)], e := 27 }, { cells := [.d (I (0 : Int)), .d (I (0 : Int))], e := 86 }]) _ _ r (by exact Nat.zero_le _) H ?_ ?_
 intro K_ H N2 hN2
 refine a5 ?_
 refine a0 fun K hK => OW.run [2, 4, 6, 42, 43] ?_
 simp only [go_sem, simprocAttr, sw0]
 refine OW.nil (hK _ ?_)
 refine PW.block ?_
 refine g9 (σ := Int) [2, 4, 6, 42, 43] 3 (fun t43 => [(43, .d (I t43))]) (fun t43 => [{ cells := [.d (I Zq), .d (I Zr), .d (I Zs), .d (L Zx)], e := 24 }, { cells := [.d (Sx Z1e), .d (I Z1c), .d (I Z1h), .d (I Z1j), .d (I Z1g), .d (I Z1d), .d (I Z19), .d (I Z1i), .d (I Z1a)], e := 27 }, { cells := [.d (I (0 : Int)), .d (I (0 : Int))], e := 86 }]) (sched_Breaks.b1 N Z19 Z1i arrivals K_) r N (0 : Int) (by exact Nat.zero_le _) H (by (simp only [sw1, go_sem, simprocAttr]; done)) ?_
 rintro n t43 H N3 hN3
 unfold sched_Breaks.b1 at H
 try simp only [go_sem, simprocAttr]
 refine a5 ?_
 refine a0 fun K hK => OW.run [2, 4, 6, 42, 43, 44] ?_
 simp only [go_sem, simprocAttr, sw0]
 refine OW.nil (hK _ ?_)
 refine a5 ?_
 refine d6 rfl (fun h4 => ?_) (fun h4 => ?_)
 replace H := l4 h4 H
 refine d7 ?_
 refine f8 (τ := Unit) [2, 4, 6, 42, 43] 3 (fun _ => []) (fun _ => [{ cells := [.d (I Zq), .d (I Zr), .d (I Zs), .d (L Zx)], e := 24 }, { cells := [.d (Sx Z1e), .d (I Z1c), .d (I Z1h), .d (I Z1j), .d (I Z1g), .d (I Z1d), .d (I Z19), .d (I Z1i), .d (I Z1a)], e := 27 }, { cells := [.d (I (0 : Int)), .d (I (0 : Int))], e := 86 }]) _ _ r (by exact Nat.zero_le _) H ?_ ?_
 intro K_1 H N5 hN5
 refine PW.block ?_
 refine a5 ?_
 refine a0 fun K hK => OW.run [2, 4, 6, 11, 42, 43] ?_
 simp only [go_sem, simprocAttr, sw0]
 refine OW.nil (hK _ ?_)
 refine a5 ?_
 refine j7 3 q6 (by kernel_rfl) fun K hK => ?_
 change FW _ _ _ _ _
 refine FW.run ?_
 simp only [go_sem, simprocAttr, sw0]
 repeat (refine And.intro (by omega) ?_)
 refine FW.nil ?_
 change OW _ _ _ _ _ _
 refine OW.run [2, 4, 6, 11, 12, 13, 42, 43] ?_
 simp only [go_sem, simprocAttr, sw0]
 refine OW.nil (hK _ ?_)
 refine a5 ?_
 obtain ⟨c6, H⟩ := d3 H
 refine a0 fun K hK => OW.run [2, 4, 6, 11, 12, 13, 42, 43, 50, 51, 52] ?_
 (simp only [go_sem, simprocAttr, sw0, slice_len I ((arrivals.drop t43.toNat).take (arrivals.length - t43.toNat)) (arrivals.length - t43.toNat) (by simp only [List.length_take, List.length_drop]; omega)])
 repeat (refine And.intro (by omega) ?_)
 refine OW.nil (hK _ ?_)
 refine PW.block ?_
 refine g9 (σ := Int × Int × Int) [2, 4, 6, 11, 12, 13, 42, 43, 50, 51, 52] 3 (fun (sum, most, t52) => [(12, .d (I sum)), (13, .d (I most)), (52, .d (I t52))]) (fun (sum, most, t52) => [{ cells := [.d (I Zq), .d (I Zr), .d (I Zs), .d (L Zx)], e := 24 }, { cells := [.d (Sx Z1e), .d (I Z1c), .d (I Z1h), .d (I Z1j), .d (I Z1g), .d (I Z1d), .d (I Z19), .d (I Z1i), .d (I Z1a)], e := 27 }, { cells := [.d (I (0 : Int)), .d (I (0 : Int))], e := 86 }]) (B3 N Z1i arrivals t43 K_1) r N ((0 : Int), Z19, (0 : Int)) (by exact Nat.zero_le _) H (by (simp only [sw1, go_sem, simprocAttr]; done)) ?_
 rintro n ⟨sum, most, t52⟩ H N7 hN7
 unfold B3 at H
 try simp only [go_sem, simprocAttr]
 refine a5 ?_
 refine a0 fun K hK => OW.run [2, 4, 6, 11, 12, 13, 42, 43, 50, 51, 52, 53] ?_
 simp only [go_sem, simprocAttr, sw0]
 refine OW.nil (hK _ ?_)
 refine a5 ?_
 refine d6 rfl (fun h8 => ?_) (fun h8 => ?_)
 replace H := l4 h8 H
 refine d7 ?_
 refine a5 ?_
 refine PW.block ?_
 refine a5 ?_
 obtain ⟨c9, H⟩ := d3 H
 refine a0 fun K hK => OW.run [2, 4, 6, 11, 12, 13, 14, 15, 42, 43, 50, 51, 52] ?_
 simp only [go_sem, simprocAttr, sw0]
 repeat (refine And.intro (by omega) ?_)
 refine OW.nil (hK _ ?_)
 refine a5 ?_
 refine a5 ?_
 refine a0 fun K hK => OW.run [2, 4, 6, 11, 12, 13, 14, 42, 43, 50, 51, 52] ?_
 simp only [go_sem, simprocAttr, sw0]
 refine OW.nil (hK _ ?_)
 refine a5 ?_
 refine a0 fun K hK => OW.run [2, 4, 6, 11, 12, 13, 14, 42, 43, 50, 51, 52, 62] ?_
 simp only [go_sem, simprocAttr, sw0]
 refine OW.nil (hK _ ?_)
 refine d6 rfl (fun h10 => ?_) (fun h10 => ?_)
 replace H := l4 h10 H
 refine a5 ?_
 refine a0 fun K hK => OW.run [6, 7] ?_
 simp only [go_sem, simprocAttr, sw0]
 refine OW.nil (hK _ ?_)
 refine f0 ?_
 change PW.Ends _ _ _ _ _ _
 refine PW.Ends.intro (.inr rfl) ?_
 simp only [go_sem, simprocAttr, sw0]
 obtain rfl := Option.some.inj H
 refine a6 4 (by (refine a7 ?_; (simp only [go_sem, sw2, List.length_set, List.length_replicate, and_true, true_and, Nat.le_refl, simprocAttr]; done))) ?_
 rfl
 replace H := l5 h10 H
 refine d7 ?_
 refine a0 fun K hK => OW.run [2, 4, 6, 11, 12, 13, 42, 43, 50, 51, 52] ?_
 simp only [go_sem, simprocAttr, sw0]
 repeat (refine And.intro (by omega) ?_)
 refine OW.nil (hK _ ?_)
 refine a0 fun K hK => OW.run [2, 4, 6, 11, 12, 13, 42, 43, 50, 51, 52] ?_
 simp only [go_sem, simprocAttr, sw0]
 refine OW.nil (hK _ ?_)
 refine hN7 [] (w64 (sum + (((arrivals.drop t43.toNat).take (arrivals.length - t43.toNat)).getD t52.toNat 0)), w64 (most + Z1i), w64 (t52 + (1 : Int))) _ H (by exact trivial) ?_
 simp only [sw1, go_sem, simprocAttr]
 replace H := l5 h8 H
 refine i9 ?_
 refine hN5 [] () _ H (by exact trivial) ?_
 simp only [sw1, go_sem, simprocAttr]
 rintro _ H
 try simp only [go_sem, simprocAttr]
 refine a0 fun K hK => OW.run [2, 4, 6, 42, 43] ?_
 simp only [go_sem, simprocAttr, sw0]
 refine OW.nil (hK _ ?_)
 refine hN3 [] (w64 (t43 + (1 : Int))) _ H (by exact trivial) ?_
 simp only [sw1, go_sem, simprocAttr]
 replace H := l5 h4 H
 refine i9 ?_
 refine hN2 [] () _ H (by exact trivial) ?_
 simp only [sw1, go_sem, simprocAttr]
 rintro _ H
 try simp only [go_sem, simprocAttr]
 refine a5 ?_
 refine a0 fun K hK => OW.run [6, 7] ?_
 simp only [go_sem, simprocAttr, sw0]
 refine OW.nil (hK _ ?_)
 refine f0 ?_
 change PW.Ends _ _ _ _ _ _
 refine PW.Ends.intro (.inr rfl) ?_
 simp only [go_sem, simprocAttr, sw0]
 obtain rfl := Option.some.inj H
 refine a6 4 (by (refine a7 ?_; (simp only [go_sem, sw2, List.length_set, List.length_replicate, and_true, true_and, Nat.le_refl, simprocAttr]; done))) ?_
 rfl

end Go.Proofs.Ytabojpkmfkjjkaa
