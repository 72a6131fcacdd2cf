import Derived.Test.YtabojpkmfkjjkaaSsBase
import Derived.Test.YtabojpkmfkjjkaaSsW0
import Derived.Test.YtabojpkmfkjjkaaSsW3
import Derived.Test.YtabojpkmfkjjkaaSsW4
import Derived.Test.YtabojpkmfkjjkaaSsW7
import Derived.Test.YtabojpkmfkjjkaaSsW9
import Derived.Test.YtabojpkmfkjjkaaSsW10
set_option linter.all false
namespace Go.Proofs.Ytabojpkmfkjjkaa
open Go.PW Go.Sh

set_option maxRecDepth 20000
set_option maxHeartbeats 8000000
def z0W11a := f4 9 (fun (x : ByteArray × Int × Int × Int × Int × Int × Int × Int × Int) => [(Sx x.1), (I x.2.1), (I x.2.2.1), (I x.2.2.2.1), (I x.2.2.2.2.1), (I x.2.2.2.2.2.1), (I x.2.2.2.2.2.2.1), (I x.2.2.2.2.2.2.2.1), (I x.2.2.2.2.2.2.2.2)]) (fun _ => rfl)
def z1W11a := q9 9 (fun (x : ByteArray × Int × Int × Int × Int × Int × Int × Int × Int) => [(Sx x.1), (I x.2.1), (I x.2.2.1), (I x.2.2.2.1), (I x.2.2.2.2.1), (I x.2.2.2.2.2.1), (I x.2.2.2.2.2.2.1), (I x.2.2.2.2.2.2.2.1), (I x.2.2.2.2.2.2.2.2)]) (fun _ => rfl)
theorem law06_SchedKept_ok (N : Nat) (Zq : Int) (Zr : Int) (Zs : Int) (Zx : List Int) (l : List TB) (slots : List (List Int × List Int)) (r : Bool) (H : law06_SchedKept N Zq Zr Zs Zx l slots = some r) : CallOK Try.prog 14 [(.agg [(I Zq), (I Zr), (I Zs), (L Zx)]), (.list l.length (l.flatMap (fun (x : ByteArray × Int × Int × Int × Int × Int × Int × Int × Int) => [(Sx x.1), (I x.2.1), (I x.2.2.1), (I x.2.2.2.1), (I x.2.2.2.2.1), (I x.2.2.2.2.2.1), (I x.2.2.2.2.2.2.1), (I x.2.2.2.2.2.2.2.1), (I x.2.2.2.2.2.2.2.2)]))), (.list slots.length (slots.flatMap (fun (x : List Int × List Int) => [(L x.1), (L x.2)])))] (.d (Bo r)) [] := by
 refine d4 Try.func14 rfl (by rw [Try.results14]) Try.ntmps14 Try.call14 ?_
 change PW _ _ _ _ _
 try simp only [go_sem, simprocAttr]
 unfold law06_SchedKept at H
 refine a5 ?_
 refine a0 fun K hK => OW.run [1, 2, 3] ?_
 simp only [go_sem, simprocAttr, sw0]
 refine OW.nil (hK _ ?_)
 refine a5 ?_
 refine a5 ?_
 obtain ⟨x1, e1, H⟩ := a8 H
 refine a0 fun K hK => OW.run [1, 2, 3, 15] ?_
 simp only [go_sem, simprocAttr, sw0]
 refine d8 4 rfl rfl rfl (by ((simp only [go_sem, List.toList_toArray, simprocAttr]); exact rfl)) ?_ (law06_awake_ok N  _ e1) ?_ ?_ ?_ ?_
 rfl
 exact e0 rfl
 exact .inl rfl
 (simp only [go_sem, Nat.reduceLT])
 refine OW.run [1, 2, 3, 15] ?_
 simp only [go_sem, simprocAttr, sw0]
 refine OW.nil (hK _ ?_)
 refine d6 rfl (fun h1 => ?_) (fun h1 => ?_)
 replace H := l4 h1 H
 refine a5 ?_
 refine a0 fun K hK => OW.run [6] ?_
 simp only [go_sem, simprocAttr, sw0]
 refine OW.nil (hK _ ?_)
 refine f0 ?_
 change PW.Ends _ _ _ _ _ _
 refine PW.Ends.intro (.inr rfl) ?_
 simp only [go_sem, simprocAttr, sw0]
 obtain rfl := Option.some.inj H
 refine a6 4 (by exact trivial) ?_
 rfl
 replace H := l5 h1 H
 refine d7 ?_
 refine a5 ?_
 refine a5 ?_
 obtain ⟨x2, e2, H⟩ := a8 H
 obtain ⟨x3, e3, H⟩ := a8 H
 obtain ⟨x4, e4, H⟩ := a8 H
 refine a0 fun K hK => OW.run [1, 2, 3, 36] ?_
 simp only [go_sem, simprocAttr, sw0]
 refine d8 4 rfl rfl rfl (by ((simp only [go_sem, List.toList_toArray, simprocAttr]); exact rfl)) ?_ (law06_Few_ok N _ _ _ _ _ _ e2) ?_ ?_ ?_ ?_
 rfl
 · (refine a7 ?_; (simp only [go_sem, sw2, List.length_set, List.length_replicate, and_true, true_and, Nat.le_refl, simprocAttr]; done))
 exact .inl rfl
 (simp only [go_sem, Nat.reduceLT])
 refine OW.run [1, 2, 3, 36] ?_
 simp only [go_sem, simprocAttr, sw0]
 refine m6 4 rfl rfl ?_ (fun hg => by first | rfl | (simp only [go_sem, ↓reduceIte]; rfl)) (fun hg => by ((simp only [go_sem, List.toList_toArray, simprocAttr]); exact rfl)) (fun hg => ?_) (fun hg => (law06_brief_ok N _ _ (w9 hg e3))) ?_ ?_ ?_ ?_
 simp only [go_sem, simprocAttr]
 rfl
 exact e0 rfl
 exact .inl rfl
 (simp only [go_sem, Nat.reduceLT])
 refine OW.run [1, 2, 3, 36] ?_
 simp only [go_sem, simprocAttr, sw0]
 refine m6 4 rfl rfl ?_ (fun hg => by first | rfl | (simp only [go_sem, ↓reduceIte]; rfl)) (fun hg => by ((simp only [go_sem, List.toList_toArray, simprocAttr]); exact rfl)) (fun hg => ?_) (fun hg => (law06_runErr_ok N _ _ _ _ _ _ _ (w9 hg e4))) ?_ ?_ ?_ ?_
 simp only [go_sem, simprocAttr]
 rfl
 · (refine a7 ?_; (simp only [go_sem, sw2, List.length_set, List.length_replicate, and_true, true_and, Nat.le_refl, simprocAttr]; done))
 exact .inl rfl
 (simp only [go_sem, Nat.reduceLT])
 refine OW.run [1, 2, 3, 36] ?_
 simp only [go_sem, simprocAttr, sw0]
 refine OW.nil (hK _ ?_)
 refine d6 rfl (fun h2 => ?_) (fun h2 => ?_)
 replace H := l4 h2 H
 refine a5 ?_
 refine a0 fun K hK => OW.run [6] ?_
 simp only [go_sem, simprocAttr, sw0]
 refine OW.nil (hK _ ?_)
 refine f0 ?_
 change PW.Ends _ _ _ _ _ _
 refine PW.Ends.intro (.inr rfl) ?_
 simp only [go_sem, simprocAttr, sw0]
 obtain rfl := Option.some.inj H
 refine a6 4 (by exact trivial) ?_
 rfl
 replace H := l5 h2 H
 refine d7 ?_
 refine f8 (τ := Unit) [1, 2, 3] 1 (fun _ => []) (fun _ => [{ cells := [.d (I Zq), .d (I Zr), .d (I Zs), .d (L Zx)], e := 24 }]) _ _ r (by exact Nat.zero_le _) H ?_ ?_
 intro K_ H N3 hN3
 refine a5 ?_
 refine a0 fun K hK => OW.run [1, 2, 3, 7] ?_
 simp only [go_sem, simprocAttr, sw0]
 refine OW.nil (hK _ ?_)
 refine PW.block ?_
 refine g9 (σ := Int) [1, 2, 3, 7] 1 (fun k => [(7, .d (I k))]) (fun k => [{ cells := [.d (I Zq), .d (I Zr), .d (I Zs), .d (L Zx)], e := 24 }]) (law06_SchedKept.b1 N Zq Zr Zs Zx l slots K_) r N (0 : Int) (by exact Nat.zero_le _) H (by (simp only [sw1, go_sem, simprocAttr]; done)) ?_
 rintro n k H N4 hN4
 unfold law06_SchedKept.b1 at H
 try simp only [go_sem, simprocAttr]
 refine a5 ?_
 refine a5 ?_
 refine a0 fun K hK => OW.run [1, 2, 3, 7, 40] ?_
 simp only [go_sem, simprocAttr, sw0]
 refine OW.nil (hK _ ?_)
 refine d6 rfl (fun h5 => ?_) (fun h5 => ?_)
 replace H := l4 h5 H
 refine d7 ?_
 refine f8 (τ := Unit) [1, 2, 3, 7] 1 (fun _ => []) (fun _ => [{ cells := [.d (I Zq), .d (I Zr), .d (I Zs), .d (L Zx)], e := 24 }]) _ _ r (by exact Nat.zero_le _) H ?_ ?_
 intro K_1 H N6 hN6
 refine PW.block ?_
 refine a5 ?_
 refine a5 ?_
 obtain ⟨c7, H⟩ := d3 H
 refine a0 fun K hK => OW.run [1, 2, 3, 7, 48] ?_
 (simp only [go_sem, simprocAttr, sw0, z0W11a, z1W11a l k.toNat (by omega)])
 repeat (refine And.intro (by omega) ?_)
 refine OW.nil (hK _ ?_)
 refine d6 rfl (fun h8 => ?_) (fun h8 => ?_)
 replace H := l4 h8 H
 refine i9 ?_
 refine hN6 [] () _ H (by exact trivial) ?_
 simp only [sw1, go_sem, simprocAttr]
 replace H := l5 h8 H
 refine d7 ?_
 refine a5 ?_
 refine a0 fun K hK => OW.run [1, 2, 3, 7, 8] ?_
 simp only [go_sem, simprocAttr, sw0]
 refine OW.nil (hK _ ?_)
 refine f8 (τ := List Int) [1, 2, 3, 7, 8] 2 (fun b1 => [(8, .own 1 0 b1.length 1)]) (fun b1 => [{ cells := [.d (I Zq), .d (I Zr), .d (I Zs), .d (L Zx)], e := 24 }, { cells := (b1.map I).map .d, e := 3 }]) _ _ r (by exact Nat.zero_le _) H ?_ ?_
 intro K_2 H N9 hN9
 refine a5 ?_
 refine a0 fun K hK => OW.run [1, 2, 3, 7, 8, 9] ?_
 simp only [go_sem, simprocAttr, sw0]
 refine OW.nil (hK _ ?_)
 refine PW.block ?_
 refine PW.virt 8 3 1 rfl ?_
 try simp only [go_sem, simprocAttr]
 refine g9 (σ := Int × List Int) [1, 2, 3, 7, 8, 9] 2 (fun (t, b11) => [(8, .own 1 0 b11.length 1), (9, .d (I t))]) (fun (t, b11) => [{ cells := [.d (I Zq), .d (I Zr), .d (I Zs), .d (L Zx)], e := 24 }, { cells := (b11.map I).map .d, e := 3 }]) (u5 N l slots k K_2) r N ((0 : Int), ([] : List Int)) (by exact Nat.zero_le _) H (by (simp only [sw1, go_sem, simprocAttr]; done)) ?_
 rintro n ⟨t, b11⟩ H N10 hN10
 unfold u5 at H
 try simp only [go_sem, simprocAttr]
 refine a5 ?_
 refine a5 ?_
 refine a0 fun K hK => OW.run [1, 2, 3, 7, 8, 9, 52] ?_
 simp only [go_sem, simprocAttr, sw0]
 refine OW.nil (hK _ ?_)
 refine d6 rfl (fun h11 => ?_) (fun h11 => ?_)
 replace H := l4 h11 H
 refine d7 ?_
 refine a5 ?_
 refine PW.block ?_
 refine a5 ?_
 refine a5 ?_
 obtain ⟨c12, H⟩ := d3 H
 obtain ⟨c13, H⟩ := d3 H
 obtain ⟨c14, H⟩ := d3 H
 refine j7 13 q6 (by kernel_rfl) fun K hK => ?_
 change FW _ _ _ _ _
 refine FW.run ?_
 (simp only [go_sem, simprocAttr, sw0, f4 2 (fun (x : List Int × List Int) => [(L x.1), (L x.2)]) (fun _ => rfl), q9 2 (fun (x : List Int × List Int) => [(L x.1), (L x.2)]) (fun _ => rfl) slots t.toNat (by omega), z0W11a, z1W11a l k.toNat (by omega)])
 repeat (refine And.intro (by omega) ?_)
 refine FW.nil ?_
 change OW _ _ _ _ _ _
 refine OW.run [1, 2, 3, 7, 8, 9, 68] ?_
 (simp only [go_sem, simprocAttr, sw0, f4 2 (fun (x : List Int × List Int) => [(L x.1), (L x.2)]) (fun _ => rfl), q9 2 (fun (x : List Int × List Int) => [(L x.1), (L x.2)]) (fun _ => rfl) slots t.toNat (by omega), z0W11a, z1W11a l k.toNat (by omega)])
 refine OW.nil (hK _ ?_)
 refine d6 rfl (fun h15 => ?_) (fun h15 => ?_)
 replace H := l4 h15 H
 refine a5 ?_
 refine a0 fun K hK => OW.run [6] ?_
 simp only [go_sem, simprocAttr, sw0]
 refine OW.nil (hK _ ?_)
 refine f0 ?_
 change PW.Ends _ _ _ _ _ _
 refine PW.Ends.intro (.inr rfl) ?_
 simp only [go_sem, simprocAttr, sw0]
 obtain rfl := Option.some.inj H
 refine a6 4 (by exact trivial) ?_
 rfl
 replace H := l5 h15 H
 refine d7 ?_
 change PW _ _ _ _ _
 obtain ⟨c16, H⟩ := d3 H
 obtain ⟨c17, H⟩ := d3 H
 obtain ⟨c18, H⟩ := d3 H
 refine a0 fun K hK => OW.run [1, 2, 3, 7, 8, 9] ?_
 (simp only [go_sem, simprocAttr, sw0, f4 2 (fun (x : List Int × List Int) => [(L x.1), (L x.2)]) (fun _ => rfl), q9 2 (fun (x : List Int × List Int) => [(L x.1), (L x.2)]) (fun _ => rfl) slots t.toNat (by omega)])
 repeat (refine And.intro (by omega) ?_)
 refine OW.nil (hK _ ?_)
 refine a0 fun K hK => OW.run [1, 2, 3, 7, 8, 9] ?_
 simp only [go_sem, simprocAttr, sw0]
 refine OW.nil (hK _ ?_)
 refine hN10 [] (w64 (t + (1 : Int)), (b11 ++ ([(((slots.getD t.toNat default).2).getD k.toNat 0)] : List Int))) _ H (by exact trivial) ?_
 simp only [sw1, go_sem, simprocAttr]
 replace H := l5 h11 H
 refine i9 ?_
 refine hN9 [] b11 _ H (by exact trivial) ?_
 simp only [sw1, go_sem, simprocAttr]
 rintro b1 H
 try simp only [go_sem, simprocAttr]
 refine a5 ?_
 obtain ⟨⟨x5, x51, x52, x53⟩, e5, H⟩ := a8 H
 obtain ⟨c19, H⟩ := d3 H
 obtain ⟨⟨x6, x61, x62⟩, e6, H⟩ := a8 H
 refine PW.drawO 13 [11] [86] q6 (by kernel_rfl) (by decide) rfl fun K hK => ?_
 refine FWO.run ?_
 (simp only [go_sem, simprocAttr, sw0, z0W11a, z1W11a l k.toNat (by omega)])
 refine FWO.call' 4 (by decide) rfl rfl rfl (by ((simp only [go_sem, List.toList_toArray, simprocAttr]); exact rfl)) ?_ (ref06_Copy_ok N _ _ _ _ _ e5) ?_ ?_ ?_ ?_
 rfl
 · (refine a7 ?_; (simp only [go_sem, sw2, List.length_set, List.length_replicate, and_true, true_and, Nat.le_refl, simprocAttr]; done))
 exact .inl rfl
 (simp only [go_sem, Nat.reduceLT])
 refine FWO.run ?_
 (simp only [go_sem, simprocAttr, sw0, z0W11a, z1W11a l k.toNat (by omega)])
 repeat (refine And.intro (by omega) ?_)
 refine FWO.call' 4 (by decide) rfl rfl rfl (by ((simp only [go_sem, List.toList_toArray, simprocAttr]); exact rfl)) ?_ (sched_Breaks_ok N _ _ _ _ _ _ _ _ _ _ _ _ _ _ _ e6) ?_ ?_ ?_ ?_
 · (((simp only [go_sem, sw1, simprocAttr]; try simp only [seg, go_sem, simprocAttr])); done)
 · (refine a7 ?_; (simp only [go_sem, sw2, List.length_set, List.length_replicate, and_true, true_and, Nat.le_refl, simprocAttr]; done))
 exact .inr rfl
 (simp only [go_sem, Nat.reduceLT])
 refine FWO.run ?_
 (simp only [go_sem, simprocAttr, sw0, z0W11a, z1W11a l k.toNat (by omega)])
 repeat (refine And.intro (by rfl) ?_)
 first | refine FWO.nil ?_ | skip
 change OW _ _ _ _ _ _
 refine OW.run [1, 2, 3, 7, 11] ?_
 (simp only [go_sem, simprocAttr, sw0, z0W11a, z1W11a l k.toNat (by omega)])
 refine OW.nil (hK _ ?_)
 refine a5 ?_
 refine a0 fun K hK => OW.run [1, 2, 3, 7, 11, 92] ?_
 simp only [go_sem, simprocAttr, sw0]
 refine OW.nil (hK _ ?_)
 refine d6 rfl (fun h20 => ?_) (fun h20 => ?_)
 replace H := l4 h20 H
 refine a5 ?_
 refine a0 fun K hK => OW.run [6] ?_
 simp only [go_sem, simprocAttr, sw0]
 refine OW.nil (hK _ ?_)
 refine f0 ?_
 change PW.Ends _ _ _ _ _ _
 refine PW.Ends.intro (.inr rfl) ?_
 simp only [go_sem, simprocAttr, sw0]
 obtain rfl := Option.some.inj H
 refine a6 4 (by exact trivial) ?_
 rfl
 replace H := l5 h20 H
 refine d7 ?_
 refine hN6 [] () _ H (by exact trivial) ?_
 simp only [sw1, go_sem, simprocAttr]
 rintro _ H
 try simp only [go_sem, simprocAttr]
 refine a0 fun K hK => OW.run [1, 2, 3, 7] ?_
 simp only [go_sem, simprocAttr, sw0]
 refine OW.nil (hK _ ?_)
 refine hN4 [] (w64 (k + (1 : Int))) _ H (by exact trivial) ?_
 simp only [sw1, go_sem, simprocAttr]
 replace H := l5 h5 H
 refine i9 ?_
 refine hN3 [] () _ H (by exact trivial) ?_
 simp only [sw1, go_sem, simprocAttr]
 rintro _ H
 try simp only [go_sem, simprocAttr]
 refine a5 ?_
 obtain ⟨⟨x7, x71, x72, x73⟩, e7, H⟩ := a8 H
 obtain ⟨x8, e8, H⟩ := a8 H
 obtain ⟨x9, e9, H⟩ := a8 H
 obtain ⟨⟨x10, x101, x102⟩, e10, H⟩ := a8 H
 refine a0 fun K hK => OW.run [12, 13] ?_
 simp only [go_sem, simprocAttr, sw0]
 refine d8 4 rfl rfl rfl (by ((simp only [go_sem, List.toList_toArray, simprocAttr]); exact rfl)) ?_ (ref06_Copy_ok N _ _ _ _ _ e7) ?_ ?_ ?_ ?_
 rfl
 · (refine a7 ?_; (simp only [go_sem, sw2, List.length_set, List.length_replicate, and_true, true_and, Nat.le_refl, simprocAttr]; done))
 exact .inl rfl
 (simp only [go_sem, Nat.reduceLT])
 refine OW.run [12, 13] ?_
 simp only [go_sem, simprocAttr, sw0]
 refine d8 4 rfl rfl rfl (by ((simp only [go_sem, List.toList_toArray, simprocAttr]); exact rfl)) ?_ (ref06_CopyBearers_ok N _ _ e8) ?_ ?_ ?_ ?_
 rfl
 exact e0 rfl
 exact .inl rfl
 (simp only [go_sem, Nat.reduceLT])
 refine OW.run [12, 13] ?_
 simp only [go_sem, simprocAttr, sw0]
 refine d8 4 rfl rfl rfl (by ((simp only [go_sem, List.toList_toArray, simprocAttr]); exact rfl)) ?_ (ref06_CopySlots_ok N _ _ e9) ?_ ?_ ?_ ?_
 rfl
 exact e0 rfl
 exact .inl rfl
 (simp only [go_sem, Nat.reduceLT])
 refine OW.run [12, 13] ?_
 simp only [go_sem, simprocAttr, sw0]
 refine d8 4 rfl rfl rfl (by ((simp only [go_sem, List.toList_toArray, simprocAttr]); exact rfl)) ?_ (sched_FirstLate_ok N _ _ _ _ _ _ _ e10) ?_ ?_ ?_ ?_
 rfl
 exact e0 rfl
 exact .inl rfl
 (simp only [go_sem, Nat.reduceLT])
 refine OW.run [12, 13] ?_
 simp only [go_sem, simprocAttr, sw0]
 refine OW.nil (hK _ ?_)
 refine a5 ?_
 refine a0 fun K hK => ?_
 refine OW.step rfl ?_
 simp only [go_sem, simprocAttr, sw0]
 refine OW.step rfl ?_
 simp only [go_sem, simprocAttr, sw0]
 refine OW.step rfl ?_
 simp only [go_sem, simprocAttr, sw0]
 refine OW.opA (g := (x102 == (12 : Int))) rfl ?_ (fun hg => ?_) (by (simp only [go_sem, Nat.reduceLT])) ?_
 simp only [go_sem, simprocAttr]
 · (first | decide | ((simp only [go_sem, simprocAttr, sw0]); done) | ((simp only [go_sem, simprocAttr, sw0]); (repeat (refine And.intro (by (first | omega | assumption | rfl | decide | (simp only [List.length_map, List.length_replicate, List.length_append, List.length_take, List.length_drop, List.length_set, List.length_cons, List.length_nil, Nat.zero_add, Int.toNat_natCast] at *; omega) | (simp only [List.length_map, List.length_replicate, List.length_append, List.length_take, List.length_drop, List.length_set, List.length_cons, List.length_nil, Nat.zero_add, Int.toNat_natCast]; done) | trivial)) ?_)); done) | ((simp only [go_sem, simprocAttr, sw0]); repeat (first | omega | rfl | trivial | refine ⟨?_, ?_⟩)))
 try simp only [go_sem, simprocAttr]
 refine OW.opA (g := (x102 == (12 : Int))) rfl ?_ (fun hg => ?_) (by (simp only [go_sem, Nat.reduceLT])) ?_
 simp only [go_sem, simprocAttr]
 · (first | decide | ((simp only [go_sem, simprocAttr, sw0]); done) | ((simp only [go_sem, simprocAttr, sw0]); (repeat (refine And.intro (by (first | omega | assumption | rfl | decide | (simp only [List.length_map, List.length_replicate, List.length_append, List.length_take, List.length_drop, List.length_set, List.length_cons, List.length_nil, Nat.zero_add, Int.toNat_natCast] at *; omega) | (simp only [List.length_map, List.length_replicate, List.length_append, List.length_take, List.length_drop, List.length_set, List.length_cons, List.length_nil, Nat.zero_add, Int.toNat_natCast]; done) | trivial)) ?_)); done) | ((simp only [go_sem, simprocAttr, sw0]); repeat (first | omega | rfl | trivial | refine ⟨?_, ?_⟩)))
 try simp only [go_sem, simprocAttr]
 refine OW.run [6] ?_
 simp only [go_sem, simprocAttr, sw0]
 refine OW.nil (hK _ ?_)
 refine f0 ?_
 change PW.Ends _ _ _ _ _ _
 refine PW.Ends.intro (.inr rfl) ?_
 simp only [go_sem, simprocAttr, sw0]
 obtain rfl := Option.some.inj H
 refine a6 4 (by exact trivial) ?_
 rfl

end Go.Proofs.Ytabojpkmfkjjkaa
