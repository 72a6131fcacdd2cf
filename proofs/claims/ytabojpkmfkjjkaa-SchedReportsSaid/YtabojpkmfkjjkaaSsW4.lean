import Derived.Test.YtabojpkmfkjjkaaSsBase
import Derived.Test.YtabojpkmfkjjkaaSsW0
import Derived.Test.YtabojpkmfkjjkaaSsW1
import Derived.Test.YtabojpkmfkjjkaaSsW2
import Derived.Test.YtabojpkmfkjjkaaSsW3
set_option linter.all false
namespace Go.Proofs.Ytabojpkmfkjjkaa
open Go.PW Go.Sh

set_option maxRecDepth 20000
set_option maxHeartbeats 8000000
def z0W4a := j5 9 (fun (x : ByteArray × Int × Int × Int × Int × Int × Int × Int × Int) => [(Sx x.1), (I x.2.1), (I x.2.2.1), (I x.2.2.2.1), (I x.2.2.2.2.1), (I x.2.2.2.2.2.1), (I x.2.2.2.2.2.2.1), (I x.2.2.2.2.2.2.2.1), (I x.2.2.2.2.2.2.2.2)]) (fun _ => rfl)
def z1W4a := sub_el 9 (fun (x : ByteArray × Int × Int × Int × Int × Int × Int × Int × Int) => [(Sx x.1), (I x.2.1), (I x.2.2.1), (I x.2.2.2.1), (I x.2.2.2.2.1), (I x.2.2.2.2.2.1), (I x.2.2.2.2.2.2.1), (I x.2.2.2.2.2.2.2.1), (I x.2.2.2.2.2.2.2.2)]) (fun _ => rfl)
theorem base_Lists_ok (N : Nat) (a : List (List Int)) (b : List (List Int)) (r : Bool) (H : base_Lists N a b = some r) : CallOK Try.prog 121 [(.list a.length (a.map L)), (.list b.length (b.map L))] (.d (Bo r)) [] := by
 refine d3 Try.func121 rfl (by rw [Try.results121]) Try.ntmps121 Try.call121 ?_
 change PW _ _ _ _ _
 try simp only [go_sem, simprocAttr]
 unfold base_Lists at H
 refine a5 ?_
 refine a0 fun K hK => OW.run [0, 1] ?_
 simp only [go_sem, simprocAttr, sw0]
 refine OW.nil (hK _ ?_)
 refine a5 ?_
 refine a5 ?_
 refine a0 fun K hK => OW.run [0, 1, 10] ?_
 simp only [go_sem, simprocAttr, sw0]
 refine OW.nil (hK _ ?_)
 refine d9 rfl (fun h1 => ?_) (fun h1 => ?_)
 replace H := k7 h1 H
 refine a5 ?_
 refine a0 fun K hK => OW.run [4] ?_
 simp only [go_sem, simprocAttr, sw0]
 refine OW.nil (hK _ ?_)
 refine f4 ?_
 change PW.Ends _ _ _ _ _ _
 refine PW.Ends.intro (.inr rfl) ?_
 simp only [go_sem, simprocAttr, sw0]
 obtain rfl := Option.some.inj H
 refine a6 4 (by exact trivial) ?_
 rfl
 replace H := k8 h1 H
 refine f0 ?_
 refine i4 (τ := Unit) [] 0 (fun _ => []) (fun _ => []) _ _ r (by exact Nat.le_refl _) H ?_ ?_
 intro K_ H N2 hN2
 refine a5 ?_
 refine a0 fun K hK => OW.run [0, 1, 5] ?_
 simp only [go_sem, simprocAttr, sw0]
 refine OW.nil (hK _ ?_)
 refine PW.block ?_
 refine i8 (σ := Int) [0, 1, 5] 0 (fun i => [(5, .d (I i))]) (fun i => []) (base_Lists.b1 N a b K_) r N (0 : Int) (by exact Nat.le_refl _) H (by (simp only [sw1, go_sem, simprocAttr]; done)) ?_
 rintro n i H N3 hN3
 unfold base_Lists.b1 at H
 try simp only [go_sem, simprocAttr]
 refine a5 ?_
 refine a5 ?_
 refine a0 fun K hK => OW.run [0, 1, 5, 14] ?_
 simp only [go_sem, simprocAttr, sw0]
 refine OW.nil (hK _ ?_)
 refine d9 rfl (fun h4 => ?_) (fun h4 => ?_)
 replace H := k7 h4 H
 refine f0 ?_
 refine a5 ?_
 refine PW.block ?_
 refine a5 ?_
 obtain ⟨c5, H⟩ := d7 H
 obtain ⟨c6, H⟩ := d7 H
 obtain ⟨x1, e1, H⟩ := a8 H
 refine j0 8 n9 (by kernel_rfl) fun K hK => ?_
 change FW _ _ _ _ _
 refine FW.run ?_
 (simp only [go_sem, simprocAttr, sw0, j1 L a i.toNat default (by omega), j1 L b i.toNat default (by omega)])
 repeat (refine And.intro (by omega) ?_)
 refine FW.nil ?_
 change OW _ _ _ _ _ _
 refine OW.run [0, 1, 5, 26] ?_
 (simp only [go_sem, simprocAttr, sw0, j1 L a i.toNat default (by omega), j1 L b i.toNat default (by omega)])
 refine d5 4 rfl rfl rfl (by ((simp only [go_sem, List.toList_toArray, simprocAttr]); exact rfl)) ?_ (base_Ints_ok N _ _ _ e1) ?_ ?_ ?_ ?_
 rfl
 exact d8 rfl
 exact .inl rfl
 (simp only [go_sem, Nat.reduceLT])
 refine OW.run [0, 1, 5, 26] ?_
 (simp only [go_sem, simprocAttr, sw0, j1 L a i.toNat default (by omega), j1 L b i.toNat default (by omega)])
 refine OW.nil (hK _ ?_)
 refine d9 rfl (fun h7 => ?_) (fun h7 => ?_)
 replace H := k7 h7 H
 refine a5 ?_
 refine a0 fun K hK => OW.run [4] ?_
 simp only [go_sem, simprocAttr, sw0]
 refine OW.nil (hK _ ?_)
 refine f4 ?_
 change PW.Ends _ _ _ _ _ _
 refine PW.Ends.intro (.inr rfl) ?_
 simp only [go_sem, simprocAttr, sw0]
 obtain rfl := Option.some.inj H
 refine a6 4 (by exact trivial) ?_
 rfl
 replace H := k8 h7 H
 refine f0 ?_
 refine a0 fun K hK => OW.run [0, 1, 5] ?_
 simp only [go_sem, simprocAttr, sw0]
 refine OW.nil (hK _ ?_)
 refine hN3 [] (w64 (i + (1 : Int))) _ H (by exact trivial) ?_
 simp only [sw1, go_sem, simprocAttr]
 replace H := k8 h4 H
 refine j3 ?_
 refine hN2 [] () _ H (by exact trivial) ?_
 simp only [sw1, go_sem, simprocAttr]
 rintro _ H
 try simp only [go_sem, simprocAttr]
 refine a5 ?_
 refine a0 fun K hK => OW.run [4] ?_
 simp only [go_sem, simprocAttr, sw0]
 refine OW.nil (hK _ ?_)
 refine f4 ?_
 change PW.Ends _ _ _ _ _ _
 refine PW.Ends.intro (.inr rfl) ?_
 simp only [go_sem, simprocAttr, sw0]
 obtain rfl := Option.some.inj H
 refine a6 4 (by exact trivial) ?_
 rfl

theorem ref06_SameTrace_ok (N : Nat) (Z1 : List (List Int)) (Z6 : List Int) (Z3 : List Int) (Z8 : List (List Int)) (Zd : List Int) (Za : List Int) (r : Bool) (H : z9 N Z1 Z6 Z3 Z8 Zd Za = some r) : CallOK Try.prog 58 [(.agg [(.list Z1.length (Z1.map L)), (L Z6), (L Z3)]), (.agg [(.list Z8.length (Z8.map L)), (L Zd), (L Za)])] (.d (Bo r)) [] := by
 refine d3 Try.func58 rfl (by rw [Try.results58]) Try.ntmps58 Try.call58 ?_
 change PW _ _ _ _ _
 try simp only [go_sem, simprocAttr]
 unfold z9 at H
 refine a5 ?_
 refine a0 fun K hK => OW.run [2, 3] ?_
 simp only [go_sem, simprocAttr, sw0]
 refine OW.nil (hK _ ?_)
 refine a5 ?_
 obtain ⟨x1, e1, H⟩ := a8 H
 obtain ⟨x2, e2, H⟩ := a8 H
 obtain ⟨x3, e3, H⟩ := a8 H
 refine a0 fun K hK => OW.run [4] ?_
 simp only [go_sem, simprocAttr, sw0]
 repeat (refine And.intro (by omega) ?_)
 refine d5 4 rfl rfl rfl (by ((simp only [go_sem, List.toList_toArray, simprocAttr]); exact rfl)) ?_ (base_Lists_ok N _ _ _ e1) ?_ ?_ ?_ ?_
 rfl
 exact d8 rfl
 exact .inl rfl
 (simp only [go_sem, Nat.reduceLT])
 refine OW.run [4] ?_
 simp only [go_sem, simprocAttr, sw0]
 repeat (refine And.intro (by omega) ?_)
 refine l5 4 rfl rfl ?_ (fun hg => by first | rfl | (simp only [go_sem, ↓reduceIte]; rfl)) (fun hg => by ((simp only [go_sem, List.toList_toArray, simprocAttr]); exact rfl)) (fun hg => ?_) (fun hg => (base_Ints_ok N _ _ _ (p8 hg e2))) ?_ ?_ ?_ ?_
 simp only [go_sem, simprocAttr]
 rfl
 exact d8 rfl
 exact .inl rfl
 (simp only [go_sem, Nat.reduceLT])
 refine OW.run [4] ?_
 simp only [go_sem, simprocAttr, sw0]
 repeat (refine And.intro (by omega) ?_)
 refine l5 4 rfl rfl ?_ (fun hg => by first | rfl | (simp only [go_sem, ↓reduceIte]; rfl)) (fun hg => by ((simp only [go_sem, List.toList_toArray, simprocAttr]); exact rfl)) (fun hg => ?_) (fun hg => (base_Ints_ok N _ _ _ (p8 hg e3))) ?_ ?_ ?_ ?_
 simp only [go_sem, simprocAttr]
 rfl
 exact d8 rfl
 exact .inl rfl
 (simp only [go_sem, Nat.reduceLT])
 refine OW.run [4] ?_
 simp only [go_sem, simprocAttr, sw0]
 refine OW.nil (hK _ ?_)
 refine f4 ?_
 change PW.Ends _ _ _ _ _ _
 refine PW.Ends.intro (.inr rfl) ?_
 simp only [go_sem, simprocAttr, sw0]
 obtain rfl := Option.some.inj H
 refine a6 4 (by exact trivial) ?_
 rfl

theorem ref06_SameShares_ok (N : Nat) (Z2 : Int) (Z4 : List Int) (Z9 : Int) (Zb : List Int) (r : Bool) (H : v7 N Z2 Z4 Z9 Zb = some r) : CallOK Try.prog 86 [(.agg [(I Z2), (L Z4)]), (.agg [(I Z9), (L Zb)])] (.d (Bo r)) [] := by
 refine d3 Try.func86 rfl (by rw [Try.results86]) Try.ntmps86 Try.call86 ?_
 change PW _ _ _ _ _
 try simp only [go_sem, simprocAttr]
 unfold v7 at H
 refine a5 ?_
 refine a0 fun K hK => OW.run [2, 3] ?_
 simp only [go_sem, simprocAttr, sw0]
 refine OW.nil (hK _ ?_)
 refine a5 ?_
 obtain ⟨x1, e1, H⟩ := a8 H
 refine a0 fun K hK => OW.run [4] ?_
 simp only [go_sem, simprocAttr, sw0]
 repeat (refine And.intro (by omega) ?_)
 refine l5 4 rfl rfl ?_ (fun hg => by first | rfl | (simp only [go_sem, ↓reduceIte]; rfl)) (fun hg => by ((simp only [go_sem, List.toList_toArray, simprocAttr]); exact rfl)) (fun hg => ?_) (fun hg => (base_Ints_ok N _ _ _ (p8 hg e1))) ?_ ?_ ?_ ?_
 simp only [go_sem, simprocAttr]
 rfl
 exact d8 rfl
 exact .inl rfl
 (simp only [go_sem, Nat.reduceLT])
 refine OW.run [4] ?_
 simp only [go_sem, simprocAttr, sw0]
 refine OW.nil (hK _ ?_)
 refine f4 ?_
 change PW.Ends _ _ _ _ _ _
 refine PW.Ends.intro (.inr rfl) ?_
 simp only [go_sem, simprocAttr, sw0]
 obtain rfl := Option.some.inj H
 refine a6 4 (by exact trivial) ?_
 rfl

theorem law06_awake_ok (N : Nat)  (r : Bool) (H : law06_awake N  = some r) : CallOK Try.prog 17 [] (.d (Bo r)) [] := by
 refine d3 Try.func17 rfl (by rw [Try.results17]) Try.ntmps17 Try.call17 ?_
 change PW _ _ _ _ _
 try simp only [go_sem, simprocAttr]
 unfold law06_awake at H
 refine a5 ?_
 refine a0 fun K hK => OW.run [] ?_
 simp only [go_sem, simprocAttr, sw0]
 refine OW.nil (hK _ ?_)
 refine a5 ?_
 obtain ⟨⟨x1, x11, x12, x13⟩, e1, H⟩ := a8 H
 obtain ⟨⟨x2, x21, x22, x23, x24, x25, x26, x27, x28⟩, e2, H⟩ := a8 H
 obtain ⟨⟨x3, x31, x32, x33⟩, e3, H⟩ := a8 H
 refine a0 fun K hK => OW.run [1, 2] ?_
 simp only [go_sem, simprocAttr, sw0]
 refine d5 4 rfl rfl rfl (by ((simp only [go_sem, List.toList_toArray, simprocAttr]); exact rfl)) ?_ (law06_Site_ok N  _ e1) ?_ ?_ ?_ ?_
 rfl
 exact d8 rfl
 exact .inl rfl
 (simp only [go_sem, Nat.reduceLT])
 refine OW.run [1, 2] ?_
 simp only [go_sem, simprocAttr, sw0]
 refine d5 4 rfl rfl rfl (by ((simp only [go_sem, List.toList_toArray, simprocAttr]); exact rfl)) ?_ (law06_Voice_ok N  _ e2) ?_ ?_ ?_ ?_
 rfl
 exact d8 rfl
 exact .inl rfl
 (simp only [go_sem, Nat.reduceLT])
 refine OW.run [1, 2] ?_
 simp only [go_sem, simprocAttr, sw0]
 refine d5 4 rfl rfl rfl (by ((simp only [go_sem, List.toList_toArray, simprocAttr]); exact rfl)) ?_ (sched_NeedOf_ok N _ _ _ _ _ _ _ _ _ _ _ _ _ _ e3) ?_ ?_ ?_ ?_
 rfl
 exact d8 rfl
 exact .inl rfl
 (simp only [go_sem, Nat.reduceLT])
 refine OW.run [1, 2] ?_
 simp only [go_sem, simprocAttr, sw0]
 refine OW.nil (hK _ ?_)
 refine a5 ?_
 obtain ⟨⟨x4, x41, x42, x43⟩, e4, H⟩ := a8 H
 obtain ⟨⟨x5, x51, x52, x53, x54, x55, x56, x57, x58⟩, e5, H⟩ := a8 H
 obtain ⟨⟨x6, x61, x62, x63, x64, x65, x66, x67, x68⟩, e6, H⟩ := a8 H
 obtain ⟨⟨x7, x71, x72⟩, e7, H⟩ := a8 H
 refine a0 fun K hK => OW.run [1, 2, 3, 4] ?_
 simp only [go_sem, simprocAttr, sw0]
 refine d5 4 rfl rfl rfl (by ((simp only [go_sem, List.toList_toArray, simprocAttr]); exact rfl)) ?_ (law06_Site_ok N  _ e4) ?_ ?_ ?_ ?_
 rfl
 exact d8 rfl
 exact .inl rfl
 (simp only [go_sem, Nat.reduceLT])
 refine OW.run [1, 2, 3, 4] ?_
 simp only [go_sem, simprocAttr, sw0]
 refine d5 4 rfl rfl rfl (by ((simp only [go_sem, List.toList_toArray, simprocAttr]); exact rfl)) ?_ (law06_Voice_ok N  _ e5) ?_ ?_ ?_ ?_
 rfl
 exact d8 rfl
 exact .inl rfl
 (simp only [go_sem, Nat.reduceLT])
 refine OW.run [1, 2, 3, 4] ?_
 simp only [go_sem, simprocAttr, sw0]
 refine d5 4 rfl rfl rfl (by ((simp only [go_sem, List.toList_toArray, simprocAttr]); exact rfl)) ?_ (law06_Alarm_ok N  _ e6) ?_ ?_ ?_ ?_
 rfl
 exact d8 rfl
 exact .inl rfl
 (simp only [go_sem, Nat.reduceLT])
 refine OW.run [1, 2, 3, 4] ?_
 simp only [go_sem, simprocAttr, sw0]
 refine OW.frz 1 (by exact Nat.zero_le _) (by rfl) ?_
 simp only [s4, o8, o7, r9, nz_int, A4, nz_str, A3, nz_ref, nz_nil, go_sem, simprocAttr]
 refine d5 4 rfl rfl rfl (by ((simp only [go_sem, List.toList_toArray, simprocAttr]); exact rfl)) ?_ (sched_Admit_ok N _ _ _ _ _ _ _ _ _ _ _ _ _ _ _ e7) ?_ ?_ ?_ ?_
 rfl
 exact d8 rfl
 exact .inl rfl
 (simp only [go_sem, Nat.reduceLT])
 refine OW.run [1, 2, 3, 4] ?_
 simp only [go_sem, simprocAttr, sw0]
 refine OW.nil (hK _ ?_)
 refine a5 ?_
 obtain ⟨⟨x8, x81, x82, x83⟩, e8, H⟩ := a8 H
 obtain ⟨⟨x9, x91, x92, x93, x94, x95, x96, x97, x98⟩, e9, H⟩ := a8 H
 obtain ⟨⟨x10, x101, x102, x103, x104, x105, x106, x107, x108⟩, e10, H⟩ := a8 H
 obtain ⟨⟨x111, x112, x113, x114⟩, e11, H⟩ := a8 H
 refine a0 fun K hK => OW.run [1, 2, 3, 4, 5, 6] ?_
 simp only [go_sem, simprocAttr, sw0]
 refine d5 4 rfl rfl rfl (by ((simp only [go_sem, List.toList_toArray, simprocAttr]); exact rfl)) ?_ (law06_Site_ok N  _ e8) ?_ ?_ ?_ ?_
 rfl
 exact d8 rfl
 exact .inl rfl
 (simp only [go_sem, Nat.reduceLT])
 refine OW.run [1, 2, 3, 4, 5, 6] ?_
 simp only [go_sem, simprocAttr, sw0]
 refine d5 4 rfl rfl rfl (by ((simp only [go_sem, List.toList_toArray, simprocAttr]); exact rfl)) ?_ (law06_Voice_ok N  _ e9) ?_ ?_ ?_ ?_
 rfl
 exact d8 rfl
 exact .inl rfl
 (simp only [go_sem, Nat.reduceLT])
 refine OW.run [1, 2, 3, 4, 5, 6] ?_
 simp only [go_sem, simprocAttr, sw0]
 refine d5 4 rfl rfl rfl (by ((simp only [go_sem, List.toList_toArray, simprocAttr]); exact rfl)) ?_ (law06_Best_ok N  _ e10) ?_ ?_ ?_ ?_
 rfl
 exact d8 rfl
 exact .inl rfl
 (simp only [go_sem, Nat.reduceLT])
 refine OW.run [1, 2, 3, 4, 5, 6] ?_
 simp only [go_sem, simprocAttr, sw0]
 refine OW.frz 3 (by exact Nat.zero_le _) (by rfl) ?_
 simp only [s4, o8, o7, r9, nz_int, A4, nz_str, A3, nz_ref, nz_nil, go_sem, simprocAttr]
 refine OW.frz 4 (by exact Nat.zero_le _) (by rfl) ?_
 simp only [s4, o8, o7, r9, nz_int, A4, nz_str, A3, nz_ref, nz_nil, go_sem, simprocAttr]
 refine OW.frz 5 (by exact Nat.zero_le _) (by rfl) ?_
 simp only [s4, o8, o7, r9, nz_int, A4, nz_str, A3, nz_ref, nz_nil, go_sem, simprocAttr]
 refine OW.frz 6 (by exact Nat.zero_le _) (by rfl) ?_
 simp only [s4, o8, o7, r9, nz_int, A4, nz_str, A3, nz_ref, nz_nil, go_sem, simprocAttr]
 refine d5 4 rfl rfl rfl (by ((simp only [go_sem, List.toList_toArray, simprocAttr]); exact rfl)) ?_ (sched_Run_ok N _ _ _ _ _ _ _ e11) ?_ ?_ ?_ ?_
 rfl
 exact d8 rfl
 exact .inl rfl
 (simp only [go_sem, Nat.reduceLT])
 refine OW.run [1, 2, 3, 4, 5, 6] ?_
 simp only [go_sem, simprocAttr, sw0]
 refine OW.nil (hK _ ?_)
 refine a5 ?_
 obtain ⟨⟨x121, x122, x123⟩, e12, H⟩ := a8 H
 refine a0 fun K hK => OW.run [1, 2, 3, 4, 5, 6, 7, 8] ?_
 simp only [go_sem, simprocAttr, sw0]
 refine OW.frz 8 (by exact Nat.zero_le _) (by rfl) ?_
 simp only [s4, o8, o7, r9, nz_int, A4, nz_str, A3, nz_ref, nz_nil, go_sem, simprocAttr]
 refine OW.frz 9 (by exact Nat.zero_le _) (by rfl) ?_
 simp only [s4, o8, o7, r9, nz_int, A4, nz_str, A3, nz_ref, nz_nil, go_sem, simprocAttr]
 refine d5 4 rfl rfl rfl (by ((simp only [go_sem, List.toList_toArray, simprocAttr]); exact rfl)) ?_ (sched_SharesOf_ok N _ _ _ _ e12) ?_ ?_ ?_ ?_
 rfl
 · (refine a7 ?_; (simp only [go_sem, sw2, List.length_set, List.length_replicate, and_true, true_and, Nat.le_refl, simprocAttr]; done))
 exact .inl rfl
 (simp only [go_sem, Nat.reduceLT])
 refine OW.run [1, 2, 3, 4, 5, 6, 7, 8] ?_
 simp only [go_sem, simprocAttr, sw0]
 refine OW.nil (hK _ ?_)
 refine a5 ?_
 obtain ⟨⟨x131, x132, x133⟩, e13, H⟩ := a8 H
 refine a0 fun K hK => OW.run [1, 2, 3, 4, 5, 6, 7, 8, 9, 10, 11] ?_
 simp only [go_sem, simprocAttr, sw0]
 refine OW.frz 11 (by exact Nat.zero_le _) (by rfl) ?_
 simp only [s4, o8, o7, r9, nz_int, A4, nz_str, A3, nz_ref, nz_nil, go_sem, simprocAttr]
 refine OW.frz 12 (by exact Nat.zero_le _) (by rfl) ?_
 simp only [s4, o8, o7, r9, nz_int, A4, nz_str, A3, nz_ref, nz_nil, go_sem, simprocAttr]
 refine OW.frz 13 (by exact Nat.zero_le _) (by rfl) ?_
 simp only [s4, o8, o7, r9, nz_int, A4, nz_str, A3, nz_ref, nz_nil, go_sem, simprocAttr]
 refine OW.frz 14 (by exact Nat.zero_le _) (by rfl) ?_
 simp only [s4, o8, o7, r9, nz_int, A4, nz_str, A3, nz_ref, nz_nil, go_sem, simprocAttr]
 refine d5 4 rfl rfl rfl (by ((simp only [go_sem, List.toList_toArray, simprocAttr]); exact rfl)) ?_ (sched_BestTurns_ok N _ _ e13) ?_ ?_ ?_ ?_
 rfl
 exact d8 rfl
 exact .inl rfl
 (simp only [go_sem, Nat.reduceLT])
 refine OW.run [1, 2, 3, 4, 5, 6, 7, 8, 9, 10, 11] ?_
 simp only [go_sem, simprocAttr, sw0]
 refine OW.nil (hK _ ?_)
 refine a5 ?_
 obtain ⟨⟨x14, x141, x142, x143, x144, x145, x146, x147, x148⟩, e14, H⟩ := a8 H
 obtain ⟨x15, e15, H⟩ := a8 H
 obtain ⟨x16, e16, H⟩ := a8 H
 obtain ⟨x17, e17, H⟩ := a8 H
 obtain ⟨x18, e18, H⟩ := a8 H
 refine j0 53 n9 (by kernel_rfl) fun K hK => ?_
 change FW _ _ _ _ _
 refine FW.run ?_
 simp only [go_sem, simprocAttr, sw0]
 refine v4 4 rfl rfl ?_ (fun hg => by first | rfl | (simp only [go_sem, ↓reduceIte]; rfl)) (fun hg => by ((simp only [go_sem, List.toList_toArray, simprocAttr]); exact rfl)) (fun hg => ?_) (fun hg => (law06_Alarm_ok N  _ (p8 hg e14))) ?_ ?_ ?_ ?_
 simp only [go_sem, simprocAttr]
 rfl
 exact d8 rfl
 exact .inl rfl
 (simp only [go_sem, Nat.reduceLT])
 refine FW.run ?_
 simp only [go_sem, simprocAttr, sw0]
 refine v4 4 rfl rfl ?_ (fun hg => by first | rfl | (simp only [go_sem, ↓reduceIte]; rfl)) (fun hg => by ((simp only [go_sem, List.toList_toArray, simprocAttr]); exact rfl)) (fun hg => ?_) (fun hg => (ref06_SameAdmission_ok N _ _ _ _ _ (p8 hg e15))) ?_ ?_ ?_ ?_
 simp only [go_sem, simprocAttr]
 rfl
 · (refine a7 ?_; (simp only [go_sem, sw2, List.length_set, List.length_replicate, and_true, true_and, Nat.le_refl, simprocAttr]; done))
 exact .inl rfl
 (simp only [go_sem, Nat.reduceLT])
 refine FW.run ?_
 simp only [go_sem, simprocAttr, sw0]
 refine v4 4 rfl rfl ?_ (fun hg => by first | rfl | (simp only [go_sem, ↓reduceIte]; rfl)) (fun hg => by ((simp only [go_sem, List.toList_toArray, simprocAttr]); exact rfl)) (fun hg => ?_) (fun hg => (ref06_SameTrace_ok N _ _ _ _ _ _ _ (p8 hg e16))) ?_ ?_ ?_ ?_
 simp only [go_sem, simprocAttr]
 rfl
 · (refine a7 ?_; (simp only [go_sem, sw2, List.length_set, List.length_replicate, and_true, true_and, Nat.le_refl, simprocAttr]; done))
 exact .inl rfl
 (simp only [go_sem, Nat.reduceLT])
 refine FW.run ?_
 simp only [go_sem, simprocAttr, sw0]
 refine v4 4 rfl rfl ?_ (fun hg => by first | rfl | (simp only [go_sem, ↓reduceIte]; rfl)) (fun hg => by ((simp only [go_sem, List.toList_toArray, simprocAttr]); exact rfl)) (fun hg => ?_) (fun hg => (ref06_SameShares_ok N _ _ _ _ _ (p8 hg e17))) ?_ ?_ ?_ ?_
 simp only [go_sem, simprocAttr]
 rfl
 · (refine a7 ?_; (simp only [go_sem, sw2, List.length_set, List.length_replicate, and_true, true_and, Nat.le_refl, simprocAttr]; done))
 exact .inl rfl
 (simp only [go_sem, Nat.reduceLT])
 refine FW.run ?_
 simp only [go_sem, simprocAttr, sw0]
 refine FW.nil ?_
 change OW _ _ _ _ _ _
 refine OW.run [0] ?_
 simp only [go_sem, simprocAttr, sw0]
 refine l5 4 rfl rfl ?_ (fun hg => by first | rfl | (simp only [go_sem, ↓reduceIte]; rfl)) (fun hg => by ((simp only [go_sem, List.toList_toArray, simprocAttr]); exact rfl)) (fun hg => ?_) (fun hg => (base_Ints_ok N _ _ _ (p8 hg e18))) ?_ ?_ ?_ ?_
 simp only [go_sem, simprocAttr]
 rfl
 exact d8 rfl
 exact .inl rfl
 (simp only [go_sem, Nat.reduceLT])
 refine OW.run [0] ?_
 simp only [go_sem, simprocAttr, sw0]
 refine OW.nil (hK _ ?_)
 refine f4 ?_
 change PW.Ends _ _ _ _ _ _
 refine PW.Ends.intro (.inr rfl) ?_
 simp only [go_sem, simprocAttr, sw0]
 obtain rfl := Option.some.inj H
 refine a6 4 (by exact trivial) ?_
 rfl

theorem law06_Few_ok (N : Nat) (Zq : Int) (Zr : Int) (Zs : Int) (Zx : List Int) (l : List TB) (r : Bool) (H : law06_Few N Zq Zr Zs Zx l = some r) : CallOK Try.prog 18 [(.agg [(I Zq), (I Zr), (I Zs), (L Zx)]), (.list l.length (l.flatMap (fun (x : ByteArray × Int × Int × Int × Int × Int × Int × Int × Int) => [(Sx x.1), (I x.2.1), (I x.2.2.1), (I x.2.2.2.1), (I x.2.2.2.2.1), (I x.2.2.2.2.2.1), (I x.2.2.2.2.2.2.1), (I x.2.2.2.2.2.2.2.1), (I x.2.2.2.2.2.2.2.2)])))] (.d (Bo r)) [] := by
 refine d3 Try.func18 rfl (by rw [Try.results18]) Try.ntmps18 Try.call18 ?_
 change PW _ _ _ _ _
 try simp only [go_sem, simprocAttr]
 unfold law06_Few at H
 refine a5 ?_
 refine a0 fun K hK => OW.run [1, 2] ?_
 simp only [go_sem, simprocAttr, sw0]
 refine OW.nil (hK _ ?_)
 refine a5 ?_
 refine a5 ?_
 refine a0 fun K hK => ?_
 refine OW.toS [(1, .d (.list l.length (l.flatMap (fun (x : ByteArray × Int × Int × Int × Int × Int × Int × Int × Int) => [(Sx x.1), (I x.2.1), (I x.2.2.1), (I x.2.2.2.1), (I x.2.2.2.2.1), (I x.2.2.2.2.2.1), (I x.2.2.2.2.2.2.1), (I x.2.2.2.2.2.2.2.1), (I x.2.2.2.2.2.2.2.2)])))), (24, .d (Bo (((decide ((Zx.length : Int) > (18 : Int))) || ((decide ((l.length : Int) > (6 : Int))) && (decide ((l.length : Int) < (8 : Int))))) || (decide ((l.length : Int) > (10 : Int))))))] [{ cells := [.d (I Zq), .d (I Zr), .d (I Zs), .d (L Zx)], e := 24 }] ?_ (hK _ ?_)
 intro K hKE
 rcases Bool.eq_false_or_eq_true ((decide ((Zx.length : Int) > (18 : Int)))) with ha0 | ha0
 refine OW.run [1, 24] ?_
 (simp only [go_sem, simprocAttr, sw0, ha0])
 repeat (refine And.intro (by omega) ?_)
 refine OW.nil ((congrArg K ?_).mpr hKE)
 · (first | rfl | (simp only [go_sem, simprocAttr, ha0]; done) | (simp only [go_sem, simprocAttr, ha0]; rfl))
 rcases Bool.eq_false_or_eq_true ((decide ((l.length : Int) > (6 : Int)))) with ha1 | ha1
 rcases Bool.eq_false_or_eq_true ((decide ((l.length : Int) < (8 : Int)))) with ha2 | ha2
 refine OW.run [1, 24] ?_
 (simp only [go_sem, simprocAttr, sw0, ha0, ha1, ha2])
 repeat (refine And.intro (by omega) ?_)
 refine OW.nil ((congrArg K ?_).mpr hKE)
 · (first | rfl | (simp only [go_sem, simprocAttr, ha0, ha1, ha2]; done) | (simp only [go_sem, simprocAttr, ha0, ha1, ha2]; rfl))
 refine OW.run [1, 24] ?_
 (simp only [go_sem, simprocAttr, sw0, ha0, ha1, ha2])
 repeat (refine And.intro (by omega) ?_)
 refine OW.nil ((congrArg K ?_).mpr hKE)
 · (first | rfl | (simp only [go_sem, simprocAttr, ha0, ha1, ha2]; done) | (simp only [go_sem, simprocAttr, ha0, ha1, ha2]; rfl))
 refine OW.run [1, 24] ?_
 (simp only [go_sem, simprocAttr, sw0, ha0, ha1])
 repeat (refine And.intro (by omega) ?_)
 refine OW.nil ((congrArg K ?_).mpr hKE)
 · (first | rfl | (simp only [go_sem, simprocAttr, ha0, ha1]; done) | (simp only [go_sem, simprocAttr, ha0, ha1]; rfl))
 clear hK K
 refine d9 rfl (fun h1 => ?_) (fun h1 => ?_)
 replace H := k7 h1 H
 refine a5 ?_
 refine a0 fun K hK => OW.run [4] ?_
 simp only [go_sem, simprocAttr, sw0]
 refine OW.nil (hK _ ?_)
 refine f4 ?_
 change PW.Ends _ _ _ _ _ _
 refine PW.Ends.intro (.inr rfl) ?_
 simp only [go_sem, simprocAttr, sw0]
 obtain rfl := Option.some.inj H
 refine a6 4 (by exact trivial) ?_
 rfl
 replace H := k8 h1 H
 refine f0 ?_
 refine i4 (τ := Unit) [] 0 (fun _ => []) (fun _ => []) _ _ r (by exact Nat.le_refl _) H ?_ ?_
 intro K_ H N2 hN2
 refine a5 ?_
 refine a0 fun K hK => OW.run [1, 5] ?_
 simp only [go_sem, simprocAttr, sw0]
 refine OW.nil (hK _ ?_)
 refine PW.block ?_
 refine i8 (σ := Int) [1, 5] 1 (fun i => [(5, .d (I i))]) (fun i => [{ cells := [.d (I Zq), .d (I Zr), .d (I Zs), .d (L Zx)], e := 24 }]) (law06_Few.b1 N l K_) r N (0 : Int) (by exact Nat.zero_le _) H (by (simp only [sw1, go_sem, simprocAttr]; done)) ?_
 rintro n i H N3 hN3
 unfold law06_Few.b1 at H
 try simp only [go_sem, simprocAttr]
 refine a5 ?_
 refine a5 ?_
 refine a0 fun K hK => OW.run [1, 5, 28] ?_
 simp only [go_sem, simprocAttr, sw0]
 refine OW.nil (hK _ ?_)
 refine d9 rfl (fun h4 => ?_) (fun h4 => ?_)
 replace H := k7 h4 H
 refine f0 ?_
 refine a5 ?_
 refine PW.block ?_
 refine a5 ?_
 obtain ⟨c5, H⟩ := d7 H
 refine a0 fun K hK => OW.run [1, 5, 37] ?_
 (simp only [go_sem, simprocAttr, sw0, z0W4a, z1W4a l i.toNat (by omega)])
 repeat (refine And.intro (by omega) ?_)
 refine OW.nil (hK _ ?_)
 refine d9 rfl (fun h6 => ?_) (fun h6 => ?_)
 replace H := k7 h6 H
 refine a5 ?_
 refine a0 fun K hK => OW.run [4] ?_
 simp only [go_sem, simprocAttr, sw0]
 refine OW.nil (hK _ ?_)
 refine f4 ?_
 change PW.Ends _ _ _ _ _ _
 refine PW.Ends.intro (.inr rfl) ?_
 simp only [go_sem, simprocAttr, sw0]
 obtain rfl := Option.some.inj H
 refine a6 4 (by exact trivial) ?_
 rfl
 replace H := k8 h6 H
 refine f0 ?_
 refine a0 fun K hK => OW.run [1, 5] ?_
 simp only [go_sem, simprocAttr, sw0]
 refine OW.nil (hK _ ?_)
 refine hN3 [] (w64 (i + (1 : Int))) _ H (by exact trivial) ?_
 simp only [sw1, go_sem, simprocAttr]
 replace H := k8 h4 H
 refine j3 ?_
 refine hN2 [] () _ H (by exact trivial) ?_
 simp only [sw1, go_sem, simprocAttr]
 rintro _ H
 try simp only [go_sem, simprocAttr]
 refine a5 ?_
 refine a0 fun K hK => OW.run [4] ?_
 simp only [go_sem, simprocAttr, sw0]
 refine OW.nil (hK _ ?_)
 refine f4 ?_
 change PW.Ends _ _ _ _ _ _
 refine PW.Ends.intro (.inr rfl) ?_
 simp only [go_sem, simprocAttr, sw0]
 obtain rfl := Option.some.inj H
 refine a6 4 (by exact trivial) ?_
 rfl

theorem base_CopyInts_ok (N : Nat) (l : List Int) (r : List Int) (H : A7 N l = some r) : CallOK Try.prog 45 [(L l)] (.own 0 0 r.length 1) [(r.map I, 3)] := by
 refine d3 Try.func45 rfl (by rw [Try.results45]) Try.ntmps45 Try.call45 ?_
 change PW _ _ _ _ _
 try simp only [go_sem, simprocAttr]
 unfold A7 at H
 refine a5 ?_
 refine a0 fun K hK => OW.run [0] ?_
 simp only [go_sem, simprocAttr, sw0]
 refine OW.nil (hK _ ?_)
 refine a5 ?_
 obtain ⟨c1, H⟩ := d7 H
 refine a0 fun K hK => OW.run [2] ?_
 simp only [go_sem, simprocAttr, sw0]
 repeat (refine And.intro (by omega) ?_)
 refine OW.nil (hK _ ?_)
 refine f4 ?_
 change PW.Ends _ _ _ _ _ _
 refine PW.Ends.intro (.inr rfl) ?_
 simp only [go_sem, simprocAttr, sw0]
 obtain rfl := Option.some.inj H
 refine RetOK.own 0 ((([] : List Int) ++ l).map I) 3 (by first | rfl | (first | (simp only [sw1, go_sem, simprocAttr]; done) | (simp only [sw1, go_sem, simprocAttr]; rfl) | (simp only [sw1, go_sem, simprocAttr]; simp only [List.length_set, List.length_append, List.length_cons, List.length_nil, Nat.zero_add, List.map_set, List.map_append, List.map_cons, List.map_nil]; done) | (simp only [sw1, go_sem, simprocAttr]; simp only [List.length_set, List.length_append, List.length_cons, List.length_nil, Nat.zero_add, List.map_set, List.map_append, List.map_cons, List.map_nil]; simp only [cut_mapD, V.cut]; done) | (simp only [sw1, go_sem, simprocAttr]; simp only [List.length_set, List.length_append, List.length_cons, List.length_nil, Nat.zero_add, List.map_set, List.map_append, List.map_cons, List.map_nil, List.flatMap_append, List.flatMap_cons, List.flatMap_nil, List.append_nil, List.cons_append, List.nil_append]; done) | (simp only [sw1, go_sem, simprocAttr]; simp only [List.length_set, List.length_append, List.length_cons, List.length_nil, Nat.zero_add, List.map_set, List.map_append, List.map_cons, List.map_nil, List.flatMap_append, List.flatMap_cons, List.flatMap_nil, List.append_nil, List.cons_append, List.nil_append]; rfl) | rfl)) ?_
 rfl
theorem base_CopyInts_okd (N : Nat) (l : List Int) (r : List Int) (H : A7 N l = some r) : CallOK Try.prog 45 [(L l)] (.d (L r)) [] := (base_CopyInts_ok N l r H).asData (by simp) (by simp only [List.mem_map]; rintro _ ⟨_, _, rfl⟩; rfl)

theorem ref06_Copy_ok (N : Nat) (Zq : Int) (Zr : Int) (Zs : Int) (Zx : List Int) (r : Int × Int × Int × List Int) (H : ref06_Copy N Zq Zr Zs Zx = some r) : CallOK Try.prog 20 [(.agg [(I Zq), (I Zr), (I Zs), (L Zx)])] (.d (.agg [(I r.1), (I r.2.1), (I r.2.2.1), (L r.2.2.2)])) [] := by
 refine d3 Try.func20 rfl (by rw [Try.results20]) Try.ntmps20 Try.call20 ?_
 change PW _ _ _ _ _
 try simp only [go_sem, simprocAttr]
 unfold ref06_Copy at H
 refine a5 ?_
 refine a0 fun K hK => OW.run [1, 2] ?_
 simp only [go_sem, simprocAttr, sw0]
 refine OW.nil (hK _ ?_)
 refine a5 ?_
 obtain ⟨x1, e1, H⟩ := a8 H
 refine a0 fun K hK => OW.run [1, 2] ?_
 simp only [go_sem, simprocAttr, sw0]
 repeat (refine And.intro (by omega) ?_)
 refine d5 4 rfl rfl rfl (by ((simp only [go_sem, List.toList_toArray, simprocAttr]); exact rfl)) ?_ (base_CopyInts_okd N _ _ e1) ?_ ?_ ?_ ?_
 rfl
 exact d8 rfl
 exact .inl rfl
 (simp only [go_sem, Nat.reduceLT])
 refine OW.run [1, 2] ?_
 simp only [go_sem, simprocAttr, sw0]
 repeat (refine And.intro (by omega) ?_)
 refine OW.nil (hK _ ?_)
 refine a5 ?_
 refine a0 fun K hK => OW.run [2] ?_
 simp only [go_sem, simprocAttr, sw0]
 refine OW.nil (hK _ ?_)
 refine f4 ?_
 change PW.Ends _ _ _ _ _ _
 refine PW.Ends.intro (.inr rfl) ?_
 simp only [go_sem, simprocAttr, sw0]
 obtain rfl := Option.some.inj H
 refine a6 4 (by exact d8 rfl) ?_
 rfl

theorem k6 (N : Nat) (n : Int) (lo : Int) (hi : Int) (r : Bool) (H : k9 N n lo hi = some r) : CallOK Try.prog 32 [(I n), (I lo), (I hi)] (.d (Bo r)) [] := by
 refine d3 Try.func32 rfl (by rw [Try.results32]) Try.ntmps32 Try.call32 ?_
 change PW _ _ _ _ _
 try simp only [go_sem, simprocAttr]
 unfold k9 at H
 refine a5 ?_
 refine a0 fun K hK => OW.run [0, 1, 2] ?_
 simp only [go_sem, simprocAttr, sw0]
 refine OW.nil (hK _ ?_)
 refine a5 ?_
 refine a0 fun K hK => OW.run [6] ?_
 simp only [go_sem, simprocAttr, sw0]
 refine OW.nil (hK _ ?_)
 refine f4 ?_
 change PW.Ends _ _ _ _ _ _
 refine PW.Ends.intro (.inr rfl) ?_
 simp only [go_sem, simprocAttr, sw0]
 obtain rfl := Option.some.inj H
 refine a6 4 (by exact trivial) ?_
 rfl

theorem ref06_SiteErr_ok (N : Nat) (Zq : Int) (Zr : Int) (Zs : Int) (Zx : List Int) (r : Int) (H : ref06_SiteErr N Zq Zr Zs Zx = some r) : CallOK Try.prog 36 [(.agg [(I Zq), (I Zr), (I Zs), (L Zx)])] (.d (I r)) [] := by
 refine d3 Try.func36 rfl (by rw [Try.results36]) Try.ntmps36 Try.call36 ?_
 change PW _ _ _ _ _
 try simp only [go_sem, simprocAttr]
 unfold ref06_SiteErr at H
 refine a5 ?_
 refine a0 fun K hK => OW.run [1] ?_
 simp only [go_sem, simprocAttr, sw0]
 refine OW.nil (hK _ ?_)
 refine a5 ?_
 refine a5 ?_
 obtain ⟨x1, e1, H⟩ := a8 H
 obtain ⟨x2, e2, H⟩ := a8 H
 obtain ⟨x3, e3, H⟩ := a8 H
 refine a0 fun K hK => OW.run [1, 19] ?_
 simp only [go_sem, simprocAttr, sw0]
 repeat (refine And.intro (by omega) ?_)
 refine d5 4 rfl rfl rfl (by ((simp only [go_sem, List.toList_toArray, simprocAttr]); exact rfl)) ?_ (k6 N _ _ _ _ e1) ?_ ?_ ?_ ?_
 rfl
 exact d8 rfl
 exact .inl rfl
 (simp only [go_sem, Nat.reduceLT])
 refine OW.run [1, 19] ?_
 simp only [go_sem, simprocAttr, sw0]
 repeat (refine And.intro (by omega) ?_)
 refine l5 4 rfl rfl ?_ (fun hg => by first | rfl | (simp only [go_sem, ↓reduceIte]; rfl)) (fun hg => by ((simp only [go_sem, List.toList_toArray, simprocAttr]); exact rfl)) (fun hg => ?_) (fun hg => (k6 N _ _ _ _ (p8 hg e2))) ?_ ?_ ?_ ?_
 simp only [go_sem, simprocAttr]
 rfl
 exact d8 rfl
 exact .inl rfl
 (simp only [go_sem, Nat.reduceLT])
 refine OW.run [1, 19] ?_
 simp only [go_sem, simprocAttr, sw0]
 repeat (refine And.intro (by omega) ?_)
 refine l5 4 rfl rfl ?_ (fun hg => by first | rfl | (simp only [go_sem, ↓reduceIte]; rfl)) (fun hg => by ((simp only [go_sem, List.toList_toArray, simprocAttr]); exact rfl)) (fun hg => ?_) (fun hg => (k6 N _ _ _ _ (p8 hg e3))) ?_ ?_ ?_ ?_
 simp only [go_sem, simprocAttr]
 rfl
 exact d8 rfl
 exact .inl rfl
 (simp only [go_sem, Nat.reduceLT])
 refine OW.run [1, 19] ?_
 simp only [go_sem, simprocAttr, sw0]
 refine OW.nil (hK _ ?_)
 refine d9 rfl (fun h1 => ?_) (fun h1 => ?_)
 replace H := k7 h1 H
 refine a5 ?_
 refine a0 fun K hK => OW.run [2] ?_
 simp only [go_sem, simprocAttr, sw0]
 refine OW.nil (hK _ ?_)
 refine f4 ?_
 change PW.Ends _ _ _ _ _ _
 refine PW.Ends.intro (.inr rfl) ?_
 simp only [go_sem, simprocAttr, sw0]
 obtain rfl := Option.some.inj H
 refine a6 4 (by exact trivial) ?_
 rfl
 replace H := k8 h1 H
 refine f0 ?_
 refine a5 ?_
 refine a5 ?_
 refine a0 fun K hK => OW.run [1, 23] ?_
 simp only [go_sem, simprocAttr, sw0]
 repeat (refine And.intro (by omega) ?_)
 refine OW.nil (hK _ ?_)
 refine d9 rfl (fun h2 => ?_) (fun h2 => ?_)
 replace H := k7 h2 H
 refine a5 ?_
 refine a0 fun K hK => OW.run [2] ?_
 simp only [go_sem, simprocAttr, sw0]
 refine OW.nil (hK _ ?_)
 refine f4 ?_
 change PW.Ends _ _ _ _ _ _
 refine PW.Ends.intro (.inr rfl) ?_
 simp only [go_sem, simprocAttr, sw0]
 obtain rfl := Option.some.inj H
 refine a6 4 (by exact trivial) ?_
 rfl
 replace H := k8 h2 H
 refine f0 ?_
 refine a5 ?_
 refine a5 ?_
 refine a0 fun K hK => OW.run [1, 27] ?_
 simp only [go_sem, simprocAttr, sw0]
 repeat (refine And.intro (by omega) ?_)
 refine OW.nil (hK _ ?_)
 refine d9 rfl (fun h3 => ?_) (fun h3 => ?_)
 replace H := k7 h3 H
 refine a5 ?_
 refine a0 fun K hK => OW.run [2] ?_
 simp only [go_sem, simprocAttr, sw0]
 refine OW.nil (hK _ ?_)
 refine f4 ?_
 change PW.Ends _ _ _ _ _ _
 refine PW.Ends.intro (.inr rfl) ?_
 simp only [go_sem, simprocAttr, sw0]
 obtain rfl := Option.some.inj H
 refine a6 4 (by exact trivial) ?_
 rfl
 replace H := k8 h3 H
 refine f0 ?_
 refine i4 (τ := Unit) [] 0 (fun _ => []) (fun _ => []) _ _ r (by exact Nat.le_refl _) H ?_ ?_
 intro K_ H N4 hN4
 refine a5 ?_
 refine a0 fun K hK => OW.run [1, 3] ?_
 simp only [go_sem, simprocAttr, sw0]
 refine OW.nil (hK _ ?_)
 refine PW.block ?_
 refine i8 (σ := Int) [1, 3] 1 (fun i => [(3, .d (I i))]) (fun i => [{ cells := [.d (I Zq), .d (I Zr), .d (I Zs), .d (L Zx)], e := 24 }]) (ref06_SiteErr.b1 N Zx K_) r N (0 : Int) (by exact Nat.zero_le _) H (by (simp only [sw1, go_sem, simprocAttr]; done)) ?_
 rintro n i H N5 hN5
 unfold ref06_SiteErr.b1 at H
 try simp only [go_sem, simprocAttr]
 refine a5 ?_
 refine a5 ?_
 refine a0 fun K hK => OW.run [1, 3, 32] ?_
 simp only [go_sem, simprocAttr, sw0]
 repeat (refine And.intro (by omega) ?_)
 refine OW.nil (hK _ ?_)
 refine d9 rfl (fun h6 => ?_) (fun h6 => ?_)
 replace H := k7 h6 H
 refine f0 ?_
 refine a5 ?_
 refine PW.block ?_
 refine a5 ?_
 refine a5 ?_
 obtain ⟨c7, H⟩ := d7 H
 obtain ⟨x4, e4, H⟩ := a8 H
 refine a0 fun K hK => OW.run [1, 3, 41] ?_
 simp only [go_sem, simprocAttr, sw0]
 repeat (refine And.intro (by omega) ?_)
 refine d5 4 rfl rfl rfl (by ((simp only [go_sem, List.toList_toArray, simprocAttr]); exact rfl)) ?_ (k6 N _ _ _ _ e4) ?_ ?_ ?_ ?_
 rfl
 exact d8 rfl
 exact .inl rfl
 (simp only [go_sem, Nat.reduceLT])
 refine OW.run [1, 3, 41] ?_
 simp only [go_sem, simprocAttr, sw0]
 refine OW.nil (hK _ ?_)
 refine d9 rfl (fun h8 => ?_) (fun h8 => ?_)
 replace H := k7 h8 H
 refine a5 ?_
 refine a0 fun K hK => OW.run [2] ?_
 simp only [go_sem, simprocAttr, sw0]
 refine OW.nil (hK _ ?_)
 refine f4 ?_
 change PW.Ends _ _ _ _ _ _
 refine PW.Ends.intro (.inr rfl) ?_
 simp only [go_sem, simprocAttr, sw0]
 obtain rfl := Option.some.inj H
 refine a6 4 (by exact trivial) ?_
 rfl
 ·
  replace H := k8 h8 H
  refine f0 ?_
  refine a5 ?_
  obtain ⟨c9, H⟩ := d7 H
  obtain ⟨c10, H⟩ := d7 H
  refine j0 14 n9 (by kernel_rfl) fun K hK => ?_
  change FW _ _ _ _ _
  refine FW.run ?_
  simp only [go_sem, simprocAttr, sw0]
  repeat (refine And.intro (by first | omega | (intro hg; have hq := c9 (by first | exact hg | simpa using hg); first | omega | exact hq | (simp only [List.length_map]; omega)) | (intro hg; have hq := c10 (by first | exact hg | simpa using hg); first | omega | exact hq | (simp only [List.length_map]; omega)) | (first | omega | assumption | rfl | decide | (simp only [List.length_map, List.length_replicate, List.length_append, List.length_take, List.length_drop, List.length_set, List.length_cons, List.length_nil, Nat.zero_add, Int.toNat_natCast] at *; omega) | (simp only [List.length_map, List.length_replicate, List.length_append, List.length_take, List.length_drop, List.length_set, List.length_cons, List.length_nil, Nat.zero_add, Int.toNat_natCast]; done) | trivial)) ?_)
  refine FW.nil ?_
  change OW _ _ _ _ _ _
  refine OW.run [1, 3, 57] ?_
  simp only [go_sem, simprocAttr, sw0]
  repeat (refine And.intro (by first | omega | (intro hg; have hq := c9 (by first | exact hg | simpa using hg); first | omega | exact hq | (simp only [List.length_map]; omega)) | (intro hg; have hq := c10 (by first | exact hg | simpa using hg); first | omega | exact hq | (simp only [List.length_map]; omega)) | (first | omega | assumption | rfl | decide | (simp only [List.length_map, List.length_replicate, List.length_append, List.length_take, List.length_drop, List.length_set, List.length_cons, List.length_nil, Nat.zero_add, Int.toNat_natCast] at *; omega) | (simp only [List.length_map, List.length_replicate, List.length_append, List.length_take, List.length_drop, List.length_set, List.length_cons, List.length_nil, Nat.zero_add, Int.toNat_natCast]; done) | trivial)) ?_)
  refine OW.nil (hK _ ?_)
  refine d9 rfl (fun h11 => ?_) (fun h11 => ?_)
  replace H := k7 h11 H
  refine a5 ?_
  refine a0 fun K hK => OW.run [2] ?_
  simp only [go_sem, simprocAttr, sw0]
  refine OW.nil (hK _ ?_)
  refine f4 ?_
  change PW.Ends _ _ _ _ _ _
  refine PW.Ends.intro (.inr rfl) ?_
  simp only [go_sem, simprocAttr, sw0]
  obtain rfl := Option.some.inj H
  refine a6 4 (by exact trivial) ?_
  rfl
  replace H := k8 h11 H
  refine f0 ?_
  refine a0 fun K hK => OW.run [1, 3] ?_
  simp only [go_sem, simprocAttr, sw0]
  refine OW.nil (hK _ ?_)
  refine hN5 [] (w64 (i + (1 : Int))) _ H (by exact trivial) ?_
  simp only [sw1, go_sem, simprocAttr]
 replace H := k8 h6 H
 refine j3 ?_
 refine hN4 [] () _ H (by exact trivial) ?_
 simp only [sw1, go_sem, simprocAttr]
 rintro _ H
 try simp only [go_sem, simprocAttr]
 refine a5 ?_
 refine a0 fun K hK => OW.run [2] ?_
 simp only [go_sem, simprocAttr, sw0]
 refine OW.nil (hK _ ?_)
 refine f4 ?_
 change PW.Ends _ _ _ _ _ _
 refine PW.Ends.intro (.inr rfl) ?_
 simp only [go_sem, simprocAttr, sw0]
 obtain rfl := Option.some.inj H
 refine a6 4 (by exact trivial) ?_
 rfl

theorem ref06_IsReport_ok (N : Nat) (Zq : Int) (Zr : Int) (Zs : Int) (Zx : List Int) (report : Int) (r : Bool) (H : u6 N Zq Zr Zs Zx report = some r) : CallOK Try.prog 67 [(.agg [(I Zq), (I Zr), (I Zs), (L Zx)]), (I report)] (.d (Bo r)) [] := by
 refine d3 Try.func67 rfl (by rw [Try.results67]) Try.ntmps67 Try.call67 ?_
 change PW _ _ _ _ _
 try simp only [go_sem, simprocAttr]
 unfold u6 at H
 refine a5 ?_
 refine a0 fun K hK => OW.run [1, 2] ?_
 simp only [go_sem, simprocAttr, sw0]
 refine OW.nil (hK _ ?_)
 refine a5 ?_
 obtain ⟨x1, e1, H⟩ := a8 H
 refine a0 fun K hK => OW.run [4] ?_
 simp only [go_sem, simprocAttr, sw0]
 repeat (refine And.intro (by omega) ?_)
 refine d5 4 rfl rfl rfl (by ((simp only [go_sem, List.toList_toArray, simprocAttr]); exact rfl)) ?_ (k6 N _ _ _ _ e1) ?_ ?_ ?_ ?_
 rfl
 exact d8 rfl
 exact .inl rfl
 (simp only [go_sem, Nat.reduceLT])
 refine OW.run [4] ?_
 simp only [go_sem, simprocAttr, sw0]
 refine OW.nil (hK _ ?_)
 refine f4 ?_
 change PW.Ends _ _ _ _ _ _
 refine PW.Ends.intro (.inr rfl) ?_
 simp only [go_sem, simprocAttr, sw0]
 obtain rfl := Option.some.inj H
 refine a6 4 (by exact trivial) ?_
 rfl

theorem base_Floor_ok (N : Nat) (n : Int) (by_ : Int) (r : Int) (H : base_Floor N n by_ = some r) : CallOK Try.prog 113 [(I n), (I by_)] (.d (I r)) [] := by
 refine d3 Try.func113 rfl (by rw [Try.results113]) Try.ntmps113 Try.call113 ?_
 change PW _ _ _ _ _
 try simp only [go_sem, simprocAttr]
 unfold base_Floor at H
 refine a5 ?_
 refine a0 fun K hK => OW.run [0, 1] ?_
 simp only [go_sem, simprocAttr, sw0]
 refine OW.nil (hK _ ?_)
 refine a5 ?_
 obtain ⟨c1, H⟩ := d7 H
 refine a0 fun K hK => OW.run [0, 1, 5] ?_
 simp only [go_sem, simprocAttr, sw0]
 repeat (refine And.intro (by omega) ?_)
 refine OW.nil (hK _ ?_)
 refine a5 ?_
 refine a5 ?_
 obtain ⟨c2, H⟩ := d7 H
 refine a0 fun K hK => OW.run [5, 12] ?_
 simp only [go_sem, simprocAttr, sw0]
 repeat (refine And.intro (by omega) ?_)
 refine OW.nil (hK _ ?_)
 refine d9 rfl (fun h3 => ?_) (fun h3 => ?_)
 replace H := k7 h3 H
 refine a0 fun K hK => OW.run [5] ?_
 simp only [go_sem, simprocAttr, sw0]
 refine OW.nil (hK _ ?_)
 refine a5 ?_
 refine a0 fun K hK => OW.run [4] ?_
 simp only [go_sem, simprocAttr, sw0]
 refine OW.nil (hK _ ?_)
 refine f4 ?_
 change PW.Ends _ _ _ _ _ _
 refine PW.Ends.intro (.inr rfl) ?_
 simp only [go_sem, simprocAttr, sw0]
 obtain rfl := Option.some.inj H
 refine a6 4 (by exact trivial) ?_
 rfl
 replace H := k8 h3 H
 refine f0 ?_
 refine a5 ?_
 refine a0 fun K hK => OW.run [4] ?_
 simp only [go_sem, simprocAttr, sw0]
 refine OW.nil (hK _ ?_)
 refine f4 ?_
 change PW.Ends _ _ _ _ _ _
 refine PW.Ends.intro (.inr rfl) ?_
 simp only [go_sem, simprocAttr, sw0]
 obtain rfl := Option.some.inj H
 refine a6 4 (by exact trivial) ?_
 rfl

end Go.Proofs.Ytabojpkmfkjjkaa
