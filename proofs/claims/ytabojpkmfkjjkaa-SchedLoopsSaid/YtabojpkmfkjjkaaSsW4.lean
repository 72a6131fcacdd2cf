import Derived.Test.YtabojpkmfkjjkaaSsBase
import Derived.Test.YtabojpkmfkjjkaaSsW0
import Derived.Test.YtabojpkmfkjjkaaSsW1
import Derived.Test.YtabojpkmfkjjkaaSsW2
import Derived.Test.YtabojpkmfkjjkaaSsW3
set_option linter.all false
namespace Go.Proofs.Ytabojpkmfkjjkaa
open Go.PW Go.Sh

set_option maxRecDepth 20000
set_option maxHeartbeats 8000000
theorem base_Lists_ok (N : Nat) (a : List (List Int)) (b : List (List Int)) (r : Bool) (H : base_Lists N a b = some r) : CallOK Try.prog 121 [(.list a.length (a.map L)), (.list b.length (b.map L))] (.d (Bo r)) [] := by
 refine d4 Try.func121 rfl (by rw [Try.results121]) Try.ntmps121 Try.call121 ?_
 change PW _ _ _ _ _
 try simp only [go_sem, simprocAttr]
 unfold base_Lists at H
 refine a5 ?_
 refine a0 fun K hK => OW.run [0, 1] ?_
 simp only [go_sem, simprocAttr, sw0]
 refine OW.nil (hK _ ?_)
 refine a5 ?_
 refine a5 ?_
 refine a0 fun K hK => OW.run [0, 1, 10] ?_
 simp only [go_sem, simprocAttr, sw0]
 refine OW.nil (hK _ ?_)
 refine d8 rfl (fun h1 => ?_) (fun h1 => ?_)
 replace H := l4 h1 H
 refine a5 ?_
 refine a0 fun K hK => OW.run [4] ?_
 simp only [go_sem, simprocAttr, sw0]
 refine OW.nil (hK _ ?_)
 refine f0 ?_
 change PW.Ends _ _ _ _ _ _
 refine PW.Ends.intro (.inr rfl) ?_
 simp only [go_sem, simprocAttr, sw0]
 obtain rfl := Option.some.inj H
 refine a7 4 (by exact trivial) ?_
 rfl
 replace H := l5 h1 H
 refine d9 ?_
 refine i6 (τ := Unit) [] 0 (fun _ => []) (fun _ => []) _ _ r (by exact Nat.le_refl _) H ?_ ?_
 intro K_ H N2 hN2
 refine a5 ?_
 refine a0 fun K hK => OW.run [0, 1, 5] ?_
 simp only [go_sem, simprocAttr, sw0]
 refine OW.nil (hK _ ?_)
 refine PW.block ?_
 refine i7 (σ := Int) [0, 1, 5] 0 (fun i => [(5, .d (I i))]) (fun i => []) (base_Lists.b1 N a b K_) r N (0 : Int) (by exact Nat.le_refl _) H (by (simp only [sw1, go_sem, simprocAttr]; done)) ?_
 rintro n i H N3 hN3
 unfold base_Lists.b1 at H
 try simp only [go_sem, simprocAttr]
 refine a5 ?_
 refine a5 ?_
 refine a0 fun K hK => OW.run [0, 1, 5, 14] ?_
 simp only [go_sem, simprocAttr, sw0]
 refine OW.nil (hK _ ?_)
 refine d8 rfl (fun h4 => ?_) (fun h4 => ?_)
 replace H := l4 h4 H
 refine d9 ?_
 refine a5 ?_
 refine PW.block ?_
 refine a5 ?_
 obtain ⟨c5, H⟩ := d5 H
 obtain ⟨c6, H⟩ := d5 H
 obtain ⟨x1, e1, H⟩ := a8 H
 refine j1 8 o9 (by kernel_rfl) fun K hK => ?_
 change FW _ _ _ _ _
 refine FW.run ?_
 (simp only [go_sem, simprocAttr, sw0, i9 L a i.toNat default (by omega), i9 L b i.toNat default (by omega)])
 repeat (refine And.intro (by omega) ?_)
 refine FW.nil ?_
 change OW _ _ _ _ _ _
 refine OW.run [0, 1, 5, 26] ?_
 (simp only [go_sem, simprocAttr, sw0, i9 L a i.toNat default (by omega), i9 L b i.toNat default (by omega)])
 refine d7 4 rfl rfl rfl (by ((simp only [go_sem, List.toList_toArray, simprocAttr]); exact rfl)) ?_ (base_Ints_ok N _ _ _ e1) ?_ ?_ ?_ ?_
 rfl
 exact d6 rfl
 exact .inl rfl
 (simp only [go_sem, Nat.reduceLT])
 refine OW.run [0, 1, 5, 26] ?_
 (simp only [go_sem, simprocAttr, sw0, i9 L a i.toNat default (by omega), i9 L b i.toNat default (by omega)])
 refine OW.nil (hK _ ?_)
 refine d8 rfl (fun h7 => ?_) (fun h7 => ?_)
 replace H := l4 h7 H
 refine a5 ?_
 refine a0 fun K hK => OW.run [4] ?_
 simp only [go_sem, simprocAttr, sw0]
 refine OW.nil (hK _ ?_)
 refine f0 ?_
 change PW.Ends _ _ _ _ _ _
 refine PW.Ends.intro (.inr rfl) ?_
 simp only [go_sem, simprocAttr, sw0]
 obtain rfl := Option.some.inj H
 refine a7 4 (by exact trivial) ?_
 rfl
 replace H := l5 h7 H
 refine d9 ?_
 refine a0 fun K hK => OW.run [0, 1, 5] ?_
 simp only [go_sem, simprocAttr, sw0]
 refine OW.nil (hK _ ?_)
 refine hN3 [] (w64 (i + (1 : Int))) _ H (by exact trivial) ?_
 simp only [sw1, go_sem, simprocAttr]
 replace H := l5 h4 H
 refine j2 ?_
 refine hN2 [] () _ H (by exact trivial) ?_
 simp only [sw1, go_sem, simprocAttr]
 rintro _ H
 try simp only [go_sem, simprocAttr]
 refine a5 ?_
 refine a0 fun K hK => OW.run [4] ?_
 simp only [go_sem, simprocAttr, sw0]
 refine OW.nil (hK _ ?_)
 refine f0 ?_
 change PW.Ends _ _ _ _ _ _
 refine PW.Ends.intro (.inr rfl) ?_
 simp only [go_sem, simprocAttr, sw0]
 obtain rfl := Option.some.inj H
 refine a7 4 (by exact trivial) ?_
 rfl

theorem ref06_SameTrace_ok (N : Nat) (Z1 : List (List Int)) (Z6 : List Int) (Z3 : List Int) (Z8 : List (List Int)) (Zd : List Int) (Za : List Int) (r : Bool) (H : w8 N Z1 Z6 Z3 Z8 Zd Za = some r) : CallOK Try.prog 58 [(.agg [(.list Z1.length (Z1.map L)), (L Z6), (L Z3)]), (.agg [(.list Z8.length (Z8.map L)), (L Zd), (L Za)])] (.d (Bo r)) [] := by
 refine d4 Try.func58 rfl (by rw [Try.results58]) Try.ntmps58 Try.call58 ?_
 change PW _ _ _ _ _
 try simp only [go_sem, simprocAttr]
 unfold w8 at H
 refine a5 ?_
 refine a0 fun K hK => OW.run [2, 3] ?_
 simp only [go_sem, simprocAttr, sw0]
 refine OW.nil (hK _ ?_)
 refine a5 ?_
 obtain ⟨x1, e1, H⟩ := a8 H
 obtain ⟨x2, e2, H⟩ := a8 H
 obtain ⟨x3, e3, H⟩ := a8 H
 refine a0 fun K hK => OW.run [4] ?_
 simp only [go_sem, simprocAttr, sw0]
 repeat (refine And.intro (by omega) ?_)
 refine d7 4 rfl rfl rfl (by ((simp only [go_sem, List.toList_toArray, simprocAttr]); exact rfl)) ?_ (base_Lists_ok N _ _ _ e1) ?_ ?_ ?_ ?_
 rfl
 exact d6 rfl
 exact .inl rfl
 (simp only [go_sem, Nat.reduceLT])
 refine OW.run [4] ?_
 simp only [go_sem, simprocAttr, sw0]
 repeat (refine And.intro (by omega) ?_)
 refine l8 4 rfl rfl ?_ (fun hg => by first | rfl | (simp only [go_sem, ↓reduceIte]; rfl)) (fun hg => by ((simp only [go_sem, List.toList_toArray, simprocAttr]); exact rfl)) (fun hg => ?_) (fun hg => (base_Ints_ok N _ _ _ (p9 hg e2))) ?_ ?_ ?_ ?_
 simp only [go_sem, simprocAttr]
 rfl
 exact d6 rfl
 exact .inl rfl
 (simp only [go_sem, Nat.reduceLT])
 refine OW.run [4] ?_
 simp only [go_sem, simprocAttr, sw0]
 repeat (refine And.intro (by omega) ?_)
 refine l8 4 rfl rfl ?_ (fun hg => by first | rfl | (simp only [go_sem, ↓reduceIte]; rfl)) (fun hg => by ((simp only [go_sem, List.toList_toArray, simprocAttr]); exact rfl)) (fun hg => ?_) (fun hg => (base_Ints_ok N _ _ _ (p9 hg e3))) ?_ ?_ ?_ ?_
 simp only [go_sem, simprocAttr]
 rfl
 exact d6 rfl
 exact .inl rfl
 (simp only [go_sem, Nat.reduceLT])
 refine OW.run [4] ?_
 simp only [go_sem, simprocAttr, sw0]
 refine OW.nil (hK _ ?_)
 refine f0 ?_
 change PW.Ends _ _ _ _ _ _
 refine PW.Ends.intro (.inr rfl) ?_
 simp only [go_sem, simprocAttr, sw0]
 obtain rfl := Option.some.inj H
 refine a7 4 (by exact trivial) ?_
 rfl

theorem ref06_SameShares_ok (N : Nat) (Z2 : Int) (Z4 : List Int) (Z9 : Int) (Zb : List Int) (r : Bool) (H : u2 N Z2 Z4 Z9 Zb = some r) : CallOK Try.prog 86 [(.agg [(I Z2), (L Z4)]), (.agg [(I Z9), (L Zb)])] (.d (Bo r)) [] := by
 refine d4 Try.func86 rfl (by rw [Try.results86]) Try.ntmps86 Try.call86 ?_
 change PW _ _ _ _ _
 try simp only [go_sem, simprocAttr]
 unfold u2 at H
 refine a5 ?_
 refine a0 fun K hK => OW.run [2, 3] ?_
 simp only [go_sem, simprocAttr, sw0]
 refine OW.nil (hK _ ?_)
 refine a5 ?_
 obtain ⟨x1, e1, H⟩ := a8 H
 refine a0 fun K hK => OW.run [4] ?_
 simp only [go_sem, simprocAttr, sw0]
 repeat (refine And.intro (by omega) ?_)
 refine l8 4 rfl rfl ?_ (fun hg => by first | rfl | (simp only [go_sem, ↓reduceIte]; rfl)) (fun hg => by ((simp only [go_sem, List.toList_toArray, simprocAttr]); exact rfl)) (fun hg => ?_) (fun hg => (base_Ints_ok N _ _ _ (p9 hg e1))) ?_ ?_ ?_ ?_
 simp only [go_sem, simprocAttr]
 rfl
 exact d6 rfl
 exact .inl rfl
 (simp only [go_sem, Nat.reduceLT])
 refine OW.run [4] ?_
 simp only [go_sem, simprocAttr, sw0]
 refine OW.nil (hK _ ?_)
 refine f0 ?_
 change PW.Ends _ _ _ _ _ _
 refine PW.Ends.intro (.inr rfl) ?_
 simp only [go_sem, simprocAttr, sw0]
 obtain rfl := Option.some.inj H
 refine a7 4 (by exact trivial) ?_
 rfl

theorem law06_awake_ok (N : Nat)  (r : Bool) (H : law06_awake N  = some r) : CallOK Try.prog 17 [] (.d (Bo r)) [] := by
 refine d4 Try.func17 rfl (by rw [Try.results17]) Try.ntmps17 Try.call17 ?_
 change PW _ _ _ _ _
 try simp only [go_sem, simprocAttr]
 unfold law06_awake at H
 refine a5 ?_
 refine a0 fun K hK => OW.run [] ?_
 simp only [go_sem, simprocAttr, sw0]
 refine OW.nil (hK _ ?_)
 refine a5 ?_
 obtain ⟨⟨x1, x11, x12, x13⟩, e1, H⟩ := a8 H
 obtain ⟨⟨x2, x21, x22, x23, x24, x25, x26, x27, x28⟩, e2, H⟩ := a8 H
 obtain ⟨⟨x3, x31, x32, x33⟩, e3, H⟩ := a8 H
 refine a0 fun K hK => OW.run [1, 2] ?_
 simp only [go_sem, simprocAttr, sw0]
 refine d7 4 rfl rfl rfl (by ((simp only [go_sem, List.toList_toArray, simprocAttr]); exact rfl)) ?_ (law06_Site_ok N  _ e1) ?_ ?_ ?_ ?_
 rfl
 exact d6 rfl
 exact .inl rfl
 (simp only [go_sem, Nat.reduceLT])
 refine OW.run [1, 2] ?_
 simp only [go_sem, simprocAttr, sw0]
 refine d7 4 rfl rfl rfl (by ((simp only [go_sem, List.toList_toArray, simprocAttr]); exact rfl)) ?_ (law06_Voice_ok N  _ e2) ?_ ?_ ?_ ?_
 rfl
 exact d6 rfl
 exact .inl rfl
 (simp only [go_sem, Nat.reduceLT])
 refine OW.run [1, 2] ?_
 simp only [go_sem, simprocAttr, sw0]
 refine d7 4 rfl rfl rfl (by ((simp only [go_sem, List.toList_toArray, simprocAttr]); exact rfl)) ?_ (sched_NeedOf_ok N _ _ _ _ _ _ _ _ _ _ _ _ _ _ e3) ?_ ?_ ?_ ?_
 rfl
 exact d6 rfl
 exact .inl rfl
 (simp only [go_sem, Nat.reduceLT])
 refine OW.run [1, 2] ?_
 simp only [go_sem, simprocAttr, sw0]
 refine OW.nil (hK _ ?_)
 refine a5 ?_
 obtain ⟨⟨x4, x41, x42, x43⟩, e4, H⟩ := a8 H
 obtain ⟨⟨x5, x51, x52, x53, x54, x55, x56, x57, x58⟩, e5, H⟩ := a8 H
 obtain ⟨⟨x6, x61, x62, x63, x64, x65, x66, x67, x68⟩, e6, H⟩ := a8 H
 obtain ⟨⟨x7, x71, x72⟩, e7, H⟩ := a8 H
 refine a0 fun K hK => OW.run [1, 2, 3, 4] ?_
 simp only [go_sem, simprocAttr, sw0]
 refine d7 4 rfl rfl rfl (by ((simp only [go_sem, List.toList_toArray, simprocAttr]); exact rfl)) ?_ (law06_Site_ok N  _ e4) ?_ ?_ ?_ ?_
 rfl
 exact d6 rfl
 exact .inl rfl
 (simp only [go_sem, Nat.reduceLT])
 refine OW.run [1, 2, 3, 4] ?_
 simp only [go_sem, simprocAttr, sw0]
 refine d7 4 rfl rfl rfl (by ((simp only [go_sem, List.toList_toArray, simprocAttr]); exact rfl)) ?_ (law06_Voice_ok N  _ e5) ?_ ?_ ?_ ?_
 rfl
 exact d6 rfl
 exact .inl rfl
 (simp only [go_sem, Nat.reduceLT])
 refine OW.run [1, 2, 3, 4] ?_
 simp only [go_sem, simprocAttr, sw0]
 refine d7 4 rfl rfl rfl (by ((simp only [go_sem, List.toList_toArray, simprocAttr]); exact rfl)) ?_ (law06_Alarm_ok N  _ e6) ?_ ?_ ?_ ?_
 rfl
 exact d6 rfl
 exact .inl rfl
 (simp only [go_sem, Nat.reduceLT])
 refine OW.run [1, 2, 3, 4] ?_
 simp only [go_sem, simprocAttr, sw0]
 refine OW.frz 1 (by exact Nat.zero_le _) (by rfl) ?_
 simp only [r5, n6, n5, r4, nz_int, z2, nz_str, z1, nz_ref, nz_nil, go_sem, simprocAttr]
 refine d7 4 rfl rfl rfl (by ((simp only [go_sem, List.toList_toArray, simprocAttr]); exact rfl)) ?_ (sched_Admit_ok N _ _ _ _ _ _ _ _ _ _ _ _ _ _ _ e7) ?_ ?_ ?_ ?_
 rfl
 exact d6 rfl
 exact .inl rfl
 (simp only [go_sem, Nat.reduceLT])
 refine OW.run [1, 2, 3, 4] ?_
 simp only [go_sem, simprocAttr, sw0]
 refine OW.nil (hK _ ?_)
 refine a5 ?_
 obtain ⟨⟨x8, x81, x82, x83⟩, e8, H⟩ := a8 H
 obtain ⟨⟨x9, x91, x92, x93, x94, x95, x96, x97, x98⟩, e9, H⟩ := a8 H
 obtain ⟨⟨x10, x101, x102, x103, x104, x105, x106, x107, x108⟩, e10, H⟩ := a8 H
 obtain ⟨⟨x111, x112, x113, x114⟩, e11, H⟩ := a8 H
 refine a0 fun K hK => OW.run [1, 2, 3, 4, 5, 6] ?_
 simp only [go_sem, simprocAttr, sw0]
 refine d7 4 rfl rfl rfl (by ((simp only [go_sem, List.toList_toArray, simprocAttr]); exact rfl)) ?_ (law06_Site_ok N  _ e8) ?_ ?_ ?_ ?_
 rfl
 exact d6 rfl
 exact .inl rfl
 (simp only [go_sem, Nat.reduceLT])
 refine OW.run [1, 2, 3, 4, 5, 6] ?_
 simp only [go_sem, simprocAttr, sw0]
 refine d7 4 rfl rfl rfl (by ((simp only [go_sem, List.toList_toArray, simprocAttr]); exact rfl)) ?_ (law06_Voice_ok N  _ e9) ?_ ?_ ?_ ?_
 rfl
 exact d6 rfl
 exact .inl rfl
 (simp only [go_sem, Nat.reduceLT])
 refine OW.run [1, 2, 3, 4, 5, 6] ?_
 simp only [go_sem, simprocAttr, sw0]
 refine d7 4 rfl rfl rfl (by ((simp only [go_sem, List.toList_toArray, simprocAttr]); exact rfl)) ?_ (law06_Best_ok N  _ e10) ?_ ?_ ?_ ?_
 rfl
 exact d6 rfl
 exact .inl rfl
 (simp only [go_sem, Nat.reduceLT])
 refine OW.run [1, 2, 3, 4, 5, 6] ?_
 simp only [go_sem, simprocAttr, sw0]
 refine OW.frz 3 (by exact Nat.zero_le _) (by rfl) ?_
 simp only [r5, n6, n5, r4, nz_int, z2, nz_str, z1, nz_ref, nz_nil, go_sem, simprocAttr]
 refine OW.frz 4 (by exact Nat.zero_le _) (by rfl) ?_
 simp only [r5, n6, n5, r4, nz_int, z2, nz_str, z1, nz_ref, nz_nil, go_sem, simprocAttr]
 refine OW.frz 5 (by exact Nat.zero_le _) (by rfl) ?_
 simp only [r5, n6, n5, r4, nz_int, z2, nz_str, z1, nz_ref, nz_nil, go_sem, simprocAttr]
 refine OW.frz 6 (by exact Nat.zero_le _) (by rfl) ?_
 simp only [r5, n6, n5, r4, nz_int, z2, nz_str, z1, nz_ref, nz_nil, go_sem, simprocAttr]
 refine d7 4 rfl rfl rfl (by ((simp only [go_sem, List.toList_toArray, simprocAttr]); exact rfl)) ?_ (sched_Run_ok N _ _ _ _ _ _ _ e11) ?_ ?_ ?_ ?_
 rfl
 exact d6 rfl
 exact .inl rfl
 (simp only [go_sem, Nat.reduceLT])
 refine OW.run [1, 2, 3, 4, 5, 6] ?_
 simp only [go_sem, simprocAttr, sw0]
 refine OW.nil (hK _ ?_)
 refine a5 ?_
 obtain ⟨⟨x121, x122, x123⟩, e12, H⟩ := a8 H
 refine a0 fun K hK => OW.run [1, 2, 3, 4, 5, 6, 7, 8] ?_
 simp only [go_sem, simprocAttr, sw0]
 refine OW.frz 8 (by exact Nat.zero_le _) (by rfl) ?_
 simp only [r5, n6, n5, r4, nz_int, z2, nz_str, z1, nz_ref, nz_nil, go_sem, simprocAttr]
 refine OW.frz 9 (by exact Nat.zero_le _) (by rfl) ?_
 simp only [r5, n6, n5, r4, nz_int, z2, nz_str, z1, nz_ref, nz_nil, go_sem, simprocAttr]
 refine d7 4 rfl rfl rfl (by ((simp only [go_sem, List.toList_toArray, simprocAttr]); exact rfl)) ?_ (sched_SharesOf_ok N _ _ _ _ e12) ?_ ?_ ?_ ?_
 rfl
 · (refine a6 ?_; (simp only [go_sem, sw2, List.length_set, List.length_replicate, and_true, true_and, Nat.le_refl, simprocAttr]; done))
 exact .inl rfl
 (simp only [go_sem, Nat.reduceLT])
 refine OW.run [1, 2, 3, 4, 5, 6, 7, 8] ?_
 simp only [go_sem, simprocAttr, sw0]
 refine OW.nil (hK _ ?_)
 refine a5 ?_
 obtain ⟨⟨x131, x132, x133⟩, e13, H⟩ := a8 H
 refine a0 fun K hK => OW.run [1, 2, 3, 4, 5, 6, 7, 8, 9, 10, 11] ?_
 simp only [go_sem, simprocAttr, sw0]
 refine OW.frz 11 (by exact Nat.zero_le _) (by rfl) ?_
 simp only [r5, n6, n5, r4, nz_int, z2, nz_str, z1, nz_ref, nz_nil, go_sem, simprocAttr]
 refine OW.frz 12 (by exact Nat.zero_le _) (by rfl) ?_
 simp only [r5, n6, n5, r4, nz_int, z2, nz_str, z1, nz_ref, nz_nil, go_sem, simprocAttr]
 refine OW.frz 13 (by exact Nat.zero_le _) (by rfl) ?_
 simp only [r5, n6, n5, r4, nz_int, z2, nz_str, z1, nz_ref, nz_nil, go_sem, simprocAttr]
 refine OW.frz 14 (by exact Nat.zero_le _) (by rfl) ?_
 simp only [r5, n6, n5, r4, nz_int, z2, nz_str, z1, nz_ref, nz_nil, go_sem, simprocAttr]
 refine d7 4 rfl rfl rfl (by ((simp only [go_sem, List.toList_toArray, simprocAttr]); exact rfl)) ?_ (sched_BestTurns_ok N _ _ e13) ?_ ?_ ?_ ?_
 rfl
 exact d6 rfl
 exact .inl rfl
 (simp only [go_sem, Nat.reduceLT])
 refine OW.run [1, 2, 3, 4, 5, 6, 7, 8, 9, 10, 11] ?_
 simp only [go_sem, simprocAttr, sw0]
 refine OW.nil (hK _ ?_)
 refine a5 ?_
 obtain ⟨⟨x14, x141, x142, x143, x144, x145, x146, x147, x148⟩, e14, H⟩ := a8 H
 obtain ⟨x15, e15, H⟩ := a8 H
 obtain ⟨x16, e16, H⟩ := a8 H
 obtain ⟨x17, e17, H⟩ := a8 H
 obtain ⟨x18, e18, H⟩ := a8 H
 refine j1 53 o9 (by kernel_rfl) fun K hK => ?_
 change FW _ _ _ _ _
 refine FW.run ?_
 simp only [go_sem, simprocAttr, sw0]
 refine z5 4 rfl rfl ?_ (fun hg => by first | rfl | (simp only [go_sem, ↓reduceIte]; rfl)) (fun hg => by ((simp only [go_sem, List.toList_toArray, simprocAttr]); exact rfl)) (fun hg => ?_) (fun hg => (law06_Alarm_ok N  _ (p9 hg e14))) ?_ ?_ ?_ ?_
 simp only [go_sem, simprocAttr]
 rfl
 exact d6 rfl
 exact .inl rfl
 (simp only [go_sem, Nat.reduceLT])
 refine FW.run ?_
 simp only [go_sem, simprocAttr, sw0]
 refine z5 4 rfl rfl ?_ (fun hg => by first | rfl | (simp only [go_sem, ↓reduceIte]; rfl)) (fun hg => by ((simp only [go_sem, List.toList_toArray, simprocAttr]); exact rfl)) (fun hg => ?_) (fun hg => (ref06_SameAdmission_ok N _ _ _ _ _ (p9 hg e15))) ?_ ?_ ?_ ?_
 simp only [go_sem, simprocAttr]
 rfl
 · (refine a6 ?_; (simp only [go_sem, sw2, List.length_set, List.length_replicate, and_true, true_and, Nat.le_refl, simprocAttr]; done))
 exact .inl rfl
 (simp only [go_sem, Nat.reduceLT])
 refine FW.run ?_
 simp only [go_sem, simprocAttr, sw0]
 refine z5 4 rfl rfl ?_ (fun hg => by first | rfl | (simp only [go_sem, ↓reduceIte]; rfl)) (fun hg => by ((simp only [go_sem, List.toList_toArray, simprocAttr]); exact rfl)) (fun hg => ?_) (fun hg => (ref06_SameTrace_ok N _ _ _ _ _ _ _ (p9 hg e16))) ?_ ?_ ?_ ?_
 simp only [go_sem, simprocAttr]
 rfl
 · (refine a6 ?_; (simp only [go_sem, sw2, List.length_set, List.length_replicate, and_true, true_and, Nat.le_refl, simprocAttr]; done))
 exact .inl rfl
 (simp only [go_sem, Nat.reduceLT])
 refine FW.run ?_
 simp only [go_sem, simprocAttr, sw0]
 refine z5 4 rfl rfl ?_ (fun hg => by first | rfl | (simp only [go_sem, ↓reduceIte]; rfl)) (fun hg => by ((simp only [go_sem, List.toList_toArray, simprocAttr]); exact rfl)) (fun hg => ?_) (fun hg => (ref06_SameShares_ok N _ _ _ _ _ (p9 hg e17))) ?_ ?_ ?_ ?_
 simp only [go_sem, simprocAttr]
 rfl
 · (refine a6 ?_; (simp only [go_sem, sw2, List.length_set, List.length_replicate, and_true, true_and, Nat.le_refl, simprocAttr]; done))
 exact .inl rfl
 (simp only [go_sem, Nat.reduceLT])
 refine FW.run ?_
 simp only [go_sem, simprocAttr, sw0]
 refine FW.nil ?_
 change OW _ _ _ _ _ _
 refine OW.run [0] ?_
 simp only [go_sem, simprocAttr, sw0]
 refine l8 4 rfl rfl ?_ (fun hg => by first | rfl | (simp only [go_sem, ↓reduceIte]; rfl)) (fun hg => by ((simp only [go_sem, List.toList_toArray, simprocAttr]); exact rfl)) (fun hg => ?_) (fun hg => (base_Ints_ok N _ _ _ (p9 hg e18))) ?_ ?_ ?_ ?_
 simp only [go_sem, simprocAttr]
 rfl
 exact d6 rfl
 exact .inl rfl
 (simp only [go_sem, Nat.reduceLT])
 refine OW.run [0] ?_
 simp only [go_sem, simprocAttr, sw0]
 refine OW.nil (hK _ ?_)
 refine f0 ?_
 change PW.Ends _ _ _ _ _ _
 refine PW.Ends.intro (.inr rfl) ?_
 simp only [go_sem, simprocAttr, sw0]
 obtain rfl := Option.some.inj H
 refine a7 4 (by exact trivial) ?_
 rfl

theorem q5 (N : Nat) (n : Int) (lo : Int) (hi : Int) (r : Bool) (H : p7 N n lo hi = some r) : CallOK Try.prog 32 [(I n), (I lo), (I hi)] (.d (Bo r)) [] := by
 refine d4 Try.func32 rfl (by rw [Try.results32]) Try.ntmps32 Try.call32 ?_
 change PW _ _ _ _ _
 try simp only [go_sem, simprocAttr]
 unfold p7 at H
 refine a5 ?_
 refine a0 fun K hK => OW.run [0, 1, 2] ?_
 simp only [go_sem, simprocAttr, sw0]
 refine OW.nil (hK _ ?_)
 refine a5 ?_
 refine a0 fun K hK => OW.run [6] ?_
 simp only [go_sem, simprocAttr, sw0]
 refine OW.nil (hK _ ?_)
 refine f0 ?_
 change PW.Ends _ _ _ _ _ _
 refine PW.Ends.intro (.inr rfl) ?_
 simp only [go_sem, simprocAttr, sw0]
 obtain rfl := Option.some.inj H
 refine a7 4 (by exact trivial) ?_
 rfl

end Go.Proofs.Ytabojpkmfkjjkaa
