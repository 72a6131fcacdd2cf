import Derived.Test.YtbndgoeahoadlaaGreatDoorAsK
import Derived.Test.YtbndgoeahoadlaaGreatDoorAsS3
import Derived.Test.YtbndgoeahoadlaaGreatDoorAsW1
import Derived.Test.YtbndgoeahoadlaaGreatDoorAsW2
import Derived.Test.YtbndgoeahoadlaaGreatDoorAsW3
set_option linter.all false
namespace Go.Proofs.YtbndgoeahoadlaaGreatDoor
open Go.PW Go.Sh

set_option maxRecDepth 20000
set_option maxHeartbeats 8000000
def zf0W11a := m8 7 (fun (x : Int × Int × Int × Int × Int × Int × Int) => [(I x.1), (I x.2.1), (I x.2.2.1), (I x.2.2.2.1), (I x.2.2.2.2.1), (I x.2.2.2.2.2.1), (I x.2.2.2.2.2.2)]) (fun _ => rfl)
def zf1W11a := sub_el 7 (fun (x : Int × Int × Int × Int × Int × Int × Int) => [(I x.1), (I x.2.1), (I x.2.2.1), (I x.2.2.2.1), (I x.2.2.2.2.1), (I x.2.2.2.2.2.1), (I x.2.2.2.2.2.2)]) (fun _ => rfl)
theorem access_site_free_ok (N : Nat) (Z1c : Int) (Z1a : Int) (Z1f : Int) (Z1e : Int) (Z1d : Int) (Z19 : Int) (Z1b : Int) (s_at : Int) (s_phones : List (Int × Int × Int × Int × Int × Int × Int)) (r : Int × Bool) (H : access_site_free N Z1c Z1a Z1f Z1e Z1d Z19 Z1b s_at s_phones = some r) : CallOK Tryz.prog 162 [(.ref [(I Z1c), (I Z1a), (I Z1f), (I Z1e), (I Z1d), (I Z19), (I Z1b), (I s_at), (.list s_phones.length (s_phones.flatMap (fun (x : Int × Int × Int × Int × Int × Int × Int) => [(I x.1), (I x.2.1), (I x.2.2.1), (I x.2.2.2.1), (I x.2.2.2.2.1), (I x.2.2.2.2.2.1), (I x.2.2.2.2.2.2)])))])] (.d (.tup [(I r.1), (Bo r.2)])) [] := by
 refine i7 Tryz.func162 rfl (by rw [Tryz.results162]) Tryz.ntmps162 Tryz.call162 ?_
 change PW _ _ _ _ _
 try simp only [go_sem, simprocAttr]
 unfold access_site_free at H
 refine b7 ?_
 refine c9 [0] ?_
 simp only [go_sem, simprocAttr, sw0]
 refine k5 (τ := Unit) [] 0 (fun _ => []) (fun _ => []) _ _ r (by exact Nat.le_refl _) H ?_ ?_
 intro K_ H N1 hN1
 refine b7 ?_
 refine c9 [0, 9, 10] ?_
 simp only [go_sem, simprocAttr, sw0]
 repeat (refine And.intro (by omega) ?_)
 refine PW.block ?_
 refine C7 (σ := Int) [0, 9, 10] 0 (fun t10 => [(10, .d (I t10))]) (fun t10 => []) (v7 N Z1b s_phones K_) r N (0 : Int) (by exact Nat.le_refl _) H (by (simp only [sw1, go_sem, simprocAttr]; done)) ?_
 rintro n t10 H N2 hN2
 unfold v7 at H
 try simp only [go_sem, simprocAttr]
 refine b7 ?_
 refine c9 [0, 9, 10, 11] ?_
 simp only [go_sem, simprocAttr, sw0]
 refine b7 ?_
 refine d5 rfl (fun h3 => ?_) (fun h3 => ?_)
 replace H := n6 h3 H
 refine d8 ?_
 refine b7 ?_
 refine PW.block ?_
 refine b7 ?_
 refine c9 [0, 4, 9, 10] ?_
 simp only [go_sem, simprocAttr, sw0]
 refine b7 ?_
 obtain ⟨x1, e1, H⟩ := d4 H
 refine d6 fun K hK => OW.run [0, 4, 9, 10, 19] ?_
 simp only [go_sem, simprocAttr, sw0]
 repeat (refine And.intro (by omega) ?_)
 refine g9 4 rfl rfl rfl (by first | exact rfl | ((simp only [go_sem, List.toList_toArray, simprocAttr]); exact rfl)) ?_ (access_had_ok N _ _ _ e1) ?_ ?_ ?_ ?_
 rfl
 exact g8 rfl
 exact .inl rfl
 (simp only [go_sem, Nat.reduceLT])
 refine OW.run [0, 4, 9, 10, 19] ?_
 simp only [go_sem, simprocAttr, sw0]
 refine OW.nil (hK _ ?_)
 refine d5 rfl (fun h4 => ?_) (fun h4 => ?_)
 replace H := n6 h4 H
 refine b7 ?_
 refine c9 [2, 3] ?_
 simp only [go_sem, simprocAttr, sw0]
 refine d7 (PW.Ends.intro (.inr rfl) ?_)
 simp only [go_sem, simprocAttr, sw0]
 obtain rfl := Option.some.inj H
 refine b8 4 (by exact g8 rfl) ?_
 rfl
 replace H := l7 h4 H
 refine d8 ?_
 refine c9 [0, 9, 10] ?_
 simp only [go_sem, simprocAttr, sw0]
 refine hN2 [] (w64 (t10 + (1 : Int))) _ H (by exact trivial) ?_
 simp only [sw1, go_sem, simprocAttr]
 replace H := l7 h3 H
 refine o6 ?_
 refine hN1 [] () _ H (by exact trivial) ?_
 simp only [sw1, go_sem, simprocAttr]
 rintro _ H
 try simp only [go_sem, simprocAttr]
 refine b7 ?_
 refine c9 [2, 3] ?_
 simp only [go_sem, simprocAttr, sw0]
 refine d7 (PW.Ends.intro (.inr rfl) ?_)
 simp only [go_sem, simprocAttr, sw0]
 obtain rfl := Option.some.inj H
 refine b8 4 (by exact g8 rfl) ?_
 rfl

theorem slices_Index_ii_ok (N : Nat) (s : List Int) (v : Int) (r : Int) (H : slices_Index_ii N s v = some r) : CallOK Tryz.prog 182 [(L s), (I v)] (.d (I r)) [] := by
 refine i7 Tryz.func182 rfl (by rw [Tryz.results182]) Tryz.ntmps182 Tryz.call182 ?_
 change PW _ _ _ _ _
 try simp only [go_sem, simprocAttr]
 unfold slices_Index_ii at H
 refine b7 ?_
 refine c9 [0, 1] ?_
 simp only [go_sem, simprocAttr, sw0]
 refine k5 (τ := Unit) [] 0 (fun _ => []) (fun _ => []) _ _ r (by exact Nat.le_refl _) H ?_ ?_
 intro K_ H N1 hN1
 refine b7 ?_
 refine c9 [0, 1, 7, 8] ?_
 simp only [go_sem, simprocAttr, sw0]
 refine PW.block ?_
 refine C7 (σ := Int) [0, 1, 7, 8] 0 (fun t8 => [(8, .d (I t8))]) (fun t8 => []) (y9 N s v K_) r N (0 : Int) (by exact Nat.le_refl _) H (by (simp only [sw1, go_sem, simprocAttr]; done)) ?_
 rintro n t8 H N2 hN2
 unfold y9 at H
 try simp only [go_sem, simprocAttr]
 refine b7 ?_
 refine c9 [0, 1, 7, 8, 9] ?_
 simp only [go_sem, simprocAttr, sw0]
 refine b7 ?_
 refine d5 rfl (fun h3 => ?_) (fun h3 => ?_)
 replace H := n6 h3 H
 refine d8 ?_
 refine b7 ?_
 refine PW.block ?_
 refine b7 ?_
 refine c9 [0, 1, 5, 7, 8] ?_
 simp only [go_sem, simprocAttr, sw0]
 refine b7 ?_
 obtain ⟨c4, H⟩ := j6 H
 refine c9 [0, 1, 5, 7, 8, 16] ?_
 simp only [go_sem, simprocAttr, sw0]
 repeat (refine And.intro (by omega) ?_)
 refine d5 rfl (fun h5 => ?_) (fun h5 => ?_)
 replace H := n6 h5 H
 refine b7 ?_
 refine c9 [4] ?_
 simp only [go_sem, simprocAttr, sw0]
 refine d7 (PW.Ends.intro (.inr rfl) ?_)
 simp only [go_sem, simprocAttr, sw0]
 obtain rfl := Option.some.inj H
 refine b8 4 (by exact trivial) ?_
 rfl
 replace H := l7 h5 H
 refine d8 ?_
 refine c9 [0, 1, 7, 8] ?_
 simp only [go_sem, simprocAttr, sw0]
 refine hN2 [] (w64 (t8 + (1 : Int))) _ H (by exact trivial) ?_
 simp only [sw1, go_sem, simprocAttr]
 replace H := l7 h3 H
 refine o6 ?_
 refine hN1 [] () _ H (by exact trivial) ?_
 simp only [sw1, go_sem, simprocAttr]
 rintro _ H
 try simp only [go_sem, simprocAttr]
 refine b7 ?_
 refine c9 [4] ?_
 simp only [go_sem, simprocAttr, sw0]
 refine d7 (PW.Ends.intro (.inr rfl) ?_)
 simp only [go_sem, simprocAttr, sw0]
 obtain rfl := Option.some.inj H
 refine b8 4 (by exact trivial) ?_
 rfl

theorem slices_Contains_ii_ok (N : Nat) (s : List Int) (v : Int) (r : Bool) (H : z1 N s v = some r) : CallOK Tryz.prog 163 [(L s), (I v)] (.d (Bo r)) [] := by
 refine i7 Tryz.func163 rfl (by rw [Tryz.results163]) Tryz.ntmps163 Tryz.call163 ?_
 change PW _ _ _ _ _
 try simp only [go_sem, simprocAttr]
 unfold z1 at H
 refine b7 ?_
 refine c9 [0, 1] ?_
 simp only [go_sem, simprocAttr, sw0]
 refine b7 ?_
 obtain ⟨x1, e1, H⟩ := d4 H
 refine d6 fun K hK => OW.run [4] ?_
 simp only [go_sem, simprocAttr, sw0]
 refine g9 4 rfl rfl rfl (by first | exact rfl | ((simp only [go_sem, List.toList_toArray, simprocAttr]); exact rfl)) ?_ (slices_Index_ii_ok N _ _ _ e1) ?_ ?_ ?_ ?_
 rfl
 exact g8 rfl
 exact .inl rfl
 (simp only [go_sem, Nat.reduceLT])
 refine OW.run [4] ?_
 simp only [go_sem, simprocAttr, sw0]
 refine OW.nil (hK _ ?_)
 refine d7 (PW.Ends.intro (.inr rfl) ?_)
 simp only [go_sem, simprocAttr, sw0]
 obtain rfl := Option.some.inj H
 refine b8 4 (by exact trivial) ?_
 rfl

theorem access_kindOf_1_ok (N : Nat) (Z3 : Int) (Z1 : Int) (Z6 : Int) (Z5 : Int) (Z4 : Int) (Z0 : Int) (Z2 : Int) (a0_at : Int) (a0_phones : List (Int × Int × Int × Int × Int × Int × Int)) (Z9 : Int) (Z7 : Int) (Za : Int) (Zb : Int) (Zc : Int) (Z8 : Int) (r : Int) (H : access_kindOf_1 N Z3 Z1 Z6 Z5 Z4 Z0 Z2 a0_at a0_phones Z9 Z7 Za Zb Zc Z8 = some r) : CallOK Tryz.prog 151 [(.ref [(I Z3), (I Z1), (I Z6), (I Z5), (I Z4), (I Z0), (I Z2), (I a0_at), (.list a0_phones.length (a0_phones.flatMap (fun (x : Int × Int × Int × Int × Int × Int × Int) => [(I x.1), (I x.2.1), (I x.2.2.1), (I x.2.2.2.1), (I x.2.2.2.2.1), (I x.2.2.2.2.2.1), (I x.2.2.2.2.2.2)])))]), (.agg [(I Z9), (I Z7), (I Za), (I Zb), (I Zc), (I Z8)])] (.d (I r)) [] := by
 refine i7 Tryz.func151 rfl (by rw [Tryz.results151]) Tryz.ntmps151 Tryz.call151 ?_
 change PW _ _ _ _ _
 try simp only [go_sem, simprocAttr]
 unfold access_kindOf_1 at H
 refine b7 ?_
 refine c9 [] ?_
 simp only [go_sem, simprocAttr, sw0]
 refine b7 ?_
 refine c9 [4] ?_
 simp only [go_sem, simprocAttr, sw0]
 refine d7 (PW.Ends.intro (.inr rfl) ?_)
 simp only [go_sem, simprocAttr, sw0]
 obtain rfl := Option.some.inj H
 refine b8 4 (by exact trivial) ?_
 rfl

theorem access_site_asking_okf (N : Nat) (Z1c : Int) (Z1a : Int) (Z1f : Int) (Z1e : Int) (Z1d : Int) (Z19 : Int) (Z1b : Int) (s_at : Int) (s_phones : List (Int × Int × Int × Int × Int × Int × Int)) (identity : Int) (r : List Int) (H : access_site_asking N Z1c Z1a Z1f Z1e Z1d Z19 Z1b s_at s_phones identity = some r) : CallF Tryz.prog 112 [(.ref [(I Z1c), (I Z1a), (I Z1f), (I Z1e), (I Z1d), (I Z19), (I Z1b), (I s_at), (.list s_phones.length (s_phones.flatMap (fun (x : Int × Int × Int × Int × Int × Int × Int) => [(I x.1), (I x.2.1), (I x.2.2.1), (I x.2.2.2.1), (I x.2.2.2.2.1), (I x.2.2.2.2.2.1), (I x.2.2.2.2.2.2)])))]), (I identity)] ((L r)) := by
 refine CallF.of_PWt Tryz.func112 rfl (by rw [Tryz.results112]) Tryz.ntmps112 Tryz.call112 ?_
 change PW _ _ _ _ _
 try simp only [go_sem, simprocAttr]
 unfold access_site_asking at H
 refine b7 ?_
 refine c9 [0, 1] ?_
 simp only [go_sem, simprocAttr, sw0]
 refine b7 ?_
 refine c9 [0, 1, 5] ?_
 simp only [go_sem, simprocAttr, sw0]
 refine k5 (τ := List Int) [5] 1 (fun b0 => [(5, .own 0 0 b0.length 1)]) (fun b0 => [{ cells := (b0.map I).map .d, e := 3 }]) _ _ r (by exact Nat.zero_le _) H ?_ ?_
 intro K_ H N1 hN1
 refine b7 ?_
 refine c9 [1, 5, 11, 12, 13] ?_
 simp only [go_sem, simprocAttr, sw0]
 repeat (refine And.intro (by omega) ?_)
 refine PW.block ?_
 refine PW.virt 5 3 1 rfl ?_
 try simp only [go_sem, simprocAttr]
 refine C7 (σ := Int × List Int) [1, 5, 11, 12, 13] 1 (fun (t13, b01) => [(5, .own 0 0 b01.length 1), (13, .d (I t13))]) (fun (t13, b01) => [{ cells := (b01.map I).map .d, e := 3 }]) (q9 N s_phones identity K_) r N ((0 : Int), ([] : List Int)) (by exact Nat.zero_le _) H (by (simp only [sw1, go_sem, simprocAttr]; done)) ?_
 rintro n ⟨t13, b01⟩ H N2 hN2
 unfold q9 at H
 try simp only [go_sem, simprocAttr]
 refine b7 ?_
 refine c9 [1, 5, 11, 12, 13, 14] ?_
 simp only [go_sem, simprocAttr, sw0]
 refine b7 ?_
 refine d5 rfl (fun h3 => ?_) (fun h3 => ?_)
 replace H := n6 h3 H
 refine d8 ?_
 refine b7 ?_
 refine PW.block ?_
 refine b7 ?_
 obtain ⟨c4, H⟩ := j6 H
 refine c9 [1, 5, 6, 7, 11, 12, 13] ?_
 (simp only [go_sem, simprocAttr, sw0, zf0W11a, zf1W11a s_phones t13.toNat (by omega)])
 repeat (refine And.intro (by omega) ?_)
 refine b7 ?_
 refine c9 [1, 5, 6, 11, 12, 13, 26] ?_
 simp only [go_sem, simprocAttr, sw0]
 repeat (refine And.intro (by omega) ?_)
 refine d5 rfl (fun h5 => ?_) (fun h5 => ?_)
 replace H := n6 h5 H
 obtain ⟨c6, H⟩ := j6 H
 refine c9 [1, 5, 11, 12, 13] ?_
 simp only [go_sem, simprocAttr, sw0]
 repeat (refine And.intro (by omega) ?_)
 refine c9 [1, 5, 11, 12, 13] ?_
 simp only [go_sem, simprocAttr, sw0]
 refine hN2 [] (w64 (t13 + (1 : Int)), (b01 ++ ([t13] : List Int))) _ H (by exact trivial) ?_
 simp only [sw1, go_sem, simprocAttr]
 replace H := l7 h5 H
 refine d8 ?_
 refine c9 [1, 5, 11, 12, 13] ?_
 simp only [go_sem, simprocAttr, sw0]
 refine hN2 [] (w64 (t13 + (1 : Int)), b01) _ H (by exact trivial) ?_
 simp only [sw1, go_sem, simprocAttr]
 replace H := l7 h3 H
 refine o6 ?_
 refine hN1 [] b01 _ H (by exact trivial) ?_
 simp only [sw1, go_sem, simprocAttr]
 rintro b0 H
 try simp only [go_sem, simprocAttr]
 refine b7 ?_
 refine c9 [4] ?_
 simp only [go_sem, simprocAttr, sw0]
 refine d7 ?_
 change EndsF _ _ _ _ _
 refine EndsF.intro (.inr rfl) ?_
 simp only [go_sem, simprocAttr, sw0]
 obtain rfl := Option.some.inj H
 refine FrOK.data 4 (by (simp only [go_sem, sw2, List.length_set, List.length_replicate, and_true, true_and, Nat.le_refl, simprocAttr]; done)) (by exact freshO rfl (all_valI _)) ?_
 · (((simp only [go_sem, sw1, simprocAttr]; try simp only [seg, go_sem, simprocAttr])); done)

end Go.Proofs.YtbndgoeahoadlaaGreatDoor
