import Derived.Test.YtbndgoeahoadlaaGreatDoorAsK
import Derived.Test.YtbndgoeahoadlaaGreatDoorAsS3
import Derived.Test.YtbndgoeahoadlaaGreatDoorAsW1
import Derived.Test.YtbndgoeahoadlaaGreatDoorAsW2
import Derived.Test.YtbndgoeahoadlaaGreatDoorAsW3
import Derived.Test.YtbndgoeahoadlaaGreatDoorZq
set_option linter.all false
namespace Go.Proofs.YtbndgoeahoadlaaGreatDoor
open Go.PW Go.Sh

set_option maxRecDepth 20000
set_option maxHeartbeats 8000000
theorem access_site_free_ok (N : Nat) (Z1c : Int) (Z1a : Int) (Z1f : Int) (Z1e : Int) (Z1d : Int) (Z19 : Int) (Z1b : Int) (s_at : Int) (s_phones : List (Int × Int × Int × Int × Int × Int × Int)) (r : Int × Bool) (H : access_site_free N Z1c Z1a Z1f Z1e Z1d Z19 Z1b s_at s_phones = some r) : CallOK Tryz.prog 162 [(.ref [(I Z1c), (I Z1a), (I Z1f), (I Z1e), (I Z1d), (I Z19), (I Z1b), (I s_at), (.list s_phones.length (s_phones.flatMap (fun (x : Int × Int × Int × Int × Int × Int × Int) => [(I x.1), (I x.2.1), (I x.2.2.1), (I x.2.2.2.1), (I x.2.2.2.2.1), (I x.2.2.2.2.2.1), (I x.2.2.2.2.2.2)])))])] (.d (.tup [(I r.1), (Bo r.2)])) [] := by
 refine CallOK.of_PW Tryz.func162 rfl (by rw [Tryz.results162]) Tryz.ntmps162 Tryz.call162 ?_
 change PW _ _ _ _ _
 with_reducible refine zq0 ?_
 unfold access_site_free at H
 refine PW.seq ?_
 refine zq2 (fun _ => OW.run [0]) ?_
 refine PW.joinS (τ := Unit) [] 0 (fun _ => []) (fun _ => []) _ _ r zqd H ?_ ?_
 intro K_ H N1 hN1
 refine PW.seq ?_
 refine zq2 (fun _ => OW.run [0, 9, 10]) ?_
 refine PW.block ?_
 refine PW.loopS (σ := Int) [0, 9, 10] 0 (fun t10 => [(10, .d (I t10))]) (fun t10 => []) (access_site_free.b1 N Z1b s_phones K_) r N (0 : Int) zqd H zqe ?_
 rintro n t10 H N2 hN2
 unfold access_site_free.b1 at H
 with_reducible refine zq0 ?_
 refine PW.seq ?_
 refine zq2 (fun _ => OW.run [0, 9, 10, 11]) ?_
 refine PW.seq ?_
 refine PW.cond rfl (fun h3 => ?_) (fun h3 => ?_)
 replace H := br_t h3 H
 refine PW.skip ?_
 refine PW.seq ?_
 refine PW.block ?_
 refine PW.seq ?_
 refine zq2 (fun _ => OW.run [0, 4, 9, 10]) ?_
 refine PW.seq ?_
 obtain ⟨x1, e1, H⟩ := bnd_some H
 refine PW.regionK fun K hK => zq8 (OW.run [0, 4, 9, 10, 19]) ?_
 refine OW.call' 4 rfl rfl rfl zq9 zqa (access_had_ok N _ _ _ e1) zq5 zqb zqc ?_
 refine zq8 (OW.run [0, 4, 9, 10, 19]) ?_
 refine OW.nil (hK _ ?_)
 refine PW.cond rfl (fun h4 => ?_) (fun h4 => ?_)
 replace H := br_t h4 H
 refine PW.seq ?_
 refine zq2 (fun _ => OW.run [2, 3]) ?_
 change PW _ _ _ _ _
 exact zq7
 replace H := br_f h4 H
 refine PW.skip ?_
 change PW _ _ _ _ _
 refine zq2 (fun _ => OW.run [0, 9, 10]) ?_
 refine hN2 [] (w64 (t10 + (1 : Int))) _ H zqf ?_
 exact zqe
 replace H := br_f h3 H
 refine PW.exit ?_
 refine hN1 [] () _ H zqf ?_
 exact zqe
 rintro _ H
 with_reducible refine zq0 ?_
 refine PW.seq ?_
 refine zq2 (fun _ => OW.run [2, 3]) ?_
 change PW _ _ _ _ _
 exact zq7
theorem slices_Index_ii_ok (N : Nat) (s : List Int) (v : Int) (r : Int) (H : slices_Index_ii N s v = some r) : CallOK Tryz.prog 182 [(L s), (I v)] (.d (I r)) [] := by
 refine CallOK.of_PW Tryz.func182 rfl (by rw [Tryz.results182]) Tryz.ntmps182 Tryz.call182 ?_
 change PW _ _ _ _ _
 with_reducible refine zq0 ?_
 unfold slices_Index_ii at H
 refine PW.seq ?_
 refine zq2 (fun _ => OW.run [0, 1]) ?_
 refine PW.joinS (τ := Unit) [] 0 (fun _ => []) (fun _ => []) _ _ r zqd H ?_ ?_
 intro K_ H N1 hN1
 refine PW.seq ?_
 refine zq2 (fun _ => OW.run [0, 1, 7, 8]) ?_
 refine PW.block ?_
 refine PW.loopS (σ := Int) [0, 1, 7, 8] 0 (fun t8 => [(8, .d (I t8))]) (fun t8 => []) (slices_Index_ii.b1 N s v K_) r N (0 : Int) zqd H zqe ?_
 rintro n t8 H N2 hN2
 unfold slices_Index_ii.b1 at H
 with_reducible refine zq0 ?_
 refine PW.seq ?_
 refine zq2 (fun _ => OW.run [0, 1, 7, 8, 9]) ?_
 refine PW.seq ?_
 refine PW.cond rfl (fun h3 => ?_) (fun h3 => ?_)
 replace H := br_t h3 H
 refine PW.skip ?_
 refine PW.seq ?_
 refine PW.block ?_
 refine PW.seq ?_
 refine zq2 (fun _ => OW.run [0, 1, 5, 7, 8]) ?_
 refine PW.seq ?_
 obtain ⟨c4, H⟩ := chk_some H
 refine zq2 (fun _ => OW.run [0, 1, 5, 7, 8, 16]) ?_
 refine PW.cond rfl (fun h5 => ?_) (fun h5 => ?_)
 replace H := br_t h5 H
 refine PW.seq ?_
 refine zq2 (fun _ => OW.run [4]) ?_
 change PW _ _ _ _ _
 exact zq7
 replace H := br_f h5 H
 refine PW.skip ?_
 change PW _ _ _ _ _
 refine zq2 (fun _ => OW.run [0, 1, 7, 8]) ?_
 refine hN2 [] (w64 (t8 + (1 : Int))) _ H zqf ?_
 exact zqe
 replace H := br_f h3 H
 refine PW.exit ?_
 refine hN1 [] () _ H zqf ?_
 exact zqe
 rintro _ H
 with_reducible refine zq0 ?_
 refine PW.seq ?_
 refine zq2 (fun _ => OW.run [4]) ?_
 change PW _ _ _ _ _
 exact zq7
theorem slices_Contains_ii_ok (N : Nat) (s : List Int) (v : Int) (r : Bool) (H : slices_Contains_ii N s v = some r) : CallOK Tryz.prog 163 [(L s), (I v)] (.d (Bo r)) [] := by
 refine CallOK.of_PW Tryz.func163 rfl (by rw [Tryz.results163]) Tryz.ntmps163 Tryz.call163 ?_
 change PW _ _ _ _ _
 with_reducible refine zq0 ?_
 unfold slices_Contains_ii at H
 refine PW.seq ?_
 refine zq2 (fun _ => OW.run [0, 1]) ?_
 refine PW.seq ?_
 obtain ⟨x1, e1, H⟩ := bnd_some H
 refine PW.regionK fun K hK => zq8 (OW.run [4]) ?_
 refine OW.call' 4 rfl rfl rfl zq9 zqa (slices_Index_ii_ok N _ _ _ e1) zq5 zqb zqc ?_
 refine zq8 (OW.run [4]) ?_
 refine OW.nil (hK _ ?_)
 change PW _ _ _ _ _
 exact zq7
theorem access_kindOf_1_ok (N : Nat) (Z3 : Int) (Z1 : Int) (Z6 : Int) (Z5 : Int) (Z4 : Int) (Z0 : Int) (Z2 : Int) (a0_at : Int) (a0_phones : List (Int × Int × Int × Int × Int × Int × Int)) (Z9 : Int) (Z7 : Int) (Za : Int) (Zb : Int) (Zc : Int) (Z8 : Int) (r : Int) (H : access_kindOf_1 N Z3 Z1 Z6 Z5 Z4 Z0 Z2 a0_at a0_phones Z9 Z7 Za Zb Zc Z8 = some r) : CallOK Tryz.prog 151 [(.ref [(I Z3), (I Z1), (I Z6), (I Z5), (I Z4), (I Z0), (I Z2), (I a0_at), (.list a0_phones.length (a0_phones.flatMap (fun (x : Int × Int × Int × Int × Int × Int × Int) => [(I x.1), (I x.2.1), (I x.2.2.1), (I x.2.2.2.1), (I x.2.2.2.2.1), (I x.2.2.2.2.2.1), (I x.2.2.2.2.2.2)])))]), (.agg [(I Z9), (I Z7), (I Za), (I Zb), (I Zc), (I Z8)])] (.d (I r)) [] := by
 refine CallOK.of_PW Tryz.func151 rfl (by rw [Tryz.results151]) Tryz.ntmps151 Tryz.call151 ?_
 change PW _ _ _ _ _
 with_reducible refine zq0 ?_
 unfold access_kindOf_1 at H
 refine PW.seq ?_
 refine zq2 (fun _ => OW.run []) ?_
 refine PW.seq ?_
 refine zq2 (fun _ => OW.run [4]) ?_
 change PW _ _ _ _ _
 exact zq7
theorem access_site_asking_okf (N : Nat) (Z1c : Int) (Z1a : Int) (Z1f : Int) (Z1e : Int) (Z1d : Int) (Z19 : Int) (Z1b : Int) (s_at : Int) (s_phones : List (Int × Int × Int × Int × Int × Int × Int)) (identity : Int) (r : List Int) (H : access_site_asking N Z1c Z1a Z1f Z1e Z1d Z19 Z1b s_at s_phones identity = some r) : CallF Tryz.prog 112 [(.ref [(I Z1c), (I Z1a), (I Z1f), (I Z1e), (I Z1d), (I Z19), (I Z1b), (I s_at), (.list s_phones.length (s_phones.flatMap (fun (x : Int × Int × Int × Int × Int × Int × Int) => [(I x.1), (I x.2.1), (I x.2.2.1), (I x.2.2.2.1), (I x.2.2.2.2.1), (I x.2.2.2.2.2.1), (I x.2.2.2.2.2.2)])))]), (I identity)] ((L r)) := by
 refine CallF.of_PWt Tryz.func112 rfl (by rw [Tryz.results112]) Tryz.ntmps112 Tryz.call112 ?_
 change PW _ _ _ _ _
 with_reducible refine zq0 ?_
 unfold access_site_asking at H
 refine PW.seq ?_
 refine zq2 (fun _ => OW.run [0, 1]) ?_
 refine PW.seq ?_
 refine zq2 (fun _ => OW.run [0, 1, 5]) ?_
 refine PW.joinS (τ := List Int) [5] 1 (fun b0 => [(5, .own 0 0 b0.length 1)]) (fun b0 => [{ cells := (b0.map I).map .d, e := 3 }]) _ _ r zqd H ?_ ?_
 intro K_ H N1 hN1
 refine PW.seq ?_
 refine zq2 (fun _ => OW.run [1, 5, 11, 12, 13]) ?_
 refine PW.block ?_
 refine PW.virt 5 3 1 rfl ?_
 with_reducible refine zq0 ?_
 refine PW.loopS (σ := Int × List Int) [1, 5, 11, 12, 13] 1 (fun (t13, b01) => [(5, .own 0 0 b01.length 1), (13, .d (I t13))]) (fun (t13, b01) => [{ cells := (b01.map I).map .d, e := 3 }]) (access_site_asking.b1 N s_phones identity K_) r N ((0 : Int), ([] : List Int)) zqd H zqe ?_
 rintro n ⟨t13, b01⟩ H N2 hN2
 unfold access_site_asking.b1 at H
 with_reducible refine zq0 ?_
 refine PW.seq ?_
 refine zq2 (fun _ => OW.run [1, 5, 11, 12, 13, 14]) ?_
 refine PW.seq ?_
 refine PW.cond rfl (fun h3 => ?_) (fun h3 => ?_)
 replace H := br_t h3 H
 refine PW.skip ?_
 refine PW.seq ?_
 refine PW.block ?_
 refine PW.seq ?_
 obtain ⟨c4, H⟩ := chk_some H
 refine zq1j (fun _ => OW.run [1, 5, 6, 7, 11, 12, 13]) ?_
 refine PW.seq ?_
 refine zq2 (fun _ => OW.run [1, 5, 6, 11, 12, 13, 26]) ?_
 refine PW.cond rfl (fun h5 => ?_) (fun h5 => ?_)
 replace H := br_t h5 H
 obtain ⟨c6, H⟩ := chk_some H
 refine zq2 (fun _ => OW.run [1, 5, 11, 12, 13]) ?_
 change PW _ _ _ _ _
 refine zq2 (fun _ => OW.run [1, 5, 11, 12, 13]) ?_
 refine hN2 [] (w64 (t13 + (1 : Int)), (b01 ++ ([t13] : List Int))) _ H zqf ?_
 exact zqe
 replace H := br_f h5 H
 refine PW.skip ?_
 change PW _ _ _ _ _
 refine zq2 (fun _ => OW.run [1, 5, 11, 12, 13]) ?_
 refine hN2 [] (w64 (t13 + (1 : Int)), b01) _ H zqf ?_
 exact zqe
 replace H := br_f h3 H
 refine PW.exit ?_
 refine hN1 [] b01 _ H zqf ?_
 exact zqe
 rintro b0 H
 with_reducible refine zq0 ?_
 refine PW.seq ?_
 refine zq2 (fun _ => OW.run [4]) ?_
 refine PW.ret ?_
 change EndsF _ _ _ _ _
 refine EndsF.intro (.inr rfl) ?_
 with_reducible refine zq3 ?_
 obtain rfl := Option.some.inj H
 with_reducible refine zq4 ?_
 refine FrOK.data 4 zq5 zq1k ?_
 exact zq6
end Go.Proofs.YtbndgoeahoadlaaGreatDoor
