import Derived.Test.YtbndgoeahoadlaaGreatDoorAsK
import Derived.Test.YtbndgoeahoadlaaGreatDoorAsS5
import Derived.Test.YtbndgoeahoadlaaGreatDoorAsW1
import Derived.Test.YtbndgoeahoadlaaGreatDoorAsW2
import Derived.Test.YtbndgoeahoadlaaGreatDoorAsW3
import Derived.Test.YtbndgoeahoadlaaGreatDoorAsW5
import Derived.Test.YtbndgoeahoadlaaGreatDoorAsW4
import Derived.Test.YtbndgoeahoadlaaGreatDoorAsW12
import Derived.Test.YtbndgoeahoadlaaGreatDoorAsW13
import Derived.Test.YtbndgoeahoadlaaGreatDoorZq
set_option linter.all false
namespace Go.Proofs.YtbndgoeahoadlaaGreatDoor
open Go.PW Go.Sh

set_option maxRecDepth 20000
set_option maxHeartbeats 8000000
theorem law07_AccessOneIdentity_ok (N : Nat) (Z15 : Int) (Z11 : Int) (Z18 : Int) (Z17 : Int) (Z16 : Int) (Z10 : Int) (Z13 : Int) (Z1k : Int) (Z1o : List (Int × Int × Int × Int × Int × Int × Int)) (Z23 : Int) (Z1t : Int) (Z25 : Int) (Z2a : Int) (Z2b : Int) (Z22 : Int) (r : Bool) (H : law07_AccessOneIdentity N Z15 Z11 Z18 Z17 Z16 Z10 Z13 Z1k Z1o Z23 Z1t Z25 Z2a Z2b Z22 = some r) : CallOK Tryz.prog 9 [(.agg [(I Z15), (I Z11), (I Z18), (I Z17), (I Z16), (I Z10), (I Z13)]), (.agg [(I Z1k), (.list Z1o.length (Z1o.flatMap (fun (x : Int × Int × Int × Int × Int × Int × Int) => [(I x.1), (I x.2.1), (I x.2.2.1), (I x.2.2.2.1), (I x.2.2.2.2.1), (I x.2.2.2.2.2.1), (I x.2.2.2.2.2.2)])))]), (.agg [(I Z23), (I Z1t), (I Z25), (I Z2a), (I Z2b), (I Z22)])] (.d (Bo r)) [] := by
 refine CallOK.of_PW Tryz.func9 rfl (by rw [Tryz.results9]) Tryz.ntmps9 Tryz.call9 ?_
 change PW _ _ _ _ _
 with_reducible refine zq0 ?_
 unfold law07_AccessOneIdentity at H
 refine PW.seq ?_
 refine zq2 (fun _ => OW.run [3, 4, 5]) ?_
 refine PW.seq ?_
 refine PW.seq ?_
 obtain ⟨x1, e1, H⟩ := bnd_some H
 refine PW.regionK fun K hK => zq8 (OW.run [3, 4, 5, 16]) ?_
 refine OW.call' 4 rfl rfl rfl zq9 zqa (law07_awake_ok N  _ e1) zq5 zqb zqc ?_
 refine zq8 (OW.run [3, 4, 5, 16]) ?_
 refine OW.nil (hK _ ?_)
 refine PW.cond rfl (fun h1 => ?_) (fun h1 => ?_)
 replace H := br_t h1 H
 refine PW.seq ?_
 refine zq2 (fun _ => OW.run [6]) ?_
 change PW _ _ _ _ _
 exact zq7
 replace H := br_f h1 H
 refine PW.skip ?_
 refine PW.seq ?_
 refine PW.seq ?_
 obtain ⟨x2, e2, H⟩ := bnd_some H
 obtain ⟨x3, e3, H⟩ := bnd_some H
 refine PW.regionK fun K hK => zq8 (OW.run [3, 4, 5, 25]) ?_
 refine OW.call' 4 rfl rfl rfl zq9 zqa (law07_Few_ok N _ _ _ e2) zq5 zqb zqc ?_
 refine zq8 (OW.run [3, 4, 5, 25]) ?_
 refine OW.callG' 4 rfl rfl ?_ (fun hg => zqg) (fun hg => zq9) (fun hg => ?_) (fun hg => (law07_stateErr_ok N _ _ _ _ _ _ _ _ _ _ (grd_t hg e3))) ?_ ?_ ?_ ?_
 exact zqh
 exact zqa
 exact zq5
 exact zqb
 exact zqc
 refine zq8 (OW.run [3, 4, 5, 25]) ?_
 refine OW.nil (hK _ ?_)
 refine PW.cond rfl (fun h2 => ?_) (fun h2 => ?_)
 replace H := br_t h2 H
 refine PW.seq ?_
 refine zq2 (fun _ => OW.run [6]) ?_
 change PW _ _ _ _ _
 exact zq7
 replace H := br_f h2 H
 refine PW.skip ?_
 refine PW.seq ?_
 obtain ⟨⟨x4, x41⟩, e4, H⟩ := bnd_some H
 obtain ⟨⟨x5, x51, x52⟩, e5, H⟩ := bnd_some H
 refine PW.drawO 10 [8] [30] mixed (by kernel_rfl) (by decide) rfl fun K hK => ?_
 refine zq8 (FWO.run) ?_
 refine FWO.call' 4 (by decide) rfl rfl rfl zq9 zqa (ref07_Copy_ok N _ _ _ e4) zq5 zqb zqc ?_
 refine zq8 (FWO.run) ?_
 refine FWO.call' 4 (by decide) rfl rfl rfl zq9 zqa (access_Apply_ok N _ _ _ _ _ _ _ _ _ _ _ _ _ _ _ _ e5) zq5 zqb zqc ?_
 refine zq8 (FWO.run) ?_
 first | refine FWO.nil ?_ | skip
 change OW _ _ _ _ _ _
 refine zq8 (OW.run [3, 4, 5, 7, 8]) ?_
 refine OW.nil (hK _ ?_)
 refine PW.seq ?_
 refine PW.seq ?_
 refine zq2 (fun _ => OW.run [3, 4, 5, 7, 35]) ?_
 refine PW.cond rfl (fun h3 => ?_) (fun h3 => ?_)
 replace H := br_t h3 H
 refine PW.seq ?_
 obtain ⟨x6, e6, H⟩ := bnd_some H
 refine PW.regionK fun K hK => zq8 (OW.run [6]) ?_
 refine OW.call' 4 rfl rfl rfl zq9 zqa (ref07_Same_ok N _ _ _ _ _ e6) zq5 zqb zqc ?_
 refine zq8 (OW.run [6]) ?_
 refine OW.nil (hK _ ?_)
 change PW _ _ _ _ _
 exact zq7
 replace H := br_f h3 H
 refine PW.skip ?_
 refine PW.seq ?_
 refine PW.seq ?_
 obtain ⟨⟨x7, x71⟩, e7, H⟩ := bnd_some H
 obtain ⟨x8, e8, H⟩ := bnd_some H
 obtain ⟨x9, e9, H⟩ := bnd_some H
 refine PW.drawK 25 mixed (by kernel_rfl) fun K hK => ?_
 change FW _ _ _ _ _
 refine zq8 (FW.run) ?_
 refine FW.call' 4 rfl rfl rfl zq9 zqa (ref07_Copy_ok N _ _ _ e7) zq5 zqb zqc ?_
 refine zq8 (FW.run) ?_
 refine FW.call' 4 rfl rfl rfl zq9 zqa (access_CheckState_ok N _ _ _ _ _ _ _ _ _ _ e8) zq5 zqb zqc ?_
 refine zq8 (FW.run) ?_
 refine FW.callG' 4 rfl rfl ?_ (fun hg => zqg) (fun hg => zq9) (fun hg => ?_) (fun hg => (ref07_CheckState_ok N _ _ _ _ _ _ _ _ _ _ (grd_t hg e9))) ?_ ?_ ?_ ?_
 exact zqh
 exact zqa
 exact zq5
 exact zqb
 exact zqc
 refine zq8 (FW.run) ?_
 refine FW.nil ?_
 change OW _ _ _ _ _ _
 refine zq8 (OW.run [3, 4, 7, 65]) ?_
 refine OW.nil (hK _ ?_)
 refine PW.cond rfl (fun h4 => ?_) (fun h4 => ?_)
 replace H := br_t h4 H
 refine PW.seq ?_
 refine zq2 (fun _ => OW.run [6]) ?_
 change PW _ _ _ _ _
 exact zq7
 replace H := br_f h4 H
 refine PW.skip ?_
 refine PW.joinS (τ := Unit) [] 0 (fun _ => []) (fun _ => []) _ _ r zqd H ?_ ?_
 intro K_ H N5 hN5
 refine PW.seq ?_
 refine zq2 (fun _ => OW.run [3, 4, 7, 9]) ?_
 refine PW.block ?_
 refine PW.loopS (σ := Int) [3, 4, 7, 9] 4 (fun i => [(9, .d (I i))]) (fun i => [{ cells := [.d (I Z15), .d (I Z11), .d (I Z18), .d (I Z17), .d (I Z16), .d (I Z10), .d (I Z13)], e := 23 }, { cells := [.d (I Z1k), .d (.list Z1o.length (Z1o.flatMap (fun (x : Int × Int × Int × Int × Int × Int × Int) => [(I x.1), (I x.2.1), (I x.2.2.1), (I x.2.2.2.1), (I x.2.2.2.2.1), (I x.2.2.2.2.2.1), (I x.2.2.2.2.2.2)])))], e := 30 }, { cells := [.d (I Z23), .d (I Z1t), .d (I Z25), .d (I Z2a), .d (I Z2b), .d (I Z22)], e := 48 }, { cells := [.d (I x5), .d (.list x51.length (x51.flatMap (fun (x : Int × Int × Int × Int × Int × Int × Int) => [(I x.1), (I x.2.1), (I x.2.2.1), (I x.2.2.2.1), (I x.2.2.2.2.1), (I x.2.2.2.2.2.1), (I x.2.2.2.2.2.2)])))], e := 30 }]) (law07_AccessOneIdentity.b1 N Z16 Z1o x51 K_) r N (0 : Int) zqd H zqe ?_
 rintro n i H N6 hN6
 unfold law07_AccessOneIdentity.b1 at H
 with_reducible refine zq0 ?_
 refine PW.seq ?_
 refine PW.seq ?_
 refine zq2 (fun _ => OW.run [3, 4, 7, 9, 70]) ?_
 refine PW.cond rfl (fun h7 => ?_) (fun h7 => ?_)
 replace H := br_t h7 H
 refine PW.skip ?_
 refine PW.joinS (τ := Unit) [3, 4, 7, 9] 4 (fun _ => []) (fun _ => [{ cells := [.d (I Z15), .d (I Z11), .d (I Z18), .d (I Z17), .d (I Z16), .d (I Z10), .d (I Z13)], e := 23 }, { cells := [.d (I Z1k), .d (.list Z1o.length (Z1o.flatMap (fun (x : Int × Int × Int × Int × Int × Int × Int) => [(I x.1), (I x.2.1), (I x.2.2.1), (I x.2.2.2.1), (I x.2.2.2.2.1), (I x.2.2.2.2.2.1), (I x.2.2.2.2.2.2)])))], e := 30 }, { cells := [.d (I Z23), .d (I Z1t), .d (I Z25), .d (I Z2a), .d (I Z2b), .d (I Z22)], e := 48 }, { cells := [.d (I x5), .d (.list x51.length (x51.flatMap (fun (x : Int × Int × Int × Int × Int × Int × Int) => [(I x.1), (I x.2.1), (I x.2.2.1), (I x.2.2.2.1), (I x.2.2.2.2.1), (I x.2.2.2.2.2.1), (I x.2.2.2.2.2.2)])))], e := 30 }]) _ _ r zqd H ?_ ?_
 intro K_1 H N8 hN8
 refine PW.block ?_
 refine PW.seq ?_
 obtain ⟨c9, H⟩ := chk_some H
 obtain ⟨c10, H⟩ := chk_some H
 refine PW.drawO 13 [10, 11] [71, 71] mixed (by kernel_rfl) (by decide) rfl fun K hK => ?_
 refine zq2e (FWO.run) ?_
 first | refine FWO.nil ?_ | skip
 change OW _ _ _ _ _ _
 refine zq2e (OW.run [3, 4, 7, 9, 10, 11]) ?_
 refine OW.nil (hK _ ?_)
 refine PW.seq ?_
 refine PW.seq ?_
 obtain ⟨x10, e10, H⟩ := bnd_some H
 refine PW.regionK fun K hK => zq8 (OW.run [3, 4, 7, 9, 10, 11, 88]) ?_
 refine OW.call' 4 rfl rfl rfl zq9 zqa (base_Within_ok N _ _ _ _ e10) zq5 zqb zqc ?_
 refine zq8 (OW.run [3, 4, 7, 9, 10, 11, 88]) ?_
 refine OW.nil (hK _ ?_)
 refine PW.cond rfl (fun h11 => ?_) (fun h11 => ?_)
 replace H := br_t h11 H
 refine PW.seq ?_
 refine zq2 (fun _ => OW.run [6]) ?_
 change PW _ _ _ _ _
 exact zq7
 replace H := br_f h11 H
 refine PW.skip ?_
 refine PW.seq ?_
 refine zq2 (fun _ => OW.run [3, 4, 7, 9, 10, 11, 12]) ?_
 refine PW.block ?_
 refine PW.loopS (σ := Int) [3, 4, 7, 9, 10, 11, 12] 6 (fun k => [(12, .d (I k))]) (fun k => [{ cells := [.d (I Z15), .d (I Z11), .d (I Z18), .d (I Z17), .d (I Z16), .d (I Z10), .d (I Z13)], e := 23 }, { cells := [.d (I Z1k), .d (.list Z1o.length (Z1o.flatMap (fun (x : Int × Int × Int × Int × Int × Int × Int) => [(I x.1), (I x.2.1), (I x.2.2.1), (I x.2.2.2.1), (I x.2.2.2.2.1), (I x.2.2.2.2.2.1), (I x.2.2.2.2.2.2)])))], e := 30 }, { cells := [.d (I Z23), .d (I Z1t), .d (I Z25), .d (I Z2a), .d (I Z2b), .d (I Z22)], e := 48 }, { cells := [.d (I x5), .d (.list x51.length (x51.flatMap (fun (x : Int × Int × Int × Int × Int × Int × Int) => [(I x.1), (I x.2.1), (I x.2.2.1), (I x.2.2.2.1), (I x.2.2.2.2.1), (I x.2.2.2.2.2.1), (I x.2.2.2.2.2.2)])))], e := 30 }, { cells := [.d (I ((x51.getD i.toNat default).1)), .d (I ((x51.getD i.toNat default).2.1)), .d (I ((x51.getD i.toNat default).2.2.1)), .d (I ((x51.getD i.toNat default).2.2.2.1)), .d (I ((x51.getD i.toNat default).2.2.2.2.1)), .d (I ((x51.getD i.toNat default).2.2.2.2.2.1)), .d (I ((x51.getD i.toNat default).2.2.2.2.2.2))], e := 71 }, { cells := [.d (I ((Z1o.getD i.toNat default).1)), .d (I ((Z1o.getD i.toNat default).2.1)), .d (I ((Z1o.getD i.toNat default).2.2.1)), .d (I ((Z1o.getD i.toNat default).2.2.2.1)), .d (I ((Z1o.getD i.toNat default).2.2.2.2.1)), .d (I ((Z1o.getD i.toNat default).2.2.2.2.2.1)), .d (I ((Z1o.getD i.toNat default).2.2.2.2.2.2))], e := 71 }]) (law07_AccessOneIdentity.b2 N Z1o x51 i K_1) r N (0 : Int) zqd H zqe ?_
 rintro n k H N12 hN12
 unfold law07_AccessOneIdentity.b2 at H
 with_reducible refine zq0 ?_
 refine PW.seq ?_
 refine PW.seq ?_
 refine zq2 (fun _ => OW.run [3, 4, 7, 9, 10, 11, 12, 91]) ?_
 refine PW.cond rfl (fun h13 => ?_) (fun h13 => ?_)
 replace H := br_t h13 H
 refine PW.skip ?_
 refine PW.seq ?_
 refine PW.block ?_
 refine PW.seq ?_
 obtain ⟨c14, H⟩ := chk_some H
 obtain ⟨c15, H⟩ := chk_some H
 refine PW.drawO 13 [10, 11] [71, 71] mixed (by kernel_rfl) (by decide) rfl fun K hK => ?_
 refine zq2f (FWO.run) ?_
 first | refine FWO.nil ?_ | skip
 change OW _ _ _ _ _ _
 refine zq2f (OW.run [3, 4, 7, 9, 10, 11, 12, 13, 14]) ?_
 refine OW.nil (hK _ ?_)
 refine PW.seq ?_
 refine PW.seq ?_
 refine PW.regionK fun K hK => ?_
 refine OW.toS [(3, .ptr 0 0), (4, .ptr 1 0), (7, .ptr 3 0), (9, .d (I i)), (10, .ptr 4 0), (11, .ptr 5 0), (12, .d (I k)), (13, .ptr 6 0), (135, .d (Bo ((((x51.getD i.toNat default).1 == (4 : Int)) && ((x51.getD k.toNat default).1 == (4 : Int))) && (((x51.getD i.toNat default).2.2.2.1 == (x51.getD k.toNat default).2.2.2.1) || ((((Z1o.getD i.toNat default).1 == (2 : Int)) && ((Z1o.getD k.toNat default).1 == (2 : Int))) && ((Z1o.getD i.toNat default).2.2.2.1 == (Z1o.getD k.toNat default).2.2.2.1))))))] [{ cells := [.d (I Z15), .d (I Z11), .d (I Z18), .d (I Z17), .d (I Z16), .d (I Z10), .d (I Z13)], e := 23 }, { cells := [.d (I Z1k), .d (.list Z1o.length (Z1o.flatMap (fun (x : Int × Int × Int × Int × Int × Int × Int) => [(I x.1), (I x.2.1), (I x.2.2.1), (I x.2.2.2.1), (I x.2.2.2.2.1), (I x.2.2.2.2.2.1), (I x.2.2.2.2.2.2)])))], e := 30 }, { cells := [.d (I Z23), .d (I Z1t), .d (I Z25), .d (I Z2a), .d (I Z2b), .d (I Z22)], e := 48 }, { cells := [.d (I x5), .d (.list x51.length (x51.flatMap (fun (x : Int × Int × Int × Int × Int × Int × Int) => [(I x.1), (I x.2.1), (I x.2.2.1), (I x.2.2.2.1), (I x.2.2.2.2.1), (I x.2.2.2.2.2.1), (I x.2.2.2.2.2.2)])))], e := 30 }, { cells := [.d (I ((x51.getD i.toNat default).1)), .d (I ((x51.getD i.toNat default).2.1)), .d (I ((x51.getD i.toNat default).2.2.1)), .d (I ((x51.getD i.toNat default).2.2.2.1)), .d (I ((x51.getD i.toNat default).2.2.2.2.1)), .d (I ((x51.getD i.toNat default).2.2.2.2.2.1)), .d (I ((x51.getD i.toNat default).2.2.2.2.2.2))], e := 71 }, { cells := [.d (I ((Z1o.getD i.toNat default).1)), .d (I ((Z1o.getD i.toNat default).2.1)), .d (I ((Z1o.getD i.toNat default).2.2.1)), .d (I ((Z1o.getD i.toNat default).2.2.2.1)), .d (I ((Z1o.getD i.toNat default).2.2.2.2.1)), .d (I ((Z1o.getD i.toNat default).2.2.2.2.2.1)), .d (I ((Z1o.getD i.toNat default).2.2.2.2.2.2))], e := 71 }, { cells := [.d (I ((x51.getD k.toNat default).1)), .d (I ((x51.getD k.toNat default).2.1)), .d (I ((x51.getD k.toNat default).2.2.1)), .d (I ((x51.getD k.toNat default).2.2.2.1)), .d (I ((x51.getD k.toNat default).2.2.2.2.1)), .d (I ((x51.getD k.toNat default).2.2.2.2.2.1)), .d (I ((x51.getD k.toNat default).2.2.2.2.2.2))], e := 71 }, { cells := [.d (I ((Z1o.getD k.toNat default).1)), .d (I ((Z1o.getD k.toNat default).2.1)), .d (I ((Z1o.getD k.toNat default).2.2.1)), .d (I ((Z1o.getD k.toNat default).2.2.2.1)), .d (I ((Z1o.getD k.toNat default).2.2.2.2.1)), .d (I ((Z1o.getD k.toNat default).2.2.2.2.2.1)), .d (I ((Z1o.getD k.toNat default).2.2.2.2.2.2))], e := 71 }] ?_ (hK _ ?_)
 intro K hKE
 rcases Bool.eq_false_or_eq_true (((x51.getD i.toNat default).1 == (4 : Int))) with ha0 | ha0
 rcases Bool.eq_false_or_eq_true (((x51.getD k.toNat default).1 == (4 : Int))) with ha1 | ha1
 rcases Bool.eq_false_or_eq_true (((x51.getD i.toNat default).2.2.2.1 == (x51.getD k.toNat default).2.2.2.1)) with ha2 | ha2
 refine zq2g (OW.run [3, 4, 7, 9, 10, 11, 12, 13, 135]) ?_
 refine OW.nil ((congrArg K ?_).mpr hKE)
 exact zq2h
 rcases Bool.eq_false_or_eq_true (((Z1o.getD i.toNat default).1 == (2 : Int))) with ha3 | ha3
 rcases Bool.eq_false_or_eq_true (((Z1o.getD k.toNat default).1 == (2 : Int))) with ha4 | ha4
 refine zq2i (OW.run [3, 4, 7, 9, 10, 11, 12, 13, 135]) ?_
 refine OW.nil ((congrArg K ?_).mpr hKE)
 exact zq2j
 refine zq2i (OW.run [3, 4, 7, 9, 10, 11, 12, 13, 135]) ?_
 refine OW.nil ((congrArg K ?_).mpr hKE)
 exact zq2j
 refine zq2k (OW.run [3, 4, 7, 9, 10, 11, 12, 13, 135]) ?_
 refine OW.nil ((congrArg K ?_).mpr hKE)
 exact zq2l
 refine zq2m (OW.run [3, 4, 7, 9, 10, 11, 12, 13, 135]) ?_
 refine OW.nil ((congrArg K ?_).mpr hKE)
 exact zq2n
 refine zq2o (OW.run [3, 4, 7, 9, 10, 11, 12, 13, 135]) ?_
 refine OW.nil ((congrArg K ?_).mpr hKE)
 exact zq17
 clear hK K
 refine PW.cond rfl (fun h16 => ?_) (fun h16 => ?_)
 replace H := br_t h16 H
 refine PW.seq ?_
 refine zq2 (fun _ => OW.run [6]) ?_
 change PW _ _ _ _ _
 exact zq7
 replace H := br_f h16 H
 refine PW.skip ?_
 refine PW.seq ?_
 refine PW.regionK fun K hK => ?_
 refine OW.toS [(3, .ptr 0 0), (4, .ptr 1 0), (7, .ptr 3 0), (9, .d (I i)), (10, .ptr 4 0), (11, .ptr 5 0), (12, .d (I k)), (155, .d (Bo ((((x51.getD i.toNat default).2.2.2.1 == (x51.getD k.toNat default).2.2.2.1) && ((x51.getD i.toNat default).2.2.2.1 != (-1 : Int))) && (((x51.getD i.toNat default).1 == (4 : Int)) || ((x51.getD k.toNat default).1 == (4 : Int))))))] [{ cells := [.d (I Z15), .d (I Z11), .d (I Z18), .d (I Z17), .d (I Z16), .d (I Z10), .d (I Z13)], e := 23 }, { cells := [.d (I Z1k), .d (.list Z1o.length (Z1o.flatMap (fun (x : Int × Int × Int × Int × Int × Int × Int) => [(I x.1), (I x.2.1), (I x.2.2.1), (I x.2.2.2.1), (I x.2.2.2.2.1), (I x.2.2.2.2.2.1), (I x.2.2.2.2.2.2)])))], e := 30 }, { cells := [.d (I Z23), .d (I Z1t), .d (I Z25), .d (I Z2a), .d (I Z2b), .d (I Z22)], e := 48 }, { cells := [.d (I x5), .d (.list x51.length (x51.flatMap (fun (x : Int × Int × Int × Int × Int × Int × Int) => [(I x.1), (I x.2.1), (I x.2.2.1), (I x.2.2.2.1), (I x.2.2.2.2.1), (I x.2.2.2.2.2.1), (I x.2.2.2.2.2.2)])))], e := 30 }, { cells := [.d (I ((x51.getD i.toNat default).1)), .d (I ((x51.getD i.toNat default).2.1)), .d (I ((x51.getD i.toNat default).2.2.1)), .d (I ((x51.getD i.toNat default).2.2.2.1)), .d (I ((x51.getD i.toNat default).2.2.2.2.1)), .d (I ((x51.getD i.toNat default).2.2.2.2.2.1)), .d (I ((x51.getD i.toNat default).2.2.2.2.2.2))], e := 71 }, { cells := [.d (I ((Z1o.getD i.toNat default).1)), .d (I ((Z1o.getD i.toNat default).2.1)), .d (I ((Z1o.getD i.toNat default).2.2.1)), .d (I ((Z1o.getD i.toNat default).2.2.2.1)), .d (I ((Z1o.getD i.toNat default).2.2.2.2.1)), .d (I ((Z1o.getD i.toNat default).2.2.2.2.2.1)), .d (I ((Z1o.getD i.toNat default).2.2.2.2.2.2))], e := 71 }, { cells := [.d (I ((x51.getD k.toNat default).1)), .d (I ((x51.getD k.toNat default).2.1)), .d (I ((x51.getD k.toNat default).2.2.1)), .d (I ((x51.getD k.toNat default).2.2.2.1)), .d (I ((x51.getD k.toNat default).2.2.2.2.1)), .d (I ((x51.getD k.toNat default).2.2.2.2.2.1)), .d (I ((x51.getD k.toNat default).2.2.2.2.2.2))], e := 71 }, { cells := [.d (I ((Z1o.getD k.toNat default).1)), .d (I ((Z1o.getD k.toNat default).2.1)), .d (I ((Z1o.getD k.toNat default).2.2.1)), .d (I ((Z1o.getD k.toNat default).2.2.2.1)), .d (I ((Z1o.getD k.toNat default).2.2.2.2.1)), .d (I ((Z1o.getD k.toNat default).2.2.2.2.2.1)), .d (I ((Z1o.getD k.toNat default).2.2.2.2.2.2))], e := 71 }] ?_ (hK _ ?_)
 intro K hKE
 rcases Bool.eq_false_or_eq_true (((x51.getD i.toNat default).2.2.2.1 == (x51.getD k.toNat default).2.2.2.1)) with ha0 | ha0
 rcases Bool.eq_false_or_eq_true (((x51.getD i.toNat default).2.2.2.1 != (-1 : Int))) with ha1 | ha1
 rcases Bool.eq_false_or_eq_true (((x51.getD i.toNat default).1 == (4 : Int))) with ha2 | ha2
 refine zq2g (OW.run [3, 4, 7, 9, 10, 11, 12, 155]) ?_
 refine OW.nil ((congrArg K ?_).mpr hKE)
 exact zq2h
 refine zq2g (OW.run [3, 4, 7, 9, 10, 11, 12, 155]) ?_
 refine OW.nil ((congrArg K ?_).mpr hKE)
 exact zq2h
 refine zq2m (OW.run [3, 4, 7, 9, 10, 11, 12, 155]) ?_
 refine OW.nil ((congrArg K ?_).mpr hKE)
 exact zq2n
 refine zq2o (OW.run [3, 4, 7, 9, 10, 11, 12, 155]) ?_
 refine OW.nil ((congrArg K ?_).mpr hKE)
 exact zq17
 clear hK K
 refine PW.cond rfl (fun h17 => ?_) (fun h17 => ?_)
 replace H := br_t h17 H
 refine PW.seq ?_
 refine zq2 (fun _ => OW.run [6]) ?_
 change PW _ _ _ _ _
 exact zq7
 replace H := br_f h17 H
 refine PW.skip ?_
 change PW _ _ _ _ _
 refine zq2 (fun _ => OW.run [3, 4, 7, 9, 10, 11, 12]) ?_
 refine hN12 [] (w64 (k + (1 : Int))) _ H zqf ?_
 exact zqe
 replace H := br_f h13 H
 refine PW.exit ?_
 refine hN8 [] () _ H zqf ?_
 exact zqe
 rintro _ H
 with_reducible refine zq0 ?_
 refine zq2 (fun _ => OW.run [3, 4, 7, 9]) ?_
 refine hN6 [] (w64 (i + (1 : Int))) _ H zqf ?_
 exact zqe
 replace H := br_f h7 H
 refine PW.exit ?_
 refine hN5 [] () _ H zqf ?_
 exact zqe
 rintro _ H
 with_reducible refine zq0 ?_
 refine PW.seq ?_
 refine zq2 (fun _ => OW.run [6]) ?_
 change PW _ _ _ _ _
 exact zq7
end Go.Proofs.YtbndgoeahoadlaaGreatDoor
