import Derived.Test.YtbndgoeahoadlaaGreatDoorAsK
import Derived.Test.YtbndgoeahoadlaaGreatDoorAsW1
import Derived.Test.YtbndgoeahoadlaaGreatDoorZq
set_option linter.all false
namespace Go.Proofs.YtbndgoeahoadlaaGreatDoor
open Go.PW Go.Sh

set_option maxRecDepth 20000
set_option maxHeartbeats 8000000
theorem access_CheckRules_ok (N : Nat) (Z15 : Int) (Z11 : Int) (Z18 : Int) (Z17 : Int) (Z16 : Int) (Z10 : Int) (Z13 : Int) (r : Int) (H : access_CheckRules N Z15 Z11 Z18 Z17 Z16 Z10 Z13 = some r) : CallOK Tryz.prog 16 [(.agg [(I Z15), (I Z11), (I Z18), (I Z17), (I Z16), (I Z10), (I Z13)])] (.d (I r)) [] := by
 refine CallOK.of_PW Tryz.func16 rfl (by rw [Tryz.results16]) Tryz.ntmps16 Tryz.call16 ?_
 change PW _ _ _ _ _
 with_reducible refine zq0 ?_
 unfold access_CheckRules at H
 refine PW.seq ?_
 refine zq2 (fun _ => OW.run [1]) ?_
 refine PW.joinS (τ := Unit) [] 0 (fun _ => []) (fun _ => []) _ _ r zqd H ?_ ?_
 intro K_ H N1 hN1
 refine PW.seq ?_
 refine zq2 (fun _ => OW.run [26, 27]) ?_
 refine PW.block ?_
 refine PW.loopN 8 ?_
 refine PW.seq ?_
 refine zq2 (fun _ => OW.run [26, 27, 28]) ?_
 refine PW.seq ?_
 refine PW.cond rfl (fun h2 => ?_) (fun h2 => ?_)
 refine PW.skip ?_
 refine PW.seq ?_
 refine PW.block ?_
 refine PW.seq ?_
 refine zq2 (fun _ => OW.run [4, 26, 27]) ?_
 refine PW.seq ?_
 obtain ⟨x1, e1, H⟩ := bnd_some H
 refine PW.regionK fun K hK => zq8 (OW.run [26, 27, 37]) ?_
 refine OW.call' 4 rfl rfl rfl zq9 zqa (access_within_ok N _ _ _ _ e1) zq5 zqb zqc ?_
 refine zq8 (OW.run [26, 27, 37]) ?_
 refine OW.nil (hK _ ?_)
 refine PW.cond rfl (fun h3 => ?_) (fun h3 => ?_)
 replace H := br_t h3 H
 refine PW.seq ?_
 refine zq2 (fun _ => OW.run [2]) ?_
 change PW _ _ _ _ _
 exact zq7
 replace H := br_f h3 H
 refine PW.skip ?_
 change PW _ _ _ _ _
 refine zq2 (fun _ => OW.run [26, 27]) ?_
 refine PW.seq ?_
 refine zq2 (fun _ => OW.run [26, 27, 28]) ?_
 refine PW.seq ?_
 refine PW.cond rfl (fun h4 => ?_) (fun h4 => ?_)
 refine PW.skip ?_
 refine PW.seq ?_
 refine PW.block ?_
 refine PW.seq ?_
 refine zq2 (fun _ => OW.run [4, 26, 27]) ?_
 refine PW.seq ?_
 obtain ⟨x2, e2, H⟩ := bnd_some H
 refine PW.regionK fun K hK => zq8 (OW.run [26, 27, 37]) ?_
 refine OW.call' 4 rfl rfl rfl zq9 zqa (access_within_ok N _ _ _ _ e2) zq5 zqb zqc ?_
 refine zq8 (OW.run [26, 27, 37]) ?_
 refine OW.nil (hK _ ?_)
 refine PW.cond rfl (fun h5 => ?_) (fun h5 => ?_)
 replace H := br_t h5 H
 refine PW.seq ?_
 refine zq2 (fun _ => OW.run [2]) ?_
 change PW _ _ _ _ _
 exact zq7
 replace H := br_f h5 H
 refine PW.skip ?_
 change PW _ _ _ _ _
 refine zq2 (fun _ => OW.run [26, 27]) ?_
 refine PW.seq ?_
 refine zq2 (fun _ => OW.run [26, 27, 28]) ?_
 refine PW.seq ?_
 refine PW.cond rfl (fun h6 => ?_) (fun h6 => ?_)
 refine PW.skip ?_
 refine PW.seq ?_
 refine PW.block ?_
 refine PW.seq ?_
 refine zq2 (fun _ => OW.run [4, 26, 27]) ?_
 refine PW.seq ?_
 obtain ⟨x3, e3, H⟩ := bnd_some H
 refine PW.regionK fun K hK => zq8 (OW.run [26, 27, 37]) ?_
 refine OW.call' 4 rfl rfl rfl zq9 zqa (access_within_ok N _ _ _ _ e3) zq5 zqb zqc ?_
 refine zq8 (OW.run [26, 27, 37]) ?_
 refine OW.nil (hK _ ?_)
 refine PW.cond rfl (fun h7 => ?_) (fun h7 => ?_)
 replace H := br_t h7 H
 refine PW.seq ?_
 refine zq2 (fun _ => OW.run [2]) ?_
 change PW _ _ _ _ _
 exact zq7
 replace H := br_f h7 H
 refine PW.skip ?_
 change PW _ _ _ _ _
 refine zq2 (fun _ => OW.run [26, 27]) ?_
 refine PW.seq ?_
 refine zq2 (fun _ => OW.run [26, 27, 28]) ?_
 refine PW.seq ?_
 refine PW.cond rfl (fun h8 => ?_) (fun h8 => ?_)
 refine PW.skip ?_
 refine PW.seq ?_
 refine PW.block ?_
 refine PW.seq ?_
 refine zq2 (fun _ => OW.run [4, 26, 27]) ?_
 refine PW.seq ?_
 obtain ⟨x4, e4, H⟩ := bnd_some H
 refine PW.regionK fun K hK => zq8 (OW.run [26, 27, 37]) ?_
 refine OW.call' 4 rfl rfl rfl zq9 zqa (access_within_ok N _ _ _ _ e4) zq5 zqb zqc ?_
 refine zq8 (OW.run [26, 27, 37]) ?_
 refine OW.nil (hK _ ?_)
 refine PW.cond rfl (fun h9 => ?_) (fun h9 => ?_)
 replace H := br_t h9 H
 refine PW.seq ?_
 refine zq2 (fun _ => OW.run [2]) ?_
 change PW _ _ _ _ _
 exact zq7
 replace H := br_f h9 H
 refine PW.skip ?_
 change PW _ _ _ _ _
 refine zq2 (fun _ => OW.run [26, 27]) ?_
 refine PW.seq ?_
 refine zq2 (fun _ => OW.run [26, 27, 28]) ?_
 refine PW.seq ?_
 refine PW.cond rfl (fun h10 => ?_) (fun h10 => ?_)
 refine PW.skip ?_
 refine PW.seq ?_
 refine PW.block ?_
 refine PW.seq ?_
 refine zq2 (fun _ => OW.run [4, 26, 27]) ?_
 refine PW.seq ?_
 obtain ⟨x5, e5, H⟩ := bnd_some H
 refine PW.regionK fun K hK => zq8 (OW.run [26, 27, 37]) ?_
 refine OW.call' 4 rfl rfl rfl zq9 zqa (access_within_ok N _ _ _ _ e5) zq5 zqb zqc ?_
 refine zq8 (OW.run [26, 27, 37]) ?_
 refine OW.nil (hK _ ?_)
 refine PW.cond rfl (fun h11 => ?_) (fun h11 => ?_)
 replace H := br_t h11 H
 refine PW.seq ?_
 refine zq2 (fun _ => OW.run [2]) ?_
 change PW _ _ _ _ _
 exact zq7
 replace H := br_f h11 H
 refine PW.skip ?_
 change PW _ _ _ _ _
 refine zq2 (fun _ => OW.run [26, 27]) ?_
 refine PW.seq ?_
 refine zq2 (fun _ => OW.run [26, 27, 28]) ?_
 refine PW.seq ?_
 refine PW.cond rfl (fun h12 => ?_) (fun h12 => ?_)
 refine PW.skip ?_
 refine PW.seq ?_
 refine PW.block ?_
 refine PW.seq ?_
 refine zq2 (fun _ => OW.run [4, 26, 27]) ?_
 refine PW.seq ?_
 obtain ⟨x6, e6, H⟩ := bnd_some H
 refine PW.regionK fun K hK => zq8 (OW.run [26, 27, 37]) ?_
 refine OW.call' 4 rfl rfl rfl zq9 zqa (access_within_ok N _ _ _ _ e6) zq5 zqb zqc ?_
 refine zq8 (OW.run [26, 27, 37]) ?_
 refine OW.nil (hK _ ?_)
 refine PW.cond rfl (fun h13 => ?_) (fun h13 => ?_)
 replace H := br_t h13 H
 refine PW.seq ?_
 refine zq2 (fun _ => OW.run [2]) ?_
 change PW _ _ _ _ _
 exact zq7
 replace H := br_f h13 H
 refine PW.skip ?_
 change PW _ _ _ _ _
 refine zq2 (fun _ => OW.run [26, 27]) ?_
 refine PW.seq ?_
 refine zq2 (fun _ => OW.run [26, 27, 28]) ?_
 refine PW.seq ?_
 refine PW.cond rfl (fun h14 => ?_) (fun h14 => ?_)
 refine PW.skip ?_
 refine PW.seq ?_
 refine PW.block ?_
 refine PW.seq ?_
 refine zq2 (fun _ => OW.run [4, 26, 27]) ?_
 refine PW.seq ?_
 obtain ⟨x7, e7, H⟩ := bnd_some H
 refine PW.regionK fun K hK => zq8 (OW.run [26, 27, 37]) ?_
 refine OW.call' 4 rfl rfl rfl zq9 zqa (access_within_ok N _ _ _ _ e7) zq5 zqb zqc ?_
 refine zq8 (OW.run [26, 27, 37]) ?_
 refine OW.nil (hK _ ?_)
 refine PW.cond rfl (fun h15 => ?_) (fun h15 => ?_)
 replace H := br_t h15 H
 refine PW.seq ?_
 refine zq2 (fun _ => OW.run [2]) ?_
 change PW _ _ _ _ _
 exact zq7
 replace H := br_f h15 H
 refine PW.skip ?_
 change PW _ _ _ _ _
 refine zq2 (fun _ => OW.run [26, 27]) ?_
 refine PW.seq ?_
 refine zq2 (fun _ => OW.run [26, 27, 28]) ?_
 refine PW.seq ?_
 refine PW.cond rfl (fun h16 => ?_) (fun h16 => ?_)
 exact absurd h16 (by decide)
 refine PW.exit ?_
 refine hN1 [] () _ H zqf ?_
 exact zqe
 exact absurd h14 (by decide)
 exact absurd h12 (by decide)
 exact absurd h10 (by decide)
 exact absurd h8 (by decide)
 exact absurd h6 (by decide)
 exact absurd h4 (by decide)
 exact absurd h2 (by decide)
 rintro _ H
 with_reducible refine zq0 ?_
 refine PW.seq ?_
 refine zq2 (fun _ => OW.run [2]) ?_
 change PW _ _ _ _ _
 exact zq7
theorem access_phonesErr_ok (N : Nat) (n : Int) (r : Int) (H : access_phonesErr N n = some r) : CallOK Tryz.prog 78 [(I n)] (.d (I r)) [] := by
 refine CallOK.of_PW Tryz.func78 rfl (by rw [Tryz.results78]) Tryz.ntmps78 Tryz.call78 ?_
 change PW _ _ _ _ _
 with_reducible refine zq0 ?_
 unfold access_phonesErr at H
 refine PW.seq ?_
 refine zq2 (fun _ => OW.run [0]) ?_
 refine PW.seq ?_
 obtain ⟨x1, e1, H⟩ := bnd_some H
 obtain ⟨x2, e2, H⟩ := bnd_some H
 obtain ⟨x3, e3, H⟩ := bnd_some H
 refine PW.regionK fun K hK => zq8 (OW.run [2]) ?_
 refine OW.call' 4 rfl rfl rfl zq9 zqa (access_unless_ok N _ _ _ e1) zq5 zqb zqc ?_
 refine zq8 (OW.run [2]) ?_
 refine OW.call' 4 rfl rfl rfl zq9 zqa (access_unless_ok N _ _ _ e2) zq5 zqb zqc ?_
 refine zq8 (OW.run [2]) ?_
 refine OW.call' 4 rfl rfl rfl zq9 zqa (access_first_ok N _ _ e3) zq5 zqb zqc ?_
 refine zq8 (OW.run [2]) ?_
 refine OW.nil (hK _ ?_)
 change PW _ _ _ _ _
 exact zq7
theorem access_isDraw_ok (N : Nat) (n : Int) (r : Bool) (H : access_isDraw N n = some r) : CallOK Tryz.prog 119 [(I n)] (.d (Bo r)) [] := by
 refine CallOK.of_PW Tryz.func119 rfl (by rw [Tryz.results119]) Tryz.ntmps119 Tryz.call119 ?_
 change PW _ _ _ _ _
 with_reducible refine zq0 ?_
 unfold access_isDraw at H
 refine PW.seq ?_
 refine zq2 (fun _ => OW.run [0]) ?_
 refine PW.seq ?_
 obtain ⟨x1, e1, H⟩ := bnd_some H
 refine PW.regionK fun K hK => zq8 (OW.run [2]) ?_
 refine OW.call' 4 rfl rfl rfl zq9 zqa (access_within_ok N _ _ _ _ e1) zq5 zqb zqc ?_
 refine zq8 (OW.run [2]) ?_
 refine OW.nil (hK _ ?_)
 change PW _ _ _ _ _
 exact zq7
theorem access_idle_ok (N : Nat) (draw : Int) (r : Int × Int × Int × Int × Int × Int × Int) (H : access_idle N draw = some r) : CallOK Tryz.prog 80 [(I draw)] (.d (.agg [(I r.1), (I r.2.1), (I r.2.2.1), (I r.2.2.2.1), (I r.2.2.2.2.1), (I r.2.2.2.2.2.1), (I r.2.2.2.2.2.2)])) [] := by
 refine CallOK.of_PW Tryz.func80 rfl (by rw [Tryz.results80]) Tryz.ntmps80 Tryz.call80 ?_
 change PW _ _ _ _ _
 with_reducible refine zq0 ?_
 unfold access_idle at H
 refine PW.seq ?_
 refine zq2 (fun _ => OW.run [0, 2]) ?_
 refine PW.seq ?_
 refine zq2 (fun _ => OW.run [2]) ?_
 change PW _ _ _ _ _
 exact zq7
theorem ref07_CheckRules_ok (N : Nat) (Z15 : Int) (Z11 : Int) (Z18 : Int) (Z17 : Int) (Z16 : Int) (Z10 : Int) (Z13 : Int) (r : Int) (H : ref07_CheckRules N Z15 Z11 Z18 Z17 Z16 Z10 Z13 = some r) : CallOK Tryz.prog 19 [(.agg [(I Z15), (I Z11), (I Z18), (I Z17), (I Z16), (I Z10), (I Z13)])] (.d (I r)) [] := by
 refine CallOK.of_PW Tryz.func19 rfl (by rw [Tryz.results19]) Tryz.ntmps19 Tryz.call19 ?_
 change PW _ _ _ _ _
 with_reducible refine zq0 ?_
 unfold ref07_CheckRules at H
 refine PW.seq ?_
 refine zq2 (fun _ => OW.run [1]) ?_
 refine PW.seq ?_
 refine PW.seq ?_
 obtain ⟨x1, e1, H⟩ := bnd_some H
 obtain ⟨x2, e2, H⟩ := bnd_some H
 obtain ⟨x3, e3, H⟩ := bnd_some H
 obtain ⟨x4, e4, H⟩ := bnd_some H
 obtain ⟨x5, e5, H⟩ := bnd_some H
 obtain ⟨x6, e6, H⟩ := bnd_some H
 obtain ⟨x7, e7, H⟩ := bnd_some H
 refine PW.regionK fun K hK => zq8 (OW.run [42]) ?_
 refine OW.call' 4 rfl rfl rfl zq9 zqa (base_Within_ok N _ _ _ _ e1) zq5 zqb zqc ?_
 refine zq8 (OW.run [42]) ?_
 refine OW.callG' 4 rfl rfl ?_ (fun hg => zqg) (fun hg => zq9) (fun hg => ?_) (fun hg => (base_Within_ok N _ _ _ _ (grd_t hg e2))) ?_ ?_ ?_ ?_
 exact zqh
 exact zqa
 exact zq5
 exact zqb
 exact zqc
 refine zq8 (OW.run [42]) ?_
 refine OW.callG' 4 rfl rfl ?_ (fun hg => zqg) (fun hg => zq9) (fun hg => ?_) (fun hg => (base_Within_ok N _ _ _ _ (grd_t hg e3))) ?_ ?_ ?_ ?_
 exact zqh
 exact zqa
 exact zq5
 exact zqb
 exact zqc
 refine zq8 (OW.run [42]) ?_
 refine OW.callG' 4 rfl rfl ?_ (fun hg => zqg) (fun hg => zq9) (fun hg => ?_) (fun hg => (base_Within_ok N _ _ _ _ (grd_t hg e4))) ?_ ?_ ?_ ?_
 exact zqh
 exact zqa
 exact zq5
 exact zqb
 exact zqc
 refine zq8 (OW.run [42]) ?_
 refine OW.callG' 4 rfl rfl ?_ (fun hg => zqg) (fun hg => zq9) (fun hg => ?_) (fun hg => (base_Within_ok N _ _ _ _ (grd_t hg e5))) ?_ ?_ ?_ ?_
 exact zqh
 exact zqa
 exact zq5
 exact zqb
 exact zqc
 refine zq8 (OW.run [42]) ?_
 refine OW.callG' 4 rfl rfl ?_ (fun hg => zqg) (fun hg => zq9) (fun hg => ?_) (fun hg => (base_Within_ok N _ _ _ _ (grd_t hg e6))) ?_ ?_ ?_ ?_
 exact zqh
 exact zqa
 exact zq5
 exact zqb
 exact zqc
 refine zq8 (OW.run [42]) ?_
 refine OW.callG' 4 rfl rfl ?_ (fun hg => zqg) (fun hg => zq9) (fun hg => ?_) (fun hg => (base_Within_ok N _ _ _ _ (grd_t hg e7))) ?_ ?_ ?_ ?_
 exact zqh
 exact zqa
 exact zq5
 exact zqb
 exact zqc
 refine zq8 (OW.run [42]) ?_
 refine OW.nil (hK _ ?_)
 refine PW.cond rfl (fun h1 => ?_) (fun h1 => ?_)
 replace H := br_t h1 H
 refine PW.seq ?_
 refine zq2 (fun _ => OW.run [2]) ?_
 change PW _ _ _ _ _
 exact zq7
 replace H := br_f h1 H
 refine PW.skip ?_
 refine PW.seq ?_
 refine zq2 (fun _ => OW.run [2]) ?_
 change PW _ _ _ _ _
 exact zq7
theorem ref07_isDraw_ok (N : Nat) (n : Int) (r : Bool) (H : ref07_isDraw N n = some r) : CallOK Tryz.prog 81 [(I n)] (.d (Bo r)) [] := by
 refine CallOK.of_PW Tryz.func81 rfl (by rw [Tryz.results81]) Tryz.ntmps81 Tryz.call81 ?_
 change PW _ _ _ _ _
 with_reducible refine zq0 ?_
 unfold ref07_isDraw at H
 refine PW.seq ?_
 refine zq2 (fun _ => OW.run [0]) ?_
 refine PW.seq ?_
 obtain ⟨x1, e1, H⟩ := bnd_some H
 refine PW.regionK fun K hK => zq8 (OW.run [2]) ?_
 refine OW.call' 4 rfl rfl rfl zq9 zqa (base_Within_ok N _ _ _ _ e1) zq5 zqb zqc ?_
 refine zq8 (OW.run [2]) ?_
 refine OW.nil (hK _ ?_)
 change PW _ _ _ _ _
 exact zq7
theorem ref07_Same_ok (N : Nat) (Zd : Int) (Ze : List (Int × Int × Int × Int × Int × Int × Int)) (Zh : Int) (Zi : List (Int × Int × Int × Int × Int × Int × Int)) (r : Bool) (H : ref07_Same N Zd Ze Zh Zi = some r) : CallOK Tryz.prog 21 [(.agg [(I Zd), (.list Ze.length (Ze.flatMap (fun (x : Int × Int × Int × Int × Int × Int × Int) => [(I x.1), (I x.2.1), (I x.2.2.1), (I x.2.2.2.1), (I x.2.2.2.2.1), (I x.2.2.2.2.2.1), (I x.2.2.2.2.2.2)])))]), (.agg [(I Zh), (.list Zi.length (Zi.flatMap (fun (x : Int × Int × Int × Int × Int × Int × Int) => [(I x.1), (I x.2.1), (I x.2.2.1), (I x.2.2.2.1), (I x.2.2.2.2.1), (I x.2.2.2.2.2.1), (I x.2.2.2.2.2.2)])))])] (.d (Bo r)) [] := by
 refine CallOK.of_PW Tryz.func21 rfl (by rw [Tryz.results21]) Tryz.ntmps21 Tryz.call21 ?_
 change PW _ _ _ _ _
 with_reducible refine zq0 ?_
 unfold ref07_Same at H
 refine PW.seq ?_
 refine zq2 (fun _ => OW.run [2, 3]) ?_
 refine PW.seq ?_
 refine PW.seq ?_
 refine zq2 (fun _ => OW.run [2, 3, 19]) ?_
 refine PW.cond rfl (fun h1 => ?_) (fun h1 => ?_)
 replace H := br_t h1 H
 refine PW.seq ?_
 refine zq2 (fun _ => OW.run [4]) ?_
 change PW _ _ _ _ _
 exact zq7
 replace H := br_f h1 H
 refine PW.skip ?_
 refine PW.joinS (τ := Unit) [] 0 (fun _ => []) (fun _ => []) _ _ r zqd H ?_ ?_
 intro K_ H N2 hN2
 refine PW.seq ?_
 refine zq2 (fun _ => OW.run [2, 3, 5]) ?_
 refine PW.block ?_
 refine PW.loopS (σ := Int) [2, 3, 5] 2 (fun i => [(5, .d (I i))]) (fun i => [{ cells := [.d (I Zd), .d (.list Ze.length (Ze.flatMap (fun (x : Int × Int × Int × Int × Int × Int × Int) => [(I x.1), (I x.2.1), (I x.2.2.1), (I x.2.2.2.1), (I x.2.2.2.2.1), (I x.2.2.2.2.2.1), (I x.2.2.2.2.2.2)])))], e := 30 }, { cells := [.d (I Zh), .d (.list Zi.length (Zi.flatMap (fun (x : Int × Int × Int × Int × Int × Int × Int) => [(I x.1), (I x.2.1), (I x.2.2.1), (I x.2.2.2.1), (I x.2.2.2.2.1), (I x.2.2.2.2.2.1), (I x.2.2.2.2.2.2)])))], e := 30 }]) (ref07_Same.b1 N Ze Zi K_) r N (0 : Int) zqd H zqe ?_
 rintro n i H N3 hN3
 unfold ref07_Same.b1 at H
 with_reducible refine zq0 ?_
 refine PW.seq ?_
 refine PW.seq ?_
 refine zq2 (fun _ => OW.run [2, 3, 5, 24]) ?_
 refine PW.cond rfl (fun h4 => ?_) (fun h4 => ?_)
 replace H := br_t h4 H
 refine PW.skip ?_
 refine PW.seq ?_
 refine PW.block ?_
 refine PW.seq ?_
 obtain ⟨c5, H⟩ := chk_some H
 obtain ⟨c6, H⟩ := chk_some H
 refine PW.drawK 10 mixed (by kernel_rfl) fun K hK => ?_
 change FW _ _ _ _ _
 refine zqi (FW.run) ?_
 refine FW.nil ?_
 change OW _ _ _ _ _ _
 refine zqi (OW.run [2, 3, 5, 37]) ?_
 refine OW.nil (hK _ ?_)
 refine PW.cond rfl (fun h7 => ?_) (fun h7 => ?_)
 replace H := br_t h7 H
 refine PW.seq ?_
 refine zq2 (fun _ => OW.run [4]) ?_
 change PW _ _ _ _ _
 exact zq7
 replace H := br_f h7 H
 refine PW.skip ?_
 change PW _ _ _ _ _
 refine zq2 (fun _ => OW.run [2, 3, 5]) ?_
 refine hN3 [] (w64 (i + (1 : Int))) _ H zqf ?_
 exact zqe
 replace H := br_f h4 H
 refine PW.exit ?_
 refine hN2 [] () _ H zqf ?_
 exact zqe
 rintro _ H
 with_reducible refine zq0 ?_
 refine PW.seq ?_
 refine zq2 (fun _ => OW.run [4]) ?_
 change PW _ _ _ _ _
 exact zq7
theorem ref07_plain_ok (N : Nat) (stage : Int) (draw : Int) (r : Int × Int × Int × Int × Int × Int × Int) (H : ref07_plain N stage draw = some r) : CallOK Tryz.prog 82 [(I stage), (I draw)] (.d (.agg [(I r.1), (I r.2.1), (I r.2.2.1), (I r.2.2.2.1), (I r.2.2.2.2.1), (I r.2.2.2.2.2.1), (I r.2.2.2.2.2.2)])) [] := by
 refine CallOK.of_PW Tryz.func82 rfl (by rw [Tryz.results82]) Tryz.ntmps82 Tryz.call82 ?_
 change PW _ _ _ _ _
 with_reducible refine zq0 ?_
 unfold ref07_plain at H
 refine PW.seq ?_
 refine zq2 (fun _ => OW.run [0, 1, 4]) ?_
 refine PW.seq ?_
 refine zq2 (fun _ => OW.run [4]) ?_
 change PW _ _ _ _ _
 exact zq7
theorem law07_Few_ok (N : Nat) (Z1k : Int) (Z1o : List (Int × Int × Int × Int × Int × Int × Int)) (r : Bool) (H : law07_Few N Z1k Z1o = some r) : CallOK Tryz.prog 27 [(.agg [(I Z1k), (.list Z1o.length (Z1o.flatMap (fun (x : Int × Int × Int × Int × Int × Int × Int) => [(I x.1), (I x.2.1), (I x.2.2.1), (I x.2.2.2.1), (I x.2.2.2.2.1), (I x.2.2.2.2.2.1), (I x.2.2.2.2.2.2)])))])] (.d (Bo r)) [] := by
 refine CallOK.of_PW Tryz.func27 rfl (by rw [Tryz.results27]) Tryz.ntmps27 Tryz.call27 ?_
 change PW _ _ _ _ _
 with_reducible refine zq0 ?_
 unfold law07_Few at H
 refine PW.seq ?_
 refine zq2 (fun _ => OW.run [1]) ?_
 refine PW.seq ?_
 refine zq2 (fun _ => OW.run [2]) ?_
 change PW _ _ _ _ _
 exact zq7
end Go.Proofs.YtbndgoeahoadlaaGreatDoor
