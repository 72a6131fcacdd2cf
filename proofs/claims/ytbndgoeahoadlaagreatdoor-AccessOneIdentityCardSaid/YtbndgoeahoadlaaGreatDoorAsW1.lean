import Derived.Test.YtbndgoeahoadlaaGreatDoorAsK
import Derived.Test.YtbndgoeahoadlaaGreatDoorZq
set_option linter.all false
namespace Go.Proofs.YtbndgoeahoadlaaGreatDoor
open Go.PW Go.Sh

set_option maxRecDepth 20000
set_option maxHeartbeats 8000000
theorem access_within_ok (N : Nat) (n : Int) (lo : Int) (hi : Int) (r : Bool) (H : access_within N n lo hi = some r) : CallOK Tryz.prog 76 [(I n), (I lo), (I hi)] (.d (Bo r)) [] := by
 refine CallOK.of_PW Tryz.func76 rfl (by rw [Tryz.results76]) Tryz.ntmps76 Tryz.call76 ?_
 change PW _ _ _ _ _
 with_reducible refine zq0 ?_
 unfold access_within at H
 refine PW.seq ?_
 refine zq2 (fun _ => OW.run [0, 1, 2]) ?_
 refine PW.seq ?_
 refine zq2 (fun _ => OW.run [6]) ?_
 change PW _ _ _ _ _
 exact zq7
theorem access_unless_ok (N : Nat) (is_ : Bool) (e : Int) (r : Int) (H : access_unless N is_ e = some r) : CallOK Tryz.prog 83 [(Bo is_), (I e)] (.d (I r)) [] := by
 refine CallOK.of_PW Tryz.func83 rfl (by rw [Tryz.results83]) Tryz.ntmps83 Tryz.call83 ?_
 change PW _ _ _ _ _
 with_reducible refine zq0 ?_
 unfold access_unless at H
 refine PW.seq ?_
 refine zq2 (fun _ => OW.run [0, 1]) ?_
 refine PW.seq ?_
 refine PW.seq ?_
 refine zq2 (fun _ => OW.run [1, 5]) ?_
 refine PW.cond rfl (fun h1 => ?_) (fun h1 => ?_)
 replace H := br_t h1 H
 refine PW.seq ?_
 refine zq2 (fun _ => OW.run [4]) ?_
 change PW _ _ _ _ _
 exact zq7
 replace H := br_f h1 H
 refine PW.skip ?_
 refine PW.seq ?_
 refine zq2 (fun _ => OW.run [4]) ?_
 change PW _ _ _ _ _
 exact zq7
theorem access_isTick_ok (N : Nat) (n : Int) (r : Bool) (H : access_isTick N n = some r) : CallOK Tryz.prog 102 [(I n)] (.d (Bo r)) [] := by
 refine CallOK.of_PW Tryz.func102 rfl (by rw [Tryz.results102]) Tryz.ntmps102 Tryz.call102 ?_
 change PW _ _ _ _ _
 with_reducible refine zq0 ?_
 unfold access_isTick at H
 refine PW.seq ?_
 refine zq2 (fun _ => OW.run [0]) ?_
 refine PW.seq ?_
 obtain ⟨x1, e1, H⟩ := bnd_some H
 refine PW.regionK fun K hK => zq8 (OW.run [2]) ?_
 refine OW.call' 4 rfl rfl rfl zq9 zqa (access_within_ok N _ _ _ _ e1) zq5 zqb zqc ?_
 refine zq8 (OW.run [2]) ?_
 refine OW.nil (hK _ ?_)
 change PW _ _ _ _ _
 exact zq7
theorem access_tickErr_ok (N : Nat) (n : Int) (r : Int) (H : access_tickErr N n = some r) : CallOK Tryz.prog 94 [(I n)] (.d (I r)) [] := by
 refine CallOK.of_PW Tryz.func94 rfl (by rw [Tryz.results94]) Tryz.ntmps94 Tryz.call94 ?_
 change PW _ _ _ _ _
 with_reducible refine zq0 ?_
 unfold access_tickErr at H
 refine PW.seq ?_
 refine zq2 (fun _ => OW.run [0]) ?_
 refine PW.seq ?_
 obtain ⟨x1, e1, H⟩ := bnd_some H
 obtain ⟨x2, e2, H⟩ := bnd_some H
 refine PW.regionK fun K hK => zq8 (OW.run [2]) ?_
 refine OW.call' 4 rfl rfl rfl zq9 zqa (access_isTick_ok N _ _ e1) zq5 zqb zqc ?_
 refine zq8 (OW.run [2]) ?_
 refine OW.call' 4 rfl rfl rfl zq9 zqa (access_unless_ok N _ _ _ e2) zq5 zqb zqc ?_
 refine zq8 (OW.run [2]) ?_
 refine OW.nil (hK _ ?_)
 change PW _ _ _ _ _
 exact zq7
theorem access_first_ok (N : Nat) (l : List Int) (r : Int) (H : access_first N l = some r) : CallOK Tryz.prog 77 [(L l)] (.d (I r)) [] := by
 refine CallOK.of_PW Tryz.func77 rfl (by rw [Tryz.results77]) Tryz.ntmps77 Tryz.call77 ?_
 change PW _ _ _ _ _
 with_reducible refine zq0 ?_
 unfold access_first at H
 refine PW.seq ?_
 refine zq2 (fun _ => OW.run [0]) ?_
 refine PW.joinS (τ := Unit) [] 0 (fun _ => []) (fun _ => []) _ _ r zqd H ?_ ?_
 intro K_ H N1 hN1
 refine PW.seq ?_
 refine zq2 (fun _ => OW.run [5, 6, 7]) ?_
 refine PW.block ?_
 refine PW.loopS (σ := Int) [5, 6, 7] 0 (fun t7 => [(7, .d (I t7))]) (fun t7 => []) (access_first.b1 N l K_) r N (0 : Int) zqd H zqe ?_
 rintro n t7 H N2 hN2
 unfold access_first.b1 at H
 with_reducible refine zq0 ?_
 refine PW.seq ?_
 refine zq2 (fun _ => OW.run [5, 6, 7, 8]) ?_
 refine PW.seq ?_
 refine PW.cond rfl (fun h3 => ?_) (fun h3 => ?_)
 replace H := br_t h3 H
 refine PW.skip ?_
 refine PW.seq ?_
 refine PW.block ?_
 refine PW.seq ?_
 obtain ⟨c4, H⟩ := chk_some H
 refine zq2 (fun _ => OW.run [4, 5, 6, 7]) ?_
 refine PW.seq ?_
 refine zq2 (fun _ => OW.run [4, 5, 6, 7, 12]) ?_
 refine PW.cond rfl (fun h5 => ?_) (fun h5 => ?_)
 replace H := br_t h5 H
 refine PW.seq ?_
 refine zq2 (fun _ => OW.run [2]) ?_
 change PW _ _ _ _ _
 exact zq7
 replace H := br_f h5 H
 refine PW.skip ?_
 change PW _ _ _ _ _
 refine zq2 (fun _ => OW.run [5, 6, 7]) ?_
 refine hN2 [] (w64 (t7 + (1 : Int))) _ H zqf ?_
 exact zqe
 replace H := br_f h3 H
 refine PW.exit ?_
 refine hN1 [] () _ H zqf ?_
 exact zqe
 rintro _ H
 with_reducible refine zq0 ?_
 refine PW.seq ?_
 refine zq2 (fun _ => OW.run [2]) ?_
 change PW _ _ _ _ _
 exact zq7
theorem base_Within_ok (N : Nat) (n : Int) (lo : Int) (hi : Int) (r : Bool) (H : base_Within N n lo hi = some r) : CallOK Tryz.prog 32 [(I n), (I lo), (I hi)] (.d (Bo r)) [] := by
 refine CallOK.of_PW Tryz.func32 rfl (by rw [Tryz.results32]) Tryz.ntmps32 Tryz.call32 ?_
 change PW _ _ _ _ _
 with_reducible refine zq0 ?_
 unfold base_Within at H
 refine PW.seq ?_
 refine zq2 (fun _ => OW.run [0, 1, 2]) ?_
 refine PW.seq ?_
 refine zq2 (fun _ => OW.run [6]) ?_
 change PW _ _ _ _ _
 exact zq7
theorem ref07_TickErr_ok (N : Nat) (n : Int) (r : Int) (H : ref07_TickErr N n = some r) : CallOK Tryz.prog 38 [(I n)] (.d (I r)) [] := by
 refine CallOK.of_PW Tryz.func38 rfl (by rw [Tryz.results38]) Tryz.ntmps38 Tryz.call38 ?_
 change PW _ _ _ _ _
 with_reducible refine zq0 ?_
 unfold ref07_TickErr at H
 refine PW.seq ?_
 refine zq2 (fun _ => OW.run [0]) ?_
 refine PW.seq ?_
 refine PW.seq ?_
 obtain ⟨x1, e1, H⟩ := bnd_some H
 refine PW.regionK fun K hK => zq8 (OW.run [5]) ?_
 refine OW.call' 4 rfl rfl rfl zq9 zqa (base_Within_ok N _ _ _ _ e1) zq5 zqb zqc ?_
 refine zq8 (OW.run [5]) ?_
 refine OW.nil (hK _ ?_)
 refine PW.cond rfl (fun h1 => ?_) (fun h1 => ?_)
 replace H := br_t h1 H
 refine PW.seq ?_
 refine zq2 (fun _ => OW.run [2]) ?_
 change PW _ _ _ _ _
 exact zq7
 replace H := br_f h1 H
 refine PW.skip ?_
 refine PW.seq ?_
 refine zq2 (fun _ => OW.run [2]) ?_
 change PW _ _ _ _ _
 exact zq7
end Go.Proofs.YtbndgoeahoadlaaGreatDoor
namespace Go.Proofs.YtbndgoeahoadlaaGreatDoor
open Go.PW Go.Sh

end Go.Proofs.YtbndgoeahoadlaaGreatDoor
