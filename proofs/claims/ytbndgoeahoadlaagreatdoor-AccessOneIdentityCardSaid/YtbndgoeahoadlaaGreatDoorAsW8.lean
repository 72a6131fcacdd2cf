import Derived.Test.YtbndgoeahoadlaaGreatDoorAsK
import Derived.Test.YtbndgoeahoadlaaGreatDoorAsS2
import Derived.Test.YtbndgoeahoadlaaGreatDoorAsW1
import Derived.Test.YtbndgoeahoadlaaGreatDoorAsW2
import Derived.Test.YtbndgoeahoadlaaGreatDoorAsW4
import Derived.Test.YtbndgoeahoadlaaGreatDoorZq
set_option linter.all false
namespace Go.Proofs.YtbndgoeahoadlaaGreatDoor
open Go.PW Go.Sh

set_option maxRecDepth 20000
set_option maxHeartbeats 8000000
theorem access_eventErr_ok (N : Nat) (Z15 : Int) (Z11 : Int) (Z18 : Int) (Z17 : Int) (Z16 : Int) (Z10 : Int) (Z13 : Int) (phones : Int) (Zl : Int) (Zj : Int) (Zm : Int) (Zn : Int) (Zo : Int) (Zk : Int) (r : Int) (H : access_eventErr N Z15 Z11 Z18 Z17 Z16 Z10 Z13 phones Zl Zj Zm Zn Zo Zk = some r) : CallOK Tryz.prog 87 [(.agg [(I Z15), (I Z11), (I Z18), (I Z17), (I Z16), (I Z10), (I Z13)]), (I phones), (.agg [(I Zl), (I Zj), (I Zm), (I Zn), (I Zo), (I Zk)])] (.d (I r)) [] := by
 refine CallOK.of_PW Tryz.func87 rfl (by rw [Tryz.results87]) Tryz.ntmps87 Tryz.call87 ?_
 change PW _ _ _ _ _
 with_reducible refine zq0 ?_
 unfold access_eventErr at H
 refine PW.seq ?_
 refine zq2 (fun _ => OW.run [1, 3, 5]) ?_
 refine PW.seq ?_
 refine PW.seq ?_
 obtain ⟨x1, e1, H⟩ := bnd_some H
 obtain ⟨x2, e2, H⟩ := bnd_some H
 obtain ⟨x3, e3, H⟩ := bnd_some H
 obtain ⟨x4, e4, H⟩ := bnd_some H
 refine PW.drawK 6 mixed (by kernel_rfl) fun K hK => ?_
 change FW _ _ _ _ _
 refine zq8 (FW.run) ?_
 refine FW.call' 4 rfl rfl rfl zq9 zqa (access_isKind_ok N _ _ e1) zq5 zqb zqc ?_
 refine zq8 (FW.run) ?_
 refine FW.call' 4 rfl rfl rfl zq9 zqa (access_unless_ok N _ _ _ e2) zq5 zqb zqc ?_
 refine zq8 (FW.run) ?_
 refine FW.nil ?_
 change OW _ _ _ _ _ _
 refine zq8 (OW.run [1, 3, 5, 7]) ?_
 refine OW.call' 4 rfl rfl rfl zq9 zqa (access_tickErr_ok N _ _ e3) zq5 zqb zqc ?_
 refine zq8 (OW.run [1, 3, 5, 7]) ?_
 refine OW.call' 4 rfl rfl rfl zq9 zqa (access_first_ok N _ _ e4) zq5 zqb zqc ?_
 refine zq8 (OW.run [1, 3, 5, 7]) ?_
 refine OW.nil (hK _ ?_); clear hK K
 refine PW.seq ?_
 refine zq2 (fun _ => OW.run [1, 3, 5, 7, 25]) ?_
 refine PW.cond rfl (fun h1 => ?_) (fun h1 => ?_)
 replace H := br_t h1 H
 refine PW.seq ?_
 refine zq2 (fun _ => OW.run [6]) ?_
 change PW _ _ _ _ _
 exact zq7
 replace H := br_f h1 H
 refine PW.skip ?_
 refine PW.seq ?_
 obtain ⟨hsp, H⟩ := chk_some H
 have hsp2 : Zl = 0 ∨ Zl = 1 ∨ Zl = 2 ∨ Zl = 3 ∨ Zl = 4 := by omega
 clear hsp
 rcases hsp2 with rfl | rfl | rfl | rfl | rfl
 replace H := br_t (by decide) H
 refine PW.regionK fun K hK => zq8 (OW.run [1, 3, 5, 8]) ?_
 refine OW.inlineA rfl rfl rfl zq9 Tryz.func122 rfl (by rw [Tryz.results122]) Tryz.ntmps122 Tryz.call122 zqc ?_
 intro p G
 change PW _ _ _ _ _
 with_reducible refine zq0 ?_
 refine PW.seq ?_
 refine zq2 (fun _ => OW.run [0, 2]) ?_
 refine PW.seq ?_
 refine zq2 (fun _ => OW.run [2]) ?_
 refine PW.ret ?_
 refine ⟨.inr rfl, rfl, rfl, ?_⟩
 with_reducible refine zq19 ?_
 change OW _ _ _ _ _ _
 refine zq8 (OW.run [1, 3, 5, 8]) ?_
 refine OW.nil (hK _ ?_); clear hK K
 refine PW.seq ?_
 refine zq2 (fun _ => OW.run [1, 3, 5, 8, 9]) ?_
 refine PW.joinS (τ := Unit) [1, 3, 5, 8, 9] 9 (fun _ => []) (fun _ => [{ cells := [.d (I Z15), .d (I Z11), .d (I Z18), .d (I Z17), .d (I Z16), .d (I Z10), .d (I Z13)], e := 23 }, { cells := [.d (I (0 : Int)), .d (I Zj), .d (I Zm), .d (I Zn), .d (I Zo), .d (I Zk)], e := 48 }, { cells := [.d (I x2), .d (I x3)], e := 26 }, { cells := [.d (Sx (⟨#[115, 101, 110, 100]⟩ : ByteArray)), .own 4 0 2 1, .d (.clo 147 [])], e := 179 }, { cells := [.d (I (0 : Int)), .d (I (1 : Int))], e := 181 }, { cells := [.d (I (1 : Int)), .d (I (2 : Int))], e := 181 }, { cells := [.d (I (3 : Int)), .d (I (0 : Int))], e := 181 }, { cells := [.d (I (0 : Int))], e := 181 }, { cells := [.d (I (0 : Int)), .d (I Zj), .d (I Zm), .d (I Zn), .d (I (0 : Int)), .d (I (0 : Int))], e := 48 }]) _ _ r zqd H ?_ ?_
 intro K_ H N2 hN2
 refine PW.seq ?_
 refine zq2 (fun _ => OW.run [1, 3, 5, 8, 9, 36, 37, 38]) ?_
 refine PW.block ?_
 refine PW.loopN 3 ?_
 refine PW.seq ?_
 refine zq2 (fun _ => OW.run [1, 3, 5, 8, 9, 36, 37, 38, 39]) ?_
 refine PW.seq ?_
 refine PW.cond rfl (fun h3 => ?_) (fun h3 => ?_)
 refine PW.skip ?_
 refine PW.seq ?_
 refine PW.block ?_
 refine PW.seq ?_
 obtain ⟨c4, H⟩ := chk_some H
 refine zq2 (fun _ => OW.run [1, 3, 5, 8, 9, 11, 36, 37, 38]) ?_
 refine PW.regionK fun K hK => zq8 (OW.run [1, 3, 5, 8, 9, 36, 37, 38]) ?_
 refine OW.inlineA rfl rfl rfl zq9 Tryz.func125 rfl zq1g Tryz.ntmps125 Tryz.call125 zqc ?_
 intro p G
 change PW _ _ _ _ _
 with_reducible refine zq0 ?_
 refine PW.seq ?_
 refine zq2 (fun _ => OW.run [0, 1]) ?_
 refine PW.seq ?_
 refine PW.drawK 14 mixed (by kernel_rfl) fun K hK => ?_
 change FW _ _ _ _ _
 refine zq8 (FW.run) ?_
 refine FW.nil ?_
 change OW _ _ _ _ _ _
 refine zq8 (OW.run [4]) ?_
 refine OW.nil (hK _ ?_); clear hK K
 refine PW.ret ?_
 refine ⟨.inr rfl, rfl, rfl, ?_⟩
 with_reducible refine zq19 ?_
 change OW _ _ _ _ _ _
 refine zq8 (OW.run [1, 3, 5, 8, 9, 36, 37, 38]) ?_
 refine OW.inlineA rfl rfl rfl zq9 Tryz.func125 rfl zq1g Tryz.ntmps125 Tryz.call125 zqc ?_
 intro p G
 change PW _ _ _ _ _
 with_reducible refine zq0 ?_
 refine PW.seq ?_
 refine zq2 (fun _ => OW.run [0, 1]) ?_
 refine PW.seq ?_
 refine PW.drawK 14 mixed (by kernel_rfl) fun K hK => ?_
 change FW _ _ _ _ _
 refine zq8 (FW.run) ?_
 refine FW.nil ?_
 change OW _ _ _ _ _ _
 refine zq8 (OW.run [4]) ?_
 refine OW.nil (hK _ ?_); clear hK K
 refine PW.ret ?_
 refine ⟨.inr rfl, rfl, rfl, ?_⟩
 with_reducible refine zq19 ?_
 change OW _ _ _ _ _ _
 refine zq8 (OW.run [1, 3, 5, 8, 9, 36, 37, 38]) ?_
 refine OW.nil (hK _ ?_); clear hK K
 change PW _ _ _ _ _
 refine zq2 (fun _ => OW.run [1, 3, 5, 8, 9, 36, 37, 38]) ?_
 refine PW.seq ?_
 refine zq2 (fun _ => OW.run [1, 3, 5, 8, 9, 36, 37, 38, 39]) ?_
 refine PW.seq ?_
 refine PW.cond rfl (fun h5 => ?_) (fun h5 => ?_)
 refine PW.skip ?_
 refine PW.seq ?_
 refine PW.block ?_
 refine PW.seq ?_
 obtain ⟨c6, H⟩ := chk_some H
 refine zq2 (fun _ => OW.run [1, 3, 5, 8, 9, 11, 36, 37, 38]) ?_
 refine PW.regionK fun K hK => zq8 (OW.run [1, 3, 5, 8, 9, 36, 37, 38]) ?_
 refine OW.inlineA rfl rfl rfl zq9 Tryz.func125 rfl zq1g Tryz.ntmps125 Tryz.call125 zqc ?_
 intro p G
 change PW _ _ _ _ _
 with_reducible refine zq0 ?_
 refine PW.seq ?_
 refine zq2 (fun _ => OW.run [0, 1]) ?_
 refine PW.seq ?_
 refine PW.drawK 14 mixed (by kernel_rfl) fun K hK => ?_
 change FW _ _ _ _ _
 refine zq8 (FW.run) ?_
 refine FW.nil ?_
 change OW _ _ _ _ _ _
 refine zq8 (OW.run [4]) ?_
 refine OW.nil (hK _ ?_); clear hK K
 refine PW.ret ?_
 refine ⟨.inr rfl, rfl, rfl, ?_⟩
 with_reducible refine zq19 ?_
 change OW _ _ _ _ _ _
 refine zq8 (OW.run [1, 3, 5, 8, 9, 36, 37, 38]) ?_
 refine OW.inlineA rfl rfl rfl zq9 Tryz.func125 rfl zq1g Tryz.ntmps125 Tryz.call125 zqc ?_
 intro p G
 change PW _ _ _ _ _
 with_reducible refine zq0 ?_
 refine PW.seq ?_
 refine zq2 (fun _ => OW.run [0, 1]) ?_
 refine PW.seq ?_
 refine PW.drawK 14 mixed (by kernel_rfl) fun K hK => ?_
 change FW _ _ _ _ _
 refine zq8 (FW.run) ?_
 refine FW.nil ?_
 change OW _ _ _ _ _ _
 refine zq8 (OW.run [4]) ?_
 refine OW.nil (hK _ ?_); clear hK K
 refine PW.ret ?_
 refine ⟨.inr rfl, rfl, rfl, ?_⟩
 with_reducible refine zq19 ?_
 change OW _ _ _ _ _ _
 refine zq8 (OW.run [1, 3, 5, 8, 9, 36, 37, 38]) ?_
 refine OW.nil (hK _ ?_); clear hK K
 change PW _ _ _ _ _
 refine zq2 (fun _ => OW.run [1, 3, 5, 8, 9, 36, 37, 38]) ?_
 refine PW.seq ?_
 refine zq2 (fun _ => OW.run [1, 3, 5, 8, 9, 36, 37, 38, 39]) ?_
 refine PW.seq ?_
 refine PW.cond rfl (fun h7 => ?_) (fun h7 => ?_)
 exact absurd h7 (by decide)
 refine PW.exit ?_
 refine hN2 [] () _ H zqf ?_
 exact zqe
 exact absurd h5 (by decide)
 exact absurd h3 (by decide)
 rintro _ H
 with_reducible refine zq0 ?_
 refine PW.seq ?_
 refine PW.seq ?_
 refine zq2 (fun _ => OW.run [1, 3, 5, 8, 52]) ?_
 refine PW.cond rfl (fun h8 => ?_) (fun h8 => ?_)
 replace H := br_t h8 H
 refine PW.seq ?_
 refine zq2 (fun _ => OW.run [6]) ?_
 change PW _ _ _ _ _
 exact zq7
 replace H := br_f h8 H
 refine PW.skip ?_
 refine PW.seq ?_
 refine zq2 (fun _ => OW.run [5, 8, 12]) ?_
 refine PW.joinS (τ := Unit) [5] 0 (fun _ => [(5, .d (.ref [(I (0 : Int)), (I Zj), (I Zm), (I Zn), (I Zo), (I Zk)]))]) (fun _ => []) _ _ r zqd H ?_ ?_
 intro K_1 H N9 hN9
 refine PW.seq ?_
 refine zq2 (fun _ => OW.run [5, 12, 59, 60, 61]) ?_
 refine PW.block ?_
 refine PW.loopN 3 ?_
 refine PW.seq ?_
 refine zq2 (fun _ => OW.run [5, 12, 59, 60, 61, 62]) ?_
 refine PW.seq ?_
 refine PW.cond rfl (fun h10 => ?_) (fun h10 => ?_)
 refine PW.skip ?_
 refine PW.seq ?_
 refine PW.block ?_
 refine PW.seq ?_
 obtain ⟨c11, H⟩ := chk_some H
 refine zq2 (fun _ => OW.run [5, 12, 14, 59, 60, 61]) ?_
 refine PW.seq ?_
 refine PW.frz 1 zqd zq1h ?_
 with_reducible refine zq1i ?_
 change PW _ _ _ _ _
 obtain ⟨x5, e5, H⟩ := bnd_some H
 obtain ⟨x6, e6, H⟩ := bnd_some H
 refine PW.drawK 11 mixed (by kernel_rfl) fun K hK => ?_
 change FW _ _ _ _ _
 refine zq8 (FW.run) ?_
 refine FW.callG' 4 rfl rfl ?_ (fun hg => zqg) (fun hg => zq9) (fun hg => ?_) (fun hg => (access_use_of_ok N _ _ _ _ _ _ _ _ (grd_t hg e5))) ?_ ?_ ?_ ?_
 exact zqh
 exact zqa
 exact zq5
 exact zqb
 exact zqc
 refine zq8 (FW.run) ?_
 refine FW.nil ?_
 change OW _ _ _ _ _ _
 refine zq8 (OW.run [5, 12, 59, 60, 61, 78]) ?_
 refine OW.callG' 4 rfl rfl ?_ (fun hg => zqg) (fun hg => zq9) (fun hg => ?_) (fun hg => (access_within_ok N _ _ _ _ (grd_t hg e6))) ?_ ?_ ?_ ?_
 exact zqh
 exact zqa
 exact zq5
 exact zqb
 exact zqc
 refine zq8 (OW.run [5, 12, 59, 60, 61, 78]) ?_
 refine OW.nil (hK _ ?_); clear hK K
 refine PW.cond rfl (fun h12 => ?_) (fun h12 => ?_)
 replace H := br_t h12 H
 refine PW.seq ?_
 refine zq2 (fun _ => OW.run [6]) ?_
 change PW _ _ _ _ _
 exact zq7
 replace H := br_f h12 H
 refine PW.skip ?_
 change PW _ _ _ _ _
 refine zq2 (fun _ => OW.run [5, 12, 59, 60, 61]) ?_
 refine PW.seq ?_
 refine zq2 (fun _ => OW.run [5, 12, 59, 60, 61, 62]) ?_
 refine PW.seq ?_
 refine PW.cond rfl (fun h13 => ?_) (fun h13 => ?_)
 refine PW.skip ?_
 refine PW.seq ?_
 refine PW.block ?_
 refine PW.seq ?_
 obtain ⟨c14, H⟩ := chk_some H
 refine zq2 (fun _ => OW.run [5, 12, 14, 59, 60, 61]) ?_
 refine PW.seq ?_
 obtain ⟨x7, e7, H⟩ := bnd_some H
 obtain ⟨x8, e8, H⟩ := bnd_some H
 refine PW.drawK 11 mixed (by kernel_rfl) fun K hK => ?_
 change FW _ _ _ _ _
 refine zq8 (FW.run) ?_
 refine FW.callG' 4 rfl rfl ?_ (fun hg => zqg) (fun hg => zq9) (fun hg => ?_) (fun hg => (access_use_of_ok N _ _ _ _ _ _ _ _ (grd_t hg e7))) ?_ ?_ ?_ ?_
 exact zqh
 exact zqa
 exact zq5
 exact zqb
 exact zqc
 refine zq8 (FW.run) ?_
 refine FW.nil ?_
 change OW _ _ _ _ _ _
 refine zq8 (OW.run [5, 12, 59, 60, 61, 78]) ?_
 refine OW.callG' 4 rfl rfl ?_ (fun hg => zqg) (fun hg => zq9) (fun hg => ?_) (fun hg => (access_within_ok N _ _ _ _ (grd_t hg e8))) ?_ ?_ ?_ ?_
 exact zqh
 exact zqa
 exact zq5
 exact zqb
 exact zqc
 refine zq8 (OW.run [5, 12, 59, 60, 61, 78]) ?_
 refine OW.nil (hK _ ?_); clear hK K
 refine PW.cond rfl (fun h15 => ?_) (fun h15 => ?_)
 replace H := br_t h15 H
 refine PW.seq ?_
 refine zq2 (fun _ => OW.run [6]) ?_
 change PW _ _ _ _ _
 exact zq7
 replace H := br_f h15 H
 refine PW.skip ?_
 change PW _ _ _ _ _
 refine zq2 (fun _ => OW.run [5, 12, 59, 60, 61]) ?_
 refine PW.seq ?_
 refine zq2 (fun _ => OW.run [5, 12, 59, 60, 61, 62]) ?_
 refine PW.seq ?_
 refine PW.cond rfl (fun h16 => ?_) (fun h16 => ?_)
 exact absurd h16 (by decide)
 refine PW.exit ?_
 refine hN9 [] () _ H zqf ?_
 exact zqe
 exact absurd h13 (by decide)
 exact absurd h10 (by decide)
 rintro _ H
 with_reducible refine zq0 ?_
 refine PW.seq ?_
 obtain ⟨x9, e9, H⟩ := bnd_some H
 obtain ⟨x10, e10, H⟩ := bnd_some H
 refine PW.regionK fun K hK => zq8 (OW.run [6]) ?_
 refine OW.call' 4 rfl rfl rfl zq9 zqa (access_within_ok N _ _ _ _ e9) zq5 zqb zqc ?_
 refine zq8 (OW.run [6]) ?_
 refine OW.call' 4 rfl rfl rfl zq9 zqa (access_unless_ok N _ _ _ e10) zq5 zqb zqc ?_
 refine zq8 (OW.run [6]) ?_
 refine OW.nil (hK _ ?_); clear hK K
 change PW _ _ _ _ _
 exact zq7
 replace H := br_f (by decide) H
 replace H := br_t (by decide) H
 refine PW.regionK fun K hK => zq8 (OW.run [1, 3, 5, 8]) ?_
 refine OW.inlineA rfl rfl rfl zq9 Tryz.func122 rfl (by rw [Tryz.results122]) Tryz.ntmps122 Tryz.call122 zqc ?_
 intro p G
 change PW _ _ _ _ _
 with_reducible refine zq0 ?_
 refine PW.seq ?_
 refine zq2 (fun _ => OW.run [0, 2]) ?_
 refine PW.seq ?_
 refine zq2 (fun _ => OW.run [2]) ?_
 refine PW.ret ?_
 refine ⟨.inr rfl, rfl, rfl, ?_⟩
 with_reducible refine zq19 ?_
 change OW _ _ _ _ _ _
 refine zq8 (OW.run [1, 3, 5, 8]) ?_
 refine OW.nil (hK _ ?_); clear hK K
 refine PW.seq ?_
 refine zq2 (fun _ => OW.run [1, 3, 5, 8, 9]) ?_
 refine PW.joinS (τ := Unit) [1, 3, 5, 8, 9] 9 (fun _ => []) (fun _ => [{ cells := [.d (I Z15), .d (I Z11), .d (I Z18), .d (I Z17), .d (I Z16), .d (I Z10), .d (I Z13)], e := 23 }, { cells := [.d (I (1 : Int)), .d (I Zj), .d (I Zm), .d (I Zn), .d (I Zo), .d (I Zk)], e := 48 }, { cells := [.d (I x2), .d (I x3)], e := 26 }, { cells := [.d (Sx (⟨#[97, 110, 115, 119, 101, 114]⟩ : ByteArray)), .own 5 0 2 1, .d (.clo 148 [])], e := 179 }, { cells := [.d (I (0 : Int)), .d (I (1 : Int))], e := 181 }, { cells := [.d (I (1 : Int)), .d (I (2 : Int))], e := 181 }, { cells := [.d (I (3 : Int)), .d (I (0 : Int))], e := 181 }, { cells := [.d (I (0 : Int))], e := 181 }, { cells := [.d (I (1 : Int)), .d (I Zj), .d (I (0 : Int)), .d (I Zn), .d (I Zo), .d (I (0 : Int))], e := 48 }]) _ _ r zqd H ?_ ?_
 intro K_2 H N17 hN17
 refine PW.seq ?_
 refine zq2 (fun _ => OW.run [1, 3, 5, 8, 9, 36, 37, 38]) ?_
 refine PW.block ?_
 refine PW.loopN 3 ?_
 refine PW.seq ?_
 refine zq2 (fun _ => OW.run [1, 3, 5, 8, 9, 36, 37, 38, 39]) ?_
 refine PW.seq ?_
 refine PW.cond rfl (fun h18 => ?_) (fun h18 => ?_)
 refine PW.skip ?_
 refine PW.seq ?_
 refine PW.block ?_
 refine PW.seq ?_
 obtain ⟨c19, H⟩ := chk_some H
 refine zq2 (fun _ => OW.run [1, 3, 5, 8, 9, 11, 36, 37, 38]) ?_
 refine PW.regionK fun K hK => zq8 (OW.run [1, 3, 5, 8, 9, 36, 37, 38]) ?_
 refine OW.inlineA rfl rfl rfl zq9 Tryz.func125 rfl zq1g Tryz.ntmps125 Tryz.call125 zqc ?_
 intro p G
 change PW _ _ _ _ _
 with_reducible refine zq0 ?_
 refine PW.seq ?_
 refine zq2 (fun _ => OW.run [0, 1]) ?_
 refine PW.seq ?_
 refine PW.drawK 14 mixed (by kernel_rfl) fun K hK => ?_
 change FW _ _ _ _ _
 refine zq8 (FW.run) ?_
 refine FW.nil ?_
 change OW _ _ _ _ _ _
 refine zq8 (OW.run [4]) ?_
 refine OW.nil (hK _ ?_); clear hK K
 refine PW.ret ?_
 refine ⟨.inr rfl, rfl, rfl, ?_⟩
 with_reducible refine zq19 ?_
 change OW _ _ _ _ _ _
 refine zq8 (OW.run [1, 3, 5, 8, 9, 36, 37, 38]) ?_
 refine OW.inlineA rfl rfl rfl zq9 Tryz.func125 rfl zq1g Tryz.ntmps125 Tryz.call125 zqc ?_
 intro p G
 change PW _ _ _ _ _
 with_reducible refine zq0 ?_
 refine PW.seq ?_
 refine zq2 (fun _ => OW.run [0, 1]) ?_
 refine PW.seq ?_
 refine PW.drawK 14 mixed (by kernel_rfl) fun K hK => ?_
 change FW _ _ _ _ _
 refine zq8 (FW.run) ?_
 refine FW.nil ?_
 change OW _ _ _ _ _ _
 refine zq8 (OW.run [4]) ?_
 refine OW.nil (hK _ ?_); clear hK K
 refine PW.ret ?_
 refine ⟨.inr rfl, rfl, rfl, ?_⟩
 with_reducible refine zq19 ?_
 change OW _ _ _ _ _ _
 refine zq8 (OW.run [1, 3, 5, 8, 9, 36, 37, 38]) ?_
 refine OW.nil (hK _ ?_); clear hK K
 change PW _ _ _ _ _
 refine zq2 (fun _ => OW.run [1, 3, 5, 8, 9, 36, 37, 38]) ?_
 refine PW.seq ?_
 refine zq2 (fun _ => OW.run [1, 3, 5, 8, 9, 36, 37, 38, 39]) ?_
 refine PW.seq ?_
 refine PW.cond rfl (fun h20 => ?_) (fun h20 => ?_)
 refine PW.skip ?_
 refine PW.seq ?_
 refine PW.block ?_
 refine PW.seq ?_
 obtain ⟨c21, H⟩ := chk_some H
 refine zq2 (fun _ => OW.run [1, 3, 5, 8, 9, 11, 36, 37, 38]) ?_
 refine PW.regionK fun K hK => zq8 (OW.run [1, 3, 5, 8, 9, 36, 37, 38]) ?_
 refine OW.inlineA rfl rfl rfl zq9 Tryz.func125 rfl zq1g Tryz.ntmps125 Tryz.call125 zqc ?_
 intro p G
 change PW _ _ _ _ _
 with_reducible refine zq0 ?_
 refine PW.seq ?_
 refine zq2 (fun _ => OW.run [0, 1]) ?_
 refine PW.seq ?_
 refine PW.drawK 14 mixed (by kernel_rfl) fun K hK => ?_
 change FW _ _ _ _ _
 refine zq8 (FW.run) ?_
 refine FW.nil ?_
 change OW _ _ _ _ _ _
 refine zq8 (OW.run [4]) ?_
 refine OW.nil (hK _ ?_); clear hK K
 refine PW.ret ?_
 refine ⟨.inr rfl, rfl, rfl, ?_⟩
 with_reducible refine zq19 ?_
 change OW _ _ _ _ _ _
 refine zq8 (OW.run [1, 3, 5, 8, 9, 36, 37, 38]) ?_
 refine OW.inlineA rfl rfl rfl zq9 Tryz.func125 rfl zq1g Tryz.ntmps125 Tryz.call125 zqc ?_
 intro p G
 change PW _ _ _ _ _
 with_reducible refine zq0 ?_
 refine PW.seq ?_
 refine zq2 (fun _ => OW.run [0, 1]) ?_
 refine PW.seq ?_
 refine PW.drawK 14 mixed (by kernel_rfl) fun K hK => ?_
 change FW _ _ _ _ _
 refine zq8 (FW.run) ?_
 refine FW.nil ?_
 change OW _ _ _ _ _ _
 refine zq8 (OW.run [4]) ?_
 refine OW.nil (hK _ ?_); clear hK K
 refine PW.ret ?_
 refine ⟨.inr rfl, rfl, rfl, ?_⟩
 with_reducible refine zq19 ?_
 change OW _ _ _ _ _ _
 refine zq8 (OW.run [1, 3, 5, 8, 9, 36, 37, 38]) ?_
 refine OW.nil (hK _ ?_); clear hK K
 change PW _ _ _ _ _
 refine zq2 (fun _ => OW.run [1, 3, 5, 8, 9, 36, 37, 38]) ?_
 refine PW.seq ?_
 refine zq2 (fun _ => OW.run [1, 3, 5, 8, 9, 36, 37, 38, 39]) ?_
 refine PW.seq ?_
 refine PW.cond rfl (fun h22 => ?_) (fun h22 => ?_)
 exact absurd h22 (by decide)
 refine PW.exit ?_
 refine hN17 [] () _ H zqf ?_
 exact zqe
 exact absurd h20 (by decide)
 exact absurd h18 (by decide)
 rintro _ H
 with_reducible refine zq0 ?_
 refine PW.seq ?_
 refine PW.seq ?_
 refine zq2 (fun _ => OW.run [1, 3, 5, 8, 52]) ?_
 refine PW.cond rfl (fun h23 => ?_) (fun h23 => ?_)
 replace H := br_t h23 H
 refine PW.seq ?_
 refine zq2 (fun _ => OW.run [6]) ?_
 change PW _ _ _ _ _
 exact zq7
 replace H := br_f h23 H
 refine PW.skip ?_
 refine PW.seq ?_
 refine zq2 (fun _ => OW.run [5, 8, 12]) ?_
 refine PW.joinS (τ := Unit) [5] 0 (fun _ => [(5, .d (.ref [(I (1 : Int)), (I Zj), (I Zm), (I Zn), (I Zo), (I Zk)]))]) (fun _ => []) _ _ r zqd H ?_ ?_
 intro K_3 H N24 hN24
 refine PW.seq ?_
 refine zq2 (fun _ => OW.run [5, 12, 59, 60, 61]) ?_
 refine PW.block ?_
 refine PW.loopN 3 ?_
 refine PW.seq ?_
 refine zq2 (fun _ => OW.run [5, 12, 59, 60, 61, 62]) ?_
 refine PW.seq ?_
 refine PW.cond rfl (fun h25 => ?_) (fun h25 => ?_)
 refine PW.skip ?_
 refine PW.seq ?_
 refine PW.block ?_
 refine PW.seq ?_
 obtain ⟨c26, H⟩ := chk_some H
 refine zq2 (fun _ => OW.run [5, 12, 14, 59, 60, 61]) ?_
 refine PW.seq ?_
 refine PW.frz 1 zqd zq1h ?_
 with_reducible refine zq1i ?_
 change PW _ _ _ _ _
 obtain ⟨x11, e11, H⟩ := bnd_some H
 obtain ⟨x12, e12, H⟩ := bnd_some H
 refine PW.drawK 11 mixed (by kernel_rfl) fun K hK => ?_
 change FW _ _ _ _ _
 refine zq8 (FW.run) ?_
 refine FW.callG' 4 rfl rfl ?_ (fun hg => zqg) (fun hg => zq9) (fun hg => ?_) (fun hg => (access_use_of_ok N _ _ _ _ _ _ _ _ (grd_t hg e11))) ?_ ?_ ?_ ?_
 exact zqh
 exact zqa
 exact zq5
 exact zqb
 exact zqc
 refine zq8 (FW.run) ?_
 refine FW.nil ?_
 change OW _ _ _ _ _ _
 refine zq8 (OW.run [5, 12, 59, 60, 61, 78]) ?_
 refine OW.callG' 4 rfl rfl ?_ (fun hg => zqg) (fun hg => zq9) (fun hg => ?_) (fun hg => (access_within_ok N _ _ _ _ (grd_t hg e12))) ?_ ?_ ?_ ?_
 exact zqh
 exact zqa
 exact zq5
 exact zqb
 exact zqc
 refine zq8 (OW.run [5, 12, 59, 60, 61, 78]) ?_
 refine OW.nil (hK _ ?_); clear hK K
 refine PW.cond rfl (fun h27 => ?_) (fun h27 => ?_)
 replace H := br_t h27 H
 refine PW.seq ?_
 refine zq2 (fun _ => OW.run [6]) ?_
 change PW _ _ _ _ _
 exact zq7
 replace H := br_f h27 H
 refine PW.skip ?_
 change PW _ _ _ _ _
 refine zq2 (fun _ => OW.run [5, 12, 59, 60, 61]) ?_
 refine PW.seq ?_
 refine zq2 (fun _ => OW.run [5, 12, 59, 60, 61, 62]) ?_
 refine PW.seq ?_
 refine PW.cond rfl (fun h28 => ?_) (fun h28 => ?_)
 refine PW.skip ?_
 refine PW.seq ?_
 refine PW.block ?_
 refine PW.seq ?_
 obtain ⟨c29, H⟩ := chk_some H
 refine zq2 (fun _ => OW.run [5, 12, 14, 59, 60, 61]) ?_
 refine PW.seq ?_
 obtain ⟨x13, e13, H⟩ := bnd_some H
 obtain ⟨x14, e14, H⟩ := bnd_some H
 refine PW.drawK 11 mixed (by kernel_rfl) fun K hK => ?_
 change FW _ _ _ _ _
 refine zq8 (FW.run) ?_
 refine FW.callG' 4 rfl rfl ?_ (fun hg => zqg) (fun hg => zq9) (fun hg => ?_) (fun hg => (access_use_of_ok N _ _ _ _ _ _ _ _ (grd_t hg e13))) ?_ ?_ ?_ ?_
 exact zqh
 exact zqa
 exact zq5
 exact zqb
 exact zqc
 refine zq8 (FW.run) ?_
 refine FW.nil ?_
 change OW _ _ _ _ _ _
 refine zq8 (OW.run [5, 12, 59, 60, 61, 78]) ?_
 refine OW.callG' 4 rfl rfl ?_ (fun hg => zqg) (fun hg => zq9) (fun hg => ?_) (fun hg => (access_within_ok N _ _ _ _ (grd_t hg e14))) ?_ ?_ ?_ ?_
 exact zqh
 exact zqa
 exact zq5
 exact zqb
 exact zqc
 refine zq8 (OW.run [5, 12, 59, 60, 61, 78]) ?_
 refine OW.nil (hK _ ?_); clear hK K
 refine PW.cond rfl (fun h30 => ?_) (fun h30 => ?_)
 replace H := br_t h30 H
 refine PW.seq ?_
 refine zq2 (fun _ => OW.run [6]) ?_
 change PW _ _ _ _ _
 exact zq7
 replace H := br_f h30 H
 refine PW.skip ?_
 change PW _ _ _ _ _
 refine zq2 (fun _ => OW.run [5, 12, 59, 60, 61]) ?_
 refine PW.seq ?_
 refine zq2 (fun _ => OW.run [5, 12, 59, 60, 61, 62]) ?_
 refine PW.seq ?_
 refine PW.cond rfl (fun h31 => ?_) (fun h31 => ?_)
 exact absurd h31 (by decide)
 refine PW.exit ?_
 refine hN24 [] () _ H zqf ?_
 exact zqe
 exact absurd h28 (by decide)
 exact absurd h25 (by decide)
 rintro _ H
 with_reducible refine zq0 ?_
 refine PW.seq ?_
 obtain ⟨x15, e15, H⟩ := bnd_some H
 obtain ⟨x16, e16, H⟩ := bnd_some H
 refine PW.regionK fun K hK => zq8 (OW.run [6]) ?_
 refine OW.call' 4 rfl rfl rfl zq9 zqa (access_within_ok N _ _ _ _ e15) zq5 zqb zqc ?_
 refine zq8 (OW.run [6]) ?_
 refine OW.call' 4 rfl rfl rfl zq9 zqa (access_unless_ok N _ _ _ e16) zq5 zqb zqc ?_
 refine zq8 (OW.run [6]) ?_
 refine OW.nil (hK _ ?_); clear hK K
 change PW _ _ _ _ _
 exact zq7
 replace H := br_f (by decide) H
 replace H := br_f (by decide) H
 replace H := br_t (by decide) H
 refine PW.regionK fun K hK => zq8 (OW.run [1, 3, 5, 8]) ?_
 refine OW.inlineA rfl rfl rfl zq9 Tryz.func122 rfl (by rw [Tryz.results122]) Tryz.ntmps122 Tryz.call122 zqc ?_
 intro p G
 change PW _ _ _ _ _
 with_reducible refine zq0 ?_
 refine PW.seq ?_
 refine zq2 (fun _ => OW.run [0, 2]) ?_
 refine PW.seq ?_
 refine zq2 (fun _ => OW.run [2]) ?_
 refine PW.ret ?_
 refine ⟨.inr rfl, rfl, rfl, ?_⟩
 with_reducible refine zq19 ?_
 change OW _ _ _ _ _ _
 refine zq8 (OW.run [1, 3, 5, 8]) ?_
 refine OW.nil (hK _ ?_); clear hK K
 refine PW.seq ?_
 refine zq2 (fun _ => OW.run [1, 3, 5, 8, 9]) ?_
 refine PW.joinS (τ := Unit) [1, 3, 5, 8, 9] 9 (fun _ => []) (fun _ => [{ cells := [.d (I Z15), .d (I Z11), .d (I Z18), .d (I Z17), .d (I Z16), .d (I Z10), .d (I Z13)], e := 23 }, { cells := [.d (I (2 : Int)), .d (I Zj), .d (I Zm), .d (I Zn), .d (I Zo), .d (I Zk)], e := 48 }, { cells := [.d (I x2), .d (I x3)], e := 26 }, { cells := [.d (Sx (⟨#[114, 101, 115, 111, 108, 118, 101]⟩ : ByteArray)), .own 6 0 2 1, .d (.clo 149 [])], e := 179 }, { cells := [.d (I (0 : Int)), .d (I (1 : Int))], e := 181 }, { cells := [.d (I (1 : Int)), .d (I (2 : Int))], e := 181 }, { cells := [.d (I (3 : Int)), .d (I (0 : Int))], e := 181 }, { cells := [.d (I (0 : Int))], e := 181 }, { cells := [.d (I (2 : Int)), .d (I Zj), .d (I Zm), .d (I (0 : Int)), .d (I (0 : Int)), .d (I Zk)], e := 48 }]) _ _ r zqd H ?_ ?_
 intro K_4 H N32 hN32
 refine PW.seq ?_
 refine zq2 (fun _ => OW.run [1, 3, 5, 8, 9, 36, 37, 38]) ?_
 refine PW.block ?_
 refine PW.loopN 3 ?_
 refine PW.seq ?_
 refine zq2 (fun _ => OW.run [1, 3, 5, 8, 9, 36, 37, 38, 39]) ?_
 refine PW.seq ?_
 refine PW.cond rfl (fun h33 => ?_) (fun h33 => ?_)
 refine PW.skip ?_
 refine PW.seq ?_
 refine PW.block ?_
 refine PW.seq ?_
 obtain ⟨c34, H⟩ := chk_some H
 refine zq2 (fun _ => OW.run [1, 3, 5, 8, 9, 11, 36, 37, 38]) ?_
 refine PW.regionK fun K hK => zq8 (OW.run [1, 3, 5, 8, 9, 36, 37, 38]) ?_
 refine OW.inlineA rfl rfl rfl zq9 Tryz.func125 rfl zq1g Tryz.ntmps125 Tryz.call125 zqc ?_
 intro p G
 change PW _ _ _ _ _
 with_reducible refine zq0 ?_
 refine PW.seq ?_
 refine zq2 (fun _ => OW.run [0, 1]) ?_
 refine PW.seq ?_
 refine PW.drawK 14 mixed (by kernel_rfl) fun K hK => ?_
 change FW _ _ _ _ _
 refine zq8 (FW.run) ?_
 refine FW.nil ?_
 change OW _ _ _ _ _ _
 refine zq8 (OW.run [4]) ?_
 refine OW.nil (hK _ ?_); clear hK K
 refine PW.ret ?_
 refine ⟨.inr rfl, rfl, rfl, ?_⟩
 with_reducible refine zq19 ?_
 change OW _ _ _ _ _ _
 refine zq8 (OW.run [1, 3, 5, 8, 9, 36, 37, 38]) ?_
 refine OW.inlineA rfl rfl rfl zq9 Tryz.func125 rfl zq1g Tryz.ntmps125 Tryz.call125 zqc ?_
 intro p G
 change PW _ _ _ _ _
 with_reducible refine zq0 ?_
 refine PW.seq ?_
 refine zq2 (fun _ => OW.run [0, 1]) ?_
 refine PW.seq ?_
 refine PW.drawK 14 mixed (by kernel_rfl) fun K hK => ?_
 change FW _ _ _ _ _
 refine zq8 (FW.run) ?_
 refine FW.nil ?_
 change OW _ _ _ _ _ _
 refine zq8 (OW.run [4]) ?_
 refine OW.nil (hK _ ?_); clear hK K
 refine PW.ret ?_
 refine ⟨.inr rfl, rfl, rfl, ?_⟩
 with_reducible refine zq19 ?_
 change OW _ _ _ _ _ _
 refine zq8 (OW.run [1, 3, 5, 8, 9, 36, 37, 38]) ?_
 refine OW.nil (hK _ ?_); clear hK K
 change PW _ _ _ _ _
 refine zq2 (fun _ => OW.run [1, 3, 5, 8, 9, 36, 37, 38]) ?_
 refine PW.seq ?_
 refine zq2 (fun _ => OW.run [1, 3, 5, 8, 9, 36, 37, 38, 39]) ?_
 refine PW.seq ?_
 refine PW.cond rfl (fun h35 => ?_) (fun h35 => ?_)
 refine PW.skip ?_
 refine PW.seq ?_
 refine PW.block ?_
 refine PW.seq ?_
 obtain ⟨c36, H⟩ := chk_some H
 refine zq2 (fun _ => OW.run [1, 3, 5, 8, 9, 11, 36, 37, 38]) ?_
 refine PW.regionK fun K hK => zq8 (OW.run [1, 3, 5, 8, 9, 36, 37, 38]) ?_
 refine OW.inlineA rfl rfl rfl zq9 Tryz.func125 rfl zq1g Tryz.ntmps125 Tryz.call125 zqc ?_
 intro p G
 change PW _ _ _ _ _
 with_reducible refine zq0 ?_
 refine PW.seq ?_
 refine zq2 (fun _ => OW.run [0, 1]) ?_
 refine PW.seq ?_
 refine PW.drawK 14 mixed (by kernel_rfl) fun K hK => ?_
 change FW _ _ _ _ _
 refine zq8 (FW.run) ?_
 refine FW.nil ?_
 change OW _ _ _ _ _ _
 refine zq8 (OW.run [4]) ?_
 refine OW.nil (hK _ ?_); clear hK K
 refine PW.ret ?_
 refine ⟨.inr rfl, rfl, rfl, ?_⟩
 with_reducible refine zq19 ?_
 change OW _ _ _ _ _ _
 refine zq8 (OW.run [1, 3, 5, 8, 9, 36, 37, 38]) ?_
 refine OW.inlineA rfl rfl rfl zq9 Tryz.func125 rfl zq1g Tryz.ntmps125 Tryz.call125 zqc ?_
 intro p G
 change PW _ _ _ _ _
 with_reducible refine zq0 ?_
 refine PW.seq ?_
 refine zq2 (fun _ => OW.run [0, 1]) ?_
 refine PW.seq ?_
 refine PW.drawK 14 mixed (by kernel_rfl) fun K hK => ?_
 change FW _ _ _ _ _
 refine zq8 (FW.run) ?_
 refine FW.nil ?_
 change OW _ _ _ _ _ _
 refine zq8 (OW.run [4]) ?_
 refine OW.nil (hK _ ?_); clear hK K
 refine PW.ret ?_
 refine ⟨.inr rfl, rfl, rfl, ?_⟩
 with_reducible refine zq19 ?_
 change OW _ _ _ _ _ _
 refine zq8 (OW.run [1, 3, 5, 8, 9, 36, 37, 38]) ?_
 refine OW.nil (hK _ ?_); clear hK K
 change PW _ _ _ _ _
 refine zq2 (fun _ => OW.run [1, 3, 5, 8, 9, 36, 37, 38]) ?_
 refine PW.seq ?_
 refine zq2 (fun _ => OW.run [1, 3, 5, 8, 9, 36, 37, 38, 39]) ?_
 refine PW.seq ?_
 refine PW.cond rfl (fun h37 => ?_) (fun h37 => ?_)
 exact absurd h37 (by decide)
 refine PW.exit ?_
 refine hN32 [] () _ H zqf ?_
 exact zqe
 exact absurd h35 (by decide)
 exact absurd h33 (by decide)
 rintro _ H
 with_reducible refine zq0 ?_
 refine PW.seq ?_
 refine PW.seq ?_
 refine zq2 (fun _ => OW.run [1, 3, 5, 8, 52]) ?_
 refine PW.cond rfl (fun h38 => ?_) (fun h38 => ?_)
 replace H := br_t h38 H
 refine PW.seq ?_
 refine zq2 (fun _ => OW.run [6]) ?_
 change PW _ _ _ _ _
 exact zq7
 replace H := br_f h38 H
 refine PW.skip ?_
 refine PW.seq ?_
 refine zq2 (fun _ => OW.run [5, 8, 12]) ?_
 refine PW.joinS (τ := Unit) [5] 0 (fun _ => [(5, .d (.ref [(I (2 : Int)), (I Zj), (I Zm), (I Zn), (I Zo), (I Zk)]))]) (fun _ => []) _ _ r zqd H ?_ ?_
 intro K_5 H N39 hN39
 refine PW.seq ?_
 refine zq2 (fun _ => OW.run [5, 12, 59, 60, 61]) ?_
 refine PW.block ?_
 refine PW.loopN 3 ?_
 refine PW.seq ?_
 refine zq2 (fun _ => OW.run [5, 12, 59, 60, 61, 62]) ?_
 refine PW.seq ?_
 refine PW.cond rfl (fun h40 => ?_) (fun h40 => ?_)
 refine PW.skip ?_
 refine PW.seq ?_
 refine PW.block ?_
 refine PW.seq ?_
 obtain ⟨c41, H⟩ := chk_some H
 refine zq2 (fun _ => OW.run [5, 12, 14, 59, 60, 61]) ?_
 refine PW.seq ?_
 refine PW.frz 1 zqd zq1h ?_
 with_reducible refine zq1i ?_
 change PW _ _ _ _ _
 obtain ⟨x17, e17, H⟩ := bnd_some H
 obtain ⟨x18, e18, H⟩ := bnd_some H
 refine PW.drawK 11 mixed (by kernel_rfl) fun K hK => ?_
 change FW _ _ _ _ _
 refine zq8 (FW.run) ?_
 refine FW.callG' 4 rfl rfl ?_ (fun hg => zqg) (fun hg => zq9) (fun hg => ?_) (fun hg => (access_use_of_ok N _ _ _ _ _ _ _ _ (grd_t hg e17))) ?_ ?_ ?_ ?_
 exact zqh
 exact zqa
 exact zq5
 exact zqb
 exact zqc
 refine zq8 (FW.run) ?_
 refine FW.nil ?_
 change OW _ _ _ _ _ _
 refine zq8 (OW.run [5, 12, 59, 60, 61, 78]) ?_
 refine OW.callG' 4 rfl rfl ?_ (fun hg => zqg) (fun hg => zq9) (fun hg => ?_) (fun hg => (access_within_ok N _ _ _ _ (grd_t hg e18))) ?_ ?_ ?_ ?_
 exact zqh
 exact zqa
 exact zq5
 exact zqb
 exact zqc
 refine zq8 (OW.run [5, 12, 59, 60, 61, 78]) ?_
 refine OW.nil (hK _ ?_); clear hK K
 refine PW.cond rfl (fun h42 => ?_) (fun h42 => ?_)
 replace H := br_t h42 H
 refine PW.seq ?_
 refine zq2 (fun _ => OW.run [6]) ?_
 change PW _ _ _ _ _
 exact zq7
 replace H := br_f h42 H
 refine PW.skip ?_
 change PW _ _ _ _ _
 refine zq2 (fun _ => OW.run [5, 12, 59, 60, 61]) ?_
 refine PW.seq ?_
 refine zq2 (fun _ => OW.run [5, 12, 59, 60, 61, 62]) ?_
 refine PW.seq ?_
 refine PW.cond rfl (fun h43 => ?_) (fun h43 => ?_)
 refine PW.skip ?_
 refine PW.seq ?_
 refine PW.block ?_
 refine PW.seq ?_
 obtain ⟨c44, H⟩ := chk_some H
 refine zq2 (fun _ => OW.run [5, 12, 14, 59, 60, 61]) ?_
 refine PW.seq ?_
 obtain ⟨x19, e19, H⟩ := bnd_some H
 obtain ⟨x20, e20, H⟩ := bnd_some H
 refine PW.drawK 11 mixed (by kernel_rfl) fun K hK => ?_
 change FW _ _ _ _ _
 refine zq8 (FW.run) ?_
 refine FW.callG' 4 rfl rfl ?_ (fun hg => zqg) (fun hg => zq9) (fun hg => ?_) (fun hg => (access_use_of_ok N _ _ _ _ _ _ _ _ (grd_t hg e19))) ?_ ?_ ?_ ?_
 exact zqh
 exact zqa
 exact zq5
 exact zqb
 exact zqc
 refine zq8 (FW.run) ?_
 refine FW.nil ?_
 change OW _ _ _ _ _ _
 refine zq8 (OW.run [5, 12, 59, 60, 61, 78]) ?_
 refine OW.callG' 4 rfl rfl ?_ (fun hg => zqg) (fun hg => zq9) (fun hg => ?_) (fun hg => (access_within_ok N _ _ _ _ (grd_t hg e20))) ?_ ?_ ?_ ?_
 exact zqh
 exact zqa
 exact zq5
 exact zqb
 exact zqc
 refine zq8 (OW.run [5, 12, 59, 60, 61, 78]) ?_
 refine OW.nil (hK _ ?_); clear hK K
 refine PW.cond rfl (fun h45 => ?_) (fun h45 => ?_)
 replace H := br_t h45 H
 refine PW.seq ?_
 refine zq2 (fun _ => OW.run [6]) ?_
 change PW _ _ _ _ _
 exact zq7
 replace H := br_f h45 H
 refine PW.skip ?_
 change PW _ _ _ _ _
 refine zq2 (fun _ => OW.run [5, 12, 59, 60, 61]) ?_
 refine PW.seq ?_
 refine zq2 (fun _ => OW.run [5, 12, 59, 60, 61, 62]) ?_
 refine PW.seq ?_
 refine PW.cond rfl (fun h46 => ?_) (fun h46 => ?_)
 exact absurd h46 (by decide)
 refine PW.exit ?_
 refine hN39 [] () _ H zqf ?_
 exact zqe
 exact absurd h43 (by decide)
 exact absurd h40 (by decide)
 rintro _ H
 with_reducible refine zq0 ?_
 refine PW.seq ?_
 obtain ⟨x21, e21, H⟩ := bnd_some H
 obtain ⟨x22, e22, H⟩ := bnd_some H
 refine PW.regionK fun K hK => zq8 (OW.run [6]) ?_
 refine OW.call' 4 rfl rfl rfl zq9 zqa (access_within_ok N _ _ _ _ e21) zq5 zqb zqc ?_
 refine zq8 (OW.run [6]) ?_
 refine OW.call' 4 rfl rfl rfl zq9 zqa (access_unless_ok N _ _ _ e22) zq5 zqb zqc ?_
 refine zq8 (OW.run [6]) ?_
 refine OW.nil (hK _ ?_); clear hK K
 change PW _ _ _ _ _
 exact zq7
 replace H := br_f (by decide) H
 replace H := br_f (by decide) H
 replace H := br_f (by decide) H
 replace H := br_t (by decide) H
 refine PW.regionK fun K hK => zq8 (OW.run [1, 3, 5, 8]) ?_
 refine OW.inlineA rfl rfl rfl zq9 Tryz.func122 rfl (by rw [Tryz.results122]) Tryz.ntmps122 Tryz.call122 zqc ?_
 intro p G
 change PW _ _ _ _ _
 with_reducible refine zq0 ?_
 refine PW.seq ?_
 refine zq2 (fun _ => OW.run [0, 2]) ?_
 refine PW.seq ?_
 refine zq2 (fun _ => OW.run [2]) ?_
 refine PW.ret ?_
 refine ⟨.inr rfl, rfl, rfl, ?_⟩
 with_reducible refine zq19 ?_
 change OW _ _ _ _ _ _
 refine zq8 (OW.run [1, 3, 5, 8]) ?_
 refine OW.nil (hK _ ?_); clear hK K
 refine PW.seq ?_
 refine zq2 (fun _ => OW.run [1, 3, 5, 8, 9]) ?_
 refine PW.joinS (τ := Unit) [1, 3, 5, 8, 9] 9 (fun _ => []) (fun _ => [{ cells := [.d (I Z15), .d (I Z11), .d (I Z18), .d (I Z17), .d (I Z16), .d (I Z10), .d (I Z13)], e := 23 }, { cells := [.d (I (3 : Int)), .d (I Zj), .d (I Zm), .d (I Zn), .d (I Zo), .d (I Zk)], e := 48 }, { cells := [.d (I x2), .d (I x3)], e := 26 }, { cells := [.d (Sx (⟨#[114, 101, 108, 101, 97, 115, 101]⟩ : ByteArray)), .own 7 0 1 1, .d (.clo 150 [])], e := 179 }, { cells := [.d (I (0 : Int)), .d (I (1 : Int))], e := 181 }, { cells := [.d (I (1 : Int)), .d (I (2 : Int))], e := 181 }, { cells := [.d (I (3 : Int)), .d (I (0 : Int))], e := 181 }, { cells := [.d (I (0 : Int))], e := 181 }, { cells := [.d (I (3 : Int)), .d (I Zj), .d (I Zm), .d (I (0 : Int)), .d (I (0 : Int)), .d (I (0 : Int))], e := 48 }]) _ _ r zqd H ?_ ?_
 intro K_6 H N47 hN47
 refine PW.seq ?_
 refine zq2 (fun _ => OW.run [1, 3, 5, 8, 9, 36, 37, 38]) ?_
 refine PW.block ?_
 refine PW.loopN 2 ?_
 refine PW.seq ?_
 refine zq2 (fun _ => OW.run [1, 3, 5, 8, 9, 36, 37, 38, 39]) ?_
 refine PW.seq ?_
 refine PW.cond rfl (fun h48 => ?_) (fun h48 => ?_)
 refine PW.skip ?_
 refine PW.seq ?_
 refine PW.block ?_
 refine PW.seq ?_
 obtain ⟨c49, H⟩ := chk_some H
 refine zq2 (fun _ => OW.run [1, 3, 5, 8, 9, 11, 36, 37, 38]) ?_
 refine PW.regionK fun K hK => zq8 (OW.run [1, 3, 5, 8, 9, 36, 37, 38]) ?_
 refine OW.inlineA rfl rfl rfl zq9 Tryz.func125 rfl zq1g Tryz.ntmps125 Tryz.call125 zqc ?_
 intro p G
 change PW _ _ _ _ _
 with_reducible refine zq0 ?_
 refine PW.seq ?_
 refine zq2 (fun _ => OW.run [0, 1]) ?_
 refine PW.seq ?_
 refine PW.drawK 14 mixed (by kernel_rfl) fun K hK => ?_
 change FW _ _ _ _ _
 refine zq8 (FW.run) ?_
 refine FW.nil ?_
 change OW _ _ _ _ _ _
 refine zq8 (OW.run [4]) ?_
 refine OW.nil (hK _ ?_); clear hK K
 refine PW.ret ?_
 refine ⟨.inr rfl, rfl, rfl, ?_⟩
 with_reducible refine zq19 ?_
 change OW _ _ _ _ _ _
 refine zq8 (OW.run [1, 3, 5, 8, 9, 36, 37, 38]) ?_
 refine OW.inlineA rfl rfl rfl zq9 Tryz.func125 rfl zq1g Tryz.ntmps125 Tryz.call125 zqc ?_
 intro p G
 change PW _ _ _ _ _
 with_reducible refine zq0 ?_
 refine PW.seq ?_
 refine zq2 (fun _ => OW.run [0, 1]) ?_
 refine PW.seq ?_
 refine PW.drawK 14 mixed (by kernel_rfl) fun K hK => ?_
 change FW _ _ _ _ _
 refine zq8 (FW.run) ?_
 refine FW.nil ?_
 change OW _ _ _ _ _ _
 refine zq8 (OW.run [4]) ?_
 refine OW.nil (hK _ ?_); clear hK K
 refine PW.ret ?_
 refine ⟨.inr rfl, rfl, rfl, ?_⟩
 with_reducible refine zq19 ?_
 change OW _ _ _ _ _ _
 refine zq8 (OW.run [1, 3, 5, 8, 9, 36, 37, 38]) ?_
 refine OW.nil (hK _ ?_); clear hK K
 change PW _ _ _ _ _
 refine zq2 (fun _ => OW.run [1, 3, 5, 8, 9, 36, 37, 38]) ?_
 refine PW.seq ?_
 refine zq2 (fun _ => OW.run [1, 3, 5, 8, 9, 36, 37, 38, 39]) ?_
 refine PW.seq ?_
 refine PW.cond rfl (fun h50 => ?_) (fun h50 => ?_)
 exact absurd h50 (by decide)
 refine PW.exit ?_
 refine hN47 [] () _ H zqf ?_
 exact zqe
 exact absurd h48 (by decide)
 rintro _ H
 with_reducible refine zq0 ?_
 refine PW.seq ?_
 refine PW.seq ?_
 refine zq2 (fun _ => OW.run [1, 3, 5, 8, 52]) ?_
 refine PW.cond rfl (fun h51 => ?_) (fun h51 => ?_)
 replace H := br_t h51 H
 refine PW.seq ?_
 refine zq2 (fun _ => OW.run [6]) ?_
 change PW _ _ _ _ _
 exact zq7
 replace H := br_f h51 H
 refine PW.skip ?_
 refine PW.seq ?_
 refine zq2 (fun _ => OW.run [5, 8, 12]) ?_
 refine PW.joinS (τ := Unit) [5] 0 (fun _ => [(5, .d (.ref [(I (3 : Int)), (I Zj), (I Zm), (I Zn), (I Zo), (I Zk)]))]) (fun _ => []) _ _ r zqd H ?_ ?_
 intro K_7 H N52 hN52
 refine PW.seq ?_
 refine zq2 (fun _ => OW.run [5, 12, 59, 60, 61]) ?_
 refine PW.block ?_
 refine PW.loopN 2 ?_
 refine PW.seq ?_
 refine zq2 (fun _ => OW.run [5, 12, 59, 60, 61, 62]) ?_
 refine PW.seq ?_
 refine PW.cond rfl (fun h53 => ?_) (fun h53 => ?_)
 refine PW.skip ?_
 refine PW.seq ?_
 refine PW.block ?_
 refine PW.seq ?_
 obtain ⟨c54, H⟩ := chk_some H
 refine zq2 (fun _ => OW.run [5, 12, 14, 59, 60, 61]) ?_
 refine PW.seq ?_
 refine PW.frz 1 zqd zq1h ?_
 with_reducible refine zq1i ?_
 change PW _ _ _ _ _
 obtain ⟨x23, e23, H⟩ := bnd_some H
 obtain ⟨x24, e24, H⟩ := bnd_some H
 refine PW.drawK 11 mixed (by kernel_rfl) fun K hK => ?_
 change FW _ _ _ _ _
 refine zq8 (FW.run) ?_
 refine FW.callG' 4 rfl rfl ?_ (fun hg => zqg) (fun hg => zq9) (fun hg => ?_) (fun hg => (access_use_of_ok N _ _ _ _ _ _ _ _ (grd_t hg e23))) ?_ ?_ ?_ ?_
 exact zqh
 exact zqa
 exact zq5
 exact zqb
 exact zqc
 refine zq8 (FW.run) ?_
 refine FW.nil ?_
 change OW _ _ _ _ _ _
 refine zq8 (OW.run [5, 12, 59, 60, 61, 78]) ?_
 refine OW.callG' 4 rfl rfl ?_ (fun hg => zqg) (fun hg => zq9) (fun hg => ?_) (fun hg => (access_within_ok N _ _ _ _ (grd_t hg e24))) ?_ ?_ ?_ ?_
 exact zqh
 exact zqa
 exact zq5
 exact zqb
 exact zqc
 refine zq8 (OW.run [5, 12, 59, 60, 61, 78]) ?_
 refine OW.nil (hK _ ?_); clear hK K
 refine PW.cond rfl (fun h55 => ?_) (fun h55 => ?_)
 replace H := br_t h55 H
 refine PW.seq ?_
 refine zq2 (fun _ => OW.run [6]) ?_
 change PW _ _ _ _ _
 exact zq7
 replace H := br_f h55 H
 refine PW.skip ?_
 change PW _ _ _ _ _
 refine zq2 (fun _ => OW.run [5, 12, 59, 60, 61]) ?_
 refine PW.seq ?_
 refine zq2 (fun _ => OW.run [5, 12, 59, 60, 61, 62]) ?_
 refine PW.seq ?_
 refine PW.cond rfl (fun h56 => ?_) (fun h56 => ?_)
 exact absurd h56 (by decide)
 refine PW.exit ?_
 refine hN52 [] () _ H zqf ?_
 exact zqe
 exact absurd h53 (by decide)
 rintro _ H
 with_reducible refine zq0 ?_
 refine PW.seq ?_
 obtain ⟨x25, e25, H⟩ := bnd_some H
 obtain ⟨x26, e26, H⟩ := bnd_some H
 refine PW.regionK fun K hK => zq8 (OW.run [6]) ?_
 refine OW.call' 4 rfl rfl rfl zq9 zqa (access_within_ok N _ _ _ _ e25) zq5 zqb zqc ?_
 refine zq8 (OW.run [6]) ?_
 refine OW.call' 4 rfl rfl rfl zq9 zqa (access_unless_ok N _ _ _ e26) zq5 zqb zqc ?_
 refine zq8 (OW.run [6]) ?_
 refine OW.nil (hK _ ?_); clear hK K
 change PW _ _ _ _ _
 exact zq7
 replace H := br_f (by decide) H
 replace H := br_f (by decide) H
 replace H := br_f (by decide) H
 replace H := br_f (by decide) H
 replace H := br_t (by decide) H
 refine PW.regionK fun K hK => zq8 (OW.run [1, 3, 5, 8]) ?_
 refine OW.inlineA rfl rfl rfl zq9 Tryz.func122 rfl (by rw [Tryz.results122]) Tryz.ntmps122 Tryz.call122 zqc ?_
 intro p G
 change PW _ _ _ _ _
 with_reducible refine zq0 ?_
 refine PW.seq ?_
 refine zq2 (fun _ => OW.run [0, 2]) ?_
 refine PW.seq ?_
 refine zq2 (fun _ => OW.run [2]) ?_
 refine PW.ret ?_
 refine ⟨.inr rfl, rfl, rfl, ?_⟩
 with_reducible refine zq19 ?_
 change OW _ _ _ _ _ _
 refine zq8 (OW.run [1, 3, 5, 8]) ?_
 refine OW.nil (hK _ ?_); clear hK K
 refine PW.seq ?_
 refine zq2 (fun _ => OW.run [1, 3, 5, 8, 9]) ?_
 refine PW.joinS (τ := Unit) [1, 3, 5, 8, 9] 9 (fun _ => []) (fun _ => [{ cells := [.d (I Z15), .d (I Z11), .d (I Z18), .d (I Z17), .d (I Z16), .d (I Z10), .d (I Z13)], e := 23 }, { cells := [.d (I (4 : Int)), .d (I Zj), .d (I Zm), .d (I Zn), .d (I Zo), .d (I Zk)], e := 48 }, { cells := [.d (I x2), .d (I x3)], e := 26 }, { cells := [.d (Sx (⟨#[112, 97, 115, 115]⟩ : ByteArray)), .d (.val (.slice none 0 0)), .d (.clo 151 [])], e := 179 }, { cells := [.d (I (0 : Int)), .d (I (1 : Int))], e := 181 }, { cells := [.d (I (1 : Int)), .d (I (2 : Int))], e := 181 }, { cells := [.d (I (3 : Int)), .d (I (0 : Int))], e := 181 }, { cells := [.d (I (0 : Int))], e := 181 }, { cells := [.d (I (4 : Int)), .d (I Zj), .d (I (0 : Int)), .d (I (0 : Int)), .d (I (0 : Int)), .d (I (0 : Int))], e := 48 }]) _ _ r zqd H ?_ ?_
 intro K_8 H N57 hN57
 refine PW.seq ?_
 refine zq2 (fun _ => OW.run [1, 3, 5, 8, 9, 36, 37, 38]) ?_
 refine PW.block ?_
 refine PW.loopN 1 ?_
 refine PW.seq ?_
 refine zq2 (fun _ => OW.run [1, 3, 5, 8, 9, 36, 37, 38, 39]) ?_
 refine PW.seq ?_
 refine PW.cond rfl (fun h58 => ?_) (fun h58 => ?_)
 exact absurd h58 (by decide)
 refine PW.exit ?_
 refine hN57 [] () _ H zqf ?_
 exact zqe
 rintro _ H
 with_reducible refine zq0 ?_
 refine PW.seq ?_
 refine PW.seq ?_
 refine zq2 (fun _ => OW.run [1, 3, 5, 8, 52]) ?_
 refine PW.cond rfl (fun h59 => ?_) (fun h59 => ?_)
 replace H := br_t h59 H
 refine PW.seq ?_
 refine zq2 (fun _ => OW.run [6]) ?_
 change PW _ _ _ _ _
 exact zq7
 replace H := br_f h59 H
 refine PW.skip ?_
 refine PW.seq ?_
 refine zq2 (fun _ => OW.run [5, 8, 12]) ?_
 refine PW.joinS (τ := Unit) [5] 2 (fun _ => []) (fun _ => [{ cells := [.d (I Z15), .d (I Z11), .d (I Z18), .d (I Z17), .d (I Z16), .d (I Z10), .d (I Z13)], e := 23 }, { cells := [.d (I (4 : Int)), .d (I Zj), .d (I Zm), .d (I Zn), .d (I Zo), .d (I Zk)], e := 48 }]) _ _ r zqd H ?_ ?_
 intro K_9 H N60 hN60
 refine PW.seq ?_
 refine zq2 (fun _ => OW.run [5, 12, 59, 60, 61]) ?_
 refine PW.block ?_
 refine PW.loopN 1 ?_
 refine PW.seq ?_
 refine zq2 (fun _ => OW.run [5, 12, 59, 60, 61, 62]) ?_
 refine PW.seq ?_
 refine PW.cond rfl (fun h61 => ?_) (fun h61 => ?_)
 exact absurd h61 (by decide)
 refine PW.exit ?_
 refine hN60 [] () _ H zqf ?_
 exact zqe
 rintro _ H
 with_reducible refine zq0 ?_
 refine PW.seq ?_
 obtain ⟨x27, e27, H⟩ := bnd_some H
 obtain ⟨x28, e28, H⟩ := bnd_some H
 refine PW.regionK fun K hK => zq8 (OW.run [6]) ?_
 refine OW.call' 4 rfl rfl rfl zq9 zqa (access_within_ok N _ _ _ _ e27) zq5 zqb zqc ?_
 refine zq8 (OW.run [6]) ?_
 refine OW.call' 4 rfl rfl rfl zq9 zqa (access_unless_ok N _ _ _ e28) zq5 zqb zqc ?_
 refine zq8 (OW.run [6]) ?_
 refine OW.nil (hK _ ?_); clear hK K
 change PW _ _ _ _ _
 exact zq7
end Go.Proofs.YtbndgoeahoadlaaGreatDoor
