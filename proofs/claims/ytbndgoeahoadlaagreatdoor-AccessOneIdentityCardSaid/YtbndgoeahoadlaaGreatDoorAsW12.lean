import Derived.Test.YtbndgoeahoadlaaGreatDoorAsK
import Derived.Test.YtbndgoeahoadlaaGreatDoorAsS3
import Derived.Test.YtbndgoeahoadlaaGreatDoorAsW1
import Derived.Test.YtbndgoeahoadlaaGreatDoorAsW2
import Derived.Test.YtbndgoeahoadlaaGreatDoorAsW3
import Derived.Test.YtbndgoeahoadlaaGreatDoorAsW4
import Derived.Test.YtbndgoeahoadlaaGreatDoorAsW8
import Derived.Test.YtbndgoeahoadlaaGreatDoorAsW11
import Derived.Test.YtbndgoeahoadlaaGreatDoorZq
set_option linter.all false
namespace Go.Proofs.YtbndgoeahoadlaaGreatDoor
open Go.PW Go.Sh

set_option maxRecDepth 20000
set_option maxHeartbeats 8000000
theorem access_Apply_ok (N : Nat) (Z15 : Int) (Z11 : Int) (Z18 : Int) (Z17 : Int) (Z16 : Int) (Z10 : Int) (Z13 : Int) (Z1t : Int) (Z26 : List (Int × Int × Int × Int × Int × Int × Int)) (Zl : Int) (Zj : Int) (Zm : Int) (Zn : Int) (Zo : Int) (Zk : Int) (r : Int × (List (Int × Int × Int × Int × Int × Int × Int)) × Int) (H : access_Apply N Z15 Z11 Z18 Z17 Z16 Z10 Z13 Z1t Z26 Zl Zj Zm Zn Zo Zk = some r) : CallOK Tryz.prog 34 [(.agg [(I Z15), (I Z11), (I Z18), (I Z17), (I Z16), (I Z10), (I Z13)]), (.agg [(I Z1t), (.list Z26.length (Z26.flatMap (fun (x : Int × Int × Int × Int × Int × Int × Int) => [(I x.1), (I x.2.1), (I x.2.2.1), (I x.2.2.2.1), (I x.2.2.2.2.1), (I x.2.2.2.2.2.1), (I x.2.2.2.2.2.2)])))]), (.agg [(I Zl), (I Zj), (I Zm), (I Zn), (I Zo), (I Zk)])] (.d (.tup [(.agg [(I r.1), (.list r.2.1.length (r.2.1.flatMap (fun (x : Int × Int × Int × Int × Int × Int × Int) => [(I x.1), (I x.2.1), (I x.2.2.1), (I x.2.2.2.1), (I x.2.2.2.2.1), (I x.2.2.2.2.2.1), (I x.2.2.2.2.2.2)])))]), (I r.2.2)])) [] := by
 refine CallOK.of_PW Tryz.func34 rfl (by rw [Tryz.results34]) Tryz.ntmps34 Tryz.call34 ?_
 change PW _ _ _ _ _
 with_reducible refine zq0 ?_
 unfold access_Apply at H
 refine PW.seq ?_
 refine zq2 (fun _ => OW.run [3, 4, 5, 6]) ?_
 refine PW.seq ?_
 refine PW.regionK fun K hK => zq8 (OW.run [5, 6, 8, 9]) ?_
 refine OW.inlineA rfl rfl rfl zq9 Tryz.func86 rfl (by rw [Tryz.results86]) Tryz.ntmps86 Tryz.call86 zqc ?_
 intro p G
 change PW _ _ _ _ _
 with_reducible refine zq0 ?_
 refine PW.seq ?_
 refine zq2 (fun _ => OW.run [2, 3]) ?_
 refine PW.seq ?_
 refine PW.seq ?_
 obtain ⟨x1, e1, H⟩ := bnd_some H
 obtain ⟨x2, e2, H⟩ := bnd_some H
 obtain ⟨x3, e3, H⟩ := bnd_some H
 obtain ⟨x4, e4, H⟩ := bnd_some H
 refine PW.drawK 8 mixed (by kernel_rfl) fun K hK => ?_
 change FW _ _ _ _ _
 refine zq8 (FW.run) ?_
 refine FW.call' 4 rfl rfl rfl zq9 zqa (access_CheckRules_ok N _ _ _ _ _ _ _ _ e1) zq5 zqb zqc ?_
 refine zq8 (FW.run) ?_
 refine FW.call' 4 rfl rfl rfl zq9 zqa (access_tickErr_ok N _ _ e2) zq5 zqb zqc ?_
 refine zq8 (FW.run) ?_
 refine FW.nil ?_
 change OW _ _ _ _ _ _
 refine zq8 (OW.run [2, 3, 6]) ?_
 refine OW.call' 4 rfl rfl rfl zq9 zqa (access_phonesErr_ok N _ _ e3) zq5 zqb zqc ?_
 refine zq8 (OW.run [2, 3, 6]) ?_
 refine OW.call' 4 rfl rfl rfl zq9 zqa (access_first_ok N _ _ e4) zq5 zqb zqc ?_
 refine zq8 (OW.run [2, 3, 6]) ?_
 refine OW.nil (hK _ ?_); clear hK K
 refine PW.seq ?_
 refine zq2 (fun _ => OW.run [2, 3, 6, 22]) ?_
 refine PW.cond rfl (fun h1 => ?_) (fun h1 => ?_)
 replace H := br_t h1 H
 refine PW.seq ?_
 refine zq2 (fun _ => OW.run [4, 5]) ?_
 refine PW.ret ?_
 refine ⟨.inr rfl, rfl, rfl, ?_⟩
 with_reducible refine zq19 ?_
 change OW _ _ _ _ _ _
 refine zq8 (OW.run [5, 6, 8, 9]) ?_
 refine OW.nil (hK _ ?_); clear hK K
 refine PW.seq ?_
 refine PW.seq ?_
 refine zq2 (fun _ => OW.run [5, 6, 8, 9, 17]) ?_
 refine PW.cond rfl (fun h2 => ?_) (fun h2 => ?_)
 refine PW.seq ?_
 refine zq2 (fun _ => OW.run [6, 7]) ?_
 change PW _ _ _ _ _
 exact zq7
 exact absurd (h2.symm.trans h1) (by decide)
 replace H := br_f h1 H
 refine PW.skip ?_
 refine PW.seq ?_
 obtain ⟨x5, e5, H⟩ := bnd_some H
 refine PW.drawO 6 [5] [71] mixed (by kernel_rfl) (by decide) rfl fun K hK => ?_
 refine zq8 (FWO.run) ?_
 refine FWO.callO 4 rfl ?_ zqd rfl rfl rfl zq9 ?_ (slices_Clone_pp_ok N _ _ e5) ?_ ?_ ?_ ?_
 rfl
 exact zqa
 exact zq5
 exact zq1b
 exact zqc
 refine zq8 (FWO.run) ?_
 first | refine FWO.nil ?_ | skip
 change OW _ _ _ _ _ _
 refine zq8 (OW.run [7]) ?_
 refine OW.nil (hK _ ?_); clear hK K
 refine PW.joinS (τ := Unit) [7] 9 (fun _ => []) (fun _ => [{ cells := [.d (I Z15), .d (I Z11), .d (I Z18), .d (I Z17), .d (I Z16), .d (I Z10), .d (I Z13)], e := 23 }, { cells := [.d (I Z1t), .d (.list Z26.length (Z26.flatMap (fun (x : Int × Int × Int × Int × Int × Int × Int) => [(I x.1), (I x.2.1), (I x.2.2.1), (I x.2.2.2.1), (I x.2.2.2.2.1), (I x.2.2.2.2.2.1), (I x.2.2.2.2.2.2)])))], e := 30 }, { cells := [.d (I Zl), .d (I Zj), .d (I Zm), .d (I Zn), .d (I Zo), .d (I Zk)], e := 48 }, { cells := [.d (I (0 : Int)), .d (.val (.slice none 0 0))], e := 30 }, { cells := [.d (I Z15), .d (I Z11), .d (I Z18), .d (I Z17), .d (I Z16), .d (I Z10), .d (I Z13)], e := 23 }, { cells := [.d (I Z1t), .d (.list Z26.length (Z26.flatMap (fun (x : Int × Int × Int × Int × Int × Int × Int) => [(I x.1), (I x.2.1), (I x.2.2.1), (I x.2.2.2.1), (I x.2.2.2.2.1), (I x.2.2.2.2.2.1), (I x.2.2.2.2.2.2)])))], e := 30 }, { cells := [.d (I x1), .d (I x2), .d (I x3)], e := 26 }, { cells := (x5.flatMap (fun (x : Int × Int × Int × Int × Int × Int × Int) => [(I x.1), (I x.2.1), (I x.2.2.1), (I x.2.2.2.1), (I x.2.2.2.2.1), (I x.2.2.2.2.2.1), (I x.2.2.2.2.2.2)])).map .d, e := 71 }, { cells := [.d (I Z15), .d (I Z11), .d (I Z18), .d (I Z17), .d (I Z16), .d (I Z10), .d (I Z13), .d (I Z1t), .own 7 0 x5.length 7], e := 142 }]) _ _ r zqd H ?_ ?_
 intro K_ H N3 hN3
 refine PW.seq ?_
 refine zq2 (fun _ => OW.run [7, 36, 37]) ?_
 refine PW.block ?_
 refine PW.loopS (σ := Int) [7, 36, 37] 9 (fun t37 => [(37, .d (I t37))]) (fun t37 => [{ cells := [.d (I Z15), .d (I Z11), .d (I Z18), .d (I Z17), .d (I Z16), .d (I Z10), .d (I Z13)], e := 23 }, { cells := [.d (I Z1t), .d (.list Z26.length (Z26.flatMap (fun (x : Int × Int × Int × Int × Int × Int × Int) => [(I x.1), (I x.2.1), (I x.2.2.1), (I x.2.2.2.1), (I x.2.2.2.2.1), (I x.2.2.2.2.2.1), (I x.2.2.2.2.2.2)])))], e := 30 }, { cells := [.d (I Zl), .d (I Zj), .d (I Zm), .d (I Zn), .d (I Zo), .d (I Zk)], e := 48 }, { cells := [.d (I (0 : Int)), .d (.val (.slice none 0 0))], e := 30 }, { cells := [.d (I Z15), .d (I Z11), .d (I Z18), .d (I Z17), .d (I Z16), .d (I Z10), .d (I Z13)], e := 23 }, { cells := [.d (I Z1t), .d (.list Z26.length (Z26.flatMap (fun (x : Int × Int × Int × Int × Int × Int × Int) => [(I x.1), (I x.2.1), (I x.2.2.1), (I x.2.2.2.1), (I x.2.2.2.2.1), (I x.2.2.2.2.2.1), (I x.2.2.2.2.2.2)])))], e := 30 }, { cells := [.d (I x1), .d (I x2), .d (I x3)], e := 26 }, { cells := (x5.flatMap (fun (x : Int × Int × Int × Int × Int × Int × Int) => [(I x.1), (I x.2.1), (I x.2.2.1), (I x.2.2.2.1), (I x.2.2.2.2.1), (I x.2.2.2.2.2.1), (I x.2.2.2.2.2.2)])).map .d, e := 71 }, { cells := [.d (I Z15), .d (I Z11), .d (I Z18), .d (I Z17), .d (I Z16), .d (I Z10), .d (I Z13), .d (I Z1t), .own 7 0 x5.length 7], e := 142 }]) (access_Apply.b1 N Z15 Z11 Z18 Z17 Z16 Z10 Z13 Z1t x5 K_) r N (0 : Int) zqd H zqe ?_
 rintro n t37 H N4 hN4
 unfold access_Apply.b1 at H
 with_reducible refine zq0 ?_
 refine PW.seq ?_
 refine zq2 (fun _ => OW.run [7, 36, 37, 38]) ?_
 refine PW.seq ?_
 refine PW.cond rfl (fun h5 => ?_) (fun h5 => ?_)
 replace H := br_t h5 H
 refine PW.skip ?_
 refine PW.seq ?_
 refine PW.block ?_
 refine PW.seq ?_
 refine zq2 (fun _ => OW.run [7, 8, 36, 37]) ?_
 refine PW.seq ?_
 obtain ⟨x6, e6, H⟩ := bnd_some H
 refine PW.regionK fun K hK => zq8 (OW.run [7, 9, 36, 37]) ?_
 refine OW.call' 4 rfl rfl rfl zq9 zq1d (access_site_phoneErr_ok N _ _ _ _ _ _ _ _ _ _ _ e6) zq1e zq1f zqc ?_
 refine zq8 (OW.run [7, 9, 36, 37]) ?_
 refine OW.nil (hK _ ?_); clear hK K
 refine PW.seq ?_
 refine zq2 (fun _ => OW.run [7, 9, 36, 37, 44]) ?_
 refine PW.cond rfl (fun h6 => ?_) (fun h6 => ?_)
 replace H := br_t h6 H
 refine PW.seq ?_
 refine zq2 (fun _ => OW.run [4, 5]) ?_
 refine PW.ret ?_
 refine ⟨.inr rfl, rfl, rfl, ?_⟩
 with_reducible refine zq19 ?_
 change OW _ _ _ _ _ _
 refine zq8 (OW.run [5, 6, 8, 9]) ?_
 refine OW.nil (hK _ ?_); clear hK K
 refine PW.seq ?_
 refine PW.seq ?_
 refine zq2 (fun _ => OW.run [5, 6, 8, 9, 17]) ?_
 refine PW.cond rfl (fun h7 => ?_) (fun h7 => ?_)
 refine PW.seq ?_
 refine zq2 (fun _ => OW.run [6, 7]) ?_
 change PW _ _ _ _ _
 exact zq7
 exact absurd (h7.symm.trans h6) (by decide)
 replace H := br_f h6 H
 refine PW.skip ?_
 change PW _ _ _ _ _
 refine zq2 (fun _ => OW.run [7, 36, 37]) ?_
 refine hN4 [] (w64 (t37 + (1 : Int))) _ H zqf ?_
 exact zqe
 replace H := br_f h5 H
 refine PW.exit ?_
 refine hN3 [] () _ H zqf ?_
 exact zqe
 rintro _ H
 with_reducible refine zq0 ?_
 refine PW.seq ?_
 refine zq2 (fun _ => OW.run [4, 5]) ?_
 refine PW.ret ?_
 refine ⟨.inr rfl, rfl, rfl, ?_⟩
 with_reducible refine zq19 ?_
 change OW _ _ _ _ _ _
 refine zq8 (OW.run [5, 6, 8, 9]) ?_
 refine OW.nil (hK _ ?_); clear hK K
 refine PW.seq ?_
 refine PW.seq ?_
 refine zq2 (fun _ => OW.run [5, 6, 8, 9, 17]) ?_
 refine PW.cond rfl (fun h8 => ?_) (fun h8 => ?_)
 exact absurd h8 (by decide)
 refine PW.skip ?_
 refine PW.seq ?_
 refine PW.seq ?_
 refine PW.regionK fun K hK => zq8 (OW.run [6, 8, 9]) ?_
 refine OW.inlineA rfl rfl rfl zq9 Tryz.func84 rfl (by rw [Tryz.results84]) Tryz.ntmps84 Tryz.call84 zqc ?_
 intro p G
 change PW _ _ _ _ _
 with_reducible refine zq0 ?_
 refine PW.seq ?_
 refine zq2 (fun _ => OW.run [0, 3]) ?_
 refine PW.seq ?_
 refine PW.seq ?_
 obtain ⟨x7, e7, H⟩ := bnd_some H
 obtain ⟨x8, e8, H⟩ := bnd_some H
 obtain ⟨x9, e9, H⟩ := bnd_some H
 refine PW.drawK 18 mixed (by kernel_rfl) fun K hK => ?_
 change FW _ _ _ _ _
 refine zq8 (FW.run) ?_
 refine FW.call' 4 rfl rfl rfl zq9 zqa (access_eventErr_ok N _ _ _ _ _ _ _ _ _ _ _ _ _ _ _ e7) zq5 zqb zqc ?_
 refine zq8 (FW.run) ?_
 refine FW.nil ?_
 change OW _ _ _ _ _ _
 refine zq8 (OW.run [0, 3, 6]) ?_
 refine OW.call' 4 rfl rfl rfl zq9 zqa (access_unless_ok N _ _ _ e8) zq5 zqb zqc ?_
 refine zq8 (OW.run [0, 3, 6]) ?_
 refine OW.call' 4 rfl rfl rfl zq9 zqa (access_first_ok N _ _ e9) zq5 zqb zqc ?_
 refine zq8 (OW.run [0, 3, 6]) ?_
 refine OW.nil (hK _ ?_); clear hK K
 refine PW.seq ?_
 refine zq2 (fun _ => OW.run [0, 3, 6, 31]) ?_
 refine PW.cond rfl (fun h9 => ?_) (fun h9 => ?_)
 replace H := br_t h9 H
 refine PW.seq ?_
 refine zq2 (fun _ => OW.run [4, 5]) ?_
 refine PW.ret ?_
 refine ⟨.inr rfl, rfl, rfl, ?_⟩
 with_reducible refine zq19 ?_
 change OW _ _ _ _ _ _
 refine zq8 (OW.run [6, 8, 9]) ?_
 refine OW.nil (hK _ ?_); clear hK K
 refine PW.seq ?_
 refine zq2 (fun _ => OW.run [6, 8, 9, 27]) ?_
 refine PW.cond rfl (fun h10 => ?_) (fun h10 => ?_)
 refine PW.seq ?_
 refine zq2 (fun _ => OW.run [6, 7]) ?_
 change PW _ _ _ _ _
 exact zq7
 exact absurd (h10.symm.trans h9) (by decide)
 replace H := br_f h9 H
 refine PW.skip ?_
 refine PW.seq ?_
 obtain ⟨x10, e10, H⟩ := bnd_some H
 refine PW.drawO 13 [12] [71] mixed (by kernel_rfl) (by decide) rfl fun K hK => ?_
 refine zq8 (FWO.run) ?_
 refine FWO.callO 4 rfl ?_ zqd rfl rfl rfl zq9 ?_ (slices_Clone_pp_ok N _ _ e10) ?_ ?_ ?_ ?_
 rfl
 exact zq1d
 exact zq1e
 exact zq1l
 exact zqc
 refine zq8 (FWO.run) ?_
 first | refine FWO.nil ?_ | skip
 change OW _ _ _ _ _ _
 refine zq8 (OW.run [3, 7]) ?_
 refine OW.nil (hK _ ?_); clear hK K
 refine PW.seq ?_
 refine PW.regionK fun K hK => zq8 (OW.run [3, 7]) ?_
 refine OW.inlineA rfl rfl rfl zq9 Tryz.func121 rfl (by rw [Tryz.results121]) Tryz.ntmps121 Tryz.call121 zqc ?_
 intro p G
 change PW _ _ _ _ _
 with_reducible refine zq0 ?_
 refine PW.joinS (τ := (List (Int × Int × Int × Int × Int × Int × Int))) [0, 1] 13 (fun b11 => []) (fun b11 => [{ cells := [.d (I Z15), .d (I Z11), .d (I Z18), .d (I Z17), .d (I Z16), .d (I Z10), .d (I Z13)], e := 23 }, { cells := [.d (I Z1t), .d (.list Z26.length (Z26.flatMap (fun (x : Int × Int × Int × Int × Int × Int × Int) => [(I x.1), (I x.2.1), (I x.2.2.1), (I x.2.2.2.1), (I x.2.2.2.2.1), (I x.2.2.2.2.2.1), (I x.2.2.2.2.2.2)])))], e := 30 }, { cells := [.d (I Zl), .d (I Zj), .d (I Zm), .d (I Zn), .d (I Zo), .d (I Zk)], e := 48 }, { cells := [.d (I (0 : Int)), .d (.val (.slice none 0 0))], e := 30 }, { cells := [.d (I Z15), .d (I Z11), .d (I Z18), .d (I Z17), .d (I Z16), .d (I Z10), .d (I Z13)], e := 23 }, { cells := [.d (I Z1t), .d (.list Z26.length (Z26.flatMap (fun (x : Int × Int × Int × Int × Int × Int × Int) => [(I x.1), (I x.2.1), (I x.2.2.1), (I x.2.2.2.1), (I x.2.2.2.2.1), (I x.2.2.2.2.2.1), (I x.2.2.2.2.2.2)])))], e := 30 }, { cells := [.d (I x1), .d (I x2), .d (I x3)], e := 26 }, { cells := (x5.flatMap (fun (x : Int × Int × Int × Int × Int × Int × Int) => [(I x.1), (I x.2.1), (I x.2.2.1), (I x.2.2.2.1), (I x.2.2.2.2.1), (I x.2.2.2.2.2.1), (I x.2.2.2.2.2.2)])).map .d, e := 71 }, { cells := [.d (I Z15), .d (I Z11), .d (I Z18), .d (I Z17), .d (I Z16), .d (I Z10), .d (I Z13), .d (I Z1t), .own 7 0 x5.length 7], e := 142 }, { cells := [.d (I Zl), .d (I Zj), .d (I Zm), .d (I Zn), .d (I Zo), .d (I Zk)], e := 48 }, { cells := [.d (I x7), .d (I x8)], e := 26 }, { cells := (b11.flatMap (fun (x : Int × Int × Int × Int × Int × Int × Int) => [(I x.1), (I x.2.1), (I x.2.2.1), (I x.2.2.2.1), (I x.2.2.2.2.1), (I x.2.2.2.2.2.1), (I x.2.2.2.2.2.2)])).map .d, e := 71 }, { cells := [.d (I Z15), .d (I Z11), .d (I Z18), .d (I Z17), .d (I Z16), .d (I Z10), .d (I Z13), .d (I Z1t), .own 11 0 b11.length 7], e := 142 }]) _ _ r zqd H ?_ ?_
 intro K_1 H N11 hN11
 refine PW.seq ?_
 refine zq2 (fun _ => OW.run [0, 1, 10, 11]) ?_
 refine PW.block ?_
 refine PW.loopS (σ := Int × (List (Int × Int × Int × Int × Int × Int × Int))) [0, 1, 10, 11] 13 (fun (t11, b111) => [(11, .d (I t11))]) (fun (t11, b111) => [{ cells := [.d (I Z15), .d (I Z11), .d (I Z18), .d (I Z17), .d (I Z16), .d (I Z10), .d (I Z13)], e := 23 }, { cells := [.d (I Z1t), .d (.list Z26.length (Z26.flatMap (fun (x : Int × Int × Int × Int × Int × Int × Int) => [(I x.1), (I x.2.1), (I x.2.2.1), (I x.2.2.2.1), (I x.2.2.2.2.1), (I x.2.2.2.2.2.1), (I x.2.2.2.2.2.2)])))], e := 30 }, { cells := [.d (I Zl), .d (I Zj), .d (I Zm), .d (I Zn), .d (I Zo), .d (I Zk)], e := 48 }, { cells := [.d (I (0 : Int)), .d (.val (.slice none 0 0))], e := 30 }, { cells := [.d (I Z15), .d (I Z11), .d (I Z18), .d (I Z17), .d (I Z16), .d (I Z10), .d (I Z13)], e := 23 }, { cells := [.d (I Z1t), .d (.list Z26.length (Z26.flatMap (fun (x : Int × Int × Int × Int × Int × Int × Int) => [(I x.1), (I x.2.1), (I x.2.2.1), (I x.2.2.2.1), (I x.2.2.2.2.1), (I x.2.2.2.2.2.1), (I x.2.2.2.2.2.2)])))], e := 30 }, { cells := [.d (I x1), .d (I x2), .d (I x3)], e := 26 }, { cells := (x5.flatMap (fun (x : Int × Int × Int × Int × Int × Int × Int) => [(I x.1), (I x.2.1), (I x.2.2.1), (I x.2.2.2.1), (I x.2.2.2.2.1), (I x.2.2.2.2.2.1), (I x.2.2.2.2.2.2)])).map .d, e := 71 }, { cells := [.d (I Z15), .d (I Z11), .d (I Z18), .d (I Z17), .d (I Z16), .d (I Z10), .d (I Z13), .d (I Z1t), .own 7 0 x5.length 7], e := 142 }, { cells := [.d (I Zl), .d (I Zj), .d (I Zm), .d (I Zn), .d (I Zo), .d (I Zk)], e := 48 }, { cells := [.d (I x7), .d (I x8)], e := 26 }, { cells := (b111.flatMap (fun (x : Int × Int × Int × Int × Int × Int × Int) => [(I x.1), (I x.2.1), (I x.2.2.1), (I x.2.2.2.1), (I x.2.2.2.2.1), (I x.2.2.2.2.2.1), (I x.2.2.2.2.2.2)])).map .d, e := 71 }, { cells := [.d (I Z15), .d (I Z11), .d (I Z18), .d (I Z17), .d (I Z16), .d (I Z10), .d (I Z13), .d (I Z1t), .own 11 0 b111.length 7], e := 142 }]) (access_Apply.b2 N Z16 Z10 Zj x10 K_1) r N ((0 : Int), x10) zqd H zqe ?_
 rintro n ⟨t11, b111⟩ H N12 hN12
 unfold access_Apply.b2 at H
 with_reducible refine zq0 ?_
 refine PW.seq ?_
 refine zq2 (fun _ => OW.run [0, 1, 10, 11, 12]) ?_
 refine PW.seq ?_
 refine PW.cond rfl (fun h13 => ?_) (fun h13 => ?_)
 replace H := br_t h13 H
 refine PW.skip ?_
 refine PW.seq ?_
 refine PW.block ?_
 refine PW.seq ?_
 refine zq2 (fun _ => OW.run [0, 1, 4, 10, 11]) ?_
 refine PW.seq ?_
 obtain ⟨c14, H⟩ := chk_some H
 refine zq1m (fun _ => OW.run [0, 1, 5, 10, 11]) ?_
 refine PW.seq ?_
 refine zq1m (fun _ => OW.run [0, 1, 5, 10, 11, 39]) ?_
 refine PW.cond rfl (fun h15 => ?_) (fun h15 => ?_)
 replace H := br_t h15 H
 refine PW.regionK fun K hK => zq1n (OW.run [0, 1, 10, 11]) ?_
 refine OW.inlineA rfl rfl rfl zq9 Tryz.func146 rfl (by rw [Tryz.results146]) Tryz.ntmps146 Tryz.call146 zqc ?_
 intro p G
 change PW _ _ _ _ _
 with_reducible refine zq0 ?_
 refine PW.seq ?_
 refine zq1m (fun _ => OW.run [0, 1, 2, 6]) ?_
 refine PW.seq ?_
 obtain ⟨⟨x11, x111, x112, x113, x114, x115, x116⟩, e11, H⟩ := bnd_some H
 refine PW.regionK fun K hK => zq1o (OW.run [0, 1, 2, 6]) ?_
 refine OW.call' 4 rfl rfl rfl zq9 zqa (access_idle_ok N _ _ e11) zq5 zqb zqc ?_
 refine zq1o (OW.run [0, 1, 2, 6]) ?_
 refine OW.nil (hK _ ?_); clear hK K
 refine PW.seq ?_
 refine zq1p (fun _ => OW.run [0, 1, 2, 6]) ?_
 refine PW.seq ?_
 refine PW.seq ?_
 refine zq2 (fun _ => OW.run [0, 1, 2, 28]) ?_
 refine PW.cond rfl (fun h16 => ?_) (fun h16 => ?_)
 replace H := br_t h16 H
 refine PW.seq ?_
 refine zq1q (fun _ => OW.run []) ?_
 refine PW.ret ?_
 refine ⟨.inr rfl, rfl, rfl, ?_⟩
 with_reducible refine zq19 ?_
 change OW _ _ _ _ _ _
 refine zq8 (OW.run [0, 1, 10, 11]) ?_
 refine OW.nil (hK _ ?_); clear hK K
 change PW _ _ _ _ _
 refine zq2 (fun _ => OW.run [0, 1, 10, 11]) ?_
 refine hN12 [] (w64 (t11 + (1 : Int)), (b111.set t11.toNat ((5 : Int), x111, x112, x113, x114, (b111.getD t11.toNat default).2.2.2.2.2.1, x116))) _ H zqf ?_
 exact zqe
 replace H := br_f h16 H
 refine PW.skip ?_
 refine PW.seq ?_
 refine zq1r (fun _ => OW.run [0, 1, 2]) ?_
 refine PW.seq ?_
 refine zq1s (fun _ => OW.run [0, 1, 2]) ?_
 change PW _ _ _ _ _
 obtain ⟨c17, H⟩ := chk_some H
 refine PW.drawK 14 mixed (by kernel_rfl) fun K hK => ?_
 change FW _ _ _ _ _
 refine zq1t (FW.run) ?_
 refine FW.nil ?_
 change OW _ _ _ _ _ _
 refine zq1t (OW.run []) ?_
 refine OW.nil (hK _ ?_); clear hK K
 refine ⟨.inl rfl, rfl, rfl, ?_⟩
 with_reducible refine zq19 ?_
 change OW _ _ _ _ _ _
 refine zq8 (OW.run [0, 1, 10, 11]) ?_
 refine OW.nil (hK _ ?_); clear hK K
 change PW _ _ _ _ _
 refine zq2 (fun _ => OW.run [0, 1, 10, 11]) ?_
 refine hN12 [] (w64 (t11 + (1 : Int)), (b111.set t11.toNat ((3 : Int), x111, x112, x113, w64 ((w64 (((b111.getD t11.toNat default).2.2.2.2.1) + (1 : Int))) + (((w64 ((w64 ((48271 : Int) * x116)) + (1 : Int))).tmod (998244353 : Int)).tmod (w64 (Z10 + (1 : Int))))), (b111.getD t11.toNat default).2.2.2.2.2.1, (w64 ((w64 ((48271 : Int) * x116)) + (1 : Int))).tmod (998244353 : Int)))) _ H zqf ?_
 exact zqe
 replace H := br_f h15 H
 refine PW.skip ?_
 change PW _ _ _ _ _
 refine zq2 (fun _ => OW.run [0, 1, 10, 11]) ?_
 refine hN12 [] (w64 (t11 + (1 : Int)), b111) _ H zqf ?_
 exact zqe
 replace H := br_f h13 H
 refine PW.exit ?_
 refine hN11 [] b111 _ H zqf ?_
 exact zqe
 rintro b11 H
 with_reducible refine zq0 ?_
 refine zq2 (fun _ => OW.run []) ?_
 refine ⟨.inl rfl, rfl, rfl, ?_⟩
 with_reducible refine zq19 ?_
 change OW _ _ _ _ _ _
 refine zq8 (OW.run [3, 7]) ?_
 refine OW.nil (hK _ ?_); clear hK K
 refine PW.seq ?_
 refine PW.seq ?_
 obtain ⟨hsp, H⟩ := chk_some H
 have hsp2 : Zl = 0 ∨ Zl = 1 ∨ Zl = 2 ∨ Zl = 3 ∨ Zl = 4 := by omega
 clear hsp
 rcases hsp2 with rfl | rfl | rfl | rfl | rfl
 replace H := br_t (by decide) H
 obtain ⟨⟨t4, b112⟩, e12, H⟩ := bnd_some H
 refine PW.drawK 6 mixed (by kernel_rfl) fun K hK => ?_
 change FW _ _ _ _ _
 refine zq8 (FW.run) ?_
 refine FW.call' 4 rfl rfl rfl zq9 zqa kindOf_0 zq5 zqb zqc ?_
 refine zq8 (FW.run) ?_
 refine FW.nil ?_
 change OW _ _ _ _ _ _
 refine zq8 (OW.run [7, 8]) ?_
 refine OW.callM (r := (.d (I t4))) (objs' := [{ cells := [.d (I Z15), .d (I Z11), .d (I Z18), .d (I Z17), .d (I Z16), .d (I Z10), .d (I Z13)], e := 23 }, { cells := [.d (I Z1t), .d (.list Z26.length (Z26.flatMap (fun (x : Int × Int × Int × Int × Int × Int × Int) => [(I x.1), (I x.2.1), (I x.2.2.1), (I x.2.2.2.1), (I x.2.2.2.2.1), (I x.2.2.2.2.2.1), (I x.2.2.2.2.2.2)])))], e := 30 }, { cells := [.d (I (0 : Int)), .d (I Zj), .d (I Zm), .d (I Zn), .d (I Zo), .d (I Zk)], e := 48 }, { cells := [.d (I (0 : Int)), .d (.val (.slice none 0 0))], e := 30 }, { cells := [.d (I Z15), .d (I Z11), .d (I Z18), .d (I Z17), .d (I Z16), .d (I Z10), .d (I Z13)], e := 23 }, { cells := [.d (I Z1t), .d (.list Z26.length (Z26.flatMap (fun (x : Int × Int × Int × Int × Int × Int × Int) => [(I x.1), (I x.2.1), (I x.2.2.1), (I x.2.2.2.1), (I x.2.2.2.2.1), (I x.2.2.2.2.2.1), (I x.2.2.2.2.2.2)])))], e := 30 }, { cells := [.d (I x1), .d (I x2), .d (I x3)], e := 26 }, { cells := (x5.flatMap (fun (x : Int × Int × Int × Int × Int × Int × Int) => [(I x.1), (I x.2.1), (I x.2.2.1), (I x.2.2.2.1), (I x.2.2.2.2.1), (I x.2.2.2.2.2.1), (I x.2.2.2.2.2.2)])).map .d, e := 71 }, { cells := [.d (I Z15), .d (I Z11), .d (I Z18), .d (I Z17), .d (I Z16), .d (I Z10), .d (I Z13), .d (I Z1t), .own 7 0 x5.length 7], e := 142 }, { cells := [.d (I (0 : Int)), .d (I Zj), .d (I Zm), .d (I Zn), .d (I Zo), .d (I Zk)], e := 48 }, { cells := [.d (I x7), .d (I x8)], e := 26 }, { cells := (b112.flatMap (fun (x : Int × Int × Int × Int × Int × Int × Int) => [(I x.1), (I x.2.1), (I x.2.2.1), (I x.2.2.2.1), (I x.2.2.2.2.1), (I x.2.2.2.2.2.1), (I x.2.2.2.2.2.2)])).map .d, e := 71 }, { cells := [.d (I Z15), .d (I Z11), .d (I Z18), .d (I Z17), .d (I Z16), .d (I Z10), .d (I Z13), .d (I Zj), .own 11 0 b112.length 7], e := 142 }]) (ks := []) rfl rfl rfl (CallM.of_PW0 Tryz.func147 rfl (by rw [Tryz.results147]) Tryz.ntmps147 Tryz.call147 ?_) zq1u zqc ?_
 intro gs p
 have H := e12
 unfold access_Apply.m1 at H
 change PW _ _ _ _ _
 with_reducible refine zq0 ?_
 refine PW.seq ?_
 refine zq2 (fun _ => OW.run [0, 3]) ?_
 refine PW.seq ?_
 obtain ⟨c18, H⟩ := chk_some H
 refine PW.drawK 6 mixed (by kernel_rfl) fun K hK => ?_
 change FW _ _ _ _ _
 refine zq1v (FW.run) ?_
 refine FW.nil ?_
 change OW _ _ _ _ _ _
 refine zq1v (OW.run [0, 3, 5]) ?_
 refine OW.nil (hK _ ?_); clear hK K
 refine PW.seq ?_
 refine zq1w (fun _ => OW.run [0, 3, 5, 6]) ?_
 refine PW.seq ?_
 refine PW.seq ?_
 obtain ⟨x13, e13, H⟩ := bnd_some H
 obtain ⟨x14, e14, H⟩ := bnd_some H
 obtain ⟨x15, e15, H⟩ := bnd_some H
 obtain ⟨x16, e16, H⟩ := bnd_some H
 obtain ⟨x17, e17, H⟩ := bnd_some H
 refine PW.drawK 24 mixed (by kernel_rfl) fun K hK => ?_
 change FW _ _ _ _ _
 refine zq1v (FW.run) ?_
 refine FW.call' 4 rfl rfl rfl zq9 zqa (access_unless_ok N _ _ _ e13) zq5 zqb zqc ?_
 refine zq1v (FW.run) ?_
 refine FW.call' 4 rfl rfl rfl zq9 zqa (access_unless_ok N _ _ _ e14) zq5 zqb zqc ?_
 refine zq1v (FW.run) ?_
 refine FW.nil ?_
 change OW _ _ _ _ _ _
 refine zq1v (OW.run [0, 3, 5, 7]) ?_
 refine OW.call' 4 rfl rfl rfl zq9 zq1d (access_site_isChance_ok N _ _ _ _ _ _ _ _ _ _ _ e15) zq1e zq1f zqc ?_
 refine zq1v (OW.run [0, 3, 5, 7]) ?_
 refine OW.call' 4 rfl rfl rfl zq9 zqa (access_unless_ok N _ _ _ e16) zq5 zqb zqc ?_
 refine zq1v (OW.run [0, 3, 5, 7]) ?_
 refine OW.call' 4 rfl rfl rfl zq9 zqa (access_first_ok N _ _ e17) zq5 zqb zqc ?_
 refine zq1v (OW.run [0, 3, 5, 7]) ?_
 refine OW.nil (hK _ ?_); clear hK K
 refine PW.seq ?_
 refine zq2 (fun _ => OW.run [0, 3, 5, 7, 49]) ?_
 refine PW.cond rfl (fun h19 => ?_) (fun h19 => ?_)
 replace H := br_t h19 H
 refine PW.seq ?_
 refine zq2 (fun _ => OW.run [4]) ?_
 refine PW.fit [4] 13 zqd ?_
 with_reducible refine zq0 ?_
 change PW _ _ _ _ _
 exact zq1x
 replace H := br_f h19 H
 refine PW.skip ?_
 refine PW.seq ?_
 refine PW.drawK 23 mixed (by kernel_rfl) fun K hK => ?_
 change FW _ _ _ _ _
 refine zq1y (FW.run) ?_
 refine FW.nil ?_
 change OW _ _ _ _ _ _
 refine zq1y (OW.run []) ?_
 refine OW.nil (hK _ ?_); clear hK K
 refine PW.seq ?_
 refine zq2 (fun _ => OW.run [4]) ?_
 refine PW.fit [4] 13 zqd ?_
 with_reducible refine zq0 ?_
 change PW _ _ _ _ _
 exact zq1x
 with_reducible refine zq0 ?_
 change OW _ _ _ _ _ _
 refine zq8 (OW.run [7, 8]) ?_
 refine OW.nil (hK _ ?_); clear hK K
 refine PW.seq ?_
 refine zq2 (fun _ => OW.run [7, 8, 60]) ?_
 refine PW.cond rfl (fun h20 => ?_) (fun h20 => ?_)
 replace H := br_t h20 H
 refine PW.seq ?_
 refine zq2 (fun _ => OW.run [4, 5]) ?_
 refine PW.ret ?_
 refine ⟨.inr rfl, rfl, rfl, ?_⟩
 with_reducible refine zq19 ?_
 change OW _ _ _ _ _ _
 refine zq8 (OW.run [6, 8, 9]) ?_
 refine OW.nil (hK _ ?_); clear hK K
 refine PW.seq ?_
 refine zq2 (fun _ => OW.run [6, 8, 9, 27]) ?_
 refine PW.cond rfl (fun h21 => ?_) (fun h21 => ?_)
 refine PW.seq ?_
 refine zq2 (fun _ => OW.run [6, 7]) ?_
 change PW _ _ _ _ _
 exact zq7
 exact absurd (h21.symm.trans h20) (by decide)
 replace H := br_f h20 H
 refine PW.skip ?_
 refine PW.seq ?_
 refine zq2 (fun _ => OW.run [4, 5]) ?_
 refine PW.ret ?_
 refine ⟨.inr rfl, rfl, rfl, ?_⟩
 with_reducible refine zq19 ?_
 change OW _ _ _ _ _ _
 refine zq8 (OW.run [6, 8, 9]) ?_
 refine OW.nil (hK _ ?_); clear hK K
 refine PW.seq ?_
 refine zq2 (fun _ => OW.run [6, 8, 9, 27]) ?_
 refine PW.cond rfl (fun h22 => ?_) (fun h22 => ?_)
 exact absurd h22 (by decide)
 refine PW.skip ?_
 refine PW.seq ?_
 refine PW.regionK fun K hK => zq8 (OW.run [6, 7]) ?_
 refine OW.inlineA rfl rfl rfl zq9 Tryz.func85 rfl (by rw [Tryz.results85]) Tryz.ntmps85 Tryz.call85 zqc ?_
 intro p G
 change PW _ _ _ _ _
 with_reducible refine zq0 ?_
 refine PW.seq ?_
 refine zq2 (fun _ => OW.run [0, 2]) ?_
 refine PW.seq ?_
 refine PW.drawK 8 mixed (by kernel_rfl) fun K hK => ?_
 change FW _ _ _ _ _
 refine zq8 (FW.run) ?_
 refine FW.nil ?_
 change OW _ _ _ _ _ _
 refine zq8 (OW.run [2]) ?_
 refine OW.nil (hK _ ?_); clear hK K
 refine PW.ret ?_
 refine ⟨.inr rfl, rfl, rfl, ?_⟩
 with_reducible refine zq19 ?_
 change OW _ _ _ _ _ _
 refine zq8 (OW.run [6, 7]) ?_
 refine OW.nil (hK _ ?_); clear hK K
 refine PW.ret ?_
 change PW.Ends _ _ _ _ _ _
 refine PW.Ends.intro (.inr rfl) ?_
 with_reducible refine zq3 ?_
 obtain rfl := Option.some.inj H
 with_reducible refine zq4 ?_
 have hl0 := flatMap_length 7 (fun (x : Int × Int × Int × Int × Int × Int × Int) => [(I x.1), (I x.2.1), (I x.2.2.1), (I x.2.2.2.1), (I x.2.2.2.2.1), (I x.2.2.2.2.2.1), (I x.2.2.2.2.2.2)]) (fun _ => rfl) b112
 have hn0 : (b112.flatMap (fun (x : Int × Int × Int × Int × Int × Int × Int) => [(I x.1), (I x.2.1), (I x.2.2.1), (I x.2.2.2.1), (I x.2.2.2.2.1), (I x.2.2.2.2.2.1), (I x.2.2.2.2.2.2)])).map nz = b112.flatMap (fun (x : Int × Int × Int × Int × Int × Int × Int) => [(I x.1), (I x.2.1), (I x.2.2.1), (I x.2.2.2.1), (I x.2.2.2.2.1), (I x.2.2.2.2.2.1), (I x.2.2.2.2.2.2)]) := map_nz_flat (fun _ => rfl) _
 have ht0 : (b112.flatMap (fun (x : Int × Int × Int × Int × Int × Int × Int) => [(I x.1), (I x.2.1), (I x.2.2.1), (I x.2.2.2.1), (I x.2.2.2.2.1), (I x.2.2.2.2.2.1), (I x.2.2.2.2.2.2)])).take (b112.length * 7) = b112.flatMap (fun (x : Int × Int × Int × Int × Int × Int × Int) => [(I x.1), (I x.2.1), (I x.2.2.1), (I x.2.2.2.1), (I x.2.2.2.2.1), (I x.2.2.2.2.2.1), (I x.2.2.2.2.2.2)]) := take_flat _ (fun _ => rfl) rfl
 refine RetOK.data' 4 zq5 ?_
 exact zqt
 replace H := br_f (by decide) H
 replace H := br_t (by decide) H
 obtain ⟨⟨t41, b113⟩, e18, H⟩ := bnd_some H
 refine PW.drawK 6 mixed (by kernel_rfl) fun K hK => ?_
 change FW _ _ _ _ _
 refine zq8 (FW.run) ?_
 refine FW.call' 4 rfl rfl rfl zq9 zqa kindOf_1 zq5 zqb zqc ?_
 refine zq8 (FW.run) ?_
 refine FW.nil ?_
 change OW _ _ _ _ _ _
 refine zq8 (OW.run [7, 8]) ?_
 refine OW.callM (r := (.d (I t41))) (objs' := [{ cells := [.d (I Z15), .d (I Z11), .d (I Z18), .d (I Z17), .d (I Z16), .d (I Z10), .d (I Z13)], e := 23 }, { cells := [.d (I Z1t), .d (.list Z26.length (Z26.flatMap (fun (x : Int × Int × Int × Int × Int × Int × Int) => [(I x.1), (I x.2.1), (I x.2.2.1), (I x.2.2.2.1), (I x.2.2.2.2.1), (I x.2.2.2.2.2.1), (I x.2.2.2.2.2.2)])))], e := 30 }, { cells := [.d (I (1 : Int)), .d (I Zj), .d (I Zm), .d (I Zn), .d (I Zo), .d (I Zk)], e := 48 }, { cells := [.d (I (0 : Int)), .d (.val (.slice none 0 0))], e := 30 }, { cells := [.d (I Z15), .d (I Z11), .d (I Z18), .d (I Z17), .d (I Z16), .d (I Z10), .d (I Z13)], e := 23 }, { cells := [.d (I Z1t), .d (.list Z26.length (Z26.flatMap (fun (x : Int × Int × Int × Int × Int × Int × Int) => [(I x.1), (I x.2.1), (I x.2.2.1), (I x.2.2.2.1), (I x.2.2.2.2.1), (I x.2.2.2.2.2.1), (I x.2.2.2.2.2.2)])))], e := 30 }, { cells := [.d (I x1), .d (I x2), .d (I x3)], e := 26 }, { cells := (x5.flatMap (fun (x : Int × Int × Int × Int × Int × Int × Int) => [(I x.1), (I x.2.1), (I x.2.2.1), (I x.2.2.2.1), (I x.2.2.2.2.1), (I x.2.2.2.2.2.1), (I x.2.2.2.2.2.2)])).map .d, e := 71 }, { cells := [.d (I Z15), .d (I Z11), .d (I Z18), .d (I Z17), .d (I Z16), .d (I Z10), .d (I Z13), .d (I Z1t), .own 7 0 x5.length 7], e := 142 }, { cells := [.d (I (1 : Int)), .d (I Zj), .d (I Zm), .d (I Zn), .d (I Zo), .d (I Zk)], e := 48 }, { cells := [.d (I x7), .d (I x8)], e := 26 }, { cells := (b113.flatMap (fun (x : Int × Int × Int × Int × Int × Int × Int) => [(I x.1), (I x.2.1), (I x.2.2.1), (I x.2.2.2.1), (I x.2.2.2.2.1), (I x.2.2.2.2.2.1), (I x.2.2.2.2.2.2)])).map .d, e := 71 }, { cells := [.d (I Z15), .d (I Z11), .d (I Z18), .d (I Z17), .d (I Z16), .d (I Z10), .d (I Z13), .d (I Zj), .own 11 0 b113.length 7], e := 142 }]) (ks := []) rfl rfl rfl (CallM.of_PW0 Tryz.func148 rfl (by rw [Tryz.results148]) Tryz.ntmps148 Tryz.call148 ?_) zq1u zqc ?_
 intro gs p
 have H := e18
 unfold access_Apply.m2 at H
 change PW _ _ _ _ _
 with_reducible refine zq0 ?_
 refine PW.seq ?_
 refine zq2 (fun _ => OW.run [0, 3]) ?_
 refine PW.seq ?_
 obtain ⟨⟨x19, x191⟩, e19, H⟩ := bnd_some H
 refine PW.regionK fun K hK => zq8 (OW.run [0, 3, 5, 6]) ?_
 refine OW.call' 4 rfl rfl rfl zq9 zq1d (access_site_free_ok N _ _ _ _ _ _ _ _ _ _ e19) zq1e zq1f zqc ?_
 refine zq8 (OW.run [0, 3, 5, 6]) ?_
 refine OW.nil (hK _ ?_); clear hK K
 refine PW.seq ?_
 refine zq2 (fun _ => OW.run [0, 3, 5, 6, 7]) ?_
 refine PW.joinS (τ := Int × (List (Int × Int × Int × Int × Int × Int × Int))) [6, 7] 13 (fun (count, b114) => [(7, .d (I count))]) (fun (count, b114) => [{ cells := [.d (I Z15), .d (I Z11), .d (I Z18), .d (I Z17), .d (I Z16), .d (I Z10), .d (I Z13)], e := 23 }, { cells := [.d (I Z1t), .d (.list Z26.length (Z26.flatMap (fun (x : Int × Int × Int × Int × Int × Int × Int) => [(I x.1), (I x.2.1), (I x.2.2.1), (I x.2.2.2.1), (I x.2.2.2.2.1), (I x.2.2.2.2.2.1), (I x.2.2.2.2.2.2)])))], e := 30 }, { cells := [.d (I (1 : Int)), .d (I Zj), .d (I Zm), .d (I Zn), .d (I Zo), .d (I Zk)], e := 48 }, { cells := [.d (I (0 : Int)), .d (.val (.slice none 0 0))], e := 30 }, { cells := [.d (I Z15), .d (I Z11), .d (I Z18), .d (I Z17), .d (I Z16), .d (I Z10), .d (I Z13)], e := 23 }, { cells := [.d (I Z1t), .d (.list Z26.length (Z26.flatMap (fun (x : Int × Int × Int × Int × Int × Int × Int) => [(I x.1), (I x.2.1), (I x.2.2.1), (I x.2.2.2.1), (I x.2.2.2.2.1), (I x.2.2.2.2.2.1), (I x.2.2.2.2.2.2)])))], e := 30 }, { cells := [.d (I x1), .d (I x2), .d (I x3)], e := 26 }, { cells := (x5.flatMap (fun (x : Int × Int × Int × Int × Int × Int × Int) => [(I x.1), (I x.2.1), (I x.2.2.1), (I x.2.2.2.1), (I x.2.2.2.2.1), (I x.2.2.2.2.2.1), (I x.2.2.2.2.2.2)])).map .d, e := 71 }, { cells := [.d (I Z15), .d (I Z11), .d (I Z18), .d (I Z17), .d (I Z16), .d (I Z10), .d (I Z13), .d (I Z1t), .own 7 0 x5.length 7], e := 142 }, { cells := [.d (I (1 : Int)), .d (I Zj), .d (I Zm), .d (I Zn), .d (I Zo), .d (I Zk)], e := 48 }, { cells := [.d (I x7), .d (I x8)], e := 26 }, { cells := (b114.flatMap (fun (x : Int × Int × Int × Int × Int × Int × Int) => [(I x.1), (I x.2.1), (I x.2.2.1), (I x.2.2.2.1), (I x.2.2.2.2.1), (I x.2.2.2.2.2.1), (I x.2.2.2.2.2.2)])).map .d, e := 71 }, { cells := [.d (I Z15), .d (I Z11), .d (I Z18), .d (I Z17), .d (I Z16), .d (I Z10), .d (I Z13), .d (I Zj), .own 11 0 b114.length 7], e := 142 }]) _ _ (t41, b113) zqd H ?_ ?_
 intro K_2 H N23 hN23
 refine PW.seq ?_
 refine zq2 (fun _ => OW.run [0, 3, 5, 6, 7, 18, 19, 20]) ?_
 refine PW.block ?_
 refine PW.loopS (σ := Int × Int × (List (Int × Int × Int × Int × Int × Int × Int))) [0, 3, 5, 6, 7, 18, 19, 20] 14 (fun (count1, t20, b115) => [(7, .d (I count1)), (18, .own 11 0 b115.length 7), (20, .d (I t20))]) (fun (count1, t20, b115) => [{ cells := [.d (I Z15), .d (I Z11), .d (I Z18), .d (I Z17), .d (I Z16), .d (I Z10), .d (I Z13)], e := 23 }, { cells := [.d (I Z1t), .d (.list Z26.length (Z26.flatMap (fun (x : Int × Int × Int × Int × Int × Int × Int) => [(I x.1), (I x.2.1), (I x.2.2.1), (I x.2.2.2.1), (I x.2.2.2.2.1), (I x.2.2.2.2.2.1), (I x.2.2.2.2.2.2)])))], e := 30 }, { cells := [.d (I (1 : Int)), .d (I Zj), .d (I Zm), .d (I Zn), .d (I Zo), .d (I Zk)], e := 48 }, { cells := [.d (I (0 : Int)), .d (.val (.slice none 0 0))], e := 30 }, { cells := [.d (I Z15), .d (I Z11), .d (I Z18), .d (I Z17), .d (I Z16), .d (I Z10), .d (I Z13)], e := 23 }, { cells := [.d (I Z1t), .d (.list Z26.length (Z26.flatMap (fun (x : Int × Int × Int × Int × Int × Int × Int) => [(I x.1), (I x.2.1), (I x.2.2.1), (I x.2.2.2.1), (I x.2.2.2.2.1), (I x.2.2.2.2.2.1), (I x.2.2.2.2.2.2)])))], e := 30 }, { cells := [.d (I x1), .d (I x2), .d (I x3)], e := 26 }, { cells := (x5.flatMap (fun (x : Int × Int × Int × Int × Int × Int × Int) => [(I x.1), (I x.2.1), (I x.2.2.1), (I x.2.2.2.1), (I x.2.2.2.2.1), (I x.2.2.2.2.2.1), (I x.2.2.2.2.2.2)])).map .d, e := 71 }, { cells := [.d (I Z15), .d (I Z11), .d (I Z18), .d (I Z17), .d (I Z16), .d (I Z10), .d (I Z13), .d (I Z1t), .own 7 0 x5.length 7], e := 142 }, { cells := [.d (I (1 : Int)), .d (I Zj), .d (I Zm), .d (I Zn), .d (I Zo), .d (I Zk)], e := 48 }, { cells := [.d (I x7), .d (I x8)], e := 26 }, { cells := (b115.flatMap (fun (x : Int × Int × Int × Int × Int × Int × Int) => [(I x.1), (I x.2.1), (I x.2.2.1), (I x.2.2.2.1), (I x.2.2.2.2.1), (I x.2.2.2.2.2.1), (I x.2.2.2.2.2.2)])).map .d, e := 71 }, { cells := [.d (I Z15), .d (I Z11), .d (I Z18), .d (I Z17), .d (I Z16), .d (I Z10), .d (I Z13), .d (I Zj), .own 11 0 b115.length 7], e := 142 }, { cells := [.d (I (1 : Int)), .d (I Zj), .d (I Zm), .d (I Zn), .d (I Zo), .d (I Zk)], e := 48 }]) (access_Apply.b3 N Z17 Zj Zn Zo b11 x19 K_2) (t41, b113) N ((0 : Int), (0 : Int), b11) zqd H zqe ?_
 rintro n ⟨count1, t20, b115⟩ H N24 hN24
 unfold access_Apply.b3 at H
 with_reducible refine zq0 ?_
 refine PW.seq ?_
 refine zq2 (fun _ => OW.run [0, 3, 5, 6, 7, 18, 19, 20, 21]) ?_
 refine PW.seq ?_
 refine PW.cond rfl (fun h25 => ?_) (fun h25 => ?_)
 replace H := br_t h25 H
 refine PW.skip ?_
 refine PW.seq ?_
 refine PW.block ?_
 refine PW.seq ?_
 obtain ⟨c26, H⟩ := chk_some H
 refine zq1z (fun _ => OW.run [0, 3, 5, 6, 7, 8, 9, 18, 19, 20]) ?_
 refine PW.seq ?_
 refine PW.seq ?_
 refine zq2 (fun _ => OW.run [0, 3, 5, 6, 7, 8, 9, 18, 19, 20, 41]) ?_
 refine PW.cond rfl (fun h27 => ?_) (fun h27 => ?_)
 replace H := br_t h27 H
 refine PW.exit ?_
 change PW _ _ _ _ _
 refine zq2 (fun _ => OW.run [0, 3, 5, 6, 7, 18, 19, 20]) ?_
 refine hN24 [] (count1, w64 (t20 + (1 : Int)), b115) _ H zqf ?_
 exact zqe
 replace H := br_f h27 H
 refine PW.skip ?_
 refine PW.seq ?_
 refine zq2 (fun _ => OW.run [0, 3, 5, 6, 7, 8, 9, 18, 19, 20]) ?_
 change PW _ _ _ _ _
 obtain ⟨c28, H⟩ := chk_some H
 refine PW.drawK 19 mixed (by kernel_rfl) fun K hK => ?_
 change FW _ _ _ _ _
 refine zq20 (FW.run) ?_
 refine FW.nil ?_
 change OW _ _ _ _ _ _
 refine zq20 (OW.run [0, 3, 5, 6, 7, 18, 19, 20]) ?_
 refine OW.nil (hK _ ?_); clear hK K
 change PW _ _ _ _ _
 refine zq2 (fun _ => OW.run [0, 3, 5, 6, 7, 18, 19, 20]) ?_
 refine hN24 [] (w64 (count1 + (1 : Int)), w64 (t20 + (1 : Int)), (b115.set t20.toNat ((2 : Int), (-1 : Int), (0 : Int), x19, w64 (Zj + Z17), (b115.getD t20.toNat default).2.2.2.2.2.1, (b115.getD t20.toNat default).2.2.2.2.2.2))) _ H zqf ?_
 exact zqe
 replace H := br_f h25 H
 refine PW.exit ?_
 refine hN23 [] (count1, b115) _ H zqf ?_
 exact zqe
 rintro ⟨count, b114⟩ H
 with_reducible refine zq0 ?_
 refine PW.seq ?_
 obtain ⟨x20, e20, H⟩ := bnd_some H
 obtain ⟨x21, e21, H⟩ := bnd_some H
 obtain ⟨x22, e22, H⟩ := bnd_some H
 refine PW.regionK fun K hK => zq8 (OW.run [4]) ?_
 refine OW.call' 4 rfl rfl rfl zq9 zqa (access_unless_ok N _ _ _ e20) zq5 zqb zqc ?_
 refine zq8 (OW.run [4]) ?_
 refine OW.call' 4 rfl rfl rfl zq9 zqa (access_unless_ok N _ _ _ e21) zq5 zqb zqc ?_
 refine zq8 (OW.run [4]) ?_
 refine OW.call' 4 rfl rfl rfl zq9 zqa (access_first_ok N _ _ e22) zq5 zqb zqc ?_
 refine zq8 (OW.run [4]) ?_
 refine OW.nil (hK _ ?_); clear hK K
 refine PW.fit [4] 13 zqd ?_
 with_reducible refine zq0 ?_
 change PW _ _ _ _ _
 exact zq1x
 with_reducible refine zq0 ?_
 change OW _ _ _ _ _ _
 refine zq8 (OW.run [7, 8]) ?_
 refine OW.nil (hK _ ?_); clear hK K
 refine PW.seq ?_
 refine zq2 (fun _ => OW.run [7, 8, 60]) ?_
 refine PW.cond rfl (fun h29 => ?_) (fun h29 => ?_)
 replace H := br_t h29 H
 refine PW.seq ?_
 refine zq2 (fun _ => OW.run [4, 5]) ?_
 refine PW.ret ?_
 refine ⟨.inr rfl, rfl, rfl, ?_⟩
 with_reducible refine zq19 ?_
 change OW _ _ _ _ _ _
 refine zq8 (OW.run [6, 8, 9]) ?_
 refine OW.nil (hK _ ?_); clear hK K
 refine PW.seq ?_
 refine zq2 (fun _ => OW.run [6, 8, 9, 27]) ?_
 refine PW.cond rfl (fun h30 => ?_) (fun h30 => ?_)
 refine PW.seq ?_
 refine zq2 (fun _ => OW.run [6, 7]) ?_
 change PW _ _ _ _ _
 exact zq7
 exact absurd (h30.symm.trans h29) (by decide)
 replace H := br_f h29 H
 refine PW.skip ?_
 refine PW.seq ?_
 refine zq2 (fun _ => OW.run [4, 5]) ?_
 refine PW.ret ?_
 refine ⟨.inr rfl, rfl, rfl, ?_⟩
 with_reducible refine zq19 ?_
 change OW _ _ _ _ _ _
 refine zq8 (OW.run [6, 8, 9]) ?_
 refine OW.nil (hK _ ?_); clear hK K
 refine PW.seq ?_
 refine zq2 (fun _ => OW.run [6, 8, 9, 27]) ?_
 refine PW.cond rfl (fun h31 => ?_) (fun h31 => ?_)
 exact absurd h31 (by decide)
 refine PW.skip ?_
 refine PW.seq ?_
 refine PW.regionK fun K hK => zq8 (OW.run [6, 7]) ?_
 refine OW.inlineA rfl rfl rfl zq9 Tryz.func85 rfl (by rw [Tryz.results85]) Tryz.ntmps85 Tryz.call85 zqc ?_
 intro p G
 change PW _ _ _ _ _
 with_reducible refine zq0 ?_
 refine PW.seq ?_
 refine zq2 (fun _ => OW.run [0, 2]) ?_
 refine PW.seq ?_
 refine PW.drawK 8 mixed (by kernel_rfl) fun K hK => ?_
 change FW _ _ _ _ _
 refine zq8 (FW.run) ?_
 refine FW.nil ?_
 change OW _ _ _ _ _ _
 refine zq8 (OW.run [2]) ?_
 refine OW.nil (hK _ ?_); clear hK K
 refine PW.ret ?_
 refine ⟨.inr rfl, rfl, rfl, ?_⟩
 with_reducible refine zq19 ?_
 change OW _ _ _ _ _ _
 refine zq8 (OW.run [6, 7]) ?_
 refine OW.nil (hK _ ?_); clear hK K
 refine PW.ret ?_
 change PW.Ends _ _ _ _ _ _
 refine PW.Ends.intro (.inr rfl) ?_
 with_reducible refine zq3 ?_
 obtain rfl := Option.some.inj H
 with_reducible refine zq4 ?_
 have hl0 := flatMap_length 7 (fun (x : Int × Int × Int × Int × Int × Int × Int) => [(I x.1), (I x.2.1), (I x.2.2.1), (I x.2.2.2.1), (I x.2.2.2.2.1), (I x.2.2.2.2.2.1), (I x.2.2.2.2.2.2)]) (fun _ => rfl) b113
 have hn0 : (b113.flatMap (fun (x : Int × Int × Int × Int × Int × Int × Int) => [(I x.1), (I x.2.1), (I x.2.2.1), (I x.2.2.2.1), (I x.2.2.2.2.1), (I x.2.2.2.2.2.1), (I x.2.2.2.2.2.2)])).map nz = b113.flatMap (fun (x : Int × Int × Int × Int × Int × Int × Int) => [(I x.1), (I x.2.1), (I x.2.2.1), (I x.2.2.2.1), (I x.2.2.2.2.1), (I x.2.2.2.2.2.1), (I x.2.2.2.2.2.2)]) := map_nz_flat (fun _ => rfl) _
 have ht0 : (b113.flatMap (fun (x : Int × Int × Int × Int × Int × Int × Int) => [(I x.1), (I x.2.1), (I x.2.2.1), (I x.2.2.2.1), (I x.2.2.2.2.1), (I x.2.2.2.2.2.1), (I x.2.2.2.2.2.2)])).take (b113.length * 7) = b113.flatMap (fun (x : Int × Int × Int × Int × Int × Int × Int) => [(I x.1), (I x.2.1), (I x.2.2.1), (I x.2.2.2.1), (I x.2.2.2.2.1), (I x.2.2.2.2.2.1), (I x.2.2.2.2.2.2)]) := take_flat _ (fun _ => rfl) rfl
 refine RetOK.data' 4 zq5 ?_
 exact zqt
 replace H := br_f (by decide) H
 replace H := br_f (by decide) H
 replace H := br_t (by decide) H
 obtain ⟨⟨t42, b116⟩, e23, H⟩ := bnd_some H
 refine PW.drawK 6 mixed (by kernel_rfl) fun K hK => ?_
 change FW _ _ _ _ _
 refine zq8 (FW.run) ?_
 refine FW.call' 4 rfl rfl rfl zq9 zqa kindOf_2 zq5 zqb zqc ?_
 refine zq8 (FW.run) ?_
 refine FW.nil ?_
 change OW _ _ _ _ _ _
 refine zq8 (OW.run [7, 8]) ?_
 refine OW.callM (r := (.d (I t42))) (objs' := [{ cells := [.d (I Z15), .d (I Z11), .d (I Z18), .d (I Z17), .d (I Z16), .d (I Z10), .d (I Z13)], e := 23 }, { cells := [.d (I Z1t), .d (.list Z26.length (Z26.flatMap (fun (x : Int × Int × Int × Int × Int × Int × Int) => [(I x.1), (I x.2.1), (I x.2.2.1), (I x.2.2.2.1), (I x.2.2.2.2.1), (I x.2.2.2.2.2.1), (I x.2.2.2.2.2.2)])))], e := 30 }, { cells := [.d (I (2 : Int)), .d (I Zj), .d (I Zm), .d (I Zn), .d (I Zo), .d (I Zk)], e := 48 }, { cells := [.d (I (0 : Int)), .d (.val (.slice none 0 0))], e := 30 }, { cells := [.d (I Z15), .d (I Z11), .d (I Z18), .d (I Z17), .d (I Z16), .d (I Z10), .d (I Z13)], e := 23 }, { cells := [.d (I Z1t), .d (.list Z26.length (Z26.flatMap (fun (x : Int × Int × Int × Int × Int × Int × Int) => [(I x.1), (I x.2.1), (I x.2.2.1), (I x.2.2.2.1), (I x.2.2.2.2.1), (I x.2.2.2.2.2.1), (I x.2.2.2.2.2.2)])))], e := 30 }, { cells := [.d (I x1), .d (I x2), .d (I x3)], e := 26 }, { cells := (x5.flatMap (fun (x : Int × Int × Int × Int × Int × Int × Int) => [(I x.1), (I x.2.1), (I x.2.2.1), (I x.2.2.2.1), (I x.2.2.2.2.1), (I x.2.2.2.2.2.1), (I x.2.2.2.2.2.2)])).map .d, e := 71 }, { cells := [.d (I Z15), .d (I Z11), .d (I Z18), .d (I Z17), .d (I Z16), .d (I Z10), .d (I Z13), .d (I Z1t), .own 7 0 x5.length 7], e := 142 }, { cells := [.d (I (2 : Int)), .d (I Zj), .d (I Zm), .d (I Zn), .d (I Zo), .d (I Zk)], e := 48 }, { cells := [.d (I x7), .d (I x8)], e := 26 }, { cells := (b116.flatMap (fun (x : Int × Int × Int × Int × Int × Int × Int) => [(I x.1), (I x.2.1), (I x.2.2.1), (I x.2.2.2.1), (I x.2.2.2.2.1), (I x.2.2.2.2.2.1), (I x.2.2.2.2.2.2)])).map .d, e := 71 }, { cells := [.d (I Z15), .d (I Z11), .d (I Z18), .d (I Z17), .d (I Z16), .d (I Z10), .d (I Z13), .d (I Zj), .own 11 0 b116.length 7], e := 142 }]) (ks := []) rfl rfl rfl (CallM.of_PW0 Tryz.func149 rfl (by rw [Tryz.results149]) Tryz.ntmps149 Tryz.call149 ?_) zq1u zqc ?_
 intro gs p
 have H := e23
 unfold access_Apply.m3 at H
 change PW _ _ _ _ _
 with_reducible refine zq0 ?_
 refine PW.seq ?_
 refine zq2 (fun _ => OW.run [0, 3]) ?_
 refine PW.seq ?_
 obtain ⟨x24, e24, H⟩ := bnd_some H
 refine PW.regionK fun K hK => zq8 (OW.run [0, 3, 5]) ?_
 refine OW.callF' 4 rfl rfl rfl zq9 zq1d (access_site_asking_okf N _ _ _ _ _ _ _ _ _ _ _ e24) zq1e zqc ?_
 refine zq8 (OW.run [0, 3, 5]) ?_
 refine OW.nil (hK _ ?_); clear hK K
 refine PW.seq ?_
 refine PW.seq ?_
 obtain ⟨x25, e25, H⟩ := bnd_some H
 obtain ⟨x26, e26, H⟩ := bnd_some H
 obtain ⟨x27, e27, H⟩ := bnd_some H
 obtain ⟨x28, e28, H⟩ := bnd_some H
 refine PW.drawK 7 mixed (by kernel_rfl) fun K hK => ?_
 change FW _ _ _ _ _
 refine zq8 (FW.run) ?_
 refine FW.call' 4 rfl rfl rfl zq9 zqa (access_unless_ok N _ _ _ e25) zq5 zqb zqc ?_
 refine zq8 (FW.run) ?_
 refine FW.nil ?_
 change OW _ _ _ _ _ _
 refine zq8 (OW.run [0, 3, 5, 6]) ?_
 refine OW.call' 4 rfl rfl rfl zq9 zqa (slices_Contains_ii_ok N _ _ _ e26) zq5 zqb zqc ?_
 refine zq8 (OW.run [0, 3, 5, 6]) ?_
 refine OW.call' 4 rfl rfl rfl zq9 zqa (access_unless_ok N _ _ _ e27) zq5 zqb zqc ?_
 refine zq8 (OW.run [0, 3, 5, 6]) ?_
 refine OW.call' 4 rfl rfl rfl zq9 zqa (access_first_ok N _ _ e28) zq5 zqb zqc ?_
 refine zq8 (OW.run [0, 3, 5, 6]) ?_
 refine OW.nil (hK _ ?_); clear hK K
 refine PW.seq ?_
 refine zq2 (fun _ => OW.run [0, 3, 5, 6, 26]) ?_
 refine PW.cond rfl (fun h32 => ?_) (fun h32 => ?_)
 replace H := br_t h32 H
 refine PW.seq ?_
 refine zq2 (fun _ => OW.run [4]) ?_
 refine PW.fit [4] 13 zqd ?_
 with_reducible refine zq0 ?_
 change PW _ _ _ _ _
 exact zq1x
 replace H := br_f h32 H
 refine PW.skip ?_
 refine PW.joinS (τ := (List (Int × Int × Int × Int × Int × Int × Int))) [] 13 (fun b117 => []) (fun b117 => [{ cells := [.d (I Z15), .d (I Z11), .d (I Z18), .d (I Z17), .d (I Z16), .d (I Z10), .d (I Z13)], e := 23 }, { cells := [.d (I Z1t), .d (.list Z26.length (Z26.flatMap (fun (x : Int × Int × Int × Int × Int × Int × Int) => [(I x.1), (I x.2.1), (I x.2.2.1), (I x.2.2.2.1), (I x.2.2.2.2.1), (I x.2.2.2.2.2.1), (I x.2.2.2.2.2.2)])))], e := 30 }, { cells := [.d (I (2 : Int)), .d (I Zj), .d (I Zm), .d (I Zn), .d (I Zo), .d (I Zk)], e := 48 }, { cells := [.d (I (0 : Int)), .d (.val (.slice none 0 0))], e := 30 }, { cells := [.d (I Z15), .d (I Z11), .d (I Z18), .d (I Z17), .d (I Z16), .d (I Z10), .d (I Z13)], e := 23 }, { cells := [.d (I Z1t), .d (.list Z26.length (Z26.flatMap (fun (x : Int × Int × Int × Int × Int × Int × Int) => [(I x.1), (I x.2.1), (I x.2.2.1), (I x.2.2.2.1), (I x.2.2.2.2.1), (I x.2.2.2.2.2.1), (I x.2.2.2.2.2.2)])))], e := 30 }, { cells := [.d (I x1), .d (I x2), .d (I x3)], e := 26 }, { cells := (x5.flatMap (fun (x : Int × Int × Int × Int × Int × Int × Int) => [(I x.1), (I x.2.1), (I x.2.2.1), (I x.2.2.2.1), (I x.2.2.2.2.1), (I x.2.2.2.2.2.1), (I x.2.2.2.2.2.2)])).map .d, e := 71 }, { cells := [.d (I Z15), .d (I Z11), .d (I Z18), .d (I Z17), .d (I Z16), .d (I Z10), .d (I Z13), .d (I Z1t), .own 7 0 x5.length 7], e := 142 }, { cells := [.d (I (2 : Int)), .d (I Zj), .d (I Zm), .d (I Zn), .d (I Zo), .d (I Zk)], e := 48 }, { cells := [.d (I x7), .d (I x8)], e := 26 }, { cells := (b117.flatMap (fun (x : Int × Int × Int × Int × Int × Int × Int) => [(I x.1), (I x.2.1), (I x.2.2.1), (I x.2.2.2.1), (I x.2.2.2.2.1), (I x.2.2.2.2.2.1), (I x.2.2.2.2.2.2)])).map .d, e := 71 }, { cells := [.d (I Z15), .d (I Z11), .d (I Z18), .d (I Z17), .d (I Z16), .d (I Z10), .d (I Z13), .d (I Zj), .own 11 0 b117.length 7], e := 142 }]) _ _ (t42, b116) zqd H ?_ ?_
 intro K_3 H N33 hN33
 refine PW.seq ?_
 refine zq2 (fun _ => OW.run [0, 3, 28, 29, 30]) ?_
 refine PW.block ?_
 refine PW.loopS (σ := Int × (List (Int × Int × Int × Int × Int × Int × Int))) [0, 3, 28, 29, 30] 15 (fun (t30, b118) => [(30, .d (I t30))]) (fun (t30, b118) => [{ cells := [.d (I Z15), .d (I Z11), .d (I Z18), .d (I Z17), .d (I Z16), .d (I Z10), .d (I Z13)], e := 23 }, { cells := [.d (I Z1t), .d (.list Z26.length (Z26.flatMap (fun (x : Int × Int × Int × Int × Int × Int × Int) => [(I x.1), (I x.2.1), (I x.2.2.1), (I x.2.2.2.1), (I x.2.2.2.2.1), (I x.2.2.2.2.2.1), (I x.2.2.2.2.2.2)])))], e := 30 }, { cells := [.d (I (2 : Int)), .d (I Zj), .d (I Zm), .d (I Zn), .d (I Zo), .d (I Zk)], e := 48 }, { cells := [.d (I (0 : Int)), .d (.val (.slice none 0 0))], e := 30 }, { cells := [.d (I Z15), .d (I Z11), .d (I Z18), .d (I Z17), .d (I Z16), .d (I Z10), .d (I Z13)], e := 23 }, { cells := [.d (I Z1t), .d (.list Z26.length (Z26.flatMap (fun (x : Int × Int × Int × Int × Int × Int × Int) => [(I x.1), (I x.2.1), (I x.2.2.1), (I x.2.2.2.1), (I x.2.2.2.2.1), (I x.2.2.2.2.2.1), (I x.2.2.2.2.2.2)])))], e := 30 }, { cells := [.d (I x1), .d (I x2), .d (I x3)], e := 26 }, { cells := (x5.flatMap (fun (x : Int × Int × Int × Int × Int × Int × Int) => [(I x.1), (I x.2.1), (I x.2.2.1), (I x.2.2.2.1), (I x.2.2.2.2.1), (I x.2.2.2.2.2.1), (I x.2.2.2.2.2.2)])).map .d, e := 71 }, { cells := [.d (I Z15), .d (I Z11), .d (I Z18), .d (I Z17), .d (I Z16), .d (I Z10), .d (I Z13), .d (I Z1t), .own 7 0 x5.length 7], e := 142 }, { cells := [.d (I (2 : Int)), .d (I Zj), .d (I Zm), .d (I Zn), .d (I Zo), .d (I Zk)], e := 48 }, { cells := [.d (I x7), .d (I x8)], e := 26 }, { cells := (b118.flatMap (fun (x : Int × Int × Int × Int × Int × Int × Int) => [(I x.1), (I x.2.1), (I x.2.2.1), (I x.2.2.2.1), (I x.2.2.2.2.1), (I x.2.2.2.2.2.1), (I x.2.2.2.2.2.2)])).map .d, e := 71 }, { cells := [.d (I Z15), .d (I Z11), .d (I Z18), .d (I Z17), .d (I Z16), .d (I Z10), .d (I Z13), .d (I Zj), .own 11 0 b118.length 7], e := 142 }, { cells := [.d (I (2 : Int)), .d (I Zj), .d (I Zm), .d (I Zn), .d (I Zo), .d (I Zk)], e := 48 }, { cells := [.d (I x25), .d (I x27)], e := 26 }]) (access_Apply.b4 N Z16 Z10 Zj Zm Zk x24 K_3) (t42, b116) N ((0 : Int), b11) zqd H zqe ?_
 rintro n ⟨t30, b118⟩ H N34 hN34
 unfold access_Apply.b4 at H
 with_reducible refine zq0 ?_
 refine PW.seq ?_
 refine zq2 (fun _ => OW.run [0, 3, 28, 29, 30, 31]) ?_
 refine PW.seq ?_
 refine PW.cond rfl (fun h35 => ?_) (fun h35 => ?_)
 replace H := br_t h35 H
 refine PW.skip ?_
 refine PW.seq ?_
 refine PW.block ?_
 refine PW.seq ?_
 obtain ⟨c36, H⟩ := chk_some H
 refine zq2 (fun _ => OW.run [0, 3, 8, 28, 29, 30]) ?_
 refine PW.seq ?_
 refine PW.seq ?_
 refine zq2 (fun _ => OW.run [0, 3, 8, 28, 29, 30, 37]) ?_
 refine PW.cond rfl (fun h37 => ?_) (fun h37 => ?_)
 replace H := br_t h37 H
 refine PW.seq ?_
 obtain ⟨c38, H⟩ := chk_some H
 refine PW.drawK 9 mixed (by kernel_rfl) fun K hK => ?_
 change FW _ _ _ _ _
 refine zq21 (FW.run) ?_
 refine FW.nil ?_
 change OW _ _ _ _ _ _
 refine zq21 (OW.run [0, 3, 28, 29, 30]) ?_
 refine OW.inlineA rfl rfl rfl zq9 Tryz.func146 rfl (by rw [Tryz.results146]) Tryz.ntmps146 Tryz.call146 zqc ?_
 intro p G
 change PW _ _ _ _ _
 with_reducible refine zq0 ?_
 refine PW.seq ?_
 refine zq22 (fun _ => OW.run [0, 1, 2, 6]) ?_
 refine PW.seq ?_
 obtain ⟨⟨x29, x291, x292, x293, x294, x295, x296⟩, e29, H⟩ := bnd_some H
 refine PW.regionK fun K hK => zq23 (OW.run [0, 1, 2, 6]) ?_
 refine OW.call' 4 rfl rfl rfl zq9 zqa (access_idle_ok N _ _ e29) zq5 zqb zqc ?_
 refine zq23 (OW.run [0, 1, 2, 6]) ?_
 refine OW.nil (hK _ ?_); clear hK K
 refine PW.seq ?_
 refine zq24 (fun _ => OW.run [0, 1, 2, 6]) ?_
 refine PW.seq ?_
 refine PW.seq ?_
 refine zq2 (fun _ => OW.run [0, 1, 2, 28]) ?_
 refine PW.cond rfl (fun h39 => ?_) (fun h39 => ?_)
 replace H := br_t h39 H
 refine PW.seq ?_
 refine zq25 (fun _ => OW.run []) ?_
 refine PW.ret ?_
 refine ⟨.inr rfl, rfl, rfl, ?_⟩
 with_reducible refine zq19 ?_
 change OW _ _ _ _ _ _
 refine zq8 (OW.run [0, 3, 28, 29, 30]) ?_
 refine OW.nil (hK _ ?_); clear hK K
 refine PW.exit ?_
 change PW _ _ _ _ _
 refine zq2 (fun _ => OW.run [0, 3, 28, 29, 30]) ?_
 refine hN34 [] (w64 (t30 + (1 : Int)), (b118.set ((x24.getD t30.toNat 0).toNat) ((5 : Int), x291, x292, x293, x294, (b118.getD ((x24.getD t30.toNat 0).toNat) default).2.2.2.2.2.1, x296))) _ H zqf ?_
 exact zqe
 replace H := br_f h39 H
 refine PW.skip ?_
 refine PW.seq ?_
 refine zq26 (fun _ => OW.run [0, 1, 2]) ?_
 refine PW.seq ?_
 refine zq27 (fun _ => OW.run [0, 1, 2]) ?_
 change PW _ _ _ _ _
 obtain ⟨c40, H⟩ := chk_some H
 refine PW.drawK 14 mixed (by kernel_rfl) fun K hK => ?_
 change FW _ _ _ _ _
 refine zq28 (FW.run) ?_
 refine FW.nil ?_
 change OW _ _ _ _ _ _
 refine zq28 (OW.run []) ?_
 refine OW.nil (hK _ ?_); clear hK K
 refine ⟨.inl rfl, rfl, rfl, ?_⟩
 with_reducible refine zq19 ?_
 change OW _ _ _ _ _ _
 refine zq8 (OW.run [0, 3, 28, 29, 30]) ?_
 refine OW.nil (hK _ ?_); clear hK K
 refine PW.exit ?_
 change PW _ _ _ _ _
 refine zq2 (fun _ => OW.run [0, 3, 28, 29, 30]) ?_
 refine hN34 [] (w64 (t30 + (1 : Int)), (b118.set ((x24.getD t30.toNat 0).toNat) ((3 : Int), x291, x292, x293, w64 (Zj + (((w64 ((w64 ((48271 : Int) * x296)) + (1 : Int))).tmod (998244353 : Int)).tmod (w64 (Z10 + (1 : Int))))), (b118.getD ((x24.getD t30.toNat 0).toNat) default).2.2.2.2.2.1, (w64 ((w64 ((48271 : Int) * x296)) + (1 : Int))).tmod (998244353 : Int)))) _ H zqf ?_
 exact zqe
 replace H := br_f h37 H
 refine PW.skip ?_
 refine PW.seq ?_
 obtain ⟨c41, H⟩ := chk_some H
 obtain ⟨⟨x30, x301, x302, x303, x304, x305, x306⟩, e30, H⟩ := bnd_some H
 refine PW.regionK fun K hK => zq21 (OW.run [0, 3, 8, 9, 28, 29, 30]) ?_
 refine OW.call' 4 rfl rfl rfl zq9 zqa (access_idle_ok N _ _ e30) zq5 zqb zqc ?_
 refine zq21 (OW.run [0, 3, 8, 9, 28, 29, 30]) ?_
 refine OW.nil (hK _ ?_); clear hK K
 refine PW.seq ?_
 refine PW.drawX 4 [3] (fun j => List.getD [[{ cells := [.d (I Z15), .d (I Z11), .d (I Z18), .d (I Z17), .d (I Z16), .d (I Z10), .d (I Z13)], e := 23 }, { cells := [.d (I Z1t), .d (.list Z26.length (Z26.flatMap (fun (x : Int × Int × Int × Int × Int × Int × Int) => [(I x.1), (I x.2.1), (I x.2.2.1), (I x.2.2.2.1), (I x.2.2.2.2.1), (I x.2.2.2.2.2.1), (I x.2.2.2.2.2.2)])))], e := 30 }, { cells := [.d (I (2 : Int)), .d (I Zj), .d (I Zm), .d (I Zn), .d (I Zo), .d (I Zk)], e := 48 }, { cells := [.d (I (0 : Int)), .d (.val (.slice none 0 0))], e := 30 }, { cells := [.d (I Z15), .d (I Z11), .d (I Z18), .d (I Z17), .d (I Z16), .d (I Z10), .d (I Z13)], e := 23 }, { cells := [.d (I Z1t), .d (.list Z26.length (Z26.flatMap (fun (x : Int × Int × Int × Int × Int × Int × Int) => [(I x.1), (I x.2.1), (I x.2.2.1), (I x.2.2.2.1), (I x.2.2.2.2.1), (I x.2.2.2.2.2.1), (I x.2.2.2.2.2.2)])))], e := 30 }, { cells := [.d (I x1), .d (I x2), .d (I x3)], e := 26 }, { cells := (x5.flatMap (fun (x : Int × Int × Int × Int × Int × Int × Int) => [(I x.1), (I x.2.1), (I x.2.2.1), (I x.2.2.2.1), (I x.2.2.2.2.1), (I x.2.2.2.2.2.1), (I x.2.2.2.2.2.2)])).map .d, e := 71 }, { cells := [.d (I Z15), .d (I Z11), .d (I Z18), .d (I Z17), .d (I Z16), .d (I Z10), .d (I Z13), .d (I Z1t), .own 7 0 x5.length 7], e := 142 }, { cells := [.d (I (2 : Int)), .d (I Zj), .d (I Zm), .d (I Zn), .d (I Zo), .d (I Zk)], e := 48 }, { cells := [.d (I x7), .d (I x8)], e := 26 }, { cells := (b118.flatMap (fun (x : Int × Int × Int × Int × Int × Int × Int) => [(I x.1), (I x.2.1), (I x.2.2.1), (I x.2.2.2.1), (I x.2.2.2.2.1), (I x.2.2.2.2.2.1), (I x.2.2.2.2.2.2)])).map .d, e := 71 }, { cells := [.d (I Z15), .d (I Z11), .d (I Z18), .d (I Z17), .d (I Z16), .d (I Z10), .d (I Z13), .d (I Zj), .own 11 0 b118.length 7], e := 142 }, { cells := [.d (I (2 : Int)), .d (I Zj), .d (I Zm), .d (I Zn), .d (I Zo), .d (I Zk)], e := 48 }, { cells := [.d (I x25), .d (I x27)], e := 26 }, { cells := [.d (I x30), .d (I x301), .d (I x302), .d (I x303), .d (I x304), .d (I x305), .d (I x306)], e := 71 }], [{ cells := [.d (I Z15), .d (I Z11), .d (I Z18), .d (I Z17), .d (I Z16), .d (I Z10), .d (I Z13)], e := 23 }, { cells := [.d (I Z1t), .d (.list Z26.length (Z26.flatMap (fun (x : Int × Int × Int × Int × Int × Int × Int) => [(I x.1), (I x.2.1), (I x.2.2.1), (I x.2.2.2.1), (I x.2.2.2.2.1), (I x.2.2.2.2.2.1), (I x.2.2.2.2.2.2)])))], e := 30 }, { cells := [.d (I (2 : Int)), .d (I Zj), .d (I Zm), .d (I Zn), .d (I Zo), .d (I Zk)], e := 48 }, { cells := [.d (I (0 : Int)), .d (.val (.slice none 0 0))], e := 30 }, { cells := [.d (I Z15), .d (I Z11), .d (I Z18), .d (I Z17), .d (I Z16), .d (I Z10), .d (I Z13)], e := 23 }, { cells := [.d (I Z1t), .d (.list Z26.length (Z26.flatMap (fun (x : Int × Int × Int × Int × Int × Int × Int) => [(I x.1), (I x.2.1), (I x.2.2.1), (I x.2.2.2.1), (I x.2.2.2.2.1), (I x.2.2.2.2.2.1), (I x.2.2.2.2.2.2)])))], e := 30 }, { cells := [.d (I x1), .d (I x2), .d (I x3)], e := 26 }, { cells := (x5.flatMap (fun (x : Int × Int × Int × Int × Int × Int × Int) => [(I x.1), (I x.2.1), (I x.2.2.1), (I x.2.2.2.1), (I x.2.2.2.2.1), (I x.2.2.2.2.2.1), (I x.2.2.2.2.2.2)])).map .d, e := 71 }, { cells := [.d (I Z15), .d (I Z11), .d (I Z18), .d (I Z17), .d (I Z16), .d (I Z10), .d (I Z13), .d (I Z1t), .own 7 0 x5.length 7], e := 142 }, { cells := [.d (I (2 : Int)), .d (I Zj), .d (I Zm), .d (I Zn), .d (I Zo), .d (I Zk)], e := 48 }, { cells := [.d (I x7), .d (I x8)], e := 26 }, { cells := (b118.flatMap (fun (x : Int × Int × Int × Int × Int × Int × Int) => [(I x.1), (I x.2.1), (I x.2.2.1), (I x.2.2.2.1), (I x.2.2.2.2.1), (I x.2.2.2.2.2.1), (I x.2.2.2.2.2.2)])).map .d, e := 71 }, { cells := [.d (I Z15), .d (I Z11), .d (I Z18), .d (I Z17), .d (I Z16), .d (I Z10), .d (I Z13), .d (I Zj), .own 11 0 b118.length 7], e := 142 }, { cells := [.d (I (2 : Int)), .d (I Zj), .d (I Zm), .d (I Zn), .d (I Zo), .d (I Zk)], e := 48 }, { cells := [.d (I x25), .d (I x27)], e := 26 }, { cells := [.d (I (4 : Int)), .d (I x301), .d (I x302), .d (I x303), .d (I x304), .d (I x305), .d (I x306)], e := 71 }]] j []) (fun _ v => v) mixed (by kernel_rfl) (by decide) zqj (fun _ => rfl) (by decide) (freshL rfl) rfl rfl fun K hK => ?_
 change FWX _ _ _ _ _ _ _ _ _ _
 refine FWX.op (by decide) rfl (.ptr 13 5) 0 1 (.inl rfl) (.inl rfl) zq29 zqx zqc ?_
 with_reducible refine zq0 ?_
 refine FWX.op (by decide) rfl (.d (I Zk)) 0 1 (.inl rfl) (.inl rfl) zq29 zqx zqc ?_
 with_reducible refine zq0 ?_
 refine FWX.op (by decide) rfl (.ptr 15 0) 0 0 (.inl rfl) (.inr ⟨_, _, { on := 2, ground := .data }, rfl, rfl, by simp, rfl, rfl⟩) zq2a zqx zqc ?_
 with_reducible refine zq0 ?_
 refine FWX.store (q := 0) (by decide) rfl rfl rfl rfl (fun _ => rfl) zq11 zq2b ?_
 with_reducible refine zq0 ?_
 refine FWX.nil ?_
 change OW _ _ _ _ _ _
 change OW _ _ _ _ _ _
 refine zq8 (OW.run [0, 3, 8, 9, 28, 29, 30]) ?_
 refine OW.nil (hK _ ?_); clear hK K
 change PW _ _ _ _ _
 obtain ⟨c42, H⟩ := chk_some H
 refine PW.drawK 6 mixed (by kernel_rfl) fun K hK => ?_
 change FW _ _ _ _ _
 refine zq2c (FW.run) ?_
 refine FW.nil ?_
 change OW _ _ _ _ _ _
 refine zq2c (OW.run [0, 3, 28, 29, 30]) ?_
 refine OW.nil (hK _ ?_); clear hK K
 change PW _ _ _ _ _
 refine zq2 (fun _ => OW.run [0, 3, 28, 29, 30]) ?_
 refine hN34 [] (w64 (t30 + (1 : Int)), (b118.set ((x24.getD t30.toNat 0).toNat) ((4 : Int), x301, x302, Zk, x304, x305, x306))) _ H zqf ?_
 exact zqe
 replace H := br_f h35 H
 refine PW.exit ?_
 refine hN33 [] b118 _ H zqf ?_
 exact zqe
 rintro b117 H
 with_reducible refine zq0 ?_
 refine PW.seq ?_
 refine zq2 (fun _ => OW.run [4]) ?_
 refine PW.fit [4] 13 zqd ?_
 with_reducible refine zq0 ?_
 change PW _ _ _ _ _
 exact zq1x
 with_reducible refine zq0 ?_
 change OW _ _ _ _ _ _
 refine zq8 (OW.run [7, 8]) ?_
 refine OW.nil (hK _ ?_); clear hK K
 refine PW.seq ?_
 refine zq2 (fun _ => OW.run [7, 8, 60]) ?_
 refine PW.cond rfl (fun h43 => ?_) (fun h43 => ?_)
 replace H := br_t h43 H
 refine PW.seq ?_
 refine zq2 (fun _ => OW.run [4, 5]) ?_
 refine PW.ret ?_
 refine ⟨.inr rfl, rfl, rfl, ?_⟩
 with_reducible refine zq19 ?_
 change OW _ _ _ _ _ _
 refine zq8 (OW.run [6, 8, 9]) ?_
 refine OW.nil (hK _ ?_); clear hK K
 refine PW.seq ?_
 refine zq2 (fun _ => OW.run [6, 8, 9, 27]) ?_
 refine PW.cond rfl (fun h44 => ?_) (fun h44 => ?_)
 refine PW.seq ?_
 refine zq2 (fun _ => OW.run [6, 7]) ?_
 change PW _ _ _ _ _
 exact zq7
 exact absurd (h44.symm.trans h43) (by decide)
 replace H := br_f h43 H
 refine PW.skip ?_
 refine PW.seq ?_
 refine zq2 (fun _ => OW.run [4, 5]) ?_
 refine PW.ret ?_
 refine ⟨.inr rfl, rfl, rfl, ?_⟩
 with_reducible refine zq19 ?_
 change OW _ _ _ _ _ _
 refine zq8 (OW.run [6, 8, 9]) ?_
 refine OW.nil (hK _ ?_); clear hK K
 refine PW.seq ?_
 refine zq2 (fun _ => OW.run [6, 8, 9, 27]) ?_
 refine PW.cond rfl (fun h45 => ?_) (fun h45 => ?_)
 exact absurd h45 (by decide)
 refine PW.skip ?_
 refine PW.seq ?_
 refine PW.regionK fun K hK => zq8 (OW.run [6, 7]) ?_
 refine OW.inlineA rfl rfl rfl zq9 Tryz.func85 rfl (by rw [Tryz.results85]) Tryz.ntmps85 Tryz.call85 zqc ?_
 intro p G
 change PW _ _ _ _ _
 with_reducible refine zq0 ?_
 refine PW.seq ?_
 refine zq2 (fun _ => OW.run [0, 2]) ?_
 refine PW.seq ?_
 refine PW.drawK 8 mixed (by kernel_rfl) fun K hK => ?_
 change FW _ _ _ _ _
 refine zq8 (FW.run) ?_
 refine FW.nil ?_
 change OW _ _ _ _ _ _
 refine zq8 (OW.run [2]) ?_
 refine OW.nil (hK _ ?_); clear hK K
 refine PW.ret ?_
 refine ⟨.inr rfl, rfl, rfl, ?_⟩
 with_reducible refine zq19 ?_
 change OW _ _ _ _ _ _
 refine zq8 (OW.run [6, 7]) ?_
 refine OW.nil (hK _ ?_); clear hK K
 refine PW.ret ?_
 change PW.Ends _ _ _ _ _ _
 refine PW.Ends.intro (.inr rfl) ?_
 with_reducible refine zq3 ?_
 obtain rfl := Option.some.inj H
 with_reducible refine zq4 ?_
 have hl0 := flatMap_length 7 (fun (x : Int × Int × Int × Int × Int × Int × Int) => [(I x.1), (I x.2.1), (I x.2.2.1), (I x.2.2.2.1), (I x.2.2.2.2.1), (I x.2.2.2.2.2.1), (I x.2.2.2.2.2.2)]) (fun _ => rfl) b116
 have hn0 : (b116.flatMap (fun (x : Int × Int × Int × Int × Int × Int × Int) => [(I x.1), (I x.2.1), (I x.2.2.1), (I x.2.2.2.1), (I x.2.2.2.2.1), (I x.2.2.2.2.2.1), (I x.2.2.2.2.2.2)])).map nz = b116.flatMap (fun (x : Int × Int × Int × Int × Int × Int × Int) => [(I x.1), (I x.2.1), (I x.2.2.1), (I x.2.2.2.1), (I x.2.2.2.2.1), (I x.2.2.2.2.2.1), (I x.2.2.2.2.2.2)]) := map_nz_flat (fun _ => rfl) _
 have ht0 : (b116.flatMap (fun (x : Int × Int × Int × Int × Int × Int × Int) => [(I x.1), (I x.2.1), (I x.2.2.1), (I x.2.2.2.1), (I x.2.2.2.2.1), (I x.2.2.2.2.2.1), (I x.2.2.2.2.2.2)])).take (b116.length * 7) = b116.flatMap (fun (x : Int × Int × Int × Int × Int × Int × Int) => [(I x.1), (I x.2.1), (I x.2.2.1), (I x.2.2.2.1), (I x.2.2.2.2.1), (I x.2.2.2.2.2.1), (I x.2.2.2.2.2.2)]) := take_flat _ (fun _ => rfl) rfl
 refine RetOK.data' 4 zq5 ?_
 exact zqt
 replace H := br_f (by decide) H
 replace H := br_f (by decide) H
 replace H := br_f (by decide) H
 replace H := br_t (by decide) H
 obtain ⟨⟨t43, b119⟩, e31, H⟩ := bnd_some H
 refine PW.drawK 6 mixed (by kernel_rfl) fun K hK => ?_
 change FW _ _ _ _ _
 refine zq8 (FW.run) ?_
 refine FW.call' 4 rfl rfl rfl zq9 zqa kindOf_3 zq5 zqb zqc ?_
 refine zq8 (FW.run) ?_
 refine FW.nil ?_
 change OW _ _ _ _ _ _
 refine zq8 (OW.run [7, 8]) ?_
 refine OW.callM (r := (.d (I t43))) (objs' := [{ cells := [.d (I Z15), .d (I Z11), .d (I Z18), .d (I Z17), .d (I Z16), .d (I Z10), .d (I Z13)], e := 23 }, { cells := [.d (I Z1t), .d (.list Z26.length (Z26.flatMap (fun (x : Int × Int × Int × Int × Int × Int × Int) => [(I x.1), (I x.2.1), (I x.2.2.1), (I x.2.2.2.1), (I x.2.2.2.2.1), (I x.2.2.2.2.2.1), (I x.2.2.2.2.2.2)])))], e := 30 }, { cells := [.d (I (3 : Int)), .d (I Zj), .d (I Zm), .d (I Zn), .d (I Zo), .d (I Zk)], e := 48 }, { cells := [.d (I (0 : Int)), .d (.val (.slice none 0 0))], e := 30 }, { cells := [.d (I Z15), .d (I Z11), .d (I Z18), .d (I Z17), .d (I Z16), .d (I Z10), .d (I Z13)], e := 23 }, { cells := [.d (I Z1t), .d (.list Z26.length (Z26.flatMap (fun (x : Int × Int × Int × Int × Int × Int × Int) => [(I x.1), (I x.2.1), (I x.2.2.1), (I x.2.2.2.1), (I x.2.2.2.2.1), (I x.2.2.2.2.2.1), (I x.2.2.2.2.2.2)])))], e := 30 }, { cells := [.d (I x1), .d (I x2), .d (I x3)], e := 26 }, { cells := (x5.flatMap (fun (x : Int × Int × Int × Int × Int × Int × Int) => [(I x.1), (I x.2.1), (I x.2.2.1), (I x.2.2.2.1), (I x.2.2.2.2.1), (I x.2.2.2.2.2.1), (I x.2.2.2.2.2.2)])).map .d, e := 71 }, { cells := [.d (I Z15), .d (I Z11), .d (I Z18), .d (I Z17), .d (I Z16), .d (I Z10), .d (I Z13), .d (I Z1t), .own 7 0 x5.length 7], e := 142 }, { cells := [.d (I (3 : Int)), .d (I Zj), .d (I Zm), .d (I Zn), .d (I Zo), .d (I Zk)], e := 48 }, { cells := [.d (I x7), .d (I x8)], e := 26 }, { cells := (b119.flatMap (fun (x : Int × Int × Int × Int × Int × Int × Int) => [(I x.1), (I x.2.1), (I x.2.2.1), (I x.2.2.2.1), (I x.2.2.2.2.1), (I x.2.2.2.2.2.1), (I x.2.2.2.2.2.2)])).map .d, e := 71 }, { cells := [.d (I Z15), .d (I Z11), .d (I Z18), .d (I Z17), .d (I Z16), .d (I Z10), .d (I Z13), .d (I Zj), .own 11 0 b119.length 7], e := 142 }]) (ks := []) rfl rfl rfl (CallM.of_PW0 Tryz.func150 rfl (by rw [Tryz.results150]) Tryz.ntmps150 Tryz.call150 ?_) zq1u zqc ?_
 intro gs p
 have H := e31
 unfold access_Apply.m4 at H
 change PW _ _ _ _ _
 with_reducible refine zq0 ?_
 refine PW.seq ?_
 refine zq2 (fun _ => OW.run [0, 3]) ?_
 refine PW.seq ?_
 obtain ⟨c46, H⟩ := chk_some H
 refine PW.drawK 6 mixed (by kernel_rfl) fun K hK => ?_
 change FW _ _ _ _ _
 refine zq1v (FW.run) ?_
 refine FW.nil ?_
 change OW _ _ _ _ _ _
 refine zq1v (OW.run [5]) ?_
 refine OW.nil (hK _ ?_); clear hK K
 refine PW.seq ?_
 refine PW.seq ?_
 refine zq1w (fun _ => OW.run [5, 24]) ?_
 refine PW.cond rfl (fun h47 => ?_) (fun h47 => ?_)
 replace H := br_t h47 H
 refine PW.seq ?_
 refine zq2 (fun _ => OW.run [4]) ?_
 refine PW.fit [4] 13 zqd ?_
 with_reducible refine zq0 ?_
 change PW _ _ _ _ _
 exact zq1x
 replace H := br_f h47 H
 refine PW.skip ?_
 refine PW.seq ?_
 obtain ⟨⟨x32, x321, x322, x323, x324, x325, x326⟩, e32, H⟩ := bnd_some H
 refine PW.regionK fun K hK => zq2d (OW.run []) ?_
 refine OW.call' 4 rfl rfl rfl zq9 zqa (access_idle_ok N _ _ e32) zq5 zqb zqc ?_
 refine zq2d (OW.run []) ?_
 refine OW.nil (hK _ ?_); clear hK K
 refine PW.seq ?_
 refine zq2 (fun _ => OW.run [4]) ?_
 refine PW.fit [4] 13 zqd ?_
 with_reducible refine zq0 ?_
 change PW _ _ _ _ _
 exact zq1x
 with_reducible refine zq0 ?_
 change OW _ _ _ _ _ _
 refine zq8 (OW.run [7, 8]) ?_
 refine OW.nil (hK _ ?_); clear hK K
 refine PW.seq ?_
 refine zq2 (fun _ => OW.run [7, 8, 60]) ?_
 refine PW.cond rfl (fun h48 => ?_) (fun h48 => ?_)
 replace H := br_t h48 H
 refine PW.seq ?_
 refine zq2 (fun _ => OW.run [4, 5]) ?_
 refine PW.ret ?_
 refine ⟨.inr rfl, rfl, rfl, ?_⟩
 with_reducible refine zq19 ?_
 change OW _ _ _ _ _ _
 refine zq8 (OW.run [6, 8, 9]) ?_
 refine OW.nil (hK _ ?_); clear hK K
 refine PW.seq ?_
 refine zq2 (fun _ => OW.run [6, 8, 9, 27]) ?_
 refine PW.cond rfl (fun h49 => ?_) (fun h49 => ?_)
 refine PW.seq ?_
 refine zq2 (fun _ => OW.run [6, 7]) ?_
 change PW _ _ _ _ _
 exact zq7
 exact absurd (h49.symm.trans h48) (by decide)
 replace H := br_f h48 H
 refine PW.skip ?_
 refine PW.seq ?_
 refine zq2 (fun _ => OW.run [4, 5]) ?_
 refine PW.ret ?_
 refine ⟨.inr rfl, rfl, rfl, ?_⟩
 with_reducible refine zq19 ?_
 change OW _ _ _ _ _ _
 refine zq8 (OW.run [6, 8, 9]) ?_
 refine OW.nil (hK _ ?_); clear hK K
 refine PW.seq ?_
 refine zq2 (fun _ => OW.run [6, 8, 9, 27]) ?_
 refine PW.cond rfl (fun h50 => ?_) (fun h50 => ?_)
 exact absurd h50 (by decide)
 refine PW.skip ?_
 refine PW.seq ?_
 refine PW.regionK fun K hK => zq8 (OW.run [6, 7]) ?_
 refine OW.inlineA rfl rfl rfl zq9 Tryz.func85 rfl (by rw [Tryz.results85]) Tryz.ntmps85 Tryz.call85 zqc ?_
 intro p G
 change PW _ _ _ _ _
 with_reducible refine zq0 ?_
 refine PW.seq ?_
 refine zq2 (fun _ => OW.run [0, 2]) ?_
 refine PW.seq ?_
 refine PW.drawK 8 mixed (by kernel_rfl) fun K hK => ?_
 change FW _ _ _ _ _
 refine zq8 (FW.run) ?_
 refine FW.nil ?_
 change OW _ _ _ _ _ _
 refine zq8 (OW.run [2]) ?_
 refine OW.nil (hK _ ?_); clear hK K
 refine PW.ret ?_
 refine ⟨.inr rfl, rfl, rfl, ?_⟩
 with_reducible refine zq19 ?_
 change OW _ _ _ _ _ _
 refine zq8 (OW.run [6, 7]) ?_
 refine OW.nil (hK _ ?_); clear hK K
 refine PW.ret ?_
 change PW.Ends _ _ _ _ _ _
 refine PW.Ends.intro (.inr rfl) ?_
 with_reducible refine zq3 ?_
 obtain rfl := Option.some.inj H
 with_reducible refine zq4 ?_
 have hl0 := flatMap_length 7 (fun (x : Int × Int × Int × Int × Int × Int × Int) => [(I x.1), (I x.2.1), (I x.2.2.1), (I x.2.2.2.1), (I x.2.2.2.2.1), (I x.2.2.2.2.2.1), (I x.2.2.2.2.2.2)]) (fun _ => rfl) b119
 have hn0 : (b119.flatMap (fun (x : Int × Int × Int × Int × Int × Int × Int) => [(I x.1), (I x.2.1), (I x.2.2.1), (I x.2.2.2.1), (I x.2.2.2.2.1), (I x.2.2.2.2.2.1), (I x.2.2.2.2.2.2)])).map nz = b119.flatMap (fun (x : Int × Int × Int × Int × Int × Int × Int) => [(I x.1), (I x.2.1), (I x.2.2.1), (I x.2.2.2.1), (I x.2.2.2.2.1), (I x.2.2.2.2.2.1), (I x.2.2.2.2.2.2)]) := map_nz_flat (fun _ => rfl) _
 have ht0 : (b119.flatMap (fun (x : Int × Int × Int × Int × Int × Int × Int) => [(I x.1), (I x.2.1), (I x.2.2.1), (I x.2.2.2.1), (I x.2.2.2.2.1), (I x.2.2.2.2.2.1), (I x.2.2.2.2.2.2)])).take (b119.length * 7) = b119.flatMap (fun (x : Int × Int × Int × Int × Int × Int × Int) => [(I x.1), (I x.2.1), (I x.2.2.1), (I x.2.2.2.1), (I x.2.2.2.2.1), (I x.2.2.2.2.2.1), (I x.2.2.2.2.2.2)]) := take_flat _ (fun _ => rfl) rfl
 refine RetOK.data' 4 zq5 ?_
 exact zqt
 replace H := br_f (by decide) H
 replace H := br_f (by decide) H
 replace H := br_f (by decide) H
 replace H := br_f (by decide) H
 replace H := br_t (by decide) H
 obtain ⟨x33, e33, H⟩ := bnd_some H
 refine PW.drawK 6 mixed (by kernel_rfl) fun K hK => ?_
 change FW _ _ _ _ _
 refine zq8 (FW.run) ?_
 refine FW.call' 4 rfl rfl rfl zq9 zqa kindOf_4 zq5 zqb zqc ?_
 refine zq8 (FW.run) ?_
 refine FW.nil ?_
 change OW _ _ _ _ _ _
 refine zq8 (OW.run [7, 8]) ?_
 refine OW.call' 4 rfl rfl rfl zq9 zq1d (access_kindOf_1_ok N _ _ _ _ _ _ _ _ _ _ _ _ _ _ _ _ e33) zq1e zq1f zqc ?_
 refine zq8 (OW.run [7, 8]) ?_
 refine OW.nil (hK _ ?_); clear hK K
 refine PW.seq ?_
 refine zq2 (fun _ => OW.run [7, 8, 60]) ?_
 refine PW.cond rfl (fun h51 => ?_) (fun h51 => ?_)
 replace H := br_t h51 H
 refine PW.seq ?_
 refine zq2 (fun _ => OW.run [4, 5]) ?_
 refine PW.ret ?_
 refine ⟨.inr rfl, rfl, rfl, ?_⟩
 with_reducible refine zq19 ?_
 change OW _ _ _ _ _ _
 refine zq8 (OW.run [6, 8, 9]) ?_
 refine OW.nil (hK _ ?_); clear hK K
 refine PW.seq ?_
 refine zq2 (fun _ => OW.run [6, 8, 9, 27]) ?_
 refine PW.cond rfl (fun h52 => ?_) (fun h52 => ?_)
 refine PW.seq ?_
 refine zq2 (fun _ => OW.run [6, 7]) ?_
 change PW _ _ _ _ _
 exact zq7
 exact absurd (h52.symm.trans h51) (by decide)
 replace H := br_f h51 H
 refine PW.skip ?_
 refine PW.seq ?_
 refine zq2 (fun _ => OW.run [4, 5]) ?_
 refine PW.ret ?_
 refine ⟨.inr rfl, rfl, rfl, ?_⟩
 with_reducible refine zq19 ?_
 change OW _ _ _ _ _ _
 refine zq8 (OW.run [6, 8, 9]) ?_
 refine OW.nil (hK _ ?_); clear hK K
 refine PW.seq ?_
 refine zq2 (fun _ => OW.run [6, 8, 9, 27]) ?_
 refine PW.cond rfl (fun h53 => ?_) (fun h53 => ?_)
 exact absurd h53 (by decide)
 refine PW.skip ?_
 refine PW.seq ?_
 refine PW.regionK fun K hK => zq8 (OW.run [6, 7]) ?_
 refine OW.inlineA rfl rfl rfl zq9 Tryz.func85 rfl (by rw [Tryz.results85]) Tryz.ntmps85 Tryz.call85 zqc ?_
 intro p G
 change PW _ _ _ _ _
 with_reducible refine zq0 ?_
 refine PW.seq ?_
 refine zq2 (fun _ => OW.run [0, 2]) ?_
 refine PW.seq ?_
 refine PW.drawK 8 mixed (by kernel_rfl) fun K hK => ?_
 change FW _ _ _ _ _
 refine zq8 (FW.run) ?_
 refine FW.nil ?_
 change OW _ _ _ _ _ _
 refine zq8 (OW.run [2]) ?_
 refine OW.nil (hK _ ?_); clear hK K
 refine PW.ret ?_
 refine ⟨.inr rfl, rfl, rfl, ?_⟩
 with_reducible refine zq19 ?_
 change OW _ _ _ _ _ _
 refine zq8 (OW.run [6, 7]) ?_
 refine OW.nil (hK _ ?_); clear hK K
 refine PW.ret ?_
 change PW.Ends _ _ _ _ _ _
 refine PW.Ends.intro (.inr rfl) ?_
 with_reducible refine zq3 ?_
 obtain rfl := Option.some.inj H
 with_reducible refine zq4 ?_
 have hl0 := flatMap_length 7 (fun (x : Int × Int × Int × Int × Int × Int × Int) => [(I x.1), (I x.2.1), (I x.2.2.1), (I x.2.2.2.1), (I x.2.2.2.2.1), (I x.2.2.2.2.2.1), (I x.2.2.2.2.2.2)]) (fun _ => rfl) b11
 have hn0 : (b11.flatMap (fun (x : Int × Int × Int × Int × Int × Int × Int) => [(I x.1), (I x.2.1), (I x.2.2.1), (I x.2.2.2.1), (I x.2.2.2.2.1), (I x.2.2.2.2.2.1), (I x.2.2.2.2.2.2)])).map nz = b11.flatMap (fun (x : Int × Int × Int × Int × Int × Int × Int) => [(I x.1), (I x.2.1), (I x.2.2.1), (I x.2.2.2.1), (I x.2.2.2.2.1), (I x.2.2.2.2.2.1), (I x.2.2.2.2.2.2)]) := map_nz_flat (fun _ => rfl) _
 have ht0 : (b11.flatMap (fun (x : Int × Int × Int × Int × Int × Int × Int) => [(I x.1), (I x.2.1), (I x.2.2.1), (I x.2.2.2.1), (I x.2.2.2.2.1), (I x.2.2.2.2.2.1), (I x.2.2.2.2.2.2)])).take (b11.length * 7) = b11.flatMap (fun (x : Int × Int × Int × Int × Int × Int × Int) => [(I x.1), (I x.2.1), (I x.2.2.1), (I x.2.2.2.1), (I x.2.2.2.2.1), (I x.2.2.2.2.2.1), (I x.2.2.2.2.2.2)]) := take_flat _ (fun _ => rfl) rfl
 refine RetOK.data' 4 zq5 ?_
 exact zqt
end Go.Proofs.YtbndgoeahoadlaaGreatDoor
