import Derived.Test.YtbndgoeahoadlaaGreatDoorAsK
import Derived.Test.YtbndgoeahoadlaaGreatDoorAsS2
import Derived.Test.YtbndgoeahoadlaaGreatDoorAsW1
import Derived.Test.YtbndgoeahoadlaaGreatDoorAsW2
import Derived.Test.YtbndgoeahoadlaaGreatDoorAsW3
import Derived.Test.YtbndgoeahoadlaaGreatDoorZq
import Derived.Test.YtbndgoeahoadlaaGreatDoorAsW5
set_option linter.all false
namespace Go.Proofs.YtbndgoeahoadlaaGreatDoor
open Go.PW Go.Sh

set_option maxRecDepth 20000
set_option maxHeartbeats 8000000
theorem access_CheckState_ok (N : Nat) (Z15 : Int) (Z11 : Int) (Z18 : Int) (Z17 : Int) (Z16 : Int) (Z10 : Int) (Z13 : Int) (Z1k : Int) (Z1o : List (Int × Int × Int × Int × Int × Int × Int)) (r : Int) (H : access_CheckState N Z15 Z11 Z18 Z17 Z16 Z10 Z13 Z1k Z1o = some r) : CallOK Tryz.prog 28 [(.agg [(I Z15), (I Z11), (I Z18), (I Z17), (I Z16), (I Z10), (I Z13)]), (.agg [(I Z1k), (.list Z1o.length (Z1o.flatMap (fun (x : Int × Int × Int × Int × Int × Int × Int) => [(I x.1), (I x.2.1), (I x.2.2.1), (I x.2.2.2.1), (I x.2.2.2.2.1), (I x.2.2.2.2.2.1), (I x.2.2.2.2.2.2)])))])] (.d (I r)) [] := by
 refine CallOK.of_PW Tryz.func28 rfl (by rw [Tryz.results28]) Tryz.ntmps28 Tryz.call28 ?_
 change PW _ _ _ _ _
 with_reducible refine zq0 ?_
 unfold access_CheckState at H
 refine PW.seq ?_
 refine zq2 (fun _ => OW.run [2, 3]) ?_
 refine PW.seq ?_
 refine PW.regionK fun K hK => zq8 (OW.run [6]) ?_
 refine OW.inlineA rfl rfl rfl zq9 Tryz.func86 rfl (by rw [Tryz.results86]) Tryz.ntmps86 Tryz.call86 zqc ?_
 intro p G
 change PW _ _ _ _ _
 with_reducible refine zq0 ?_
 refine PW.seq ?_
 refine zq2 (fun _ => OW.run [2, 3]) ?_
 refine PW.seq ?_
 refine PW.seq ?_
 obtain ⟨x1, e1, H⟩ := bnd_some H
 obtain ⟨x2, e2, H⟩ := bnd_some H
 obtain ⟨x3, e3, H⟩ := bnd_some H
 obtain ⟨x4, e4, H⟩ := bnd_some H
 refine PW.drawK 8 mixed (by kernel_rfl) fun K hK => ?_
 change FW _ _ _ _ _
 refine zq8 (FW.run) ?_
 refine FW.call' 4 rfl rfl rfl zq9 zqa (access_CheckRules_ok N _ _ _ _ _ _ _ _ e1) zq5 zqb zqc ?_
 refine zq8 (FW.run) ?_
 refine FW.call' 4 rfl rfl rfl zq9 zqa (access_tickErr_ok N _ _ e2) zq5 zqb zqc ?_
 refine zq8 (FW.run) ?_
 refine FW.nil ?_
 change OW _ _ _ _ _ _
 refine zq8 (OW.run [2, 3, 6]) ?_
 refine OW.call' 4 rfl rfl rfl zq9 zqa (access_phonesErr_ok N _ _ e3) zq5 zqb zqc ?_
 refine zq8 (OW.run [2, 3, 6]) ?_
 refine OW.call' 4 rfl rfl rfl zq9 zqa (access_first_ok N _ _ e4) zq5 zqb zqc ?_
 refine zq8 (OW.run [2, 3, 6]) ?_
 refine OW.nil (hK _ ?_); clear hK K
 refine PW.seq ?_
 refine zq2 (fun _ => OW.run [2, 3, 6, 22]) ?_
 refine PW.cond rfl (fun h1 => ?_) (fun h1 => ?_)
 replace H := br_t h1 H
 refine PW.seq ?_
 refine zq2 (fun _ => OW.run [4, 5]) ?_
 change PW _ _ _ _ _
 exact zq1a
 replace H := br_f h1 H
 refine PW.skip ?_
 refine PW.seq ?_
 obtain ⟨x5, e5, H⟩ := bnd_some H
 refine PW.drawO 6 [5] [71] mixed (by kernel_rfl) (by decide) rfl fun K hK => ?_
 refine zq8 (FWO.run) ?_
 refine FWO.callO 4 rfl ?_ zqd rfl rfl rfl zq9 ?_ (slices_Clone_pp_ok N _ _ e5) ?_ ?_ ?_ ?_
 rfl
 exact zqa
 exact zq5
 exact zq1b
 exact zqc
 refine zq8 (FWO.run) ?_
 first | refine FWO.nil ?_ | skip
 change OW _ _ _ _ _ _
 refine zq8 (OW.run [7]) ?_
 refine OW.nil (hK _ ?_); clear hK K
 refine PW.joinS (τ := Unit) [7] 7 (fun _ => []) (fun _ => [{ cells := [.d (I Z15), .d (I Z11), .d (I Z18), .d (I Z17), .d (I Z16), .d (I Z10), .d (I Z13)], e := 23 }, { cells := [.d (I Z1k), .d (.list Z1o.length (Z1o.flatMap (fun (x : Int × Int × Int × Int × Int × Int × Int) => [(I x.1), (I x.2.1), (I x.2.2.1), (I x.2.2.2.1), (I x.2.2.2.2.1), (I x.2.2.2.2.2.1), (I x.2.2.2.2.2.2)])))], e := 30 }, { cells := [.d (I Z15), .d (I Z11), .d (I Z18), .d (I Z17), .d (I Z16), .d (I Z10), .d (I Z13)], e := 23 }, { cells := [.d (I Z1k), .d (.list Z1o.length (Z1o.flatMap (fun (x : Int × Int × Int × Int × Int × Int × Int) => [(I x.1), (I x.2.1), (I x.2.2.1), (I x.2.2.2.1), (I x.2.2.2.2.1), (I x.2.2.2.2.2.1), (I x.2.2.2.2.2.2)])))], e := 30 }, { cells := [.d (I x1), .d (I x2), .d (I x3)], e := 26 }, { cells := (x5.flatMap (fun (x : Int × Int × Int × Int × Int × Int × Int) => [(I x.1), (I x.2.1), (I x.2.2.1), (I x.2.2.2.1), (I x.2.2.2.2.1), (I x.2.2.2.2.2.1), (I x.2.2.2.2.2.2)])).map .d, e := 71 }, { cells := [.d (I Z15), .d (I Z11), .d (I Z18), .d (I Z17), .d (I Z16), .d (I Z10), .d (I Z13), .d (I Z1k), .own 5 0 x5.length 7], e := 142 }]) _ _ r zqd H ?_ ?_
 intro K_ H N2 hN2
 refine PW.seq ?_
 refine zq2 (fun _ => OW.run [7, 36, 37]) ?_
 refine PW.block ?_
 refine PW.loopS (σ := Int) [7, 36, 37] 7 (fun t37 => [(37, .d (I t37))]) (fun t37 => [{ cells := [.d (I Z15), .d (I Z11), .d (I Z18), .d (I Z17), .d (I Z16), .d (I Z10), .d (I Z13)], e := 23 }, { cells := [.d (I Z1k), .d (.list Z1o.length (Z1o.flatMap (fun (x : Int × Int × Int × Int × Int × Int × Int) => [(I x.1), (I x.2.1), (I x.2.2.1), (I x.2.2.2.1), (I x.2.2.2.2.1), (I x.2.2.2.2.2.1), (I x.2.2.2.2.2.2)])))], e := 30 }, { cells := [.d (I Z15), .d (I Z11), .d (I Z18), .d (I Z17), .d (I Z16), .d (I Z10), .d (I Z13)], e := 23 }, { cells := [.d (I Z1k), .d (.list Z1o.length (Z1o.flatMap (fun (x : Int × Int × Int × Int × Int × Int × Int) => [(I x.1), (I x.2.1), (I x.2.2.1), (I x.2.2.2.1), (I x.2.2.2.2.1), (I x.2.2.2.2.2.1), (I x.2.2.2.2.2.2)])))], e := 30 }, { cells := [.d (I x1), .d (I x2), .d (I x3)], e := 26 }, { cells := (x5.flatMap (fun (x : Int × Int × Int × Int × Int × Int × Int) => [(I x.1), (I x.2.1), (I x.2.2.1), (I x.2.2.2.1), (I x.2.2.2.2.1), (I x.2.2.2.2.2.1), (I x.2.2.2.2.2.2)])).map .d, e := 71 }, { cells := [.d (I Z15), .d (I Z11), .d (I Z18), .d (I Z17), .d (I Z16), .d (I Z10), .d (I Z13), .d (I Z1k), .own 5 0 x5.length 7], e := 142 }]) (access_CheckState.b1 N Z15 Z11 Z18 Z17 Z16 Z10 Z13 Z1k x5 K_) r N (0 : Int) zqd H zqe ?_
 rintro n t37 H N3 hN3
 unfold access_CheckState.b1 at H
 with_reducible refine zq0 ?_
 refine PW.seq ?_
 refine zq2 (fun _ => OW.run [7, 36, 37, 38]) ?_
 refine PW.seq ?_
 refine PW.cond rfl (fun h4 => ?_) (fun h4 => ?_)
 replace H := br_t h4 H
 refine PW.skip ?_
 refine PW.seq ?_
 refine PW.block ?_
 refine PW.seq ?_
 refine zq2 (fun _ => OW.run [7, 8, 36, 37]) ?_
 refine PW.seq ?_
 obtain ⟨x6, e6, H⟩ := bnd_some H
 refine PW.regionK fun K hK => zq8 (OW.run [7, 9, 36, 37]) ?_
 refine OW.call' 4 rfl rfl rfl zq9 zq1d (access_site_phoneErr_ok N _ _ _ _ _ _ _ _ _ _ _ e6) zq1e zq1f zqc ?_
 refine zq8 (OW.run [7, 9, 36, 37]) ?_
 refine OW.nil (hK _ ?_); clear hK K
 refine PW.seq ?_
 refine zq2 (fun _ => OW.run [7, 9, 36, 37, 44]) ?_
 refine PW.cond rfl (fun h5 => ?_) (fun h5 => ?_)
 replace H := br_t h5 H
 refine PW.seq ?_
 refine zq2 (fun _ => OW.run [4, 5]) ?_
 change PW _ _ _ _ _
 exact zq1a
 replace H := br_f h5 H
 refine PW.skip ?_
 change PW _ _ _ _ _
 refine zq2 (fun _ => OW.run [7, 36, 37]) ?_
 refine hN3 [] (w64 (t37 + (1 : Int))) _ H zqf ?_
 exact zqe
 replace H := br_f h4 H
 refine PW.exit ?_
 refine hN2 [] () _ H zqf ?_
 exact zqe
 rintro _ H
 with_reducible refine zq0 ?_
 refine PW.seq ?_
 refine zq2 (fun _ => OW.run [4, 5]) ?_
 change PW _ _ _ _ _
 exact zq1a
theorem access_isKind_ok (N : Nat) (n : Int) (r : Bool) (H : access_isKind N n = some r) : CallOK Tryz.prog 124 [(I n)] (.d (Bo r)) [] := by
 refine CallOK.of_PW Tryz.func124 rfl (by rw [Tryz.results124]) Tryz.ntmps124 Tryz.call124 ?_
 change PW _ _ _ _ _
 with_reducible refine zq0 ?_
 unfold access_isKind at H
 refine PW.seq ?_
 refine zq2 (fun _ => OW.run [0]) ?_
 refine PW.seq ?_
 obtain ⟨x1, e1, H⟩ := bnd_some H
 refine PW.regionK fun K hK => zq8 (OW.run [2]) ?_
 refine OW.call' 4 rfl rfl rfl zq9 zqa (access_within_ok N _ _ _ _ e1) zq5 zqb zqc ?_
 refine zq8 (OW.run [2]) ?_
 refine OW.nil (hK _ ?_)
 change PW _ _ _ _ _
 exact zq7
theorem access_use_of_ok (N : Nat) (u : Int) (Zl : Int) (Zj : Int) (Zm : Int) (Zn : Int) (Zo : Int) (Zk : Int) (r : Int) (H : access_use_of N u Zl Zj Zm Zn Zo Zk = some r) : CallOK Tryz.prog 125 [(I u), (.ref [(I Zl), (I Zj), (I Zm), (I Zn), (I Zo), (I Zk)])] (.d (.ref [(I r)])) [] := by
 refine CallOK.of_PW Tryz.func125 rfl zq1g Tryz.ntmps125 Tryz.call125 ?_
 change PW _ _ _ _ _
 with_reducible refine zq0 ?_
 unfold access_use_of at H
 obtain ⟨hsp, H⟩ := chk_some H
 have hsp2 : u = 0 ∨ u = 1 ∨ u = 2 ∨ u = 3 := by omega
 clear hsp
 rcases hsp2 with rfl | rfl | rfl | rfl
 replace H := br_t (by decide) H
 refine PW.seq ?_
 refine zq2 (fun _ => OW.run [0, 1]) ?_
 refine PW.seq ?_
 refine PW.drawK 14 mixed (by kernel_rfl) fun K hK => ?_
 change FW _ _ _ _ _
 refine zq8 (FW.run) ?_
 refine FW.nil ?_
 change OW _ _ _ _ _ _
 refine zq8 (OW.run [4]) ?_
 refine OW.nil (hK _ ?_)
 refine PW.ret ?_
 change PW.Ends _ _ _ _ _ _
 refine PW.Ends.intro (.inr rfl) ?_
 with_reducible refine zq3 ?_
 obtain rfl := Option.some.inj H
 with_reducible refine zq4 ?_
 refine RetOK.refCut (l := [I Zn, I Zo, I Zk]) (RetOK.data'  4 zq5 ?_)
 exact zq6
 replace H := br_f (by decide) H
 replace H := br_t (by decide) H
 refine PW.seq ?_
 refine zq2 (fun _ => OW.run [0, 1]) ?_
 refine PW.seq ?_
 refine PW.drawK 14 mixed (by kernel_rfl) fun K hK => ?_
 change FW _ _ _ _ _
 refine zq8 (FW.run) ?_
 refine FW.nil ?_
 change OW _ _ _ _ _ _
 refine zq8 (OW.run [4]) ?_
 refine OW.nil (hK _ ?_)
 refine PW.ret ?_
 change PW.Ends _ _ _ _ _ _
 refine PW.Ends.intro (.inr rfl) ?_
 with_reducible refine zq3 ?_
 obtain rfl := Option.some.inj H
 with_reducible refine zq4 ?_
 refine RetOK.refCut (l := [I Zo, I Zk]) (RetOK.data'  4 zq5 ?_)
 exact zq6
 replace H := br_f (by decide) H
 replace H := br_f (by decide) H
 replace H := br_t (by decide) H
 refine PW.seq ?_
 refine zq2 (fun _ => OW.run [0, 1]) ?_
 refine PW.seq ?_
 refine PW.drawK 14 mixed (by kernel_rfl) fun K hK => ?_
 change FW _ _ _ _ _
 refine zq8 (FW.run) ?_
 refine FW.nil ?_
 change OW _ _ _ _ _ _
 refine zq8 (OW.run [4]) ?_
 refine OW.nil (hK _ ?_)
 refine PW.ret ?_
 change PW.Ends _ _ _ _ _ _
 refine PW.Ends.intro (.inr rfl) ?_
 with_reducible refine zq3 ?_
 obtain rfl := Option.some.inj H
 with_reducible refine zq4 ?_
 refine RetOK.refCut (l := [I Zk]) (RetOK.data'  4 zq5 ?_)
 exact zq6
 replace H := br_f (by decide) H
 replace H := br_f (by decide) H
 replace H := br_f (by decide) H
 replace H := br_t (by decide) H
 refine PW.seq ?_
 refine zq2 (fun _ => OW.run [0, 1]) ?_
 refine PW.seq ?_
 refine PW.drawK 14 mixed (by kernel_rfl) fun K hK => ?_
 change FW _ _ _ _ _
 refine zq8 (FW.run) ?_
 refine FW.nil ?_
 change OW _ _ _ _ _ _
 refine zq8 (OW.run [4]) ?_
 refine OW.nil (hK _ ?_)
 refine PW.ret ?_
 change PW.Ends _ _ _ _ _ _
 refine PW.Ends.intro (.inr rfl) ?_
 with_reducible refine zq3 ?_
 obtain rfl := Option.some.inj H
 with_reducible refine zq4 ?_
 refine RetOK.refCut (l := []) (RetOK.data'  4 zq5 ?_)
 exact zq6
end Go.Proofs.YtbndgoeahoadlaaGreatDoor
namespace Go.Proofs.YtbndgoeahoadlaaGreatDoor
open Go.PW Go.Sh

end Go.Proofs.YtbndgoeahoadlaaGreatDoor
namespace Go.Proofs.YtbndgoeahoadlaaGreatDoor
open Go.PW Go.Sh

end Go.Proofs.YtbndgoeahoadlaaGreatDoor
