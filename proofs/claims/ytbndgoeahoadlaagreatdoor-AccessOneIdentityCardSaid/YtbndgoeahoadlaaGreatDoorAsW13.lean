import Derived.Test.YtbndgoeahoadlaaGreatDoorAsK
import Derived.Test.YtbndgoeahoadlaaGreatDoorAsS4
import Derived.Test.YtbndgoeahoadlaaGreatDoorAsW1
import Derived.Test.YtbndgoeahoadlaaGreatDoorAsW2
import Derived.Test.YtbndgoeahoadlaaGreatDoorAsW3
import Derived.Test.YtbndgoeahoadlaaGreatDoorAsW5
import Derived.Test.YtbndgoeahoadlaaGreatDoorAsW4
import Derived.Test.YtbndgoeahoadlaaGreatDoorZq
set_option linter.all false
namespace Go.Proofs.YtbndgoeahoadlaaGreatDoor
open Go.PW Go.Sh

set_option maxRecDepth 20000
set_option maxHeartbeats 8000000
theorem law07_stateErr_ok (N : Nat) (Z15 : Int) (Z11 : Int) (Z18 : Int) (Z17 : Int) (Z16 : Int) (Z10 : Int) (Z13 : Int) (Z1k : Int) (Z1o : List (Int × Int × Int × Int × Int × Int × Int)) (r : Int) (H : law07_stateErr N Z15 Z11 Z18 Z17 Z16 Z10 Z13 Z1k Z1o = some r) : CallOK Tryz.prog 35 [(.agg [(I Z15), (I Z11), (I Z18), (I Z17), (I Z16), (I Z10), (I Z13)]), (.agg [(I Z1k), (.list Z1o.length (Z1o.flatMap (fun (x : Int × Int × Int × Int × Int × Int × Int) => [(I x.1), (I x.2.1), (I x.2.2.1), (I x.2.2.2.1), (I x.2.2.2.2.1), (I x.2.2.2.2.2.1), (I x.2.2.2.2.2.2)])))])] (.d (I r)) [] := by
 refine CallOK.of_PW Tryz.func35 rfl (by rw [Tryz.results35]) Tryz.ntmps35 Tryz.call35 ?_
 change PW _ _ _ _ _
 with_reducible refine zq0 ?_
 unfold law07_stateErr at H
 refine PW.seq ?_
 refine zq2 (fun _ => OW.run [2, 3]) ?_
 refine PW.seq ?_
 refine PW.seq ?_
 obtain ⟨x1, e1, H⟩ := bnd_some H
 refine PW.regionK fun K hK => zq8 (OW.run [2, 3, 5]) ?_
 refine OW.call' 4 rfl rfl rfl zq9 zqa (ref07_CheckRules_ok N _ _ _ _ _ _ _ _ e1) zq5 zqb zqc ?_
 refine zq8 (OW.run [2, 3, 5]) ?_
 refine OW.nil (hK _ ?_)
 refine PW.seq ?_
 refine zq2 (fun _ => OW.run [2, 3, 5, 9]) ?_
 refine PW.cond rfl (fun h1 => ?_) (fun h1 => ?_)
 replace H := br_t h1 H
 refine PW.seq ?_
 refine zq2 (fun _ => OW.run [4]) ?_
 change PW _ _ _ _ _
 exact zq7
 replace H := br_f h1 H
 refine PW.skip ?_
 refine PW.seq ?_
 obtain ⟨x2, e2, H⟩ := bnd_some H
 refine PW.regionK fun K hK => zq8 (OW.run [4]) ?_
 refine OW.call' 4 rfl rfl rfl zq9 zqa (ref07_CheckState_ok N _ _ _ _ _ _ _ _ _ _ e2) zq5 zqb zqc ?_
 refine zq8 (OW.run [4]) ?_
 refine OW.nil (hK _ ?_)
 change PW _ _ _ _ _
 exact zq7
end Go.Proofs.YtbndgoeahoadlaaGreatDoor
