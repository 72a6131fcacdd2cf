import Derived.Test.YtbndgoeahoadlaaGreatDoorAsK
import Derived.Test.YtbndgoeahoadlaaGreatDoorAsW1
import Derived.Test.YtbndgoeahoadlaaGreatDoorAsW2
import Derived.Test.YtbndgoeahoadlaaGreatDoorZq
set_option linter.all false
namespace Go.Proofs.YtbndgoeahoadlaaGreatDoor
open Go.PW Go.Sh

set_option maxRecDepth 20000
set_option maxHeartbeats 8000000
theorem ref07_formed_ok (N : Nat) (Zx : Int) (Zv : Int) (Zw : Int) (Zs : Int) (Zz : Int) (Zy : Int) (Zq : Int) (r : Bool) (H : ref07_formed N Zx Zv Zw Zs Zz Zy Zq = some r) : CallOK Tryz.prog 126 [(.agg [(I Zx), (I Zv), (I Zw), (I Zs), (I Zz), (I Zy), (I Zq)])] (.d (Bo r)) [] := by
 refine CallOK.of_PW Tryz.func126 rfl (by rw [Tryz.results126]) Tryz.ntmps126 Tryz.call126 ?_
 change PW _ _ _ _ _
 with_reducible refine zq0 ?_
 unfold ref07_formed at H
 refine PW.seq ?_
 refine zq2 (fun _ => OW.run [1]) ?_
 refine PW.seq ?_
 obtain ⟨⟨x1, x11, x12, x13, x14, x15, x16⟩, e1, H⟩ := bnd_some H
 refine PW.regionK fun K hK => zq8 (OW.run [1, 3]) ?_
 refine OW.call' 4 rfl rfl rfl zq9 zqa (ref07_plain_ok N _ _ _ e1) zq5 zqb zqc ?_
 refine zq8 (OW.run [1, 3]) ?_
 refine OW.nil (hK _ ?_)
 refine PW.seq ?_
 refine PW.seq ?_
 refine zq2 (fun _ => OW.run [1, 3, 10]) ?_
 refine PW.block ?_
 refine PW.seq ?_
 refine zq2 (fun _ => OW.run [1, 3, 10, 11]) ?_
 refine PW.cond rfl (fun h1 => ?_) (fun h1 => ?_)
 replace H := br_t h1 H
 refine PW.drawX 14 [9, 11, 13] (fun j => List.getD [[{ cells := [.d (I Zx), .d (I Zv), .d (I Zw), .d (I Zs), .d (I Zz), .d (I Zy), .d (I Zq)], e := 71 }, { cells := [.d (I x1), .d (I x11), .d (I x12), .d (I x13), .d (I x14), .d (I x15), .d (I x16)], e := 71 }], [{ cells := [.d (I Zx), .d (I Zv), .d (I Zw), .d (I Zs), .d (I Zz), .d (I Zy), .d (I Zq)], e := 71 }, { cells := [.d (I x1), .d (I Zv), .d (I x12), .d (I x13), .d (I x14), .d (I x15), .d (I x16)], e := 71 }], [{ cells := [.d (I Zx), .d (I Zv), .d (I Zw), .d (I Zs), .d (I Zz), .d (I Zy), .d (I Zq)], e := 71 }, { cells := [.d (I x1), .d (I Zv), .d (I Zw), .d (I x13), .d (I x14), .d (I x15), .d (I x16)], e := 71 }], [{ cells := [.d (I Zx), .d (I Zv), .d (I Zw), .d (I Zs), .d (I Zz), .d (I Zy), .d (I Zq)], e := 71 }, { cells := [.d (I x1), .d (I Zv), .d (I Zw), .d (I x13), .d (I Zz), .d (I x15), .d (I x16)], e := 71 }]] j []) (fun _ v => v) mixed (by kernel_rfl) (by decide) zqj (fun _ => rfl) (by decide) (freshL rfl) rfl rfl fun K hK => ?_
 change FWX _ _ _ _ _ _ _ _ _ _
 refine FWX.op (by decide) rfl (.ptr 0 1) 0 0 (.inl rfl) (.inr ⟨_, _, { on := 0, ground := .phase }, rfl, rfl, by simp, rfl, rfl⟩) zqw zqx zqc ?_
 with_reducible refine zq0 ?_
 refine FWX.op (by decide) rfl (.d (I Zv)) 0 0 (.inl rfl) (.inr ⟨_, _, { on := 1, ground := .data }, rfl, rfl, by simp, rfl, rfl⟩) zqw zqx zqc ?_
 with_reducible refine zq0 ?_
 refine FWX.op (by decide) rfl (.ptr 0 2) 0 1 (.inl rfl) (.inr ⟨_, _, { on := 2, ground := .phase }, rfl, rfl, by simp, rfl, rfl⟩) zqy zqx zqc ?_
 with_reducible refine zq0 ?_
 refine FWX.op (by decide) rfl (.d (I Zw)) 0 1 (.inl rfl) (.inr ⟨_, _, { on := 3, ground := .data }, rfl, rfl, by simp, rfl, rfl⟩) zqy zqx zqc ?_
 with_reducible refine zq0 ?_
 refine FWX.op (by decide) rfl (.ptr 0 4) 0 2 (.inl rfl) (.inr ⟨_, _, { on := 4, ground := .phase }, rfl, rfl, by simp, rfl, rfl⟩) zqz zqx zqc ?_
 with_reducible refine zq0 ?_
 refine FWX.op (by decide) rfl (.d (I Zz)) 0 2 (.inl rfl) (.inr ⟨_, _, { on := 5, ground := .data }, rfl, rfl, by simp, rfl, rfl⟩) zqz zqx zqc ?_
 with_reducible refine zq0 ?_
 refine FWX.op (by decide) rfl (.ptr 0 5) 0 3 (.inl rfl) (.inl rfl) zq10 zqx zqc ?_
 with_reducible refine zq0 ?_
 refine FWX.op (by decide) rfl (.d (I Zy)) 0 3 (.inl rfl) (.inl rfl) zq10 zqx zqc ?_
 with_reducible refine zq0 ?_
 refine FWX.op (by decide) rfl (.ptr 1 1) 0 0 (.inl rfl) (.inr ⟨_, _, { on := 8, ground := .data }, rfl, rfl, by simp, rfl, rfl⟩) zqw zqx zqc ?_
 with_reducible refine zq0 ?_
 refine FWX.store (q := 0) (by decide) rfl rfl rfl rfl (fun _ => rfl) zq11 zq11 ?_
 with_reducible refine zq0 ?_
 refine FWX.op (by decide) rfl (.ptr 1 2) 1 1 (.inr ⟨{ on := 9, ground := .phase }, by simp, rfl, rfl⟩) (.inr ⟨_, _, { on := 10, ground := .data }, rfl, rfl, by simp, rfl, rfl⟩) zq12 zqx zqc ?_
 with_reducible refine zq0 ?_
 refine FWX.store (q := 1) (by decide) rfl rfl rfl rfl (fun _ => rfl) zq11 zq11 ?_
 with_reducible refine zq0 ?_
 refine FWX.op (by decide) rfl (.ptr 1 4) 2 2 (.inr ⟨{ on := 11, ground := .phase }, by simp, rfl, rfl⟩) (.inr ⟨_, _, { on := 12, ground := .data }, rfl, rfl, by simp, rfl, rfl⟩) zq13 zqx zqc ?_
 with_reducible refine zq0 ?_
 refine FWX.store (q := 2) (by decide) rfl rfl rfl rfl (fun _ => rfl) zq11 zq11 ?_
 with_reducible refine zq0 ?_
 refine FWX.nil ?_
 change OW _ _ _ _ _ _
 change OW _ _ _ _ _ _
 refine zq8 (OW.run [1, 3]) ?_
 refine OW.nil (hK _ ?_)
 refine PW.seq ?_
 refine zq2 (fun _ => OW.run [2]) ?_
 change PW _ _ _ _ _
 exact zq7
 replace H := br_f h1 H
 refine PW.seq ?_
 refine zq2 (fun _ => OW.run [1, 3, 10, 25]) ?_
 refine PW.cond rfl (fun h2 => ?_) (fun h2 => ?_)
 replace H := br_t h2 H
 refine PW.drawX 10 [7, 9] (fun j => List.getD [[{ cells := [.d (I Zx), .d (I Zv), .d (I Zw), .d (I Zs), .d (I Zz), .d (I Zy), .d (I Zq)], e := 71 }, { cells := [.d (I x1), .d (I x11), .d (I x12), .d (I x13), .d (I x14), .d (I x15), .d (I x16)], e := 71 }], [{ cells := [.d (I Zx), .d (I Zv), .d (I Zw), .d (I Zs), .d (I Zz), .d (I Zy), .d (I Zq)], e := 71 }, { cells := [.d (I x1), .d (I x11), .d (I x12), .d (I Zs), .d (I x14), .d (I x15), .d (I x16)], e := 71 }], [{ cells := [.d (I Zx), .d (I Zv), .d (I Zw), .d (I Zs), .d (I Zz), .d (I Zy), .d (I Zq)], e := 71 }, { cells := [.d (I x1), .d (I x11), .d (I x12), .d (I Zs), .d (I Zz), .d (I x15), .d (I x16)], e := 71 }]] j []) (fun _ v => v) mixed (by kernel_rfl) (by decide) zqj (fun _ => rfl) (by decide) (freshL rfl) rfl rfl fun K hK => ?_
 change FWX _ _ _ _ _ _ _ _ _ _
 refine FWX.op (by decide) rfl (.ptr 0 3) 0 0 (.inl rfl) (.inr ⟨_, _, { on := 0, ground := .phase }, rfl, rfl, by simp, rfl, rfl⟩) zqw zqx zqc ?_
 with_reducible refine zq0 ?_
 refine FWX.op (by decide) rfl (.d (I Zs)) 0 0 (.inl rfl) (.inr ⟨_, _, { on := 1, ground := .data }, rfl, rfl, by simp, rfl, rfl⟩) zqw zqx zqc ?_
 with_reducible refine zq0 ?_
 refine FWX.op (by decide) rfl (.ptr 0 4) 0 1 (.inl rfl) (.inr ⟨_, _, { on := 2, ground := .phase }, rfl, rfl, by simp, rfl, rfl⟩) zqy zqx zqc ?_
 with_reducible refine zq0 ?_
 refine FWX.op (by decide) rfl (.d (I Zz)) 0 1 (.inl rfl) (.inr ⟨_, _, { on := 3, ground := .data }, rfl, rfl, by simp, rfl, rfl⟩) zqy zqx zqc ?_
 with_reducible refine zq0 ?_
 refine FWX.op (by decide) rfl (.ptr 0 5) 0 2 (.inl rfl) (.inl rfl) zqz zqx zqc ?_
 with_reducible refine zq0 ?_
 refine FWX.op (by decide) rfl (.d (I Zy)) 0 2 (.inl rfl) (.inl rfl) zqz zqx zqc ?_
 with_reducible refine zq0 ?_
 refine FWX.op (by decide) rfl (.ptr 1 3) 0 0 (.inl rfl) (.inr ⟨_, _, { on := 6, ground := .data }, rfl, rfl, by simp, rfl, rfl⟩) zqw zqx zqc ?_
 with_reducible refine zq0 ?_
 refine FWX.store (q := 0) (by decide) rfl rfl rfl rfl (fun _ => rfl) zq11 zq11 ?_
 with_reducible refine zq0 ?_
 refine FWX.op (by decide) rfl (.ptr 1 4) 1 1 (.inr ⟨{ on := 7, ground := .phase }, by simp, rfl, rfl⟩) (.inr ⟨_, _, { on := 8, ground := .data }, rfl, rfl, by simp, rfl, rfl⟩) zq12 zqx zqc ?_
 with_reducible refine zq0 ?_
 refine FWX.store (q := 1) (by decide) rfl rfl rfl rfl (fun _ => rfl) zq11 zq11 ?_
 with_reducible refine zq0 ?_
 refine FWX.nil ?_
 change OW _ _ _ _ _ _
 change OW _ _ _ _ _ _
 refine zq8 (OW.run [1, 3]) ?_
 refine OW.nil (hK _ ?_)
 refine PW.seq ?_
 refine zq2 (fun _ => OW.run [2]) ?_
 change PW _ _ _ _ _
 exact zq7
 replace H := br_f h2 H
 refine PW.seq ?_
 refine zq2 (fun _ => OW.run [1, 3, 10, 36]) ?_
 refine PW.cond rfl (fun h3 => ?_) (fun h3 => ?_)
 replace H := br_t h3 H
 refine PW.drawX 6 [5] (fun j => List.getD [[{ cells := [.d (I Zx), .d (I Zv), .d (I Zw), .d (I Zs), .d (I Zz), .d (I Zy), .d (I Zq)], e := 71 }, { cells := [.d (I x1), .d (I x11), .d (I x12), .d (I x13), .d (I x14), .d (I x15), .d (I x16)], e := 71 }], [{ cells := [.d (I Zx), .d (I Zv), .d (I Zw), .d (I Zs), .d (I Zz), .d (I Zy), .d (I Zq)], e := 71 }, { cells := [.d (I x1), .d (I x11), .d (I x12), .d (I x13), .d (I Zz), .d (I x15), .d (I x16)], e := 71 }]] j []) (fun _ v => v) mixed (by kernel_rfl) (by decide) zqj (fun _ => rfl) (by decide) (freshL rfl) rfl rfl fun K hK => ?_
 change FWX _ _ _ _ _ _ _ _ _ _
 refine FWX.op (by decide) rfl (.ptr 0 4) 0 0 (.inl rfl) (.inr ⟨_, _, { on := 0, ground := .phase }, rfl, rfl, by simp, rfl, rfl⟩) zqw zqx zqc ?_
 with_reducible refine zq0 ?_
 refine FWX.op (by decide) rfl (.d (I Zz)) 0 0 (.inl rfl) (.inr ⟨_, _, { on := 1, ground := .data }, rfl, rfl, by simp, rfl, rfl⟩) zqw zqx zqc ?_
 with_reducible refine zq0 ?_
 refine FWX.op (by decide) rfl (.ptr 0 5) 0 1 (.inl rfl) (.inl rfl) zqy zqx zqc ?_
 with_reducible refine zq0 ?_
 refine FWX.op (by decide) rfl (.d (I Zy)) 0 1 (.inl rfl) (.inl rfl) zqy zqx zqc ?_
 with_reducible refine zq0 ?_
 refine FWX.op (by decide) rfl (.ptr 1 4) 0 0 (.inl rfl) (.inr ⟨_, _, { on := 4, ground := .data }, rfl, rfl, by simp, rfl, rfl⟩) zqw zqx zqc ?_
 with_reducible refine zq0 ?_
 refine FWX.store (q := 0) (by decide) rfl rfl rfl rfl (fun _ => rfl) zq11 zq11 ?_
 with_reducible refine zq0 ?_
 refine FWX.nil ?_
 change OW _ _ _ _ _ _
 change OW _ _ _ _ _ _
 refine zq8 (OW.run [1, 3]) ?_
 refine OW.nil (hK _ ?_)
 refine PW.seq ?_
 refine zq2 (fun _ => OW.run [2]) ?_
 change PW _ _ _ _ _
 exact zq7
 replace H := br_f h3 H
 refine PW.seq ?_
 refine zq2 (fun _ => OW.run [1, 3, 10, 44]) ?_
 refine PW.cond rfl (fun h4 => ?_) (fun h4 => ?_)
 replace H := br_t h4 H
 refine zq2 (fun _ => OW.run [1, 3]) ?_
 refine PW.seq ?_
 refine zq2 (fun _ => OW.run [2]) ?_
 change PW _ _ _ _ _
 exact zq7
 replace H := br_f h4 H
 refine PW.seq ?_
 refine zq2 (fun _ => OW.run [1, 3, 49]) ?_
 refine PW.cond rfl (fun h5 => ?_) (fun h5 => ?_)
 replace H := br_t h5 H
 refine zq2 (fun _ => OW.run [1, 3]) ?_
 refine PW.seq ?_
 refine zq2 (fun _ => OW.run [2]) ?_
 change PW _ _ _ _ _
 exact zq7
 replace H := br_f h5 H
 refine PW.skip ?_
 refine PW.seq ?_
 refine zq2 (fun _ => OW.run [2]) ?_
 change PW _ _ _ _ _
 exact zq7
theorem ref07_triesErr_ok (N : Nat) (Zx : Int) (Zv : Int) (Zw : Int) (Zs : Int) (Zz : Int) (Zy : Int) (Zq : Int) (most : Int) (r : Int) (H : ref07_triesErr N Zx Zv Zw Zs Zz Zy Zq most = some r) : CallOK Tryz.prog 127 [(.agg [(I Zx), (I Zv), (I Zw), (I Zs), (I Zz), (I Zy), (I Zq)]), (I most)] (.d (I r)) [] := by
 refine CallOK.of_PW Tryz.func127 rfl (by rw [Tryz.results127]) Tryz.ntmps127 Tryz.call127 ?_
 change PW _ _ _ _ _
 with_reducible refine zq0 ?_
 unfold ref07_triesErr at H
 refine PW.seq ?_
 refine zq2 (fun _ => OW.run [1, 2]) ?_
 refine PW.seq ?_
 refine PW.seq ?_
 obtain ⟨x1, e1, H⟩ := bnd_some H
 refine PW.regionK fun K hK => zq8 (OW.run [9]) ?_
 refine OW.call' 4 rfl rfl rfl zq9 zqa (base_Within_ok N _ _ _ _ e1) zq5 zqb zqc ?_
 refine zq8 (OW.run [9]) ?_
 refine OW.nil (hK _ ?_)
 refine PW.cond rfl (fun h1 => ?_) (fun h1 => ?_)
 replace H := br_t h1 H
 refine PW.seq ?_
 refine zq2 (fun _ => OW.run [4]) ?_
 change PW _ _ _ _ _
 exact zq7
 replace H := br_f h1 H
 refine PW.skip ?_
 refine PW.seq ?_
 refine zq2 (fun _ => OW.run [4]) ?_
 change PW _ _ _ _ _
 exact zq7
theorem ref07_IdentityErr_ok (N : Nat) (Z15 : Int) (Z11 : Int) (Z18 : Int) (Z17 : Int) (Z16 : Int) (Z10 : Int) (Z13 : Int) (n : Int) (r : Int) (H : ref07_IdentityErr N Z15 Z11 Z18 Z17 Z16 Z10 Z13 n = some r) : CallOK Tryz.prog 68 [(.agg [(I Z15), (I Z11), (I Z18), (I Z17), (I Z16), (I Z10), (I Z13)]), (I n)] (.d (I r)) [] := by
 refine CallOK.of_PW Tryz.func68 rfl (by rw [Tryz.results68]) Tryz.ntmps68 Tryz.call68 ?_
 change PW _ _ _ _ _
 with_reducible refine zq0 ?_
 unfold ref07_IdentityErr at H
 refine PW.seq ?_
 refine zq2 (fun _ => OW.run [1, 2]) ?_
 refine PW.seq ?_
 refine PW.seq ?_
 obtain ⟨x1, e1, H⟩ := bnd_some H
 refine PW.regionK fun K hK => zq8 (OW.run [10]) ?_
 refine OW.call' 4 rfl rfl rfl zq9 zqa (base_Within_ok N _ _ _ _ e1) zq5 zqb zqc ?_
 refine zq8 (OW.run [10]) ?_
 refine OW.nil (hK _ ?_)
 refine PW.cond rfl (fun h1 => ?_) (fun h1 => ?_)
 replace H := br_t h1 H
 refine PW.seq ?_
 refine zq2 (fun _ => OW.run [4]) ?_
 change PW _ _ _ _ _
 exact zq7
 replace H := br_f h1 H
 refine PW.skip ?_
 refine PW.seq ?_
 refine zq2 (fun _ => OW.run [4]) ?_
 change PW _ _ _ _ _
 exact zq7
theorem ref07_phoneErr_ok (N : Nat) (Z15 : Int) (Z11 : Int) (Z18 : Int) (Z17 : Int) (Z16 : Int) (Z10 : Int) (Z13 : Int) (Z1k : Int) (Z1o : List (Int × Int × Int × Int × Int × Int × Int)) (i : Int) (r : Int) (H : ref07_phoneErr N Z15 Z11 Z18 Z17 Z16 Z10 Z13 Z1k Z1o i = some r) : CallOK Tryz.prog 88 [(.agg [(I Z15), (I Z11), (I Z18), (I Z17), (I Z16), (I Z10), (I Z13)]), (.agg [(I Z1k), (.list Z1o.length (Z1o.flatMap (fun (x : Int × Int × Int × Int × Int × Int × Int) => [(I x.1), (I x.2.1), (I x.2.2.1), (I x.2.2.2.1), (I x.2.2.2.2.1), (I x.2.2.2.2.2.1), (I x.2.2.2.2.2.2)])))]), (I i)] (.d (I r)) [] := by
 refine CallOK.of_PW Tryz.func88 rfl (by rw [Tryz.results88]) Tryz.ntmps88 Tryz.call88 ?_
 change PW _ _ _ _ _
 with_reducible refine zq0 ?_
 unfold ref07_phoneErr at H
 refine PW.seq ?_
 refine zq2 (fun _ => OW.run [2, 3, 4]) ?_
 refine PW.seq ?_
 obtain ⟨c1, H⟩ := chk_some H
 refine zq14 (fun _ => OW.run [2, 3, 4, 7]) ?_
 refine PW.seq ?_
 refine PW.seq ?_
 obtain ⟨x1, e1, H⟩ := bnd_some H
 refine PW.regionK fun K hK => zq8 (OW.run [2, 3, 4, 7, 23]) ?_
 refine OW.call' 4 rfl rfl rfl zq9 zqa (base_Within_ok N _ _ _ _ e1) zq5 zqb zqc ?_
 refine zq8 (OW.run [2, 3, 4, 7, 23]) ?_
 refine OW.nil (hK _ ?_)
 refine PW.cond rfl (fun h2 => ?_) (fun h2 => ?_)
 replace H := br_t h2 H
 refine PW.seq ?_
 refine zq2 (fun _ => OW.run [6]) ?_
 change PW _ _ _ _ _
 exact zq7
 replace H := br_f h2 H
 refine PW.skip ?_
 refine PW.seq ?_
 refine PW.seq ?_
 obtain ⟨x2, e2, H⟩ := bnd_some H
 refine PW.regionK fun K hK => zq8 (OW.run [2, 3, 4, 7, 27]) ?_
 refine OW.call' 4 rfl rfl rfl zq9 zqa (ref07_isDraw_ok N _ _ e2) zq5 zqb zqc ?_
 refine zq8 (OW.run [2, 3, 4, 7, 27]) ?_
 refine OW.nil (hK _ ?_)
 refine PW.cond rfl (fun h3 => ?_) (fun h3 => ?_)
 replace H := br_t h3 H
 refine PW.seq ?_
 refine zq2 (fun _ => OW.run [6]) ?_
 change PW _ _ _ _ _
 exact zq7
 replace H := br_f h3 H
 refine PW.skip ?_
 refine PW.seq ?_
 refine PW.seq ?_
 obtain ⟨x3, e3, H⟩ := bnd_some H
 refine PW.regionK fun K hK => zq8 (OW.run [2, 3, 4, 7, 30]) ?_
 refine OW.call' 4 rfl rfl rfl zq9 zqa (ref07_formed_ok N _ _ _ _ _ _ _ _ e3) zq5 zqb zqc ?_
 refine zq8 (OW.run [2, 3, 4, 7, 30]) ?_
 refine OW.nil (hK _ ?_)
 refine PW.cond rfl (fun h4 => ?_) (fun h4 => ?_)
 replace H := br_t h4 H
 refine PW.seq ?_
 refine zq2 (fun _ => OW.run [6]) ?_
 change PW _ _ _ _ _
 exact zq7
 replace H := br_f h4 H
 refine PW.skip ?_
 refine PW.seq ?_
 refine zq2 (fun _ => OW.run [2, 3, 4, 7, 8, 9]) ?_
 refine PW.joinS (τ := Unit) [] 0 (fun _ => []) (fun _ => []) _ _ r zqd H ?_ ?_
 intro K_ H N5 hN5
 refine PW.seq ?_
 refine zq2 (fun _ => OW.run [2, 3, 4, 7, 8, 9, 32]) ?_
 refine PW.block ?_
 refine PW.seq ?_
 refine zq2 (fun _ => OW.run [2, 3, 4, 7, 8, 9, 32, 33]) ?_
 refine PW.cond rfl (fun h6 => ?_) (fun h6 => ?_)
 replace H := br_t h6 H
 refine PW.seq ?_
 refine PW.seq ?_
 obtain ⟨x4, e4, H⟩ := bnd_some H
 refine PW.regionK fun K hK => zq8 (OW.run [3, 4, 7, 8, 41]) ?_
 refine OW.call' 4 rfl rfl rfl zq9 zqa (base_Within_ok N _ _ _ _ e4) zq5 zqb zqc ?_
 refine zq8 (OW.run [3, 4, 7, 8, 41]) ?_
 refine OW.nil (hK _ ?_)
 refine PW.cond rfl (fun h7 => ?_) (fun h7 => ?_)
 replace H := br_t h7 H
 refine PW.seq ?_
 refine zq2 (fun _ => OW.run [6]) ?_
 change PW _ _ _ _ _
 exact zq7
 replace H := br_f h7 H
 refine PW.skip ?_
 refine PW.seq ?_
 refine PW.seq ?_
 obtain ⟨x5, e5, H⟩ := bnd_some H
 obtain ⟨c8, H⟩ := chk_some H
 refine PW.regionK fun K hK => zq15 (OW.run [3, 7, 8, 72]) ?_
 refine OW.call' 4 rfl rfl rfl zq9 zqa (base_Within_ok N _ _ _ _ e5) zq5 zqb zqc ?_
 refine zq15 (OW.run [3, 7, 8, 72]) ?_
 refine OW.nil (hK _ ?_)
 refine PW.cond rfl (fun h9 => ?_) (fun h9 => ?_)
 replace H := br_t h9 H
 refine PW.seq ?_
 refine zq2 (fun _ => OW.run [6]) ?_
 change PW _ _ _ _ _
 exact zq7
 replace H := br_f h9 H
 refine PW.skip ?_
 refine PW.seq ?_
 obtain ⟨x6, e6, H⟩ := bnd_some H
 refine PW.regionK fun K hK => zq8 (OW.run [6]) ?_
 refine OW.call' 4 rfl rfl rfl zq9 zqa (ref07_triesErr_ok N _ _ _ _ _ _ _ _ _ e6) zq5 zqb zqc ?_
 refine zq8 (OW.run [6]) ?_
 refine OW.nil (hK _ ?_)
 change PW _ _ _ _ _
 exact zq7
 replace H := br_f h6 H
 refine PW.seq ?_
 refine zq2 (fun _ => OW.run [2, 3, 4, 7, 8, 9, 32, 78]) ?_
 refine PW.cond rfl (fun h10 => ?_) (fun h10 => ?_)
 replace H := br_t h10 H
 refine PW.seq ?_
 refine PW.seq ?_
 obtain ⟨x7, e7, H⟩ := bnd_some H
 refine PW.regionK fun K hK => zq8 (OW.run [2, 3, 4, 7, 8, 9, 10]) ?_
 refine OW.call' 4 rfl rfl rfl zq9 zqa (ref07_IdentityErr_ok N _ _ _ _ _ _ _ _ _ e7) zq5 zqb zqc ?_
 refine zq8 (OW.run [2, 3, 4, 7, 8, 9, 10]) ?_
 refine OW.nil (hK _ ?_)
 refine PW.seq ?_
 refine zq2 (fun _ => OW.run [2, 3, 4, 7, 8, 9, 10, 85]) ?_
 refine PW.cond rfl (fun h11 => ?_) (fun h11 => ?_)
 replace H := br_t h11 H
 refine PW.seq ?_
 refine zq2 (fun _ => OW.run [6]) ?_
 change PW _ _ _ _ _
 exact zq7
 replace H := br_f h11 H
 refine PW.skip ?_
 refine PW.seq ?_
 refine PW.seq ?_
 obtain ⟨x8, e8, H⟩ := bnd_some H
 refine PW.regionK fun K hK => zq8 (OW.run [2, 3, 4, 7, 8, 9, 97]) ?_
 refine OW.call' 4 rfl rfl rfl zq9 zqa (base_Within_ok N _ _ _ _ e8) zq5 zqb zqc ?_
 refine zq8 (OW.run [2, 3, 4, 7, 8, 9, 97]) ?_
 refine OW.nil (hK _ ?_)
 refine PW.cond rfl (fun h12 => ?_) (fun h12 => ?_)
 replace H := br_t h12 H
 refine PW.seq ?_
 refine zq2 (fun _ => OW.run [6]) ?_
 change PW _ _ _ _ _
 exact zq7
 replace H := br_f h12 H
 refine PW.skip ?_
 refine PW.seq ?_
 refine PW.seq ?_
 obtain ⟨x9, e9, H⟩ := bnd_some H
 refine PW.regionK fun K hK => zq8 (OW.run [2, 4, 7, 9, 11]) ?_
 refine OW.call' 4 rfl rfl rfl zq9 zqa (ref07_triesErr_ok N _ _ _ _ _ _ _ _ _ e9) zq5 zqb zqc ?_
 refine zq8 (OW.run [2, 4, 7, 9, 11]) ?_
 refine OW.nil (hK _ ?_)
 refine PW.seq ?_
 refine zq2 (fun _ => OW.run [2, 4, 7, 9, 11, 104]) ?_
 refine PW.cond rfl (fun h13 => ?_) (fun h13 => ?_)
 replace H := br_t h13 H
 refine PW.seq ?_
 refine zq2 (fun _ => OW.run [6]) ?_
 change PW _ _ _ _ _
 exact zq7
 replace H := br_f h13 H
 refine PW.skip ?_
 refine PW.seq ?_
 refine zq2 (fun _ => OW.run [2, 4, 7, 9, 12]) ?_
 refine PW.block ?_
 refine PW.loopS (σ := Int) [2, 4, 7, 9, 12] 3 (fun k => [(12, .d (I k))]) (fun k => [{ cells := [.d (I Z15), .d (I Z11), .d (I Z18), .d (I Z17), .d (I Z16), .d (I Z10), .d (I Z13)], e := 23 }, { cells := [.d (I Z1k), .d (.list Z1o.length (Z1o.flatMap (fun (x : Int × Int × Int × Int × Int × Int × Int) => [(I x.1), (I x.2.1), (I x.2.2.1), (I x.2.2.2.1), (I x.2.2.2.2.1), (I x.2.2.2.2.2.1), (I x.2.2.2.2.2.2)])))], e := 30 }, { cells := [.d (I ((Z1o.getD i.toNat default).1)), .d (I ((Z1o.getD i.toNat default).2.1)), .d (I ((Z1o.getD i.toNat default).2.2.1)), .d (I ((Z1o.getD i.toNat default).2.2.2.1)), .d (I ((Z1o.getD i.toNat default).2.2.2.2.1)), .d (I ((Z1o.getD i.toNat default).2.2.2.2.2.1)), .d (I ((Z1o.getD i.toNat default).2.2.2.2.2.2))], e := 71 }]) (ref07_phoneErr.b1 N Z1o i K_) r N (0 : Int) zqd H zqe ?_
 rintro n k H N14 hN14
 unfold ref07_phoneErr.b1 at H
 with_reducible refine zq0 ?_
 refine PW.seq ?_
 refine PW.seq ?_
 refine zq2 (fun _ => OW.run [2, 4, 7, 9, 12, 108]) ?_
 refine PW.cond rfl (fun h15 => ?_) (fun h15 => ?_)
 replace H := br_t h15 H
 refine PW.skip ?_
 refine PW.seq ?_
 refine PW.block ?_
 refine PW.seq ?_
 obtain ⟨c16, H⟩ := chk_some H
 obtain ⟨c17, H⟩ := chk_some H
 refine PW.drawK 16 mixed (by kernel_rfl) fun K hK => ?_
 change FW _ _ _ _ _
 refine FW.toS [(2, .d (I i)), (4, .ptr 1 0), (7, .ptr 2 0), (9, .d (I (13 : Int))), (12, .d (I k)), (128, .d (Bo (((Z1o.getD k.toNat default).1 == (4 : Int)) && ((Z1o.getD k.toNat default).2.2.2.1 == (Z1o.getD i.toNat default).2.2.2.1))))] [{ cells := [.d (I Z15), .d (I Z11), .d (I Z18), .d (I Z17), .d (I Z16), .d (I Z10), .d (I Z13)], e := 23 }, { cells := [.d (I Z1k), .d (.list Z1o.length (Z1o.flatMap (fun (x : Int × Int × Int × Int × Int × Int × Int) => [(I x.1), (I x.2.1), (I x.2.2.1), (I x.2.2.2.1), (I x.2.2.2.2.1), (I x.2.2.2.2.2.1), (I x.2.2.2.2.2.2)])))], e := 30 }, { cells := [.d (I ((Z1o.getD i.toNat default).1)), .d (I ((Z1o.getD i.toNat default).2.1)), .d (I ((Z1o.getD i.toNat default).2.2.1)), .d (I ((Z1o.getD i.toNat default).2.2.2.1)), .d (I ((Z1o.getD i.toNat default).2.2.2.2.1)), .d (I ((Z1o.getD i.toNat default).2.2.2.2.2.1)), .d (I ((Z1o.getD i.toNat default).2.2.2.2.2.2))], e := 71 }] ?_ (hK _ ?_)
 intro K hKE
 rcases Bool.eq_false_or_eq_true (((Z1o.getD k.toNat default).1 == (4 : Int))) with ha0 | ha0
 try simp only [ha0, Bool.and_true, Bool.true_and, Bool.and_false, Bool.false_and, Bool.or_true, Bool.true_or, Bool.or_false, Bool.false_or, Bool.not_true, Bool.not_false, Bool.false_eq_true, true_implies, false_implies, forall_const] at c17
 refine zq16 (FW.run) ?_
 refine FW.nil ?_
 change OW _ _ _ _ _ _
 refine zq16 (OW.run [2, 4, 7, 9, 12, 128]) ?_
 refine OW.nil ((congrArg K ?_).mpr hKE)
 exact zq17
 try simp only [ha0, Bool.and_true, Bool.true_and, Bool.and_false, Bool.false_and, Bool.or_true, Bool.true_or, Bool.or_false, Bool.false_or, Bool.not_true, Bool.not_false, Bool.false_eq_true, true_implies, false_implies, forall_const] at c17
 refine zq16 (FW.run) ?_
 refine FW.nil ?_
 change OW _ _ _ _ _ _
 refine zq16 (OW.run [2, 4, 7, 9, 12, 128]) ?_
 refine OW.nil ((congrArg K ?_).mpr hKE)
 exact zq17
 clear hK K
 refine PW.cond rfl (fun h18 => ?_) (fun h18 => ?_)
 replace H := br_t h18 H
 refine PW.seq ?_
 refine zq2 (fun _ => OW.run [6]) ?_
 change PW _ _ _ _ _
 exact zq7
 replace H := br_f h18 H
 refine PW.skip ?_
 change PW _ _ _ _ _
 refine zq2 (fun _ => OW.run [2, 4, 7, 9, 12]) ?_
 refine hN14 [] (w64 (k + (1 : Int))) _ H zqf ?_
 exact zqe
 replace H := br_f h15 H
 refine PW.exit ?_
 refine hN5 [] () _ H zqf ?_
 exact zqe
 replace H := br_f h10 H
 refine PW.seq ?_
 refine zq2 (fun _ => OW.run [2, 3, 4, 7, 8, 9, 32, 130]) ?_
 refine PW.cond rfl (fun h19 => ?_) (fun h19 => ?_)
 replace H := br_t h19 H
 refine PW.seq ?_
 refine PW.seq ?_
 obtain ⟨x10, e10, H⟩ := bnd_some H
 refine PW.regionK fun K hK => zq8 (OW.run [3, 7, 8, 140]) ?_
 refine OW.call' 4 rfl rfl rfl zq9 zqa (base_Within_ok N _ _ _ _ e10) zq5 zqb zqc ?_
 refine zq8 (OW.run [3, 7, 8, 140]) ?_
 refine OW.nil (hK _ ?_)
 refine PW.cond rfl (fun h20 => ?_) (fun h20 => ?_)
 replace H := br_t h20 H
 refine PW.seq ?_
 refine zq2 (fun _ => OW.run [6]) ?_
 change PW _ _ _ _ _
 exact zq7
 replace H := br_f h20 H
 refine PW.skip ?_
 refine PW.seq ?_
 obtain ⟨x11, e11, H⟩ := bnd_some H
 refine PW.regionK fun K hK => zq8 (OW.run [6]) ?_
 refine OW.call' 4 rfl rfl rfl zq9 zqa (ref07_triesErr_ok N _ _ _ _ _ _ _ _ _ e11) zq5 zqb zqc ?_
 refine zq8 (OW.run [6]) ?_
 refine OW.nil (hK _ ?_)
 change PW _ _ _ _ _
 exact zq7
 replace H := br_f h19 H
 refine PW.seq ?_
 refine zq2 (fun _ => OW.run [2, 3, 4, 7, 9, 32, 147]) ?_
 refine PW.cond rfl (fun h21 => ?_) (fun h21 => ?_)
 replace H := br_t h21 H
 refine PW.seq ?_
 refine PW.seq ?_
 obtain ⟨x12, e12, H⟩ := bnd_some H
 refine PW.regionK fun K hK => zq8 (OW.run [2, 4, 7, 9, 13]) ?_
 refine OW.call' 4 rfl rfl rfl zq9 zqa (ref07_IdentityErr_ok N _ _ _ _ _ _ _ _ _ e12) zq5 zqb zqc ?_
 refine zq8 (OW.run [2, 4, 7, 9, 13]) ?_
 refine OW.nil (hK _ ?_)
 refine PW.seq ?_
 refine zq2 (fun _ => OW.run [2, 4, 7, 9, 13, 154]) ?_
 refine PW.cond rfl (fun h22 => ?_) (fun h22 => ?_)
 replace H := br_t h22 H
 refine PW.seq ?_
 refine zq2 (fun _ => OW.run [6]) ?_
 change PW _ _ _ _ _
 exact zq7
 replace H := br_f h22 H
 refine PW.skip ?_
 refine PW.seq ?_
 refine zq2 (fun _ => OW.run [2, 4, 7, 9, 14]) ?_
 refine PW.block ?_
 refine PW.loopS (σ := Int) [2, 4, 7, 9, 14] 3 (fun k1 => [(14, .d (I k1))]) (fun k1 => [{ cells := [.d (I Z15), .d (I Z11), .d (I Z18), .d (I Z17), .d (I Z16), .d (I Z10), .d (I Z13)], e := 23 }, { cells := [.d (I Z1k), .d (.list Z1o.length (Z1o.flatMap (fun (x : Int × Int × Int × Int × Int × Int × Int) => [(I x.1), (I x.2.1), (I x.2.2.1), (I x.2.2.2.1), (I x.2.2.2.2.1), (I x.2.2.2.2.2.1), (I x.2.2.2.2.2.2)])))], e := 30 }, { cells := [.d (I ((Z1o.getD i.toNat default).1)), .d (I ((Z1o.getD i.toNat default).2.1)), .d (I ((Z1o.getD i.toNat default).2.2.1)), .d (I ((Z1o.getD i.toNat default).2.2.2.1)), .d (I ((Z1o.getD i.toNat default).2.2.2.2.1)), .d (I ((Z1o.getD i.toNat default).2.2.2.2.2.1)), .d (I ((Z1o.getD i.toNat default).2.2.2.2.2.2))], e := 71 }]) (ref07_phoneErr.b2 N Z1o i K_) r N (0 : Int) zqd H zqe ?_
 rintro n k1 H N23 hN23
 unfold ref07_phoneErr.b2 at H
 with_reducible refine zq0 ?_
 refine PW.seq ?_
 refine PW.seq ?_
 refine zq2 (fun _ => OW.run [2, 4, 7, 9, 14, 158]) ?_
 refine PW.cond rfl (fun h24 => ?_) (fun h24 => ?_)
 replace H := br_t h24 H
 refine PW.skip ?_
 refine PW.seq ?_
 refine PW.block ?_
 refine PW.seq ?_
 obtain ⟨c25, H⟩ := chk_some H
 refine PW.drawK 8 mixed (by kernel_rfl) fun K hK => ?_
 change FW _ _ _ _ _
 refine zq18 (FW.run) ?_
 refine FW.nil ?_
 change OW _ _ _ _ _ _
 refine zq18 (OW.run [2, 4, 7, 9, 14, 169]) ?_
 refine OW.nil (hK _ ?_)
 refine PW.cond rfl (fun h26 => ?_) (fun h26 => ?_)
 replace H := br_t h26 H
 refine PW.seq ?_
 refine zq2 (fun _ => OW.run [6]) ?_
 change PW _ _ _ _ _
 exact zq7
 replace H := br_f h26 H
 refine PW.skip ?_
 change PW _ _ _ _ _
 refine zq2 (fun _ => OW.run [2, 4, 7, 9, 14]) ?_
 refine hN23 [] (w64 (k1 + (1 : Int))) _ H zqf ?_
 exact zqe
 replace H := br_f h24 H
 refine PW.exit ?_
 refine hN5 [] () _ H zqf ?_
 exact zqe
 replace H := br_f h21 H
 refine PW.seq ?_
 refine zq2 (fun _ => OW.run [3, 7, 171]) ?_
 refine PW.cond rfl (fun h27 => ?_) (fun h27 => ?_)
 replace H := br_t h27 H
 refine PW.seq ?_
 refine zq2 (fun _ => OW.run [177]) ?_
 refine PW.cond rfl (fun h28 => ?_) (fun h28 => ?_)
 replace H := br_t h28 H
 refine PW.seq ?_
 refine zq2 (fun _ => OW.run [6]) ?_
 change PW _ _ _ _ _
 exact zq7
 replace H := br_f h28 H
 refine PW.skip ?_
 refine hN5 [] () _ H zqf ?_
 exact zqe
 replace H := br_f h27 H
 refine PW.skip ?_
 refine hN5 [] () _ H zqf ?_
 exact zqe
 rintro _ H
 with_reducible refine zq0 ?_
 refine PW.seq ?_
 refine zq2 (fun _ => OW.run [6]) ?_
 change PW _ _ _ _ _
 exact zq7
theorem ref07_CheckState_ok (N : Nat) (Z15 : Int) (Z11 : Int) (Z18 : Int) (Z17 : Int) (Z16 : Int) (Z10 : Int) (Z13 : Int) (Z1k : Int) (Z1o : List (Int × Int × Int × Int × Int × Int × Int)) (r : Int) (H : ref07_CheckState N Z15 Z11 Z18 Z17 Z16 Z10 Z13 Z1k Z1o = some r) : CallOK Tryz.prog 31 [(.agg [(I Z15), (I Z11), (I Z18), (I Z17), (I Z16), (I Z10), (I Z13)]), (.agg [(I Z1k), (.list Z1o.length (Z1o.flatMap (fun (x : Int × Int × Int × Int × Int × Int × Int) => [(I x.1), (I x.2.1), (I x.2.2.1), (I x.2.2.2.1), (I x.2.2.2.2.1), (I x.2.2.2.2.2.1), (I x.2.2.2.2.2.2)])))])] (.d (I r)) [] := by
 refine CallOK.of_PW Tryz.func31 rfl (by rw [Tryz.results31]) Tryz.ntmps31 Tryz.call31 ?_
 change PW _ _ _ _ _
 with_reducible refine zq0 ?_
 unfold ref07_CheckState at H
 refine PW.seq ?_
 refine zq2 (fun _ => OW.run [2, 3]) ?_
 refine PW.seq ?_
 refine PW.seq ?_
 obtain ⟨x1, e1, H⟩ := bnd_some H
 refine PW.regionK fun K hK => zq8 (OW.run [2, 3, 5]) ?_
 refine OW.call' 4 rfl rfl rfl zq9 zqa (ref07_TickErr_ok N _ _ e1) zq5 zqb zqc ?_
 refine zq8 (OW.run [2, 3, 5]) ?_
 refine OW.nil (hK _ ?_)
 refine PW.seq ?_
 refine zq2 (fun _ => OW.run [2, 3, 5, 12]) ?_
 refine PW.cond rfl (fun h1 => ?_) (fun h1 => ?_)
 replace H := br_t h1 H
 refine PW.seq ?_
 refine zq2 (fun _ => OW.run [4]) ?_
 change PW _ _ _ _ _
 exact zq7
 replace H := br_f h1 H
 refine PW.skip ?_
 refine PW.seq ?_
 refine PW.seq ?_
 refine zq2 (fun _ => OW.run [2, 3, 17]) ?_
 refine PW.cond rfl (fun h2 => ?_) (fun h2 => ?_)
 replace H := br_t h2 H
 refine PW.seq ?_
 refine zq2 (fun _ => OW.run [4]) ?_
 change PW _ _ _ _ _
 exact zq7
 replace H := br_f h2 H
 refine PW.skip ?_
 refine PW.seq ?_
 refine PW.seq ?_
 refine zq2 (fun _ => OW.run [2, 3, 21]) ?_
 refine PW.cond rfl (fun h3 => ?_) (fun h3 => ?_)
 replace H := br_t h3 H
 refine PW.seq ?_
 refine zq2 (fun _ => OW.run [4]) ?_
 change PW _ _ _ _ _
 exact zq7
 replace H := br_f h3 H
 refine PW.skip ?_
 refine PW.joinS (τ := Unit) [] 0 (fun _ => []) (fun _ => []) _ _ r zqd H ?_ ?_
 intro K_ H N4 hN4
 refine PW.seq ?_
 refine zq2 (fun _ => OW.run [2, 3, 6]) ?_
 refine PW.block ?_
 refine PW.loopS (σ := Int) [2, 3, 6] 2 (fun i => [(6, .d (I i))]) (fun i => [{ cells := [.d (I Z15), .d (I Z11), .d (I Z18), .d (I Z17), .d (I Z16), .d (I Z10), .d (I Z13)], e := 23 }, { cells := [.d (I Z1k), .d (.list Z1o.length (Z1o.flatMap (fun (x : Int × Int × Int × Int × Int × Int × Int) => [(I x.1), (I x.2.1), (I x.2.2.1), (I x.2.2.2.1), (I x.2.2.2.2.1), (I x.2.2.2.2.2.1), (I x.2.2.2.2.2.2)])))], e := 30 }]) (ref07_CheckState.b1 N Z15 Z11 Z18 Z17 Z16 Z10 Z13 Z1k Z1o K_) r N (0 : Int) zqd H zqe ?_
 rintro n i H N5 hN5
 unfold ref07_CheckState.b1 at H
 with_reducible refine zq0 ?_
 refine PW.seq ?_
 refine PW.seq ?_
 refine zq2 (fun _ => OW.run [2, 3, 6, 26]) ?_
 refine PW.cond rfl (fun h6 => ?_) (fun h6 => ?_)
 replace H := br_t h6 H
 refine PW.skip ?_
 refine PW.seq ?_
 refine PW.block ?_
 refine PW.seq ?_
 obtain ⟨x2, e2, H⟩ := bnd_some H
 refine PW.regionK fun K hK => zq8 (OW.run [2, 3, 6, 7]) ?_
 refine OW.call' 4 rfl rfl rfl zq9 zqa (ref07_phoneErr_ok N _ _ _ _ _ _ _ _ _ _ _ e2) zq5 zqb zqc ?_
 refine zq8 (OW.run [2, 3, 6, 7]) ?_
 refine OW.nil (hK _ ?_)
 refine PW.seq ?_
 refine zq2 (fun _ => OW.run [2, 3, 6, 7, 34]) ?_
 refine PW.cond rfl (fun h7 => ?_) (fun h7 => ?_)
 replace H := br_t h7 H
 refine PW.seq ?_
 refine zq2 (fun _ => OW.run [4]) ?_
 change PW _ _ _ _ _
 exact zq7
 replace H := br_f h7 H
 refine PW.skip ?_
 change PW _ _ _ _ _
 refine zq2 (fun _ => OW.run [2, 3, 6]) ?_
 refine hN5 [] (w64 (i + (1 : Int))) _ H zqf ?_
 exact zqe
 replace H := br_f h6 H
 refine PW.exit ?_
 refine hN4 [] () _ H zqf ?_
 exact zqe
 rintro _ H
 with_reducible refine zq0 ?_
 refine PW.seq ?_
 refine zq2 (fun _ => OW.run [4]) ?_
 change PW _ _ _ _ _
 exact zq7
end Go.Proofs.YtbndgoeahoadlaaGreatDoor
