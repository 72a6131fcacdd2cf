import Derived.Test.YtbndgoeahoadlaaGreatDoorAsBase
import Derived.Test.YtbndgoeahoadlaaGreatDoorAsX
import Derived.Test.YtbndgoeahoadlaaGreatDoorAsW0
import Derived.Test.YtbndgoeahoadlaaGreatDoorAsW2
import Derived.Test.YtbndgoeahoadlaaGreatDoorAsW3
set_option linter.all false
namespace Go.Proofs.YtbndgoeahoadlaaGreatDoor
open Go.PW Go.Sh

set_option maxRecDepth 20000
set_option maxHeartbeats 8000000
def z0W4a := map_nz_flat (f := (fun (x : Int × Int × Int × Int × Int × Int × Int) => [(I x.1), (I x.2.1), (I x.2.2.1), (I x.2.2.2.1), (I x.2.2.2.2.1), (I x.2.2.2.2.2.1), (I x.2.2.2.2.2.2)])) (fun _ => rfl)
def z1W4a := takeFlat (fun (x : Int × Int × Int × Int × Int × Int × Int) => [(I x.1), (I x.2.1), (I x.2.2.1), (I x.2.2.2.1), (I x.2.2.2.2.1), (I x.2.2.2.2.2.1), (I x.2.2.2.2.2.2)]) 7 (fun _ => rfl)
def z2W4a := takeFlat1 (fun (x : Int × Int × Int × Int × Int × Int × Int) => [(I x.1), (I x.2.1), (I x.2.2.1), (I x.2.2.2.1), (I x.2.2.2.2.1), (I x.2.2.2.2.2.1), (I x.2.2.2.2.2.2)]) 7 (fun _ => rfl)
def z3W4a := takeFlatS (fun (x : Int × Int × Int × Int × Int × Int × Int) => [(I x.1), (I x.2.1), (I x.2.2.1), (I x.2.2.2.1), (I x.2.2.2.2.1), (I x.2.2.2.2.2.1), (I x.2.2.2.2.2.2)]) 7 (fun _ => rfl)
def z4W4a := allValFlat (fun (x : Int × Int × Int × Int × Int × Int × Int) => [(I x.1), (I x.2.1), (I x.2.2.1), (I x.2.2.2.1), (I x.2.2.2.2.1), (I x.2.2.2.2.2.1), (I x.2.2.2.2.2.2)]) (fun _ => rfl)
def z5W4a := flatMap_length 7 (fun (x : Int × Int × Int × Int × Int × Int × Int) => [(I x.1), (I x.2.1), (I x.2.2.1), (I x.2.2.2.1), (I x.2.2.2.2.1), (I x.2.2.2.2.2.1), (I x.2.2.2.2.2.2)]) (fun _ => rfl)
def z6W4a := segFlatSnoc (fun (x : Int × Int × Int × Int × Int × Int × Int) => [(I x.1), (I x.2.1), (I x.2.2.1), (I x.2.2.2.1), (I x.2.2.2.2.1), (I x.2.2.2.2.2.1), (I x.2.2.2.2.2.2)]) 7 (fun _ => rfl)
def z7W4a := take_flatMap 7 (fun (x : Int × Int × Int × Int × Int × Int × Int) => [(I x.1), (I x.2.1), (I x.2.2.1), (I x.2.2.2.1), (I x.2.2.2.2.1), (I x.2.2.2.2.2.1), (I x.2.2.2.2.2.2)]) (fun _ => rfl)
def z8W4a := drop_flatMap 7 (fun (x : Int × Int × Int × Int × Int × Int × Int) => [(I x.1), (I x.2.1), (I x.2.2.1), (I x.2.2.2.1), (I x.2.2.2.2.1), (I x.2.2.2.2.2.1), (I x.2.2.2.2.2.2)]) (fun _ => rfl)
def z9W4a := sub_el 7 (fun (x : Int × Int × Int × Int × Int × Int × Int) => [(I x.1), (I x.2.1), (I x.2.2.1), (I x.2.2.2.1), (I x.2.2.2.2.1), (I x.2.2.2.2.2.1), (I x.2.2.2.2.2.2)]) (fun _ => rfl)
theorem access_Holder_ok (N : Nat) (Zm : Int) (Zi : Int) (Zp : Int) (Zo : Int) (Zn : Int) (Zh : Int) (Zk : Int) (Z1a : Int) (Z1e : List (Int × Int × Int × Int × Int × Int × Int)) (identity : Int) (r : Int × Int) (H : access_Holder N Zm Zi Zp Zo Zn Zh Zk Z1a Z1e identity = some r) : CallOK Tryz.prog 65 [(.agg [(I Zm), (I Zi), (I Zp), (I Zo), (I Zn), (I Zh), (I Zk)]), (.agg [(I Z1a), (.list Z1e.length (Z1e.flatMap (fun (x : Int × Int × Int × Int × Int × Int × Int) => [(I x.1), (I x.2.1), (I x.2.2.1), (I x.2.2.2.1), (I x.2.2.2.2.1), (I x.2.2.2.2.2.1), (I x.2.2.2.2.2.2)])))]), (I identity)] (.d (.tup [(I r.1), (I r.2)])) [] := by
 refine CallOK.of_PW Tryz.func65 rfl (by rw [Tryz.results65]) Tryz.ntmps65 Tryz.call65 ?_
 change PW _ _ _ _ _
 try simp only [go_sem, simprocAttr]
 unfold access_Holder at H
 refine PW.seq ?_
 refine PW.regionK fun K hK => OW.run [2, 3, 4] ?_
 simp only [go_sem, simprocAttr, sw0]
 refine OW.nil (hK _ ?_); clear hK K
 refine PW.seq ?_
 refine PW.regionK fun K hK => OW.run [2, 8, 9] ?_
 simp only [go_sem, simprocAttr, sw0]
 refine OW.inlineA rfl rfl rfl (by first | exact rfl | ((simp only [go_sem, List.toList_toArray, simprocAttr]); exact rfl)) Tryz.func110 rfl (by rw [Tryz.results110]) Tryz.ntmps110 Tryz.call110 (by (simp only [go_sem, Nat.reduceLT])) ?_
 intro p G
 change PW _ _ _ _ _
 try simp only [go_sem, simprocAttr]
 refine PW.seq ?_
 refine PW.regionK fun K hK => OW.run [2, 3, 4] ?_
 simp only [go_sem, simprocAttr, sw0]
 refine OW.nil (hK _ ?_); clear hK K
 refine PW.seq ?_
 refine PW.regionK fun K hK => OW.run [2, 8, 9] ?_
 simp only [go_sem, simprocAttr, sw0]
 refine OW.inlineA rfl rfl rfl (by first | exact rfl | ((simp only [go_sem, List.toList_toArray, simprocAttr]); exact rfl)) Tryz.func86 rfl (by rw [Tryz.results86]) Tryz.ntmps86 Tryz.call86 (by (simp only [go_sem, Nat.reduceLT])) ?_
 intro p G
 change PW _ _ _ _ _
 try simp only [go_sem, simprocAttr]
 refine PW.seq ?_
 refine PW.regionK fun K hK => OW.run [2, 3] ?_
 simp only [go_sem, simprocAttr, sw0]
 refine OW.nil (hK _ ?_); clear hK K
 refine PW.seq ?_
 refine PW.seq ?_
 obtain ⟨x1, e1, H⟩ := bnd_some H
 obtain ⟨x2, e2, H⟩ := bnd_some H
 obtain ⟨x3, e3, H⟩ := bnd_some H
 obtain ⟨x4, e4, H⟩ := bnd_some H
 refine PW.drawK 8 mixed (by kernel_rfl) fun K hK => ?_
 change FW _ _ _ _ _
 refine FW.run ?_
 simp only [go_sem, simprocAttr, sw0]
 refine FW.call' 4 rfl rfl rfl (by first | exact rfl | ((simp only [go_sem, List.toList_toArray, simprocAttr]); exact rfl)) ?_ (access_CheckRules_ok N _ _ _ _ _ _ _ _ e1) ?_ ?_ ?_ ?_
 rfl
 · (refine okAll_intro ?_; (simp only [go_sem, sw2, List.length_set, List.length_replicate, and_true, true_and, Nat.le_refl, simprocAttr]; done))
 exact .inl rfl
 (simp only [go_sem, Nat.reduceLT])
 refine FW.run ?_
 simp only [go_sem, simprocAttr, sw0]
 repeat (refine And.intro (by omega) ?_)
 refine FW.call' 4 rfl rfl rfl (by first | exact rfl | ((simp only [go_sem, List.toList_toArray, simprocAttr]); exact rfl)) ?_ (access_tickErr_ok N _ _ e2) ?_ ?_ ?_ ?_
 rfl
 exact okD_all rfl
 exact .inl rfl
 (simp only [go_sem, Nat.reduceLT])
 refine FW.run ?_
 simp only [go_sem, simprocAttr, sw0]
 repeat (refine And.intro (by omega) ?_)
 refine FW.nil ?_
 change OW _ _ _ _ _ _
 refine OW.run [2, 3, 6] ?_
 simp only [go_sem, simprocAttr, sw0]
 refine OW.call' 4 rfl rfl rfl (by first | exact rfl | ((simp only [go_sem, List.toList_toArray, simprocAttr]); exact rfl)) ?_ (access_phonesErr_ok N _ _ e3) ?_ ?_ ?_ ?_
 rfl
 exact okD_all rfl
 exact .inl rfl
 (simp only [go_sem, Nat.reduceLT])
 refine OW.run [2, 3, 6] ?_
 simp only [go_sem, simprocAttr, sw0]
 refine OW.call' 4 rfl rfl rfl (by first | exact rfl | ((simp only [go_sem, List.toList_toArray, simprocAttr]); exact rfl)) ?_ (access_first_ok N _ _ e4) ?_ ?_ ?_ ?_
 rfl
 · (refine okAll_intro ?_; (simp only [go_sem, sw2, List.length_set, List.length_replicate, and_true, true_and, Nat.le_refl, simprocAttr]; simp only [seg, go_sem, sw2, List.length_set, List.length_replicate, and_true, true_and, Nat.le_refl, simprocAttr]; done))
 exact .inr ⟨rfl, rfl⟩
 (simp only [go_sem, Nat.reduceLT])
 refine OW.run [2, 3, 6] ?_
 simp only [go_sem, simprocAttr, sw0]
 refine OW.nil (hK _ ?_); clear hK K
 refine PW.seq ?_
 refine PW.regionK fun K hK => OW.run [2, 3, 6, 22] ?_
 simp only [go_sem, simprocAttr, sw0]
 refine OW.nil (hK _ ?_); clear hK K
 refine PW.cond rfl (fun h1 => ?_) (fun h1 => ?_)
 replace H := br_t h1 H
 refine PW.seq ?_
 refine PW.regionK fun K hK => OW.run [4, 5] ?_
 simp only [go_sem, simprocAttr, sw0]
 refine OW.nil (hK _ ?_); clear hK K
 refine PW.ret ?_
 refine ⟨.inr rfl, rfl, rfl, ?_⟩
 simp only [go_sem, simprocAttr, sw0]
 change OW _ _ _ _ _ _
 refine OW.run [2, 8, 9] ?_
 simp only [go_sem, simprocAttr, sw0]
 refine OW.nil (hK _ ?_); clear hK K
 refine PW.seq ?_
 refine PW.seq ?_
 refine PW.regionK fun K hK => OW.run [2, 8, 9, 17] ?_
 simp only [go_sem, simprocAttr, sw0]
 refine OW.nil (hK _ ?_); clear hK K
 refine PW.cond rfl (fun h2 => ?_) (fun h2 => ?_)
 refine PW.seq ?_
 refine PW.regionK fun K hK => OW.run [6, 7] ?_
 simp only [go_sem, simprocAttr, sw0]
 refine OW.nil (hK _ ?_); clear hK K
 refine PW.ret ?_
 refine ⟨.inr rfl, rfl, rfl, ?_⟩
 simp only [go_sem, simprocAttr, sw0]
 change OW _ _ _ _ _ _
 refine OW.run [2, 8, 9] ?_
 simp only [go_sem, simprocAttr, sw0]
 refine OW.nil (hK _ ?_); clear hK K
 refine PW.seq ?_
 refine PW.seq ?_
 refine PW.regionK fun K hK => OW.run [2, 8, 9, 19] ?_
 simp only [go_sem, simprocAttr, sw0]
 refine OW.nil (hK _ ?_); clear hK K
 refine PW.cond rfl (fun h3 => ?_) (fun h3 => ?_)
 refine PW.seq ?_
 refine PW.regionK fun K hK => OW.run [6, 7] ?_
 simp only [go_sem, simprocAttr, sw0]
 refine OW.nil (hK _ ?_); clear hK K
 refine PW.ret ?_
 change PW.Ends _ _ _ _ _ _
 refine PW.Ends.intro (.inr rfl) ?_
 simp only [go_sem, simprocAttr, sw0]
 obtain rfl := Option.some.inj H
 refine RetOK.data' 4 (by exact okD_all rfl) ?_
 rfl
 exact absurd (h3.symm.trans h1) (by decide)
 exact absurd (h2.symm.trans h1) (by decide)
 replace H := br_f h1 H
 refine PW.skip ?_
 refine PW.seq ?_
 obtain ⟨x5, e5, H⟩ := bnd_some H
 refine PW.drawO 6 [5] [71] mixed (by kernel_rfl) (by decide) rfl fun K hK => ?_
 refine FWO.run ?_
 simp only [go_sem, simprocAttr, sw0]
 repeat (refine And.intro (by omega) ?_)
 refine FWO.callO 4 rfl ?_ (by exact Nat.le_refl _) rfl rfl rfl (by first | exact rfl | ((simp only [go_sem, List.toList_toArray, simprocAttr]); exact rfl)) ?_ (slices_Clone_pp_ok N _ _ e5) ?_ ?_ ?_ ?_
 rfl
 rfl
 exact okD_all rfl
 exact .inl rfl
 (simp only [go_sem, Nat.reduceLT])
 refine FWO.run ?_
 simp only [go_sem, simprocAttr, sw0]
 repeat (refine And.intro (by rfl) ?_)
 first | refine FWO.nil ?_ | skip
 change OW _ _ _ _ _ _
 refine OW.run [7] ?_
 simp only [go_sem, simprocAttr, sw0]
 refine OW.nil (hK _ ?_); clear hK K
 refine PW.joinS (τ := Unit) [7] 9 (fun _ => []) (fun _ => [{ cells := [.d (I Zm), .d (I Zi), .d (I Zp), .d (I Zo), .d (I Zn), .d (I Zh), .d (I Zk)], e := 23 }, { cells := [.d (I Z1a), .d (.list Z1e.length (Z1e.flatMap (fun (x : Int × Int × Int × Int × Int × Int × Int) => [(I x.1), (I x.2.1), (I x.2.2.1), (I x.2.2.2.1), (I x.2.2.2.2.1), (I x.2.2.2.2.2.1), (I x.2.2.2.2.2.2)])))], e := 30 }, { cells := [.d (I Zm), .d (I Zi), .d (I Zp), .d (I Zo), .d (I Zn), .d (I Zh), .d (I Zk)], e := 23 }, { cells := [.d (I Z1a), .d (.list Z1e.length (Z1e.flatMap (fun (x : Int × Int × Int × Int × Int × Int × Int) => [(I x.1), (I x.2.1), (I x.2.2.1), (I x.2.2.2.1), (I x.2.2.2.2.1), (I x.2.2.2.2.2.1), (I x.2.2.2.2.2.2)])))], e := 30 }, { cells := [.d (I Zm), .d (I Zi), .d (I Zp), .d (I Zo), .d (I Zn), .d (I Zh), .d (I Zk)], e := 23 }, { cells := [.d (I Z1a), .d (.list Z1e.length (Z1e.flatMap (fun (x : Int × Int × Int × Int × Int × Int × Int) => [(I x.1), (I x.2.1), (I x.2.2.1), (I x.2.2.2.1), (I x.2.2.2.2.1), (I x.2.2.2.2.2.1), (I x.2.2.2.2.2.2)])))], e := 30 }, { cells := [.d (I x1), .d (I x2), .d (I x3)], e := 26 }, { cells := (x5.flatMap (fun (x : Int × Int × Int × Int × Int × Int × Int) => [(I x.1), (I x.2.1), (I x.2.2.1), (I x.2.2.2.1), (I x.2.2.2.2.1), (I x.2.2.2.2.2.1), (I x.2.2.2.2.2.2)])).map .d, e := 71 }, { cells := [.d (I Zm), .d (I Zi), .d (I Zp), .d (I Zo), .d (I Zn), .d (I Zh), .d (I Zk), .d (I Z1a), .own 7 0 x5.length 7], e := 142 }]) _ _ r (by (simp only [go_sem]; omega)) H ?_ ?_
 intro K_ H N4 hN4
 refine PW.seq ?_
 refine PW.regionK fun K hK => OW.run [7, 36, 37] ?_
 simp only [go_sem, simprocAttr, sw0]
 repeat (refine And.intro (by omega) ?_)
 refine OW.nil (hK _ ?_); clear hK K
 refine PW.block ?_
 refine PW.loopS (σ := Int) [7, 36, 37] 9 (fun t37 => [(37, .d (I t37))]) (fun t37 => [{ cells := [.d (I Zm), .d (I Zi), .d (I Zp), .d (I Zo), .d (I Zn), .d (I Zh), .d (I Zk)], e := 23 }, { cells := [.d (I Z1a), .d (.list Z1e.length (Z1e.flatMap (fun (x : Int × Int × Int × Int × Int × Int × Int) => [(I x.1), (I x.2.1), (I x.2.2.1), (I x.2.2.2.1), (I x.2.2.2.2.1), (I x.2.2.2.2.2.1), (I x.2.2.2.2.2.2)])))], e := 30 }, { cells := [.d (I Zm), .d (I Zi), .d (I Zp), .d (I Zo), .d (I Zn), .d (I Zh), .d (I Zk)], e := 23 }, { cells := [.d (I Z1a), .d (.list Z1e.length (Z1e.flatMap (fun (x : Int × Int × Int × Int × Int × Int × Int) => [(I x.1), (I x.2.1), (I x.2.2.1), (I x.2.2.2.1), (I x.2.2.2.2.1), (I x.2.2.2.2.2.1), (I x.2.2.2.2.2.2)])))], e := 30 }, { cells := [.d (I Zm), .d (I Zi), .d (I Zp), .d (I Zo), .d (I Zn), .d (I Zh), .d (I Zk)], e := 23 }, { cells := [.d (I Z1a), .d (.list Z1e.length (Z1e.flatMap (fun (x : Int × Int × Int × Int × Int × Int × Int) => [(I x.1), (I x.2.1), (I x.2.2.1), (I x.2.2.2.1), (I x.2.2.2.2.1), (I x.2.2.2.2.2.1), (I x.2.2.2.2.2.2)])))], e := 30 }, { cells := [.d (I x1), .d (I x2), .d (I x3)], e := 26 }, { cells := (x5.flatMap (fun (x : Int × Int × Int × Int × Int × Int × Int) => [(I x.1), (I x.2.1), (I x.2.2.1), (I x.2.2.2.1), (I x.2.2.2.2.1), (I x.2.2.2.2.2.1), (I x.2.2.2.2.2.2)])).map .d, e := 71 }, { cells := [.d (I Zm), .d (I Zi), .d (I Zp), .d (I Zo), .d (I Zn), .d (I Zh), .d (I Zk), .d (I Z1a), .own 7 0 x5.length 7], e := 142 }]) (access_Holder.b1 N Zm Zi Zp Zo Zn Zh Zk Z1a x5 K_) r N (0 : Int) (by (simp only [go_sem]; omega)) H (by (simp only [sw1, go_sem, simprocAttr]; done)) ?_
 rintro n t37 H N5 hN5
 unfold access_Holder.b1 at H
 try simp only [go_sem, simprocAttr]
 refine PW.seq ?_
 refine PW.regionK fun K hK => OW.run [7, 36, 37, 38] ?_
 simp only [go_sem, simprocAttr, sw0]
 refine OW.nil (hK _ ?_); clear hK K
 refine PW.seq ?_
 refine PW.cond rfl (fun h6 => ?_) (fun h6 => ?_)
 replace H := br_t h6 H
 refine PW.skip ?_
 refine PW.seq ?_
 refine PW.block ?_
 refine PW.seq ?_
 refine PW.regionK fun K hK => OW.run [7, 8, 36, 37] ?_
 simp only [go_sem, simprocAttr, sw0]
 refine OW.nil (hK _ ?_); clear hK K
 refine PW.seq ?_
 obtain ⟨x6, e6, H⟩ := bnd_some H
 refine PW.regionK fun K hK => OW.run [7, 9, 36, 37] ?_
 simp only [go_sem, simprocAttr, sw0]
 refine OW.call' 4 rfl rfl rfl (by first | exact rfl | ((simp only [go_sem, List.toList_toArray, simprocAttr]); exact rfl)) ?_ (access_site_phoneErr_ok N _ _ _ _ _ _ _ _ _ _ _ e6) ?_ ?_ ?_ ?_
 · (first | ((first | rfl | (simp only [go_sem, sw1, simprocAttr, okAll_segD7, z0W4a, z1W4a, z2W4a, z3W4a, z4W4a, z5W4a]; done) | (simp only [go_sem, sw1, simprocAttr, okAll_segD7, z0W4a, z1W4a, z2W4a, z3W4a, z4W4a, z5W4a]; rfl) | (simp only [go_sem, sw1, simprocAttr, okAll_segD7, z0W4a, z1W4a, z2W4a, z3W4a, z4W4a, z5W4a]; simp only [seg, asD, go_sem, sw1, simprocAttr, okAll_segD7, z0W4a, z1W4a, z2W4a, z3W4a, z4W4a, z5W4a]; done) | (simp only [go_sem, sw1, simprocAttr, okAll_segD7, z0W4a, z1W4a, z2W4a, z3W4a, z4W4a, z5W4a]; simp only [seg, asD, go_sem, sw1, simprocAttr, okAll_segD7, z0W4a, z1W4a, z2W4a, z3W4a, z4W4a, z5W4a]; rfl) | ((try simp only [go_sem, sw1, simprocAttr, okAll_segD7, z0W4a, z1W4a, z2W4a, z3W4a, z4W4a, z5W4a]); (repeat' (first | rfl | (refine list_congr ?_; simp only [List.length_take, List.length_drop, List.length_set, List.length_replicate] <;> omega) | (refine congr (congrArg List.cons ?_) ?_) | (refine congrArg D.agg ?_) | (refine congrArg D.tup ?_) | (refine congrArg D.ref ?_) | (refine congrArg (D.list _) ?_) | (refine congrArg (D.clo _) ?_))))); done) | ((first | rfl | (simp only [go_sem, sw1, simprocAttr, okAll_segD7, z0W4a, z1W4a, z2W4a, z3W4a, z4W4a, z5W4a]; done) | (simp only [go_sem, sw1, simprocAttr, okAll_segD7, z0W4a, z1W4a, z2W4a, z3W4a, z4W4a, z5W4a]; rfl) | (simp only [go_sem, sw1, simprocAttr, okAll_segD7, z0W4a, z1W4a, z2W4a, z3W4a, z4W4a, z5W4a]; simp only [seg, asD, go_sem, sw1, simprocAttr, okAll_segD7, z0W4a, z1W4a, z2W4a, z3W4a, z4W4a, z5W4a]; done) | (simp only [go_sem, sw1, simprocAttr, okAll_segD7, z0W4a, z1W4a, z2W4a, z3W4a, z4W4a, z5W4a]; simp only [seg, asD, go_sem, sw1, simprocAttr, okAll_segD7, z0W4a, z1W4a, z2W4a, z3W4a, z4W4a, z5W4a]; rfl) | ((try simp only [go_sem, sw1, simprocAttr, okAll_segD7, z0W4a, z1W4a, z2W4a, z3W4a, z4W4a, z5W4a]); (repeat' (first | rfl | (refine list_congr ?_; simp only [List.length_take, List.length_drop, List.length_set, List.length_replicate] <;> omega) | (refine congr (congrArg List.cons ?_) ?_) | (refine congrArg D.agg ?_) | (refine congrArg D.tup ?_) | (refine congrArg D.ref ?_) | (refine congrArg (D.list _) ?_) | (refine congrArg (D.clo _) ?_))))); exact z6W4a _ _ _ rfl))
 · (first | exact trivial | exact okD_all rfl | (refine okAll_intro ?_; simp only [go_sem, sw2, List.length_set, List.length_replicate, and_true, true_and, Nat.le_refl, simprocAttr, okAll_segD7, z0W4a, z1W4a, z2W4a, z3W4a, z4W4a, z5W4a]; done) | (refine okAll_intro ?_; simp only [go_sem, sw2, List.length_set, List.length_replicate, and_true, true_and, Nat.le_refl, simprocAttr, okAll_segD7, z0W4a, z1W4a, z2W4a, z3W4a, z4W4a, z5W4a]; omega))
 · first | (exact .inr ⟨rfl, rfl⟩; done) | (simp only [cleanV, go_sem, okAll_segD7, z0W4a, z1W4a, z2W4a, z3W4a, z4W4a, z5W4a]; done) | (left; (simp only [go_sem, simprocAttr, sw0, okAll_segD7, z0W4a, z1W4a, z2W4a, z3W4a, z4W4a, z5W4a]); done) | (right; (simp only [go_sem, simprocAttr, sw0, okAll_segD7, z0W4a, z1W4a, z2W4a, z3W4a, z4W4a, z5W4a]); done)
 (simp only [go_sem, Nat.reduceLT])
 refine OW.run [7, 9, 36, 37] ?_
 simp only [go_sem, simprocAttr, sw0]
 refine OW.nil (hK _ ?_); clear hK K
 refine PW.seq ?_
 refine PW.regionK fun K hK => OW.run [7, 9, 36, 37, 44] ?_
 simp only [go_sem, simprocAttr, sw0]
 refine OW.nil (hK _ ?_); clear hK K
 refine PW.cond rfl (fun h7 => ?_) (fun h7 => ?_)
 replace H := br_t h7 H
 refine PW.seq ?_
 refine PW.regionK fun K hK => OW.run [4, 5] ?_
 simp only [go_sem, simprocAttr, sw0]
 refine OW.nil (hK _ ?_); clear hK K
 refine PW.ret ?_
 refine ⟨.inr rfl, rfl, rfl, ?_⟩
 simp only [go_sem, simprocAttr, sw0]
 change OW _ _ _ _ _ _
 refine OW.run [2, 8, 9] ?_
 simp only [go_sem, simprocAttr, sw0]
 refine OW.nil (hK _ ?_); clear hK K
 refine PW.seq ?_
 refine PW.seq ?_
 refine PW.regionK fun K hK => OW.run [2, 8, 9, 17] ?_
 simp only [go_sem, simprocAttr, sw0]
 refine OW.nil (hK _ ?_); clear hK K
 refine PW.cond rfl (fun h8 => ?_) (fun h8 => ?_)
 refine PW.seq ?_
 refine PW.regionK fun K hK => OW.run [6, 7] ?_
 simp only [go_sem, simprocAttr, sw0]
 refine OW.nil (hK _ ?_); clear hK K
 refine PW.ret ?_
 refine ⟨.inr rfl, rfl, rfl, ?_⟩
 simp only [go_sem, simprocAttr, sw0]
 change OW _ _ _ _ _ _
 refine OW.run [2, 8, 9] ?_
 simp only [go_sem, simprocAttr, sw0]
 refine OW.nil (hK _ ?_); clear hK K
 refine PW.seq ?_
 refine PW.seq ?_
 refine PW.regionK fun K hK => OW.run [2, 8, 9, 19] ?_
 simp only [go_sem, simprocAttr, sw0]
 refine OW.nil (hK _ ?_); clear hK K
 refine PW.cond rfl (fun h9 => ?_) (fun h9 => ?_)
 refine PW.seq ?_
 refine PW.regionK fun K hK => OW.run [6, 7] ?_
 simp only [go_sem, simprocAttr, sw0]
 refine OW.nil (hK _ ?_); clear hK K
 refine PW.ret ?_
 change PW.Ends _ _ _ _ _ _
 refine PW.Ends.intro (.inr rfl) ?_
 simp only [go_sem, simprocAttr, sw0]
 obtain rfl := Option.some.inj H
 refine RetOK.data' 4 (by exact okD_all rfl) ?_
 rfl
 exact absurd (h9.symm.trans h7) (by decide)
 exact absurd (h8.symm.trans h7) (by decide)
 replace H := br_f h7 H
 refine PW.skip ?_
 refine PW.regionK fun K hK => OW.run [7, 36, 37] ?_
 simp only [go_sem, simprocAttr, sw0]
 refine OW.nil (hK _ ?_); clear hK K
 refine hN5 [] (w64 (t37 + (1 : Int))) _ H (by exact trivial) ?_
 simp only [sw1, go_sem, simprocAttr]
 replace H := br_f h6 H
 refine PW.exit ?_
 refine hN4 [] () _ H (by exact trivial) ?_
 simp only [sw1, go_sem, simprocAttr]
 rintro _ H
 try simp only [go_sem, simprocAttr]
 refine PW.seq ?_
 refine PW.regionK fun K hK => OW.run [4, 5] ?_
 simp only [go_sem, simprocAttr, sw0]
 refine OW.nil (hK _ ?_); clear hK K
 refine PW.ret ?_
 refine ⟨.inr rfl, rfl, rfl, ?_⟩
 simp only [go_sem, simprocAttr, sw0]
 change OW _ _ _ _ _ _
 refine OW.run [2, 8, 9] ?_
 simp only [go_sem, simprocAttr, sw0]
 refine OW.nil (hK _ ?_); clear hK K
 refine PW.seq ?_
 refine PW.seq ?_
 refine PW.regionK fun K hK => OW.run [2, 8, 9, 17] ?_
 simp only [go_sem, simprocAttr, sw0]
 refine OW.nil (hK _ ?_); clear hK K
 refine PW.cond rfl (fun h10 => ?_) (fun h10 => ?_)
 exact absurd h10 (by decide)
 refine PW.skip ?_
 refine PW.seq ?_
 obtain ⟨x7, e7, H⟩ := bnd_some H
 obtain ⟨x8, e8, H⟩ := bnd_some H
 refine PW.regionK fun K hK => OW.run [6, 7] ?_
 simp only [go_sem, simprocAttr, sw0]
 refine OW.call' 4 rfl rfl rfl (by first | exact rfl | ((simp only [go_sem, List.toList_toArray, simprocAttr]); exact rfl)) ?_ (access_site_isIdentity_ok N _ _ _ _ _ _ _ _ _ _ _ e7) ?_ ?_ ?_ ?_
 · (first | ((first | rfl | (simp only [go_sem, sw1, simprocAttr, okAll_segD7, z0W4a, z1W4a, z2W4a, z3W4a, z4W4a, z5W4a]; done) | (simp only [go_sem, sw1, simprocAttr, okAll_segD7, z0W4a, z1W4a, z2W4a, z3W4a, z4W4a, z5W4a]; rfl) | (simp only [go_sem, sw1, simprocAttr, okAll_segD7, z0W4a, z1W4a, z2W4a, z3W4a, z4W4a, z5W4a]; simp only [seg, asD, go_sem, sw1, simprocAttr, okAll_segD7, z0W4a, z1W4a, z2W4a, z3W4a, z4W4a, z5W4a]; done) | (simp only [go_sem, sw1, simprocAttr, okAll_segD7, z0W4a, z1W4a, z2W4a, z3W4a, z4W4a, z5W4a]; simp only [seg, asD, go_sem, sw1, simprocAttr, okAll_segD7, z0W4a, z1W4a, z2W4a, z3W4a, z4W4a, z5W4a]; rfl) | ((try simp only [go_sem, sw1, simprocAttr, okAll_segD7, z0W4a, z1W4a, z2W4a, z3W4a, z4W4a, z5W4a]); (repeat' (first | rfl | (refine list_congr ?_; simp only [List.length_take, List.length_drop, List.length_set, List.length_replicate] <;> omega) | (refine congr (congrArg List.cons ?_) ?_) | (refine congrArg D.agg ?_) | (refine congrArg D.tup ?_) | (refine congrArg D.ref ?_) | (refine congrArg (D.list _) ?_) | (refine congrArg (D.clo _) ?_))))); done) | ((first | rfl | (simp only [go_sem, sw1, simprocAttr, okAll_segD7, z0W4a, z1W4a, z2W4a, z3W4a, z4W4a, z5W4a]; done) | (simp only [go_sem, sw1, simprocAttr, okAll_segD7, z0W4a, z1W4a, z2W4a, z3W4a, z4W4a, z5W4a]; rfl) | (simp only [go_sem, sw1, simprocAttr, okAll_segD7, z0W4a, z1W4a, z2W4a, z3W4a, z4W4a, z5W4a]; simp only [seg, asD, go_sem, sw1, simprocAttr, okAll_segD7, z0W4a, z1W4a, z2W4a, z3W4a, z4W4a, z5W4a]; done) | (simp only [go_sem, sw1, simprocAttr, okAll_segD7, z0W4a, z1W4a, z2W4a, z3W4a, z4W4a, z5W4a]; simp only [seg, asD, go_sem, sw1, simprocAttr, okAll_segD7, z0W4a, z1W4a, z2W4a, z3W4a, z4W4a, z5W4a]; rfl) | ((try simp only [go_sem, sw1, simprocAttr, okAll_segD7, z0W4a, z1W4a, z2W4a, z3W4a, z4W4a, z5W4a]); (repeat' (first | rfl | (refine list_congr ?_; simp only [List.length_take, List.length_drop, List.length_set, List.length_replicate] <;> omega) | (refine congr (congrArg List.cons ?_) ?_) | (refine congrArg D.agg ?_) | (refine congrArg D.tup ?_) | (refine congrArg D.ref ?_) | (refine congrArg (D.list _) ?_) | (refine congrArg (D.clo _) ?_))))); exact z6W4a _ _ _ rfl))
 · (first | exact trivial | exact okD_all rfl | (refine okAll_intro ?_; simp only [go_sem, sw2, List.length_set, List.length_replicate, and_true, true_and, Nat.le_refl, simprocAttr, okAll_segD7, z0W4a, z1W4a, z2W4a, z3W4a, z4W4a, z5W4a]; done) | (refine okAll_intro ?_; simp only [go_sem, sw2, List.length_set, List.length_replicate, and_true, true_and, Nat.le_refl, simprocAttr, okAll_segD7, z0W4a, z1W4a, z2W4a, z3W4a, z4W4a, z5W4a]; omega))
 · first | (exact .inr ⟨rfl, rfl⟩; done) | (simp only [cleanV, go_sem, okAll_segD7, z0W4a, z1W4a, z2W4a, z3W4a, z4W4a, z5W4a]; done) | (left; (simp only [go_sem, simprocAttr, sw0, okAll_segD7, z0W4a, z1W4a, z2W4a, z3W4a, z4W4a, z5W4a]); done) | (right; (simp only [go_sem, simprocAttr, sw0, okAll_segD7, z0W4a, z1W4a, z2W4a, z3W4a, z4W4a, z5W4a]); done)
 (simp only [go_sem, Nat.reduceLT])
 refine OW.run [6, 7] ?_
 simp only [go_sem, simprocAttr, sw0]
 refine OW.call' 4 rfl rfl rfl (by first | exact rfl | ((simp only [go_sem, List.toList_toArray, simprocAttr]); exact rfl)) ?_ (access_unless_ok N _ _ _ e8) ?_ ?_ ?_ ?_
 rfl
 exact okD_all rfl
 exact .inl rfl
 (simp only [go_sem, Nat.reduceLT])
 refine OW.run [6, 7] ?_
 simp only [go_sem, simprocAttr, sw0]
 refine OW.nil (hK _ ?_); clear hK K
 refine PW.ret ?_
 refine ⟨.inr rfl, rfl, rfl, ?_⟩
 simp only [go_sem, simprocAttr, sw0]
 change OW _ _ _ _ _ _
 refine OW.run [2, 8, 9] ?_
 simp only [go_sem, simprocAttr, sw0]
 refine OW.nil (hK _ ?_); clear hK K
 refine PW.seq ?_
 refine PW.seq ?_
 refine PW.regionK fun K hK => OW.run [2, 8, 9, 19] ?_
 simp only [go_sem, simprocAttr, sw0]
 refine OW.nil (hK _ ?_); clear hK K
 refine PW.cond rfl (fun h11 => ?_) (fun h11 => ?_)
 replace H := br_t h11 H
 refine PW.seq ?_
 refine PW.regionK fun K hK => OW.run [6, 7] ?_
 simp only [go_sem, simprocAttr, sw0]
 refine OW.nil (hK _ ?_); clear hK K
 refine PW.ret ?_
 change PW.Ends _ _ _ _ _ _
 refine PW.Ends.intro (.inr rfl) ?_
 simp only [go_sem, simprocAttr, sw0]
 obtain rfl := Option.some.inj H
 refine RetOK.data' 4 (by exact okD_all rfl) ?_
 rfl
 replace H := br_f h11 H
 refine PW.skip ?_
 refine PW.joinS (τ := Unit) [] 0 (fun _ => []) (fun _ => []) _ _ r (by exact Nat.le_refl _) H ?_ ?_
 intro K_1 H N12 hN12
 refine PW.seq ?_
 refine PW.regionK fun K hK => OW.run [2, 8, 25, 26] ?_
 simp only [go_sem, simprocAttr, sw0]
 repeat (refine And.intro (by omega) ?_)
 refine OW.nil (hK _ ?_); clear hK K
 refine PW.block ?_
 refine PW.loopS (σ := Int) [2, 8, 25, 26] 9 (fun t26 => [(26, .d (I t26))]) (fun t26 => [{ cells := [.d (I Zm), .d (I Zi), .d (I Zp), .d (I Zo), .d (I Zn), .d (I Zh), .d (I Zk)], e := 23 }, { cells := [.d (I Z1a), .d (.list Z1e.length (Z1e.flatMap (fun (x : Int × Int × Int × Int × Int × Int × Int) => [(I x.1), (I x.2.1), (I x.2.2.1), (I x.2.2.2.1), (I x.2.2.2.2.1), (I x.2.2.2.2.2.1), (I x.2.2.2.2.2.2)])))], e := 30 }, { cells := [.d (I Zm), .d (I Zi), .d (I Zp), .d (I Zo), .d (I Zn), .d (I Zh), .d (I Zk)], e := 23 }, { cells := [.d (I Z1a), .d (.list Z1e.length (Z1e.flatMap (fun (x : Int × Int × Int × Int × Int × Int × Int) => [(I x.1), (I x.2.1), (I x.2.2.1), (I x.2.2.2.1), (I x.2.2.2.2.1), (I x.2.2.2.2.2.1), (I x.2.2.2.2.2.2)])))], e := 30 }, { cells := [.d (I Zm), .d (I Zi), .d (I Zp), .d (I Zo), .d (I Zn), .d (I Zh), .d (I Zk)], e := 23 }, { cells := [.d (I Z1a), .d (.list Z1e.length (Z1e.flatMap (fun (x : Int × Int × Int × Int × Int × Int × Int) => [(I x.1), (I x.2.1), (I x.2.2.1), (I x.2.2.2.1), (I x.2.2.2.2.1), (I x.2.2.2.2.2.1), (I x.2.2.2.2.2.2)])))], e := 30 }, { cells := [.d (I x1), .d (I x2), .d (I x3)], e := 26 }, { cells := (x5.flatMap (fun (x : Int × Int × Int × Int × Int × Int × Int) => [(I x.1), (I x.2.1), (I x.2.2.1), (I x.2.2.2.1), (I x.2.2.2.2.1), (I x.2.2.2.2.2.1), (I x.2.2.2.2.2.2)])).map .d, e := 71 }, { cells := [.d (I Zm), .d (I Zi), .d (I Zp), .d (I Zo), .d (I Zn), .d (I Zh), .d (I Zk), .d (I Z1a), .own 7 0 x5.length 7], e := 142 }]) (access_Holder.b2 N identity x5 K_1) r N (0 : Int) (by exact Nat.zero_le _) H (by (simp only [sw1, go_sem, simprocAttr]; done)) ?_
 rintro n t26 H N13 hN13
 unfold access_Holder.b2 at H
 try simp only [go_sem, simprocAttr]
 refine PW.seq ?_
 refine PW.regionK fun K hK => OW.run [2, 8, 25, 26, 27] ?_
 simp only [go_sem, simprocAttr, sw0]
 refine OW.nil (hK _ ?_); clear hK K
 refine PW.seq ?_
 refine PW.cond rfl (fun h14 => ?_) (fun h14 => ?_)
 replace H := br_t h14 H
 refine PW.skip ?_
 refine PW.seq ?_
 refine PW.block ?_
 refine PW.seq ?_
 refine PW.regionK fun K hK => OW.run [2, 8, 10, 25, 26] ?_
 simp only [go_sem, simprocAttr, sw0]
 refine OW.nil (hK _ ?_); clear hK K
 refine PW.seq ?_
 obtain ⟨c15, H⟩ := chk_some H
 obtain ⟨x9, e9, H⟩ := bnd_some H
 refine PW.regionK fun K hK => OW.run [2, 8, 10, 25, 26, 38] ?_
 simp only [go_sem, simprocAttr, sw0]
 repeat (refine And.intro (by omega) ?_)
 refine OW.call' 4 rfl rfl rfl (by first | exact rfl | ((simp only [go_sem, List.toList_toArray, simprocAttr]); exact rfl)) ?_ (access_held_ok N _ _ _ e9) ?_ ?_ ?_ ?_
 · (first | ((first | ((first | rfl | (simp only [go_sem, sw1, simprocAttr, z7W4a, z8W4a, okAll_segD7, z0W4a, z1W4a, z2W4a, z3W4a, z4W4a, z5W4a]; done) | (simp only [go_sem, sw1, simprocAttr, z7W4a, z8W4a, okAll_segD7, z0W4a, z1W4a, z2W4a, z3W4a, z4W4a, z5W4a]; rfl) | (simp only [go_sem, sw1, simprocAttr, z7W4a, z8W4a, okAll_segD7, z0W4a, z1W4a, z2W4a, z3W4a, z4W4a, z5W4a]; simp only [seg, asD, go_sem, sw1, simprocAttr, z7W4a, z8W4a, okAll_segD7, z0W4a, z1W4a, z2W4a, z3W4a, z4W4a, z5W4a]; done) | (simp only [go_sem, sw1, simprocAttr, z7W4a, z8W4a, okAll_segD7, z0W4a, z1W4a, z2W4a, z3W4a, z4W4a, z5W4a]; simp only [seg, asD, go_sem, sw1, simprocAttr, z7W4a, z8W4a, okAll_segD7, z0W4a, z1W4a, z2W4a, z3W4a, z4W4a, z5W4a]; rfl) | ((try simp only [go_sem, sw1, simprocAttr, z7W4a, z8W4a, okAll_segD7, z0W4a, z1W4a, z2W4a, z3W4a, z4W4a, z5W4a]); (repeat' (first | rfl | (refine list_congr ?_; simp only [List.length_take, List.length_drop, List.length_set, List.length_replicate] <;> omega) | (refine congr (congrArg List.cons ?_) ?_) | (refine congrArg D.agg ?_) | (refine congrArg D.tup ?_) | (refine congrArg D.ref ?_) | (refine congrArg (D.list _) ?_) | (refine congrArg (D.clo _) ?_))))); done) | ((first | rfl | (simp only [go_sem, sw1, simprocAttr, z7W4a, z8W4a, okAll_segD7, z0W4a, z1W4a, z2W4a, z3W4a, z4W4a, z5W4a]; done) | (simp only [go_sem, sw1, simprocAttr, z7W4a, z8W4a, okAll_segD7, z0W4a, z1W4a, z2W4a, z3W4a, z4W4a, z5W4a]; rfl) | (simp only [go_sem, sw1, simprocAttr, z7W4a, z8W4a, okAll_segD7, z0W4a, z1W4a, z2W4a, z3W4a, z4W4a, z5W4a]; simp only [seg, asD, go_sem, sw1, simprocAttr, z7W4a, z8W4a, okAll_segD7, z0W4a, z1W4a, z2W4a, z3W4a, z4W4a, z5W4a]; done) | (simp only [go_sem, sw1, simprocAttr, z7W4a, z8W4a, okAll_segD7, z0W4a, z1W4a, z2W4a, z3W4a, z4W4a, z5W4a]; simp only [seg, asD, go_sem, sw1, simprocAttr, z7W4a, z8W4a, okAll_segD7, z0W4a, z1W4a, z2W4a, z3W4a, z4W4a, z5W4a]; rfl) | ((try simp only [go_sem, sw1, simprocAttr, z7W4a, z8W4a, okAll_segD7, z0W4a, z1W4a, z2W4a, z3W4a, z4W4a, z5W4a]); (repeat' (first | rfl | (refine list_congr ?_; simp only [List.length_take, List.length_drop, List.length_set, List.length_replicate] <;> omega) | (refine congr (congrArg List.cons ?_) ?_) | (refine congrArg D.agg ?_) | (refine congrArg D.tup ?_) | (refine congrArg D.ref ?_) | (refine congrArg (D.list _) ?_) | (refine congrArg (D.clo _) ?_))))); exact z6W4a _ _ _ rfl)); done) | ((first | rfl | (simp only [go_sem, sw1, simprocAttr, z7W4a, z8W4a, okAll_segD7, z0W4a, z1W4a, z2W4a, z3W4a, z4W4a, z5W4a]; done) | (simp only [go_sem, sw1, simprocAttr, z7W4a, z8W4a, okAll_segD7, z0W4a, z1W4a, z2W4a, z3W4a, z4W4a, z5W4a]; rfl) | (simp only [go_sem, sw1, simprocAttr, z7W4a, z8W4a, okAll_segD7, z0W4a, z1W4a, z2W4a, z3W4a, z4W4a, z5W4a]; simp only [seg, asD, go_sem, sw1, simprocAttr, z7W4a, z8W4a, okAll_segD7, z0W4a, z1W4a, z2W4a, z3W4a, z4W4a, z5W4a]; done) | (simp only [go_sem, sw1, simprocAttr, z7W4a, z8W4a, okAll_segD7, z0W4a, z1W4a, z2W4a, z3W4a, z4W4a, z5W4a]; simp only [seg, asD, go_sem, sw1, simprocAttr, z7W4a, z8W4a, okAll_segD7, z0W4a, z1W4a, z2W4a, z3W4a, z4W4a, z5W4a]; rfl) | ((try simp only [go_sem, sw1, simprocAttr, z7W4a, z8W4a, okAll_segD7, z0W4a, z1W4a, z2W4a, z3W4a, z4W4a, z5W4a]); (repeat' (first | rfl | (refine list_congr ?_; simp only [List.length_take, List.length_drop, List.length_set, List.length_replicate] <;> omega) | (refine congr (congrArg List.cons ?_) ?_) | (refine congrArg D.agg ?_) | (refine congrArg D.tup ?_) | (refine congrArg D.ref ?_) | (refine congrArg (D.list _) ?_) | (refine congrArg (D.clo _) ?_))))); refine list_congr ?_; simp only [List.length_take, List.length_drop]; omega))
 · (first | exact trivial | exact okD_all rfl | (refine okAll_intro ?_; simp only [go_sem, sw2, List.length_set, List.length_replicate, and_true, true_and, Nat.le_refl, simprocAttr, z7W4a, z8W4a, okAll_segD7, z0W4a, z1W4a, z2W4a, z3W4a, z4W4a, z5W4a]; done) | (refine okAll_intro ?_; simp only [go_sem, sw2, List.length_set, List.length_replicate, and_true, true_and, Nat.le_refl, simprocAttr, z7W4a, z8W4a, okAll_segD7, z0W4a, z1W4a, z2W4a, z3W4a, z4W4a, z5W4a]; omega))
 · first | (exact .inr ⟨rfl, rfl⟩; done) | (simp only [cleanV, go_sem, z7W4a, z8W4a, okAll_segD7, z0W4a, z1W4a, z2W4a, z3W4a, z4W4a, z5W4a]; done) | (left; (simp only [go_sem, simprocAttr, sw0, z7W4a, z8W4a, okAll_segD7, z0W4a, z1W4a, z2W4a, z3W4a, z4W4a, z5W4a]); done) | (right; (simp only [go_sem, simprocAttr, sw0, z7W4a, z8W4a, okAll_segD7, z0W4a, z1W4a, z2W4a, z3W4a, z4W4a, z5W4a]); done)
 (simp only [go_sem, Nat.reduceLT])
 refine OW.run [2, 8, 10, 25, 26, 38] ?_
 simp only [go_sem, simprocAttr, sw0]
 refine OW.nil (hK _ ?_); clear hK K
 refine PW.cond rfl (fun h16 => ?_) (fun h16 => ?_)
 replace H := br_t h16 H
 refine PW.seq ?_
 refine PW.regionK fun K hK => OW.run [6, 7] ?_
 simp only [go_sem, simprocAttr, sw0]
 refine OW.nil (hK _ ?_); clear hK K
 refine PW.ret ?_
 change PW.Ends _ _ _ _ _ _
 refine PW.Ends.intro (.inr rfl) ?_
 simp only [go_sem, simprocAttr, sw0]
 obtain rfl := Option.some.inj H
 refine RetOK.data' 4 (by exact okD_all rfl) ?_
 rfl
 replace H := br_f h16 H
 refine PW.skip ?_
 refine PW.regionK fun K hK => OW.run [2, 8, 25, 26] ?_
 simp only [go_sem, simprocAttr, sw0]
 refine OW.nil (hK _ ?_); clear hK K
 refine hN13 [] (w64 (t26 + (1 : Int))) _ H (by exact trivial) ?_
 simp only [sw1, go_sem, simprocAttr]
 replace H := br_f h14 H
 refine PW.exit ?_
 refine hN12 [] () _ H (by exact trivial) ?_
 simp only [sw1, go_sem, simprocAttr]
 rintro _ H
 try simp only [go_sem, simprocAttr]
 refine PW.seq ?_
 refine PW.regionK fun K hK => OW.run [6, 7] ?_
 simp only [go_sem, simprocAttr, sw0]
 refine OW.nil (hK _ ?_); clear hK K
 refine PW.ret ?_
 change PW.Ends _ _ _ _ _ _
 refine PW.Ends.intro (.inr rfl) ?_
 simp only [go_sem, simprocAttr, sw0]
 obtain rfl := Option.some.inj H
 refine RetOK.data' 4 (by exact okD_all rfl) ?_
 rfl

theorem access_site_asking_ok (N : Nat) (Zt : Int) (Zr : Int) (Zw : Int) (Zv : Int) (Zu : Int) (Zq : Int) (Zs : Int) (s_at : Int) (s_phones : List (Int × Int × Int × Int × Int × Int × Int)) (identity : Int) (r : List Int) (H : access_site_asking N Zt Zr Zw Zv Zu Zq Zs s_at s_phones identity = some r) : CallOK Tryz.prog 112 [(.ref [(I Zt), (I Zr), (I Zw), (I Zv), (I Zu), (I Zq), (I Zs), (I s_at), (.list s_phones.length (s_phones.flatMap (fun (x : Int × Int × Int × Int × Int × Int × Int) => [(I x.1), (I x.2.1), (I x.2.2.1), (I x.2.2.2.1), (I x.2.2.2.2.1), (I x.2.2.2.2.2.1), (I x.2.2.2.2.2.2)])))]), (I identity)] (.d (L r)) [] := by
 refine CallOK.of_PW Tryz.func112 rfl (by rw [Tryz.results112]) Tryz.ntmps112 Tryz.call112 ?_
 change PW _ _ _ _ _
 try simp only [go_sem, simprocAttr]
 unfold access_site_asking at H
 refine PW.seq ?_
 refine PW.regionK fun K hK => OW.run [0, 1] ?_
 simp only [go_sem, simprocAttr, sw0]
 refine OW.nil (hK _ ?_)
 refine PW.seq ?_
 refine PW.regionK fun K hK => OW.run [0, 1, 5] ?_
 simp only [go_sem, simprocAttr, sw0]
 refine OW.nil (hK _ ?_)
 refine PW.joinS (τ := List Int) [5] 1 (fun b0 => [(5, .own 0 0 b0.length 1)]) (fun b0 => [{ cells := (b0.map I).map .d, e := 3 }]) _ _ r (by exact Nat.zero_le _) H ?_ ?_
 intro K_ H N1 hN1
 refine PW.seq ?_
 refine PW.regionK fun K hK => OW.run [1, 5, 11, 12, 13] ?_
 simp only [go_sem, simprocAttr, sw0]
 repeat (refine And.intro (by omega) ?_)
 refine OW.nil (hK _ ?_)
 refine PW.block ?_
 refine PW.virt 5 3 1 rfl ?_
 try simp only [go_sem, simprocAttr]
 refine PW.loopS (σ := Int × List Int) [1, 5, 11, 12, 13] 1 (fun (t13, b01) => [(5, .own 0 0 b01.length 1), (13, .d (I t13))]) (fun (t13, b01) => [{ cells := (b01.map I).map .d, e := 3 }]) (access_site_asking.b1 N s_phones identity K_) r N ((0 : Int), ([] : List Int)) (by exact Nat.zero_le _) H (by (simp only [sw1, go_sem, simprocAttr]; done)) ?_
 rintro n ⟨t13, b01⟩ H N2 hN2
 unfold access_site_asking.b1 at H
 try simp only [go_sem, simprocAttr]
 refine PW.seq ?_
 refine PW.regionK fun K hK => OW.run [1, 5, 11, 12, 13, 14] ?_
 simp only [go_sem, simprocAttr, sw0]
 refine OW.nil (hK _ ?_)
 refine PW.seq ?_
 refine PW.cond rfl (fun h3 => ?_) (fun h3 => ?_)
 replace H := br_t h3 H
 refine PW.skip ?_
 refine PW.seq ?_
 refine PW.block ?_
 refine PW.seq ?_
 obtain ⟨c4, H⟩ := chk_some H
 refine PW.regionK fun K hK => OW.run [1, 5, 6, 7, 11, 12, 13] ?_
 (simp only [go_sem, simprocAttr, sw0, z5W4a, z9W4a s_phones t13.toNat (by omega)])
 repeat (refine And.intro (by omega) ?_)
 refine OW.nil (hK _ ?_)
 refine PW.seq ?_
 refine PW.regionK fun K hK => OW.run [1, 5, 6, 11, 12, 13, 26] ?_
 simp only [go_sem, simprocAttr, sw0]
 repeat (refine And.intro (by omega) ?_)
 refine OW.nil (hK _ ?_)
 refine PW.cond rfl (fun h5 => ?_) (fun h5 => ?_)
 replace H := br_t h5 H
 obtain ⟨c6, H⟩ := chk_some H
 refine PW.regionK fun K hK => OW.run [1, 5, 11, 12, 13] ?_
 simp only [go_sem, simprocAttr, sw0]
 repeat (refine And.intro (by omega) ?_)
 refine OW.nil (hK _ ?_)
 refine PW.regionK fun K hK => OW.run [1, 5, 11, 12, 13] ?_
 simp only [go_sem, simprocAttr, sw0]
 refine OW.nil (hK _ ?_)
 refine hN2 [] (w64 (t13 + (1 : Int)), (b01 ++ ([t13] : List Int))) _ H (by exact trivial) ?_
 simp only [sw1, go_sem, simprocAttr]
 replace H := br_f h5 H
 refine PW.skip ?_
 refine PW.regionK fun K hK => OW.run [1, 5, 11, 12, 13] ?_
 simp only [go_sem, simprocAttr, sw0]
 refine OW.nil (hK _ ?_)
 refine hN2 [] (w64 (t13 + (1 : Int)), b01) _ H (by exact trivial) ?_
 simp only [sw1, go_sem, simprocAttr]
 replace H := br_f h3 H
 refine PW.exit ?_
 refine hN1 [] b01 _ H (by exact trivial) ?_
 simp only [sw1, go_sem, simprocAttr]
 rintro b0 H
 try simp only [go_sem, simprocAttr]
 refine PW.seq ?_
 refine PW.regionK fun K hK => OW.run [4] ?_
 simp only [go_sem, simprocAttr, sw0]
 refine OW.nil (hK _ ?_)
 refine PW.ret ?_
 change PW.Ends _ _ _ _ _ _
 refine PW.Ends.intro (.inr rfl) ?_
 simp only [go_sem, simprocAttr, sw0]
 obtain rfl := Option.some.inj H
 refine RetOK.data' 4 (by (simp only [go_sem, sw2, List.length_set, List.length_replicate, and_true, true_and, Nat.le_refl, simprocAttr]; done)) ?_
 · (((simp only [go_sem, sw1, simprocAttr]; try simp only [seg, go_sem, simprocAttr])); done)

theorem access_Asking_ok (N : Nat) (Zm : Int) (Zi : Int) (Zp : Int) (Zo : Int) (Zn : Int) (Zh : Int) (Zk : Int) (Z1a : Int) (Z1e : List (Int × Int × Int × Int × Int × Int × Int)) (identity : Int) (r : List Int × Int) (H : access_Asking N Zm Zi Zp Zo Zn Zh Zk Z1a Z1e identity = some r) : CallOK Tryz.prog 66 [(.agg [(I Zm), (I Zi), (I Zp), (I Zo), (I Zn), (I Zh), (I Zk)]), (.agg [(I Z1a), (.list Z1e.length (Z1e.flatMap (fun (x : Int × Int × Int × Int × Int × Int × Int) => [(I x.1), (I x.2.1), (I x.2.2.1), (I x.2.2.2.1), (I x.2.2.2.2.1), (I x.2.2.2.2.2.1), (I x.2.2.2.2.2.2)])))]), (I identity)] (.d (.tup [(L r.1), (I r.2)])) [] := by
 refine CallOK.of_PW Tryz.func66 rfl (by rw [Tryz.results66]) Tryz.ntmps66 Tryz.call66 ?_
 change PW _ _ _ _ _
 try simp only [go_sem, simprocAttr]
 unfold access_Asking at H
 refine PW.seq ?_
 refine PW.regionK fun K hK => OW.run [2, 3, 4] ?_
 simp only [go_sem, simprocAttr, sw0]
 refine OW.nil (hK _ ?_); clear hK K
 refine PW.seq ?_
 refine PW.regionK fun K hK => OW.run [2, 8, 9] ?_
 simp only [go_sem, simprocAttr, sw0]
 refine OW.inlineA rfl rfl rfl (by first | exact rfl | ((simp only [go_sem, List.toList_toArray, simprocAttr]); exact rfl)) Tryz.func110 rfl (by rw [Tryz.results110]) Tryz.ntmps110 Tryz.call110 (by (simp only [go_sem, Nat.reduceLT])) ?_
 intro p G
 change PW _ _ _ _ _
 try simp only [go_sem, simprocAttr]
 refine PW.seq ?_
 refine PW.regionK fun K hK => OW.run [2, 3, 4] ?_
 simp only [go_sem, simprocAttr, sw0]
 refine OW.nil (hK _ ?_); clear hK K
 refine PW.seq ?_
 refine PW.regionK fun K hK => OW.run [2, 8, 9] ?_
 simp only [go_sem, simprocAttr, sw0]
 refine OW.inlineA rfl rfl rfl (by first | exact rfl | ((simp only [go_sem, List.toList_toArray, simprocAttr]); exact rfl)) Tryz.func86 rfl (by rw [Tryz.results86]) Tryz.ntmps86 Tryz.call86 (by (simp only [go_sem, Nat.reduceLT])) ?_
 intro p G
 change PW _ _ _ _ _
 try simp only [go_sem, simprocAttr]
 refine PW.seq ?_
 refine PW.regionK fun K hK => OW.run [2, 3] ?_
 simp only [go_sem, simprocAttr, sw0]
 refine OW.nil (hK _ ?_); clear hK K
 refine PW.seq ?_
 refine PW.seq ?_
 obtain ⟨x1, e1, H⟩ := bnd_some H
 obtain ⟨x2, e2, H⟩ := bnd_some H
 obtain ⟨x3, e3, H⟩ := bnd_some H
 obtain ⟨x4, e4, H⟩ := bnd_some H
 refine PW.drawK 8 mixed (by kernel_rfl) fun K hK => ?_
 change FW _ _ _ _ _
 refine FW.run ?_
 simp only [go_sem, simprocAttr, sw0]
 refine FW.call' 4 rfl rfl rfl (by first | exact rfl | ((simp only [go_sem, List.toList_toArray, simprocAttr]); exact rfl)) ?_ (access_CheckRules_ok N _ _ _ _ _ _ _ _ e1) ?_ ?_ ?_ ?_
 rfl
 · (refine okAll_intro ?_; (simp only [go_sem, sw2, List.length_set, List.length_replicate, and_true, true_and, Nat.le_refl, simprocAttr]; done))
 exact .inl rfl
 (simp only [go_sem, Nat.reduceLT])
 refine FW.run ?_
 simp only [go_sem, simprocAttr, sw0]
 repeat (refine And.intro (by omega) ?_)
 refine FW.call' 4 rfl rfl rfl (by first | exact rfl | ((simp only [go_sem, List.toList_toArray, simprocAttr]); exact rfl)) ?_ (access_tickErr_ok N _ _ e2) ?_ ?_ ?_ ?_
 rfl
 exact okD_all rfl
 exact .inl rfl
 (simp only [go_sem, Nat.reduceLT])
 refine FW.run ?_
 simp only [go_sem, simprocAttr, sw0]
 repeat (refine And.intro (by omega) ?_)
 refine FW.nil ?_
 change OW _ _ _ _ _ _
 refine OW.run [2, 3, 6] ?_
 simp only [go_sem, simprocAttr, sw0]
 refine OW.call' 4 rfl rfl rfl (by first | exact rfl | ((simp only [go_sem, List.toList_toArray, simprocAttr]); exact rfl)) ?_ (access_phonesErr_ok N _ _ e3) ?_ ?_ ?_ ?_
 rfl
 exact okD_all rfl
 exact .inl rfl
 (simp only [go_sem, Nat.reduceLT])
 refine OW.run [2, 3, 6] ?_
 simp only [go_sem, simprocAttr, sw0]
 refine OW.call' 4 rfl rfl rfl (by first | exact rfl | ((simp only [go_sem, List.toList_toArray, simprocAttr]); exact rfl)) ?_ (access_first_ok N _ _ e4) ?_ ?_ ?_ ?_
 rfl
 · (refine okAll_intro ?_; (simp only [go_sem, sw2, List.length_set, List.length_replicate, and_true, true_and, Nat.le_refl, simprocAttr]; simp only [seg, go_sem, sw2, List.length_set, List.length_replicate, and_true, true_and, Nat.le_refl, simprocAttr]; done))
 exact .inr ⟨rfl, rfl⟩
 (simp only [go_sem, Nat.reduceLT])
 refine OW.run [2, 3, 6] ?_
 simp only [go_sem, simprocAttr, sw0]
 refine OW.nil (hK _ ?_); clear hK K
 refine PW.seq ?_
 refine PW.regionK fun K hK => OW.run [2, 3, 6, 22] ?_
 simp only [go_sem, simprocAttr, sw0]
 refine OW.nil (hK _ ?_); clear hK K
 refine PW.cond rfl (fun h1 => ?_) (fun h1 => ?_)
 replace H := br_t h1 H
 refine PW.seq ?_
 refine PW.regionK fun K hK => OW.run [4, 5] ?_
 simp only [go_sem, simprocAttr, sw0]
 refine OW.nil (hK _ ?_); clear hK K
 refine PW.ret ?_
 refine ⟨.inr rfl, rfl, rfl, ?_⟩
 simp only [go_sem, simprocAttr, sw0]
 change OW _ _ _ _ _ _
 refine OW.run [2, 8, 9] ?_
 simp only [go_sem, simprocAttr, sw0]
 refine OW.nil (hK _ ?_); clear hK K
 refine PW.seq ?_
 refine PW.seq ?_
 refine PW.regionK fun K hK => OW.run [2, 8, 9, 17] ?_
 simp only [go_sem, simprocAttr, sw0]
 refine OW.nil (hK _ ?_); clear hK K
 refine PW.cond rfl (fun h2 => ?_) (fun h2 => ?_)
 refine PW.seq ?_
 refine PW.regionK fun K hK => OW.run [6, 7] ?_
 simp only [go_sem, simprocAttr, sw0]
 refine OW.nil (hK _ ?_); clear hK K
 refine PW.ret ?_
 refine ⟨.inr rfl, rfl, rfl, ?_⟩
 simp only [go_sem, simprocAttr, sw0]
 change OW _ _ _ _ _ _
 refine OW.run [2, 8, 9] ?_
 simp only [go_sem, simprocAttr, sw0]
 refine OW.nil (hK _ ?_); clear hK K
 refine PW.seq ?_
 refine PW.seq ?_
 refine PW.regionK fun K hK => OW.run [2, 8, 9, 18] ?_
 simp only [go_sem, simprocAttr, sw0]
 refine OW.nil (hK _ ?_); clear hK K
 refine PW.cond rfl (fun h3 => ?_) (fun h3 => ?_)
 refine PW.seq ?_
 refine PW.regionK fun K hK => OW.run [6, 7] ?_
 simp only [go_sem, simprocAttr, sw0]
 refine OW.nil (hK _ ?_); clear hK K
 refine PW.ret ?_
 change PW.Ends _ _ _ _ _ _
 refine PW.Ends.intro (.inr rfl) ?_
 simp only [go_sem, simprocAttr, sw0]
 obtain rfl := Option.some.inj H
 refine RetOK.data' 4 (by exact okD_all rfl) ?_
 rfl
 exact absurd (h3.symm.trans h1) (by decide)
 exact absurd (h2.symm.trans h1) (by decide)
 replace H := br_f h1 H
 refine PW.skip ?_
 refine PW.seq ?_
 obtain ⟨x5, e5, H⟩ := bnd_some H
 refine PW.drawO 6 [5] [71] mixed (by kernel_rfl) (by decide) rfl fun K hK => ?_
 refine FWO.run ?_
 simp only [go_sem, simprocAttr, sw0]
 repeat (refine And.intro (by omega) ?_)
 refine FWO.callO 4 rfl ?_ (by exact Nat.le_refl _) rfl rfl rfl (by first | exact rfl | ((simp only [go_sem, List.toList_toArray, simprocAttr]); exact rfl)) ?_ (slices_Clone_pp_ok N _ _ e5) ?_ ?_ ?_ ?_
 rfl
 rfl
 exact okD_all rfl
 exact .inl rfl
 (simp only [go_sem, Nat.reduceLT])
 refine FWO.run ?_
 simp only [go_sem, simprocAttr, sw0]
 repeat (refine And.intro (by rfl) ?_)
 first | refine FWO.nil ?_ | skip
 change OW _ _ _ _ _ _
 refine OW.run [7] ?_
 simp only [go_sem, simprocAttr, sw0]
 refine OW.nil (hK _ ?_); clear hK K
 refine PW.joinS (τ := Unit) [7] 9 (fun _ => []) (fun _ => [{ cells := [.d (I Zm), .d (I Zi), .d (I Zp), .d (I Zo), .d (I Zn), .d (I Zh), .d (I Zk)], e := 23 }, { cells := [.d (I Z1a), .d (.list Z1e.length (Z1e.flatMap (fun (x : Int × Int × Int × Int × Int × Int × Int) => [(I x.1), (I x.2.1), (I x.2.2.1), (I x.2.2.2.1), (I x.2.2.2.2.1), (I x.2.2.2.2.2.1), (I x.2.2.2.2.2.2)])))], e := 30 }, { cells := [.d (I Zm), .d (I Zi), .d (I Zp), .d (I Zo), .d (I Zn), .d (I Zh), .d (I Zk)], e := 23 }, { cells := [.d (I Z1a), .d (.list Z1e.length (Z1e.flatMap (fun (x : Int × Int × Int × Int × Int × Int × Int) => [(I x.1), (I x.2.1), (I x.2.2.1), (I x.2.2.2.1), (I x.2.2.2.2.1), (I x.2.2.2.2.2.1), (I x.2.2.2.2.2.2)])))], e := 30 }, { cells := [.d (I Zm), .d (I Zi), .d (I Zp), .d (I Zo), .d (I Zn), .d (I Zh), .d (I Zk)], e := 23 }, { cells := [.d (I Z1a), .d (.list Z1e.length (Z1e.flatMap (fun (x : Int × Int × Int × Int × Int × Int × Int) => [(I x.1), (I x.2.1), (I x.2.2.1), (I x.2.2.2.1), (I x.2.2.2.2.1), (I x.2.2.2.2.2.1), (I x.2.2.2.2.2.2)])))], e := 30 }, { cells := [.d (I x1), .d (I x2), .d (I x3)], e := 26 }, { cells := (x5.flatMap (fun (x : Int × Int × Int × Int × Int × Int × Int) => [(I x.1), (I x.2.1), (I x.2.2.1), (I x.2.2.2.1), (I x.2.2.2.2.1), (I x.2.2.2.2.2.1), (I x.2.2.2.2.2.2)])).map .d, e := 71 }, { cells := [.d (I Zm), .d (I Zi), .d (I Zp), .d (I Zo), .d (I Zn), .d (I Zh), .d (I Zk), .d (I Z1a), .own 7 0 x5.length 7], e := 142 }]) _ _ r (by (simp only [go_sem]; omega)) H ?_ ?_
 intro K_ H N4 hN4
 refine PW.seq ?_
 refine PW.regionK fun K hK => OW.run [7, 36, 37] ?_
 simp only [go_sem, simprocAttr, sw0]
 repeat (refine And.intro (by omega) ?_)
 refine OW.nil (hK _ ?_); clear hK K
 refine PW.block ?_
 refine PW.loopS (σ := Int) [7, 36, 37] 9 (fun t37 => [(37, .d (I t37))]) (fun t37 => [{ cells := [.d (I Zm), .d (I Zi), .d (I Zp), .d (I Zo), .d (I Zn), .d (I Zh), .d (I Zk)], e := 23 }, { cells := [.d (I Z1a), .d (.list Z1e.length (Z1e.flatMap (fun (x : Int × Int × Int × Int × Int × Int × Int) => [(I x.1), (I x.2.1), (I x.2.2.1), (I x.2.2.2.1), (I x.2.2.2.2.1), (I x.2.2.2.2.2.1), (I x.2.2.2.2.2.2)])))], e := 30 }, { cells := [.d (I Zm), .d (I Zi), .d (I Zp), .d (I Zo), .d (I Zn), .d (I Zh), .d (I Zk)], e := 23 }, { cells := [.d (I Z1a), .d (.list Z1e.length (Z1e.flatMap (fun (x : Int × Int × Int × Int × Int × Int × Int) => [(I x.1), (I x.2.1), (I x.2.2.1), (I x.2.2.2.1), (I x.2.2.2.2.1), (I x.2.2.2.2.2.1), (I x.2.2.2.2.2.2)])))], e := 30 }, { cells := [.d (I Zm), .d (I Zi), .d (I Zp), .d (I Zo), .d (I Zn), .d (I Zh), .d (I Zk)], e := 23 }, { cells := [.d (I Z1a), .d (.list Z1e.length (Z1e.flatMap (fun (x : Int × Int × Int × Int × Int × Int × Int) => [(I x.1), (I x.2.1), (I x.2.2.1), (I x.2.2.2.1), (I x.2.2.2.2.1), (I x.2.2.2.2.2.1), (I x.2.2.2.2.2.2)])))], e := 30 }, { cells := [.d (I x1), .d (I x2), .d (I x3)], e := 26 }, { cells := (x5.flatMap (fun (x : Int × Int × Int × Int × Int × Int × Int) => [(I x.1), (I x.2.1), (I x.2.2.1), (I x.2.2.2.1), (I x.2.2.2.2.1), (I x.2.2.2.2.2.1), (I x.2.2.2.2.2.2)])).map .d, e := 71 }, { cells := [.d (I Zm), .d (I Zi), .d (I Zp), .d (I Zo), .d (I Zn), .d (I Zh), .d (I Zk), .d (I Z1a), .own 7 0 x5.length 7], e := 142 }]) (access_Asking.b1 N Zm Zi Zp Zo Zn Zh Zk Z1a x5 K_) r N (0 : Int) (by (simp only [go_sem]; omega)) H (by (simp only [sw1, go_sem, simprocAttr]; done)) ?_
 rintro n t37 H N5 hN5
 unfold access_Asking.b1 at H
 try simp only [go_sem, simprocAttr]
 refine PW.seq ?_
 refine PW.regionK fun K hK => OW.run [7, 36, 37, 38] ?_
 simp only [go_sem, simprocAttr, sw0]
 refine OW.nil (hK _ ?_); clear hK K
 refine PW.seq ?_
 refine PW.cond rfl (fun h6 => ?_) (fun h6 => ?_)
 replace H := br_t h6 H
 refine PW.skip ?_
 refine PW.seq ?_
 refine PW.block ?_
 refine PW.seq ?_
 refine PW.regionK fun K hK => OW.run [7, 8, 36, 37] ?_
 simp only [go_sem, simprocAttr, sw0]
 refine OW.nil (hK _ ?_); clear hK K
 refine PW.seq ?_
 obtain ⟨x6, e6, H⟩ := bnd_some H
 refine PW.regionK fun K hK => OW.run [7, 9, 36, 37] ?_
 simp only [go_sem, simprocAttr, sw0]
 refine OW.call' 4 rfl rfl rfl (by first | exact rfl | ((simp only [go_sem, List.toList_toArray, simprocAttr]); exact rfl)) ?_ (access_site_phoneErr_ok N _ _ _ _ _ _ _ _ _ _ _ e6) ?_ ?_ ?_ ?_
 · (first | ((first | rfl | (simp only [go_sem, sw1, simprocAttr, okAll_segD7, z0W4a, z1W4a, z2W4a, z3W4a, z4W4a, z5W4a]; done) | (simp only [go_sem, sw1, simprocAttr, okAll_segD7, z0W4a, z1W4a, z2W4a, z3W4a, z4W4a, z5W4a]; rfl) | (simp only [go_sem, sw1, simprocAttr, okAll_segD7, z0W4a, z1W4a, z2W4a, z3W4a, z4W4a, z5W4a]; simp only [seg, asD, go_sem, sw1, simprocAttr, okAll_segD7, z0W4a, z1W4a, z2W4a, z3W4a, z4W4a, z5W4a]; done) | (simp only [go_sem, sw1, simprocAttr, okAll_segD7, z0W4a, z1W4a, z2W4a, z3W4a, z4W4a, z5W4a]; simp only [seg, asD, go_sem, sw1, simprocAttr, okAll_segD7, z0W4a, z1W4a, z2W4a, z3W4a, z4W4a, z5W4a]; rfl) | ((try simp only [go_sem, sw1, simprocAttr, okAll_segD7, z0W4a, z1W4a, z2W4a, z3W4a, z4W4a, z5W4a]); (repeat' (first | rfl | (refine list_congr ?_; simp only [List.length_take, List.length_drop, List.length_set, List.length_replicate] <;> omega) | (refine congr (congrArg List.cons ?_) ?_) | (refine congrArg D.agg ?_) | (refine congrArg D.tup ?_) | (refine congrArg D.ref ?_) | (refine congrArg (D.list _) ?_) | (refine congrArg (D.clo _) ?_))))); done) | ((first | rfl | (simp only [go_sem, sw1, simprocAttr, okAll_segD7, z0W4a, z1W4a, z2W4a, z3W4a, z4W4a, z5W4a]; done) | (simp only [go_sem, sw1, simprocAttr, okAll_segD7, z0W4a, z1W4a, z2W4a, z3W4a, z4W4a, z5W4a]; rfl) | (simp only [go_sem, sw1, simprocAttr, okAll_segD7, z0W4a, z1W4a, z2W4a, z3W4a, z4W4a, z5W4a]; simp only [seg, asD, go_sem, sw1, simprocAttr, okAll_segD7, z0W4a, z1W4a, z2W4a, z3W4a, z4W4a, z5W4a]; done) | (simp only [go_sem, sw1, simprocAttr, okAll_segD7, z0W4a, z1W4a, z2W4a, z3W4a, z4W4a, z5W4a]; simp only [seg, asD, go_sem, sw1, simprocAttr, okAll_segD7, z0W4a, z1W4a, z2W4a, z3W4a, z4W4a, z5W4a]; rfl) | ((try simp only [go_sem, sw1, simprocAttr, okAll_segD7, z0W4a, z1W4a, z2W4a, z3W4a, z4W4a, z5W4a]); (repeat' (first | rfl | (refine list_congr ?_; simp only [List.length_take, List.length_drop, List.length_set, List.length_replicate] <;> omega) | (refine congr (congrArg List.cons ?_) ?_) | (refine congrArg D.agg ?_) | (refine congrArg D.tup ?_) | (refine congrArg D.ref ?_) | (refine congrArg (D.list _) ?_) | (refine congrArg (D.clo _) ?_))))); exact z6W4a _ _ _ rfl))
 · (first | exact trivial | exact okD_all rfl | (refine okAll_intro ?_; simp only [go_sem, sw2, List.length_set, List.length_replicate, and_true, true_and, Nat.le_refl, simprocAttr, okAll_segD7, z0W4a, z1W4a, z2W4a, z3W4a, z4W4a, z5W4a]; done) | (refine okAll_intro ?_; simp only [go_sem, sw2, List.length_set, List.length_replicate, and_true, true_and, Nat.le_refl, simprocAttr, okAll_segD7, z0W4a, z1W4a, z2W4a, z3W4a, z4W4a, z5W4a]; omega))
 · first | (exact .inr ⟨rfl, rfl⟩; done) | (simp only [cleanV, go_sem, okAll_segD7, z0W4a, z1W4a, z2W4a, z3W4a, z4W4a, z5W4a]; done) | (left; (simp only [go_sem, simprocAttr, sw0, okAll_segD7, z0W4a, z1W4a, z2W4a, z3W4a, z4W4a, z5W4a]); done) | (right; (simp only [go_sem, simprocAttr, sw0, okAll_segD7, z0W4a, z1W4a, z2W4a, z3W4a, z4W4a, z5W4a]); done)
 (simp only [go_sem, Nat.reduceLT])
 refine OW.run [7, 9, 36, 37] ?_
 simp only [go_sem, simprocAttr, sw0]
 refine OW.nil (hK _ ?_); clear hK K
 refine PW.seq ?_
 refine PW.regionK fun K hK => OW.run [7, 9, 36, 37, 44] ?_
 simp only [go_sem, simprocAttr, sw0]
 refine OW.nil (hK _ ?_); clear hK K
 refine PW.cond rfl (fun h7 => ?_) (fun h7 => ?_)
 replace H := br_t h7 H
 refine PW.seq ?_
 refine PW.regionK fun K hK => OW.run [4, 5] ?_
 simp only [go_sem, simprocAttr, sw0]
 refine OW.nil (hK _ ?_); clear hK K
 refine PW.ret ?_
 refine ⟨.inr rfl, rfl, rfl, ?_⟩
 simp only [go_sem, simprocAttr, sw0]
 change OW _ _ _ _ _ _
 refine OW.run [2, 8, 9] ?_
 simp only [go_sem, simprocAttr, sw0]
 refine OW.nil (hK _ ?_); clear hK K
 refine PW.seq ?_
 refine PW.seq ?_
 refine PW.regionK fun K hK => OW.run [2, 8, 9, 17] ?_
 simp only [go_sem, simprocAttr, sw0]
 refine OW.nil (hK _ ?_); clear hK K
 refine PW.cond rfl (fun h8 => ?_) (fun h8 => ?_)
 refine PW.seq ?_
 refine PW.regionK fun K hK => OW.run [6, 7] ?_
 simp only [go_sem, simprocAttr, sw0]
 refine OW.nil (hK _ ?_); clear hK K
 refine PW.ret ?_
 refine ⟨.inr rfl, rfl, rfl, ?_⟩
 simp only [go_sem, simprocAttr, sw0]
 change OW _ _ _ _ _ _
 refine OW.run [2, 8, 9] ?_
 simp only [go_sem, simprocAttr, sw0]
 refine OW.nil (hK _ ?_); clear hK K
 refine PW.seq ?_
 refine PW.seq ?_
 refine PW.regionK fun K hK => OW.run [2, 8, 9, 18] ?_
 simp only [go_sem, simprocAttr, sw0]
 refine OW.nil (hK _ ?_); clear hK K
 refine PW.cond rfl (fun h9 => ?_) (fun h9 => ?_)
 refine PW.seq ?_
 refine PW.regionK fun K hK => OW.run [6, 7] ?_
 simp only [go_sem, simprocAttr, sw0]
 refine OW.nil (hK _ ?_); clear hK K
 refine PW.ret ?_
 change PW.Ends _ _ _ _ _ _
 refine PW.Ends.intro (.inr rfl) ?_
 simp only [go_sem, simprocAttr, sw0]
 obtain rfl := Option.some.inj H
 refine RetOK.data' 4 (by exact okD_all rfl) ?_
 rfl
 exact absurd (h9.symm.trans h7) (by decide)
 exact absurd (h8.symm.trans h7) (by decide)
 replace H := br_f h7 H
 refine PW.skip ?_
 refine PW.regionK fun K hK => OW.run [7, 36, 37] ?_
 simp only [go_sem, simprocAttr, sw0]
 refine OW.nil (hK _ ?_); clear hK K
 refine hN5 [] (w64 (t37 + (1 : Int))) _ H (by exact trivial) ?_
 simp only [sw1, go_sem, simprocAttr]
 replace H := br_f h6 H
 refine PW.exit ?_
 refine hN4 [] () _ H (by exact trivial) ?_
 simp only [sw1, go_sem, simprocAttr]
 rintro _ H
 try simp only [go_sem, simprocAttr]
 refine PW.seq ?_
 refine PW.regionK fun K hK => OW.run [4, 5] ?_
 simp only [go_sem, simprocAttr, sw0]
 refine OW.nil (hK _ ?_); clear hK K
 refine PW.ret ?_
 refine ⟨.inr rfl, rfl, rfl, ?_⟩
 simp only [go_sem, simprocAttr, sw0]
 change OW _ _ _ _ _ _
 refine OW.run [2, 8, 9] ?_
 simp only [go_sem, simprocAttr, sw0]
 refine OW.nil (hK _ ?_); clear hK K
 refine PW.seq ?_
 refine PW.seq ?_
 refine PW.regionK fun K hK => OW.run [2, 8, 9, 17] ?_
 simp only [go_sem, simprocAttr, sw0]
 refine OW.nil (hK _ ?_); clear hK K
 refine PW.cond rfl (fun h10 => ?_) (fun h10 => ?_)
 exact absurd h10 (by decide)
 refine PW.skip ?_
 refine PW.seq ?_
 obtain ⟨x7, e7, H⟩ := bnd_some H
 obtain ⟨x8, e8, H⟩ := bnd_some H
 refine PW.regionK fun K hK => OW.run [6, 7] ?_
 simp only [go_sem, simprocAttr, sw0]
 refine OW.call' 4 rfl rfl rfl (by first | exact rfl | ((simp only [go_sem, List.toList_toArray, simprocAttr]); exact rfl)) ?_ (access_site_isIdentity_ok N _ _ _ _ _ _ _ _ _ _ _ e7) ?_ ?_ ?_ ?_
 · (first | ((first | rfl | (simp only [go_sem, sw1, simprocAttr, okAll_segD7, z0W4a, z1W4a, z2W4a, z3W4a, z4W4a, z5W4a]; done) | (simp only [go_sem, sw1, simprocAttr, okAll_segD7, z0W4a, z1W4a, z2W4a, z3W4a, z4W4a, z5W4a]; rfl) | (simp only [go_sem, sw1, simprocAttr, okAll_segD7, z0W4a, z1W4a, z2W4a, z3W4a, z4W4a, z5W4a]; simp only [seg, asD, go_sem, sw1, simprocAttr, okAll_segD7, z0W4a, z1W4a, z2W4a, z3W4a, z4W4a, z5W4a]; done) | (simp only [go_sem, sw1, simprocAttr, okAll_segD7, z0W4a, z1W4a, z2W4a, z3W4a, z4W4a, z5W4a]; simp only [seg, asD, go_sem, sw1, simprocAttr, okAll_segD7, z0W4a, z1W4a, z2W4a, z3W4a, z4W4a, z5W4a]; rfl) | ((try simp only [go_sem, sw1, simprocAttr, okAll_segD7, z0W4a, z1W4a, z2W4a, z3W4a, z4W4a, z5W4a]); (repeat' (first | rfl | (refine list_congr ?_; simp only [List.length_take, List.length_drop, List.length_set, List.length_replicate] <;> omega) | (refine congr (congrArg List.cons ?_) ?_) | (refine congrArg D.agg ?_) | (refine congrArg D.tup ?_) | (refine congrArg D.ref ?_) | (refine congrArg (D.list _) ?_) | (refine congrArg (D.clo _) ?_))))); done) | ((first | rfl | (simp only [go_sem, sw1, simprocAttr, okAll_segD7, z0W4a, z1W4a, z2W4a, z3W4a, z4W4a, z5W4a]; done) | (simp only [go_sem, sw1, simprocAttr, okAll_segD7, z0W4a, z1W4a, z2W4a, z3W4a, z4W4a, z5W4a]; rfl) | (simp only [go_sem, sw1, simprocAttr, okAll_segD7, z0W4a, z1W4a, z2W4a, z3W4a, z4W4a, z5W4a]; simp only [seg, asD, go_sem, sw1, simprocAttr, okAll_segD7, z0W4a, z1W4a, z2W4a, z3W4a, z4W4a, z5W4a]; done) | (simp only [go_sem, sw1, simprocAttr, okAll_segD7, z0W4a, z1W4a, z2W4a, z3W4a, z4W4a, z5W4a]; simp only [seg, asD, go_sem, sw1, simprocAttr, okAll_segD7, z0W4a, z1W4a, z2W4a, z3W4a, z4W4a, z5W4a]; rfl) | ((try simp only [go_sem, sw1, simprocAttr, okAll_segD7, z0W4a, z1W4a, z2W4a, z3W4a, z4W4a, z5W4a]); (repeat' (first | rfl | (refine list_congr ?_; simp only [List.length_take, List.length_drop, List.length_set, List.length_replicate] <;> omega) | (refine congr (congrArg List.cons ?_) ?_) | (refine congrArg D.agg ?_) | (refine congrArg D.tup ?_) | (refine congrArg D.ref ?_) | (refine congrArg (D.list _) ?_) | (refine congrArg (D.clo _) ?_))))); exact z6W4a _ _ _ rfl))
 · (first | exact trivial | exact okD_all rfl | (refine okAll_intro ?_; simp only [go_sem, sw2, List.length_set, List.length_replicate, and_true, true_and, Nat.le_refl, simprocAttr, okAll_segD7, z0W4a, z1W4a, z2W4a, z3W4a, z4W4a, z5W4a]; done) | (refine okAll_intro ?_; simp only [go_sem, sw2, List.length_set, List.length_replicate, and_true, true_and, Nat.le_refl, simprocAttr, okAll_segD7, z0W4a, z1W4a, z2W4a, z3W4a, z4W4a, z5W4a]; omega))
 · first | (exact .inr ⟨rfl, rfl⟩; done) | (simp only [cleanV, go_sem, okAll_segD7, z0W4a, z1W4a, z2W4a, z3W4a, z4W4a, z5W4a]; done) | (left; (simp only [go_sem, simprocAttr, sw0, okAll_segD7, z0W4a, z1W4a, z2W4a, z3W4a, z4W4a, z5W4a]); done) | (right; (simp only [go_sem, simprocAttr, sw0, okAll_segD7, z0W4a, z1W4a, z2W4a, z3W4a, z4W4a, z5W4a]); done)
 (simp only [go_sem, Nat.reduceLT])
 refine OW.run [6, 7] ?_
 simp only [go_sem, simprocAttr, sw0]
 refine OW.call' 4 rfl rfl rfl (by first | exact rfl | ((simp only [go_sem, List.toList_toArray, simprocAttr]); exact rfl)) ?_ (access_unless_ok N _ _ _ e8) ?_ ?_ ?_ ?_
 rfl
 exact okD_all rfl
 exact .inl rfl
 (simp only [go_sem, Nat.reduceLT])
 refine OW.run [6, 7] ?_
 simp only [go_sem, simprocAttr, sw0]
 refine OW.nil (hK _ ?_); clear hK K
 refine PW.ret ?_
 refine ⟨.inr rfl, rfl, rfl, ?_⟩
 simp only [go_sem, simprocAttr, sw0]
 change OW _ _ _ _ _ _
 refine OW.run [2, 8, 9] ?_
 simp only [go_sem, simprocAttr, sw0]
 refine OW.nil (hK _ ?_); clear hK K
 refine PW.seq ?_
 refine PW.seq ?_
 refine PW.regionK fun K hK => OW.run [2, 8, 9, 18] ?_
 simp only [go_sem, simprocAttr, sw0]
 refine OW.nil (hK _ ?_); clear hK K
 refine PW.cond rfl (fun h11 => ?_) (fun h11 => ?_)
 replace H := br_t h11 H
 refine PW.seq ?_
 refine PW.regionK fun K hK => OW.run [6, 7] ?_
 simp only [go_sem, simprocAttr, sw0]
 refine OW.nil (hK _ ?_); clear hK K
 refine PW.ret ?_
 change PW.Ends _ _ _ _ _ _
 refine PW.Ends.intro (.inr rfl) ?_
 simp only [go_sem, simprocAttr, sw0]
 obtain rfl := Option.some.inj H
 refine RetOK.data' 4 (by exact okD_all rfl) ?_
 rfl
 replace H := br_f h11 H
 refine PW.skip ?_
 refine PW.seq ?_
 obtain ⟨x9, e9, H⟩ := bnd_some H
 refine PW.regionK fun K hK => OW.run [6, 7] ?_
 simp only [go_sem, simprocAttr, sw0]
 refine OW.frz 7 (by exact Nat.zero_le _) (by exact allD_mapV _) ?_
 simp only [map_nz_I, map_nz_Bo, map_nz_Sx, map_nz_L, nz_int, nz_bool, nz_str, nz_list, nz_ref, nz_nil, go_sem, simprocAttr]
 refine OW.frz 8 (by exact Nat.zero_le _) (by rfl) ?_
 simp only [map_nz_I, map_nz_Bo, map_nz_Sx, map_nz_L, nz_int, nz_bool, nz_str, nz_list, nz_ref, nz_nil, go_sem, simprocAttr]
 refine OW.call' 4 rfl rfl rfl (by first | exact rfl | ((simp only [go_sem, List.toList_toArray, simprocAttr]); exact rfl)) ?_ (access_site_asking_ok N _ _ _ _ _ _ _ _ _ _ _ e9) ?_ ?_ ?_ ?_
 · (first | ((first | rfl | (simp only [go_sem, sw1, simprocAttr, okAll_segD7, z0W4a, z1W4a, z2W4a, z3W4a, z4W4a, z5W4a]; done) | (simp only [go_sem, sw1, simprocAttr, okAll_segD7, z0W4a, z1W4a, z2W4a, z3W4a, z4W4a, z5W4a]; rfl) | (simp only [go_sem, sw1, simprocAttr, okAll_segD7, z0W4a, z1W4a, z2W4a, z3W4a, z4W4a, z5W4a]; simp only [seg, asD, go_sem, sw1, simprocAttr, okAll_segD7, z0W4a, z1W4a, z2W4a, z3W4a, z4W4a, z5W4a]; done) | (simp only [go_sem, sw1, simprocAttr, okAll_segD7, z0W4a, z1W4a, z2W4a, z3W4a, z4W4a, z5W4a]; simp only [seg, asD, go_sem, sw1, simprocAttr, okAll_segD7, z0W4a, z1W4a, z2W4a, z3W4a, z4W4a, z5W4a]; rfl) | ((try simp only [go_sem, sw1, simprocAttr, okAll_segD7, z0W4a, z1W4a, z2W4a, z3W4a, z4W4a, z5W4a]); (repeat' (first | rfl | (refine list_congr ?_; simp only [List.length_take, List.length_drop, List.length_set, List.length_replicate] <;> omega) | (refine congr (congrArg List.cons ?_) ?_) | (refine congrArg D.agg ?_) | (refine congrArg D.tup ?_) | (refine congrArg D.ref ?_) | (refine congrArg (D.list _) ?_) | (refine congrArg (D.clo _) ?_))))); done) | ((first | rfl | (simp only [go_sem, sw1, simprocAttr, okAll_segD7, z0W4a, z1W4a, z2W4a, z3W4a, z4W4a, z5W4a]; done) | (simp only [go_sem, sw1, simprocAttr, okAll_segD7, z0W4a, z1W4a, z2W4a, z3W4a, z4W4a, z5W4a]; rfl) | (simp only [go_sem, sw1, simprocAttr, okAll_segD7, z0W4a, z1W4a, z2W4a, z3W4a, z4W4a, z5W4a]; simp only [seg, asD, go_sem, sw1, simprocAttr, okAll_segD7, z0W4a, z1W4a, z2W4a, z3W4a, z4W4a, z5W4a]; done) | (simp only [go_sem, sw1, simprocAttr, okAll_segD7, z0W4a, z1W4a, z2W4a, z3W4a, z4W4a, z5W4a]; simp only [seg, asD, go_sem, sw1, simprocAttr, okAll_segD7, z0W4a, z1W4a, z2W4a, z3W4a, z4W4a, z5W4a]; rfl) | ((try simp only [go_sem, sw1, simprocAttr, okAll_segD7, z0W4a, z1W4a, z2W4a, z3W4a, z4W4a, z5W4a]); (repeat' (first | rfl | (refine list_congr ?_; simp only [List.length_take, List.length_drop, List.length_set, List.length_replicate] <;> omega) | (refine congr (congrArg List.cons ?_) ?_) | (refine congrArg D.agg ?_) | (refine congrArg D.tup ?_) | (refine congrArg D.ref ?_) | (refine congrArg (D.list _) ?_) | (refine congrArg (D.clo _) ?_))))); exact z6W4a _ _ _ rfl))
 · (first | exact trivial | exact okD_all rfl | (refine okAll_intro ?_; simp only [go_sem, sw2, List.length_set, List.length_replicate, and_true, true_and, Nat.le_refl, simprocAttr, okAll_segD7, z0W4a, z1W4a, z2W4a, z3W4a, z4W4a, z5W4a]; done) | (refine okAll_intro ?_; simp only [go_sem, sw2, List.length_set, List.length_replicate, and_true, true_and, Nat.le_refl, simprocAttr, okAll_segD7, z0W4a, z1W4a, z2W4a, z3W4a, z4W4a, z5W4a]; omega))
 · first | (exact .inl rfl; done) | (simp only [cleanV, go_sem, okAll_segD7, z0W4a, z1W4a, z2W4a, z3W4a, z4W4a, z5W4a]; done) | (left; (simp only [go_sem, simprocAttr, sw0, okAll_segD7, z0W4a, z1W4a, z2W4a, z3W4a, z4W4a, z5W4a]); done) | (right; (simp only [go_sem, simprocAttr, sw0, okAll_segD7, z0W4a, z1W4a, z2W4a, z3W4a, z4W4a, z5W4a]); done)
 (simp only [go_sem, Nat.reduceLT])
 refine OW.run [6, 7] ?_
 simp only [go_sem, simprocAttr, sw0]
 refine OW.nil (hK _ ?_); clear hK K
 refine PW.ret ?_
 change PW.Ends _ _ _ _ _ _
 refine PW.Ends.intro (.inr rfl) ?_
 simp only [go_sem, simprocAttr, sw0]
 obtain rfl := Option.some.inj H
 refine RetOK.data' 4 (by exact okD_all rfl) ?_
 rfl

theorem base_Ceil_ok (N : Nat) (n : Int) (by_ : Int) (r : Int) (H : base_Ceil N n by_ = some r) : CallOK Tryz.prog 113 [(I n), (I by_)] (.d (I r)) [] := by
 refine CallOK.of_PW Tryz.func113 rfl (by rw [Tryz.results113]) Tryz.ntmps113 Tryz.call113 ?_
 change PW _ _ _ _ _
 try simp only [go_sem, simprocAttr]
 unfold base_Ceil at H
 refine PW.seq ?_
 refine PW.regionK fun K hK => OW.run [0, 1] ?_
 simp only [go_sem, simprocAttr, sw0]
 refine OW.nil (hK _ ?_)
 refine PW.seq ?_
 obtain ⟨x1, e1, H⟩ := bnd_some H
 refine PW.regionK fun K hK => OW.run [4] ?_
 simp only [go_sem, simprocAttr, sw0]
 refine OW.call' 4 rfl rfl rfl (by first | exact rfl | ((simp only [go_sem, List.toList_toArray, simprocAttr]); exact rfl)) ?_ (base_Floor_ok N _ _ _ e1) ?_ ?_ ?_ ?_
 rfl
 exact okD_all rfl
 exact .inl rfl
 (simp only [go_sem, Nat.reduceLT])
 refine OW.run [4] ?_
 simp only [go_sem, simprocAttr, sw0]
 refine OW.nil (hK _ ?_)
 refine PW.ret ?_
 change PW.Ends _ _ _ _ _ _
 refine PW.Ends.intro (.inr rfl) ?_
 simp only [go_sem, simprocAttr, sw0]
 obtain rfl := Option.some.inj H
 refine RetOK.data' 4 (by exact trivial) ?_
 rfl

theorem ref07_NextChance_ok (N : Nat) (Zm : Int) (Zi : Int) (Zp : Int) (Zo : Int) (Zn : Int) (Zh : Int) (Zk : Int) (at_ : Int) (r : Int × Bool) (H : ref07_NextChance N Zm Zi Zp Zo Zn Zh Zk at_ = some r) : CallOK Tryz.prog 67 [(.agg [(I Zm), (I Zi), (I Zp), (I Zo), (I Zn), (I Zh), (I Zk)]), (I at_)] (.d (.tup [(I r.1), (Bo r.2)])) [] := by
 refine CallOK.of_PW Tryz.func67 rfl (by rw [Tryz.results67]) Tryz.ntmps67 Tryz.call67 ?_
 change PW _ _ _ _ _
 try simp only [go_sem, simprocAttr]
 unfold ref07_NextChance at H
 refine PW.seq ?_
 refine PW.regionK fun K hK => OW.run [1, 2] ?_
 simp only [go_sem, simprocAttr, sw0]
 refine OW.nil (hK _ ?_)
 refine PW.seq ?_
 obtain ⟨x1, e1, H⟩ := bnd_some H
 refine PW.drawK 6 mixed (by kernel_rfl) fun K hK => ?_
 change FW _ _ _ _ _
 refine FW.run ?_
 simp only [go_sem, simprocAttr, sw0]
 repeat (refine And.intro (by omega) ?_)
 refine FW.call' 4 rfl rfl rfl (by first | exact rfl | ((simp only [go_sem, List.toList_toArray, simprocAttr]); exact rfl)) ?_ (base_Ceil_ok N _ _ _ e1) ?_ ?_ ?_ ?_
 rfl
 exact okD_all rfl
 exact .inl rfl
 (simp only [go_sem, Nat.reduceLT])
 refine FW.run ?_
 simp only [go_sem, simprocAttr, sw0]
 repeat (refine And.intro (by omega) ?_)
 refine FW.nil ?_
 change OW _ _ _ _ _ _
 refine OW.run [6] ?_
 simp only [go_sem, simprocAttr, sw0]
 refine OW.nil (hK _ ?_)
 refine PW.seq ?_
 refine PW.regionK fun K hK => OW.run [4, 5] ?_
 simp only [go_sem, simprocAttr, sw0]
 refine OW.nil (hK _ ?_)
 refine PW.ret ?_
 change PW.Ends _ _ _ _ _ _
 refine PW.Ends.intro (.inr rfl) ?_
 simp only [go_sem, simprocAttr, sw0]
 obtain rfl := Option.some.inj H
 refine RetOK.data' 4 (by exact okD_all rfl) ?_
 rfl
end Go.Proofs.YtbndgoeahoadlaaGreatDoor
