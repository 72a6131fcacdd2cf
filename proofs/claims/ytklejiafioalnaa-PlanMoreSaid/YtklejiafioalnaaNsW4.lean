import Derived.Test.YtklejiafioalnaaNsBase
import Derived.Test.YtklejiafioalnaaNsW0
import Derived.Test.YtklejiafioalnaaNsW2
import Derived.Test.YtklejiafioalnaaNsW3
set_option linter.all false
namespace Go.Proofs.Ytklejiafioalnaa
open Go.PW Go.Sh

set_option maxRecDepth 20000
set_option maxHeartbeats 8000000
def z0W4a := allOne_flatF (fun (x : ByteArray × Int × Int × Int × Int × Int × Int) => [(Sx x.1), (I x.2.1), (I x.2.2.1), (I x.2.2.2.1), (I x.2.2.2.2.1), (I x.2.2.2.2.2.1), (I x.2.2.2.2.2.2)]) (fun _ => rfl)
def z1W4a := flatMap_length 7 (fun (x : ByteArray × Int × Int × Int × Int × Int × Int) => [(Sx x.1), (I x.2.1), (I x.2.2.1), (I x.2.2.2.1), (I x.2.2.2.2.1), (I x.2.2.2.2.2.1), (I x.2.2.2.2.2.2)]) (fun _ => rfl)
def z2W4a := map_nz_flat (f := (fun (x : ByteArray × Int × Int × Int × Int × Int × Int) => [(Sx x.1), (I x.2.1), (I x.2.2.1), (I x.2.2.2.1), (I x.2.2.2.2.1), (I x.2.2.2.2.2.1), (I x.2.2.2.2.2.2)])) (fun _ => rfl)
def z3W4a := takeFlat (fun (x : ByteArray × Int × Int × Int × Int × Int × Int) => [(Sx x.1), (I x.2.1), (I x.2.2.1), (I x.2.2.2.1), (I x.2.2.2.2.1), (I x.2.2.2.2.2.1), (I x.2.2.2.2.2.2)]) 7 (fun _ => rfl)
def z4W4a := takeFlat1 (fun (x : ByteArray × Int × Int × Int × Int × Int × Int) => [(Sx x.1), (I x.2.1), (I x.2.2.1), (I x.2.2.2.1), (I x.2.2.2.2.1), (I x.2.2.2.2.2.1), (I x.2.2.2.2.2.2)]) 7 (fun _ => rfl)
def z5W4a := takeFlatS (fun (x : ByteArray × Int × Int × Int × Int × Int × Int) => [(Sx x.1), (I x.2.1), (I x.2.2.1), (I x.2.2.2.1), (I x.2.2.2.2.1), (I x.2.2.2.2.2.1), (I x.2.2.2.2.2.2)]) 7 (fun _ => rfl)
def z6W4a := allValFlat (fun (x : ByteArray × Int × Int × Int × Int × Int × Int) => [(Sx x.1), (I x.2.1), (I x.2.2.1), (I x.2.2.2.1), (I x.2.2.2.2.1), (I x.2.2.2.2.2.1), (I x.2.2.2.2.2.2)]) (fun _ => rfl)
def z7W4a := segFlatSnoc (fun (x : ByteArray × Int × Int × Int × Int × Int × Int) => [(Sx x.1), (I x.2.1), (I x.2.2.1), (I x.2.2.2.1), (I x.2.2.2.2.1), (I x.2.2.2.2.2.1), (I x.2.2.2.2.2.2)]) 7 (fun _ => rfl)
def z8W4a := sub_el 7 (fun (x : ByteArray × Int × Int × Int × Int × Int × Int) => [(Sx x.1), (I x.2.1), (I x.2.2.1), (I x.2.2.2.1), (I x.2.2.2.2.1), (I x.2.2.2.2.2.1), (I x.2.2.2.2.2.2)]) (fun _ => rfl)
def z9W4a := subV_el 7 (fun (x : ByteArray × Int × Int × Int × Int × Int × Int) => [(Sx x.1), (I x.2.1), (I x.2.2.1), (I x.2.2.2.1), (I x.2.2.2.2.1), (I x.2.2.2.2.2.1), (I x.2.2.2.2.2.2)]) (fun _ => rfl)
def z10W4a := getD_elV0 7 (fun (x : ByteArray × Int × Int × Int × Int × Int × Int) => [(Sx x.1), (I x.2.1), (I x.2.2.1), (I x.2.2.2.1), (I x.2.2.2.2.1), (I x.2.2.2.2.2.1), (I x.2.2.2.2.2.2)]) (fun _ => rfl)
def z11W4a := getD_elV 7 (fun (x : ByteArray × Int × Int × Int × Int × Int × Int) => [(Sx x.1), (I x.2.1), (I x.2.2.1), (I x.2.2.2.1), (I x.2.2.2.2.1), (I x.2.2.2.2.2.1), (I x.2.2.2.2.2.2)]) (fun _ => rfl)
def z12W4a := setMany_el 7 (fun (x : ByteArray × Int × Int × Int × Int × Int × Int) => [(Sx x.1), (I x.2.1), (I x.2.2.1), (I x.2.2.2.1), (I x.2.2.2.2.1), (I x.2.2.2.2.2.1), (I x.2.2.2.2.2.2)]) (fun _ => rfl)
def z13W4a := takeFlatSet (fun (x : ByteArray × Int × Int × Int × Int × Int × Int) => [(Sx x.1), (I x.2.1), (I x.2.2.1), (I x.2.2.2.1), (I x.2.2.2.2.1), (I x.2.2.2.2.2.1), (I x.2.2.2.2.2.2)]) 7 (fun _ => rfl)
theorem law09_PlanMore_ok (N : Nat) (Z12 : List (List Int)) (Zy : List (ByteArray × Int × Int × Int × Int × Int × Int)) (Z11 : List (Int × Int)) (Zz : Int) (Z13 : Int) (Z10 : Int) (Ze : ByteArray) (Zc : Int) (Za : Int) (Zb : Int) (Zd : Int) (Zf : Int) (Zg : Int) (n_0 : Int) (n_1 : Int) (n_2 : Int) (r : Bool) (H : law09_PlanMore N Z12 Zy Z11 Zz Z13 Z10 Ze Zc Za Zb Zd Zf Zg n_0 n_1 n_2 = some r) : CallOK Try.prog 5 [(.agg [(.list Z12.length (Z12.map L)), (.list Zy.length (Zy.flatMap (fun (x : ByteArray × Int × Int × Int × Int × Int × Int) => [(Sx x.1), (I x.2.1), (I x.2.2.1), (I x.2.2.2.1), (I x.2.2.2.2.1), (I x.2.2.2.2.2.1), (I x.2.2.2.2.2.2)]))), (.list Z11.length (Z11.flatMap (fun (x : Int × Int) => [(I x.1), (I x.2)]))), (I Zz), (I Z13), (I Z10)]), (.agg [(Sx Ze), (I Zc), (I Za), (I Zb), (I Zd), (I Zf), (I Zg)]), (.agg [(I n_0), (I n_1), (I n_2)])] (.d (Bo r)) [] := by
 refine CallOK.of_PW Try.func5 rfl (by rw [Try.results5]) Try.ntmps5 Try.call5 ?_
 change PW _ _ _ _ _
 try simp only [go_sem, simprocAttr]
 unfold law09_PlanMore at H
 refine PW.seq ?_
 refine PW.regionK fun K hK => OW.run [3, 4, 5] ?_
 simp only [go_sem, simprocAttr, sw0]
 refine OW.nil (hK _ ?_); clear hK K
 refine PW.seq ?_
 refine PW.seq ?_
 obtain ⟨x1, e1, H⟩ := bnd_some H
 refine PW.regionK fun K hK => OW.run [3, 4, 5, 19] ?_
 simp only [go_sem, simprocAttr, sw0]
 refine OW.call' 4 rfl rfl rfl (by first | exact rfl | ((simp only [go_sem, List.toList_toArray, simprocAttr]); exact rfl)) ?_ (law09_awake_ok N  _ e1) ?_ ?_ ?_ ?_
 rfl
 exact okD_all rfl
 exact .inl rfl
 (simp only [go_sem, Nat.reduceLT])
 refine OW.run [3, 4, 5, 19] ?_
 simp only [go_sem, simprocAttr, sw0]
 refine OW.nil (hK _ ?_); clear hK K
 refine PW.cond rfl (fun h1 => ?_) (fun h1 => ?_)
 replace H := br_t h1 H
 refine PW.seq ?_
 refine PW.regionK fun K hK => OW.run [6] ?_
 simp only [go_sem, simprocAttr, sw0]
 refine OW.nil (hK _ ?_); clear hK K
 refine PW.ret ?_
 change PW.Ends _ _ _ _ _ _
 refine PW.Ends.intro (.inr rfl) ?_
 simp only [go_sem, simprocAttr, sw0]
 obtain rfl := Option.some.inj H
 refine RetOK.data' 4 (by exact trivial) ?_
 rfl
 replace H := br_f h1 H
 refine PW.skip ?_
 refine PW.seq ?_
 refine PW.seq ?_
 obtain ⟨x2, e2, H⟩ := bnd_some H
 obtain ⟨x3, e3, H⟩ := bnd_some H
 refine PW.regionK fun K hK => OW.run [3, 4, 5, 39] ?_
 simp only [go_sem, simprocAttr, sw0]
 refine OW.call' 4 rfl rfl rfl (by first | exact rfl | ((simp only [go_sem, List.toList_toArray, simprocAttr]); exact rfl)) ?_ (law09_Few_ok N _ _ _ _ _ _ _ e2) ?_ ?_ ?_ ?_
 rfl
 · (refine okAll_intro ?_; (simp only [go_sem, sw2, List.length_set, List.length_replicate, and_true, true_and, Nat.le_refl, simprocAttr]; done))
 exact .inl rfl
 (simp only [go_sem, Nat.reduceLT])
 refine OW.run [3, 4, 5, 39] ?_
 simp only [go_sem, simprocAttr, sw0]
 repeat (refine And.intro (by omega) ?_)
 refine OW.callG' 4 rfl rfl ?_ (fun hg => by first | rfl | (simp only [go_sem, ↓reduceIte]; rfl)) (fun hg => by ((simp only [go_sem, List.toList_toArray, simprocAttr]); exact rfl)) (fun hg => ?_) (fun hg => (ref09_PlanErr_ok N _ _ _ _ _ _ _ (grd_t hg e3))) ?_ ?_ ?_ ?_
 simp only [go_sem, simprocAttr]
 rfl
 · (refine okAll_intro ?_; (simp only [go_sem, sw2, List.length_set, List.length_replicate, and_true, true_and, Nat.le_refl, simprocAttr]; done))
 exact .inl rfl
 (simp only [go_sem, Nat.reduceLT])
 refine OW.run [3, 4, 5, 39] ?_
 simp only [go_sem, simprocAttr, sw0]
 refine OW.nil (hK _ ?_); clear hK K
 refine PW.cond rfl (fun h2 => ?_) (fun h2 => ?_)
 replace H := br_t h2 H
 refine PW.seq ?_
 refine PW.regionK fun K hK => OW.run [6] ?_
 simp only [go_sem, simprocAttr, sw0]
 refine OW.nil (hK _ ?_); clear hK K
 refine PW.ret ?_
 change PW.Ends _ _ _ _ _ _
 refine PW.Ends.intro (.inr rfl) ?_
 simp only [go_sem, simprocAttr, sw0]
 obtain rfl := Option.some.inj H
 refine RetOK.data' 4 (by exact trivial) ?_
 rfl
 replace H := br_f h2 H
 refine PW.skip ?_
 refine PW.seq ?_
 refine PW.regionK fun K hK => OW.run [3, 4, 5, 7, 8] ?_
 simp only [go_sem, simprocAttr, sw0]
 refine OW.inline rfl rfl rfl (by first | exact rfl | ((simp only [go_sem, List.toList_toArray, simprocAttr]); exact rfl)) Try.func29 rfl (by rw [Try.results29]) Try.ntmps29 Try.call29 (by (simp only [go_sem, Nat.reduceLT])) ?_
 intro us p
 change PW _ _ _ _ _
 try simp only [go_sem, simprocAttr]
 refine PW.seq ?_
 refine PW.regionK fun K hK => OW.run [1, 2] ?_
 simp only [go_sem, simprocAttr, sw0]
 refine OW.nil (hK _ ?_); clear hK K
 refine PW.seq ?_
 obtain ⟨x4, e4, H⟩ := bnd_some H
 refine PW.regionK fun K hK => OW.run [1, 2] ?_
 simp only [go_sem, simprocAttr, sw0]
 repeat (refine And.intro (by omega) ?_)
 refine OW.call' 4 rfl rfl rfl (by first | exact rfl | ((simp only [go_sem, List.toList_toArray, simprocAttr]); exact rfl)) ?_ (ref09_CopyRaster_ok N _ _ e4) ?_ ?_ ?_ ?_
 rfl
 · (refine okAll_intro ?_; (simp only [go_sem, sw2, List.length_set, List.length_replicate, and_true, true_and, Nat.le_refl, simprocAttr]; done))
 exact .inl rfl
 (simp only [go_sem, Nat.reduceLT])
 refine OW.run [1, 2] ?_
 simp only [go_sem, simprocAttr, sw0]
 repeat (refine And.intro (by omega) ?_)
 refine OW.nil (hK _ ?_); clear hK K
 refine PW.seq ?_
 obtain ⟨c3, H⟩ := chk_some H
 refine PW.regionK fun K hK => OW.run [1, 2] ?_
 (simp only [go_sem, simprocAttr, sw0, z0W4a, z1W4a])
 repeat (refine And.intro (by omega) ?_)
 refine OW.nil (hK _ ?_); clear hK K
 refine PW.seq ?_
 obtain ⟨c4, H⟩ := chk_some H
 refine PW.regionK fun K hK => OW.run [1, 2] ?_
 (simp only [go_sem, simprocAttr, sw0, allOne_flatF (fun (x : Int × Int) => [(I x.1), (I x.2)]) (fun _ => rfl), flatMap_length 2 (fun (x : Int × Int) => [(I x.1), (I x.2)]) (fun _ => rfl)])
 repeat (refine And.intro (by omega) ?_)
 refine OW.nil (hK _ ?_); clear hK K
 refine PW.seq ?_
 refine PW.regionK fun K hK => OW.run [2] ?_
 simp only [go_sem, simprocAttr, sw0]
 refine OW.nil (hK _ ?_); clear hK K
 refine PW.ret ?_
 refine ⟨.inr rfl, rfl, rfl, ?_⟩
 simp only [go_sem, simprocAttr, sw0]
 obtain ⟨⟨x5, x51⟩, e5, H⟩ := bnd_some H
 change OW _ _ _ _ _ _
 refine OW.run [3, 4, 5, 7, 8] ?_
 simp only [go_sem, simprocAttr, sw0]
 refine OW.callF' 4 rfl rfl rfl (by first | exact rfl | ((simp only [go_sem, List.toList_toArray, simprocAttr]); exact rfl)) ?_ (plan_Holes_okf N _ _ _ _ _ _ _ e5) ?_ ?_ ?_
 · (first | ((first | rfl | (simp only [go_sem, sw1, simprocAttr, okAll_segD7, z2W4a, z3W4a, z4W4a, z5W4a, z6W4a, z1W4a, map_nz_flat (f := (fun (x : Int × Int) => [(I x.1), (I x.2)])) (fun _ => rfl), takeFlat (fun (x : Int × Int) => [(I x.1), (I x.2)]) 2 (fun _ => rfl), takeFlat1 (fun (x : Int × Int) => [(I x.1), (I x.2)]) 2 (fun _ => rfl), takeFlatS (fun (x : Int × Int) => [(I x.1), (I x.2)]) 2 (fun _ => rfl), allValFlat (fun (x : Int × Int) => [(I x.1), (I x.2)]) (fun _ => rfl), flatMap_length 2 (fun (x : Int × Int) => [(I x.1), (I x.2)]) (fun _ => rfl)]; done) | (simp only [go_sem, sw1, simprocAttr, okAll_segD7, z2W4a, z3W4a, z4W4a, z5W4a, z6W4a, z1W4a, map_nz_flat (f := (fun (x : Int × Int) => [(I x.1), (I x.2)])) (fun _ => rfl), takeFlat (fun (x : Int × Int) => [(I x.1), (I x.2)]) 2 (fun _ => rfl), takeFlat1 (fun (x : Int × Int) => [(I x.1), (I x.2)]) 2 (fun _ => rfl), takeFlatS (fun (x : Int × Int) => [(I x.1), (I x.2)]) 2 (fun _ => rfl), allValFlat (fun (x : Int × Int) => [(I x.1), (I x.2)]) (fun _ => rfl), flatMap_length 2 (fun (x : Int × Int) => [(I x.1), (I x.2)]) (fun _ => rfl)]; rfl) | (simp only [go_sem, sw1, simprocAttr, okAll_segD7, z2W4a, z3W4a, z4W4a, z5W4a, z6W4a, z1W4a, map_nz_flat (f := (fun (x : Int × Int) => [(I x.1), (I x.2)])) (fun _ => rfl), takeFlat (fun (x : Int × Int) => [(I x.1), (I x.2)]) 2 (fun _ => rfl), takeFlat1 (fun (x : Int × Int) => [(I x.1), (I x.2)]) 2 (fun _ => rfl), takeFlatS (fun (x : Int × Int) => [(I x.1), (I x.2)]) 2 (fun _ => rfl), allValFlat (fun (x : Int × Int) => [(I x.1), (I x.2)]) (fun _ => rfl), flatMap_length 2 (fun (x : Int × Int) => [(I x.1), (I x.2)]) (fun _ => rfl)]; simp only [seg, asD, go_sem, sw1, simprocAttr, okAll_segD7, z2W4a, z3W4a, z4W4a, z5W4a, z6W4a, z1W4a, map_nz_flat (f := (fun (x : Int × Int) => [(I x.1), (I x.2)])) (fun _ => rfl), takeFlat (fun (x : Int × Int) => [(I x.1), (I x.2)]) 2 (fun _ => rfl), takeFlat1 (fun (x : Int × Int) => [(I x.1), (I x.2)]) 2 (fun _ => rfl), takeFlatS (fun (x : Int × Int) => [(I x.1), (I x.2)]) 2 (fun _ => rfl), allValFlat (fun (x : Int × Int) => [(I x.1), (I x.2)]) (fun _ => rfl), flatMap_length 2 (fun (x : Int × Int) => [(I x.1), (I x.2)]) (fun _ => rfl)]; done) | (simp only [go_sem, sw1, simprocAttr, okAll_segD7, z2W4a, z3W4a, z4W4a, z5W4a, z6W4a, z1W4a, map_nz_flat (f := (fun (x : Int × Int) => [(I x.1), (I x.2)])) (fun _ => rfl), takeFlat (fun (x : Int × Int) => [(I x.1), (I x.2)]) 2 (fun _ => rfl), takeFlat1 (fun (x : Int × Int) => [(I x.1), (I x.2)]) 2 (fun _ => rfl), takeFlatS (fun (x : Int × Int) => [(I x.1), (I x.2)]) 2 (fun _ => rfl), allValFlat (fun (x : Int × Int) => [(I x.1), (I x.2)]) (fun _ => rfl), flatMap_length 2 (fun (x : Int × Int) => [(I x.1), (I x.2)]) (fun _ => rfl)]; simp only [seg, asD, go_sem, sw1, simprocAttr, okAll_segD7, z2W4a, z3W4a, z4W4a, z5W4a, z6W4a, z1W4a, map_nz_flat (f := (fun (x : Int × Int) => [(I x.1), (I x.2)])) (fun _ => rfl), takeFlat (fun (x : Int × Int) => [(I x.1), (I x.2)]) 2 (fun _ => rfl), takeFlat1 (fun (x : Int × Int) => [(I x.1), (I x.2)]) 2 (fun _ => rfl), takeFlatS (fun (x : Int × Int) => [(I x.1), (I x.2)]) 2 (fun _ => rfl), allValFlat (fun (x : Int × Int) => [(I x.1), (I x.2)]) (fun _ => rfl), flatMap_length 2 (fun (x : Int × Int) => [(I x.1), (I x.2)]) (fun _ => rfl)]; rfl) | ((try simp only [go_sem, sw1, simprocAttr, okAll_segD7, z2W4a, z3W4a, z4W4a, z5W4a, z6W4a, z1W4a, map_nz_flat (f := (fun (x : Int × Int) => [(I x.1), (I x.2)])) (fun _ => rfl), takeFlat (fun (x : Int × Int) => [(I x.1), (I x.2)]) 2 (fun _ => rfl), takeFlat1 (fun (x : Int × Int) => [(I x.1), (I x.2)]) 2 (fun _ => rfl), takeFlatS (fun (x : Int × Int) => [(I x.1), (I x.2)]) 2 (fun _ => rfl), allValFlat (fun (x : Int × Int) => [(I x.1), (I x.2)]) (fun _ => rfl), flatMap_length 2 (fun (x : Int × Int) => [(I x.1), (I x.2)]) (fun _ => rfl)]); (repeat' (first | rfl | (refine list_congr ?_; simp only [List.length_take, List.length_drop, List.length_set, List.length_replicate] <;> omega) | (refine congr (congrArg List.cons ?_) ?_) | (refine congrArg D.agg ?_) | (refine congrArg D.tup ?_) | (refine congrArg D.ref ?_) | (refine congrArg (D.list _) ?_) | (refine congrArg (D.clo _) ?_))))); done) | ((first | rfl | (simp only [go_sem, sw1, simprocAttr, okAll_segD7, z2W4a, z3W4a, z4W4a, z5W4a, z6W4a, z1W4a, map_nz_flat (f := (fun (x : Int × Int) => [(I x.1), (I x.2)])) (fun _ => rfl), takeFlat (fun (x : Int × Int) => [(I x.1), (I x.2)]) 2 (fun _ => rfl), takeFlat1 (fun (x : Int × Int) => [(I x.1), (I x.2)]) 2 (fun _ => rfl), takeFlatS (fun (x : Int × Int) => [(I x.1), (I x.2)]) 2 (fun _ => rfl), allValFlat (fun (x : Int × Int) => [(I x.1), (I x.2)]) (fun _ => rfl), flatMap_length 2 (fun (x : Int × Int) => [(I x.1), (I x.2)]) (fun _ => rfl)]; done) | (simp only [go_sem, sw1, simprocAttr, okAll_segD7, z2W4a, z3W4a, z4W4a, z5W4a, z6W4a, z1W4a, map_nz_flat (f := (fun (x : Int × Int) => [(I x.1), (I x.2)])) (fun _ => rfl), takeFlat (fun (x : Int × Int) => [(I x.1), (I x.2)]) 2 (fun _ => rfl), takeFlat1 (fun (x : Int × Int) => [(I x.1), (I x.2)]) 2 (fun _ => rfl), takeFlatS (fun (x : Int × Int) => [(I x.1), (I x.2)]) 2 (fun _ => rfl), allValFlat (fun (x : Int × Int) => [(I x.1), (I x.2)]) (fun _ => rfl), flatMap_length 2 (fun (x : Int × Int) => [(I x.1), (I x.2)]) (fun _ => rfl)]; rfl) | (simp only [go_sem, sw1, simprocAttr, okAll_segD7, z2W4a, z3W4a, z4W4a, z5W4a, z6W4a, z1W4a, map_nz_flat (f := (fun (x : Int × Int) => [(I x.1), (I x.2)])) (fun _ => rfl), takeFlat (fun (x : Int × Int) => [(I x.1), (I x.2)]) 2 (fun _ => rfl), takeFlat1 (fun (x : Int × Int) => [(I x.1), (I x.2)]) 2 (fun _ => rfl), takeFlatS (fun (x : Int × Int) => [(I x.1), (I x.2)]) 2 (fun _ => rfl), allValFlat (fun (x : Int × Int) => [(I x.1), (I x.2)]) (fun _ => rfl), flatMap_length 2 (fun (x : Int × Int) => [(I x.1), (I x.2)]) (fun _ => rfl)]; simp only [seg, asD, go_sem, sw1, simprocAttr, okAll_segD7, z2W4a, z3W4a, z4W4a, z5W4a, z6W4a, z1W4a, map_nz_flat (f := (fun (x : Int × Int) => [(I x.1), (I x.2)])) (fun _ => rfl), takeFlat (fun (x : Int × Int) => [(I x.1), (I x.2)]) 2 (fun _ => rfl), takeFlat1 (fun (x : Int × Int) => [(I x.1), (I x.2)]) 2 (fun _ => rfl), takeFlatS (fun (x : Int × Int) => [(I x.1), (I x.2)]) 2 (fun _ => rfl), allValFlat (fun (x : Int × Int) => [(I x.1), (I x.2)]) (fun _ => rfl), flatMap_length 2 (fun (x : Int × Int) => [(I x.1), (I x.2)]) (fun _ => rfl)]; done) | (simp only [go_sem, sw1, simprocAttr, okAll_segD7, z2W4a, z3W4a, z4W4a, z5W4a, z6W4a, z1W4a, map_nz_flat (f := (fun (x : Int × Int) => [(I x.1), (I x.2)])) (fun _ => rfl), takeFlat (fun (x : Int × Int) => [(I x.1), (I x.2)]) 2 (fun _ => rfl), takeFlat1 (fun (x : Int × Int) => [(I x.1), (I x.2)]) 2 (fun _ => rfl), takeFlatS (fun (x : Int × Int) => [(I x.1), (I x.2)]) 2 (fun _ => rfl), allValFlat (fun (x : Int × Int) => [(I x.1), (I x.2)]) (fun _ => rfl), flatMap_length 2 (fun (x : Int × Int) => [(I x.1), (I x.2)]) (fun _ => rfl)]; simp only [seg, asD, go_sem, sw1, simprocAttr, okAll_segD7, z2W4a, z3W4a, z4W4a, z5W4a, z6W4a, z1W4a, map_nz_flat (f := (fun (x : Int × Int) => [(I x.1), (I x.2)])) (fun _ => rfl), takeFlat (fun (x : Int × Int) => [(I x.1), (I x.2)]) 2 (fun _ => rfl), takeFlat1 (fun (x : Int × Int) => [(I x.1), (I x.2)]) 2 (fun _ => rfl), takeFlatS (fun (x : Int × Int) => [(I x.1), (I x.2)]) 2 (fun _ => rfl), allValFlat (fun (x : Int × Int) => [(I x.1), (I x.2)]) (fun _ => rfl), flatMap_length 2 (fun (x : Int × Int) => [(I x.1), (I x.2)]) (fun _ => rfl)]; rfl) | ((try simp only [go_sem, sw1, simprocAttr, okAll_segD7, z2W4a, z3W4a, z4W4a, z5W4a, z6W4a, z1W4a, map_nz_flat (f := (fun (x : Int × Int) => [(I x.1), (I x.2)])) (fun _ => rfl), takeFlat (fun (x : Int × Int) => [(I x.1), (I x.2)]) 2 (fun _ => rfl), takeFlat1 (fun (x : Int × Int) => [(I x.1), (I x.2)]) 2 (fun _ => rfl), takeFlatS (fun (x : Int × Int) => [(I x.1), (I x.2)]) 2 (fun _ => rfl), allValFlat (fun (x : Int × Int) => [(I x.1), (I x.2)]) (fun _ => rfl), flatMap_length 2 (fun (x : Int × Int) => [(I x.1), (I x.2)]) (fun _ => rfl)]); (repeat' (first | rfl | (refine list_congr ?_; simp only [List.length_take, List.length_drop, List.length_set, List.length_replicate] <;> omega) | (refine congr (congrArg List.cons ?_) ?_) | (refine congrArg D.agg ?_) | (refine congrArg D.tup ?_) | (refine congrArg D.ref ?_) | (refine congrArg (D.list _) ?_) | (refine congrArg (D.clo _) ?_))))); exact z7W4a _ _ _ rfl) | ((first | rfl | (simp only [go_sem, sw1, simprocAttr, okAll_segD7, z2W4a, z3W4a, z4W4a, z5W4a, z6W4a, z1W4a, map_nz_flat (f := (fun (x : Int × Int) => [(I x.1), (I x.2)])) (fun _ => rfl), takeFlat (fun (x : Int × Int) => [(I x.1), (I x.2)]) 2 (fun _ => rfl), takeFlat1 (fun (x : Int × Int) => [(I x.1), (I x.2)]) 2 (fun _ => rfl), takeFlatS (fun (x : Int × Int) => [(I x.1), (I x.2)]) 2 (fun _ => rfl), allValFlat (fun (x : Int × Int) => [(I x.1), (I x.2)]) (fun _ => rfl), flatMap_length 2 (fun (x : Int × Int) => [(I x.1), (I x.2)]) (fun _ => rfl)]; done) | (simp only [go_sem, sw1, simprocAttr, okAll_segD7, z2W4a, z3W4a, z4W4a, z5W4a, z6W4a, z1W4a, map_nz_flat (f := (fun (x : Int × Int) => [(I x.1), (I x.2)])) (fun _ => rfl), takeFlat (fun (x : Int × Int) => [(I x.1), (I x.2)]) 2 (fun _ => rfl), takeFlat1 (fun (x : Int × Int) => [(I x.1), (I x.2)]) 2 (fun _ => rfl), takeFlatS (fun (x : Int × Int) => [(I x.1), (I x.2)]) 2 (fun _ => rfl), allValFlat (fun (x : Int × Int) => [(I x.1), (I x.2)]) (fun _ => rfl), flatMap_length 2 (fun (x : Int × Int) => [(I x.1), (I x.2)]) (fun _ => rfl)]; rfl) | (simp only [go_sem, sw1, simprocAttr, okAll_segD7, z2W4a, z3W4a, z4W4a, z5W4a, z6W4a, z1W4a, map_nz_flat (f := (fun (x : Int × Int) => [(I x.1), (I x.2)])) (fun _ => rfl), takeFlat (fun (x : Int × Int) => [(I x.1), (I x.2)]) 2 (fun _ => rfl), takeFlat1 (fun (x : Int × Int) => [(I x.1), (I x.2)]) 2 (fun _ => rfl), takeFlatS (fun (x : Int × Int) => [(I x.1), (I x.2)]) 2 (fun _ => rfl), allValFlat (fun (x : Int × Int) => [(I x.1), (I x.2)]) (fun _ => rfl), flatMap_length 2 (fun (x : Int × Int) => [(I x.1), (I x.2)]) (fun _ => rfl)]; simp only [seg, asD, go_sem, sw1, simprocAttr, okAll_segD7, z2W4a, z3W4a, z4W4a, z5W4a, z6W4a, z1W4a, map_nz_flat (f := (fun (x : Int × Int) => [(I x.1), (I x.2)])) (fun _ => rfl), takeFlat (fun (x : Int × Int) => [(I x.1), (I x.2)]) 2 (fun _ => rfl), takeFlat1 (fun (x : Int × Int) => [(I x.1), (I x.2)]) 2 (fun _ => rfl), takeFlatS (fun (x : Int × Int) => [(I x.1), (I x.2)]) 2 (fun _ => rfl), allValFlat (fun (x : Int × Int) => [(I x.1), (I x.2)]) (fun _ => rfl), flatMap_length 2 (fun (x : Int × Int) => [(I x.1), (I x.2)]) (fun _ => rfl)]; done) | (simp only [go_sem, sw1, simprocAttr, okAll_segD7, z2W4a, z3W4a, z4W4a, z5W4a, z6W4a, z1W4a, map_nz_flat (f := (fun (x : Int × Int) => [(I x.1), (I x.2)])) (fun _ => rfl), takeFlat (fun (x : Int × Int) => [(I x.1), (I x.2)]) 2 (fun _ => rfl), takeFlat1 (fun (x : Int × Int) => [(I x.1), (I x.2)]) 2 (fun _ => rfl), takeFlatS (fun (x : Int × Int) => [(I x.1), (I x.2)]) 2 (fun _ => rfl), allValFlat (fun (x : Int × Int) => [(I x.1), (I x.2)]) (fun _ => rfl), flatMap_length 2 (fun (x : Int × Int) => [(I x.1), (I x.2)]) (fun _ => rfl)]; simp only [seg, asD, go_sem, sw1, simprocAttr, okAll_segD7, z2W4a, z3W4a, z4W4a, z5W4a, z6W4a, z1W4a, map_nz_flat (f := (fun (x : Int × Int) => [(I x.1), (I x.2)])) (fun _ => rfl), takeFlat (fun (x : Int × Int) => [(I x.1), (I x.2)]) 2 (fun _ => rfl), takeFlat1 (fun (x : Int × Int) => [(I x.1), (I x.2)]) 2 (fun _ => rfl), takeFlatS (fun (x : Int × Int) => [(I x.1), (I x.2)]) 2 (fun _ => rfl), allValFlat (fun (x : Int × Int) => [(I x.1), (I x.2)]) (fun _ => rfl), flatMap_length 2 (fun (x : Int × Int) => [(I x.1), (I x.2)]) (fun _ => rfl)]; rfl) | ((try simp only [go_sem, sw1, simprocAttr, okAll_segD7, z2W4a, z3W4a, z4W4a, z5W4a, z6W4a, z1W4a, map_nz_flat (f := (fun (x : Int × Int) => [(I x.1), (I x.2)])) (fun _ => rfl), takeFlat (fun (x : Int × Int) => [(I x.1), (I x.2)]) 2 (fun _ => rfl), takeFlat1 (fun (x : Int × Int) => [(I x.1), (I x.2)]) 2 (fun _ => rfl), takeFlatS (fun (x : Int × Int) => [(I x.1), (I x.2)]) 2 (fun _ => rfl), allValFlat (fun (x : Int × Int) => [(I x.1), (I x.2)]) (fun _ => rfl), flatMap_length 2 (fun (x : Int × Int) => [(I x.1), (I x.2)]) (fun _ => rfl)]); (repeat' (first | rfl | (refine list_congr ?_; simp only [List.length_take, List.length_drop, List.length_set, List.length_replicate] <;> omega) | (refine congr (congrArg List.cons ?_) ?_) | (refine congrArg D.agg ?_) | (refine congrArg D.tup ?_) | (refine congrArg D.ref ?_) | (refine congrArg (D.list _) ?_) | (refine congrArg (D.clo _) ?_))))); exact segFlatSnoc (fun (x : Int × Int) => [(I x.1), (I x.2)]) 2 (fun _ => rfl) _ _ _ rfl))
 · (first | exact trivial | exact okD_all rfl | (refine okAll_intro ?_; simp only [go_sem, sw2, List.length_set, List.length_replicate, and_true, true_and, Nat.le_refl, simprocAttr, okAll_segD7, z2W4a, z3W4a, z4W4a, z5W4a, z6W4a, z1W4a, map_nz_flat (f := (fun (x : Int × Int) => [(I x.1), (I x.2)])) (fun _ => rfl), takeFlat (fun (x : Int × Int) => [(I x.1), (I x.2)]) 2 (fun _ => rfl), takeFlat1 (fun (x : Int × Int) => [(I x.1), (I x.2)]) 2 (fun _ => rfl), takeFlatS (fun (x : Int × Int) => [(I x.1), (I x.2)]) 2 (fun _ => rfl), allValFlat (fun (x : Int × Int) => [(I x.1), (I x.2)]) (fun _ => rfl), flatMap_length 2 (fun (x : Int × Int) => [(I x.1), (I x.2)]) (fun _ => rfl)]; done) | (refine okAll_intro ?_; simp only [go_sem, sw2, List.length_set, List.length_replicate, and_true, true_and, Nat.le_refl, simprocAttr, okAll_segD7, z2W4a, z3W4a, z4W4a, z5W4a, z6W4a, z1W4a, map_nz_flat (f := (fun (x : Int × Int) => [(I x.1), (I x.2)])) (fun _ => rfl), takeFlat (fun (x : Int × Int) => [(I x.1), (I x.2)]) 2 (fun _ => rfl), takeFlat1 (fun (x : Int × Int) => [(I x.1), (I x.2)]) 2 (fun _ => rfl), takeFlatS (fun (x : Int × Int) => [(I x.1), (I x.2)]) 2 (fun _ => rfl), allValFlat (fun (x : Int × Int) => [(I x.1), (I x.2)]) (fun _ => rfl), flatMap_length 2 (fun (x : Int × Int) => [(I x.1), (I x.2)]) (fun _ => rfl)]; omega))
 (simp only [go_sem, Nat.reduceLT])
 refine OW.run [3, 4, 5, 7, 8] ?_
 simp only [go_sem, simprocAttr, sw0]
 refine OW.nil (hK _ ?_); clear hK K
 refine PW.seq ?_
 refine PW.seq ?_
 refine PW.regionK fun K hK => OW.run [3, 4, 5, 7, 47] ?_
 simp only [go_sem, simprocAttr, sw0]
 refine OW.nil (hK _ ?_); clear hK K
 refine PW.cond rfl (fun h5 => ?_) (fun h5 => ?_)
 replace H := br_t h5 H
 refine PW.seq ?_
 refine PW.regionK fun K hK => OW.run [6] ?_
 simp only [go_sem, simprocAttr, sw0]
 refine OW.nil (hK _ ?_); clear hK K
 refine PW.ret ?_
 change PW.Ends _ _ _ _ _ _
 refine PW.Ends.intro (.inr rfl) ?_
 simp only [go_sem, simprocAttr, sw0]
 obtain rfl := Option.some.inj H
 refine RetOK.data' 4 (by exact trivial) ?_
 rfl
 replace H := br_f h5 H
 refine PW.skip ?_
 refine PW.joinS (τ := Unit) [3, 4, 5, 7] 3 (fun _ => []) (fun _ => [{ cells := [.d (.list Z12.length (Z12.map L)), .d (.list Zy.length (Zy.flatMap (fun (x : ByteArray × Int × Int × Int × Int × Int × Int) => [(Sx x.1), (I x.2.1), (I x.2.2.1), (I x.2.2.2.1), (I x.2.2.2.2.1), (I x.2.2.2.2.2.1), (I x.2.2.2.2.2.2)]))), .d (.list Z11.length (Z11.flatMap (fun (x : Int × Int) => [(I x.1), (I x.2)]))), .d (I Zz), .d (I Z13), .d (I Z10)], e := 55 }, { cells := [.d (Sx Ze), .d (I Zc), .d (I Za), .d (I Zb), .d (I Zd), .d (I Zf), .d (I Zg)], e := 57 }, { cells := [.d (I n_0), .d (I n_1), .d (I n_2)], e := 58 }]) _ _ r (by exact Nat.zero_le _) H ?_ ?_
 intro K_ H N6 hN6
 refine PW.seq ?_
 obtain ⟨x6, e6, H⟩ := bnd_some H
 obtain ⟨c7, H⟩ := chk_some H
 obtain ⟨x7, e7, H⟩ := bnd_some H
 refine PW.drawK 17 mixed (by kernel_rfl) fun K hK => ?_
 change FW _ _ _ _ _
 refine FW.toS [(3, .ptr 0 0), (4, .ptr 1 0), (5, .ptr 2 0), (7, .d (.list x5.length (x5.flatMap (fun (x : Int × Int) => [(I x.1), (I x.2)])))), (66, .d (Bo (x6 && x7)))] [{ cells := [.d (.list Z12.length (Z12.map L)), .d (.list Zy.length (Zy.flatMap (fun (x : ByteArray × Int × Int × Int × Int × Int × Int) => [(Sx x.1), (I x.2.1), (I x.2.2.1), (I x.2.2.2.1), (I x.2.2.2.2.1), (I x.2.2.2.2.2.1), (I x.2.2.2.2.2.2)]))), .d (.list Z11.length (Z11.flatMap (fun (x : Int × Int) => [(I x.1), (I x.2)]))), .d (I Zz), .d (I Z13), .d (I Z10)], e := 55 }, { cells := [.d (Sx Ze), .d (I Zc), .d (I Za), .d (I Zb), .d (I Zd), .d (I Zf), .d (I Zg)], e := 57 }, { cells := [.d (I n_0), .d (I n_1), .d (I n_2)], e := 58 }, { cells := [.d (.list x4.length (x4.map L)), .own 5 0 Zy.length 7, .own 6 0 Z11.length 2, .d (I Zz), .d (I Z13), .d (I Z10)], e := 55 }, { cells := [.d (.list x4.length (x4.map L)), .own 5 0 Zy.length 7, .own 6 0 Z11.length 2, .d (I Zz), .d (I Z13), .d (I Z10)], e := 55 }, { cells := (Zy.flatMap (fun (x : ByteArray × Int × Int × Int × Int × Int × Int) => [(Sx x.1), (I x.2.1), (I x.2.2.1), (I x.2.2.2.1), (I x.2.2.2.2.1), (I x.2.2.2.2.2.1), (I x.2.2.2.2.2.2)])).map .d, e := 57 }, { cells := (Z11.flatMap (fun (x : Int × Int) => [(I x.1), (I x.2)])).map .d, e := 124 }] ?_ (hK _ ?_)
 intro K hKE
 rcases Bool.eq_false_or_eq_true (x6) with ha0 | ha0
 ·
  try simp only [ha0, sb0, true_implies, false_implies, forall_const] at c7
  refine FW.run ?_
  (simp only [go_sem, simprocAttr, sw0, z1W4a, z8W4a Zy n_0.toNat (by omega), ha0])
  repeat (refine And.intro (by first | omega | (intro hg; have hq := c7 (by first | exact hg | simpa using hg); first | omega | exact hq | (simp only [List.length_map]; omega)) | (first | omega | assumption | rfl | decide | (simp only [List.length_map, List.length_replicate, List.length_append, List.length_take, List.length_drop, List.length_set, List.length_cons, List.length_nil, Nat.zero_add, Int.toNat_natCast] at *; omega) | (simp only [List.length_map, List.length_replicate, List.length_append, List.length_take, List.length_drop, List.length_set, List.length_cons, List.length_nil, Nat.zero_add, Int.toNat_natCast]; done) | trivial)) ?_)
  refine FW.call' 4 rfl rfl rfl (by first | exact rfl | ((simp only [go_sem, List.toList_toArray, simprocAttr]); exact rfl)) ?_ (base_Within_ok N _ _ _ _ e6) ?_ ?_ ?_ ?_
  · (first | (rfl; done) | (first | rfl | (simp only [go_sem, sw1, simprocAttr, ha0, Bool.and_true, Bool.true_and, Bool.and_false, Bool.false_and, Bool.or_true, Bool.true_or, Bool.or_false, Bool.false_or, Bool.not_true, Bool.not_false]; done) | (simp only [go_sem, sw1, simprocAttr, ha0, Bool.and_true, Bool.true_and, Bool.and_false, Bool.false_and, Bool.or_true, Bool.true_or, Bool.or_false, Bool.false_or, Bool.not_true, Bool.not_false]; rfl) | (simp only [go_sem, sw1, simprocAttr, ha0, Bool.and_true, Bool.true_and, Bool.and_false, Bool.false_and, Bool.or_true, Bool.true_or, Bool.or_false, Bool.false_or, Bool.not_true, Bool.not_false]; simp only [seg, asD, go_sem, sw1, simprocAttr, ha0, Bool.and_true, Bool.true_and, Bool.and_false, Bool.false_and, Bool.or_true, Bool.true_or, Bool.or_false, Bool.false_or, Bool.not_true, Bool.not_false]; done) | (simp only [go_sem, sw1, simprocAttr, ha0, Bool.and_true, Bool.true_and, Bool.and_false, Bool.false_and, Bool.or_true, Bool.true_or, Bool.or_false, Bool.false_or, Bool.not_true, Bool.not_false]; simp only [seg, asD, go_sem, sw1, simprocAttr, ha0, Bool.and_true, Bool.true_and, Bool.and_false, Bool.false_and, Bool.or_true, Bool.true_or, Bool.or_false, Bool.false_or, Bool.not_true, Bool.not_false]; rfl) | ((try simp only [go_sem, sw1, simprocAttr, ha0, Bool.and_true, Bool.true_and, Bool.and_false, Bool.false_and, Bool.or_true, Bool.true_or, Bool.or_false, Bool.false_or, Bool.not_true, Bool.not_false]); (repeat' (first | rfl | (refine list_congr ?_; simp only [List.length_take, List.length_drop, List.length_set, List.length_replicate] <;> omega) | (refine congr (congrArg List.cons ?_) ?_) | (refine congrArg D.agg ?_) | (refine congrArg D.tup ?_) | (refine congrArg D.ref ?_) | (refine congrArg (D.list _) ?_) | (refine congrArg (D.clo _) ?_))))))
  exact okD_all rfl
  exact .inl rfl
  (simp only [go_sem, Nat.reduceLT])
  refine FW.run ?_
  (simp only [go_sem, simprocAttr, sw0, z1W4a, z8W4a Zy n_0.toNat (by omega), ha0])
  repeat (refine And.intro (by first | omega | (intro hg; have hq := c7 (by first | exact hg | simpa using hg); first | omega | exact hq | (simp only [List.length_map]; omega)) | (first | omega | assumption | rfl | decide | (simp only [List.length_map, List.length_replicate, List.length_append, List.length_take, List.length_drop, List.length_set, List.length_cons, List.length_nil, Nat.zero_add, Int.toNat_natCast] at *; omega) | (simp only [List.length_map, List.length_replicate, List.length_append, List.length_take, List.length_drop, List.length_set, List.length_cons, List.length_nil, Nat.zero_add, Int.toNat_natCast]; done) | trivial)) ?_)
  refine FW.nil ?_
  change OW _ _ _ _ _ _
  refine OW.run [3, 4, 5, 7, 66] ?_
  (simp only [go_sem, simprocAttr, sw0, z1W4a, z8W4a Zy n_0.toNat (by omega), ha0])
  repeat (refine And.intro (by first | omega | (intro hg; have hq := c7 (by first | exact hg | simpa using hg); first | omega | exact hq | (simp only [List.length_map]; omega)) | (first | omega | assumption | rfl | decide | (simp only [List.length_map, List.length_replicate, List.length_append, List.length_take, List.length_drop, List.length_set, List.length_cons, List.length_nil, Nat.zero_add, Int.toNat_natCast] at *; omega) | (simp only [List.length_map, List.length_replicate, List.length_append, List.length_take, List.length_drop, List.length_set, List.length_cons, List.length_nil, Nat.zero_add, Int.toNat_natCast]; done) | trivial)) ?_)
  refine OW.callGh' 4 rfl rfl ?_ (fun hg => by first | rfl | (simp only [go_sem, ↓reduceIte]; rfl)) (fun hg => by (first | ((simp only [go_sem, List.toList_toArray, simprocAttr, ha0]); exact rfl) | exact rfl)) (fun hg => ?_) (fun hg => (base_Within_ok N _ _ _ _ (grd_t hg e7))) ?_ ?_ ?_ ?_
  · (first | rfl | (simp only [go_sem, simprocAttr, ha0]; done) | (simp only [go_sem, simprocAttr, ha0]; rfl))
  · first | (rfl; done) | (exfalso; simp only [ha0, sb0] at hg)
  · intro hg; first | (exact okD_all rfl; done) | (exfalso; simp only [ha0, sb0] at hg)
  exact .inl rfl
  (simp only [go_sem, Nat.reduceLT])
  refine OW.run [3, 4, 5, 7, 66] ?_
  (simp only [go_sem, simprocAttr, sw0, z1W4a, z8W4a Zy n_0.toNat (by omega), ha0])
  repeat (refine And.intro (by first | omega | (intro hg; have hq := c7 (by first | exact hg | simpa using hg); first | omega | exact hq | (simp only [List.length_map]; omega)) | (first | omega | assumption | rfl | decide | (simp only [List.length_map, List.length_replicate, List.length_append, List.length_take, List.length_drop, List.length_set, List.length_cons, List.length_nil, Nat.zero_add, Int.toNat_natCast] at *; omega) | (simp only [List.length_map, List.length_replicate, List.length_append, List.length_take, List.length_drop, List.length_set, List.length_cons, List.length_nil, Nat.zero_add, Int.toNat_natCast]; done) | trivial)) ?_)
  refine OW.nil ((congrArg K ?_).mpr hKE)
  · (first | rfl | (simp only [go_sem, simprocAttr, ha0]; done) | (simp only [go_sem, simprocAttr, ha0]; rfl))
 ·
  try simp only [ha0, sb0, true_implies, false_implies, forall_const] at c7
  refine FW.run ?_
  (simp only [go_sem, simprocAttr, sw0, ha0])
  repeat (refine And.intro (by first | omega | (intro hg; have hq := c7 (by first | exact hg | simpa using hg); first | omega | exact hq | (simp only [List.length_map]; omega)) | (first | omega | assumption | rfl | decide | (simp only [List.length_map, List.length_replicate, List.length_append, List.length_take, List.length_drop, List.length_set, List.length_cons, List.length_nil, Nat.zero_add, Int.toNat_natCast] at *; omega) | (simp only [List.length_map, List.length_replicate, List.length_append, List.length_take, List.length_drop, List.length_set, List.length_cons, List.length_nil, Nat.zero_add, Int.toNat_natCast]; done) | trivial)) ?_)
  refine FW.call' 4 rfl rfl rfl (by first | exact rfl | ((simp only [go_sem, List.toList_toArray, simprocAttr]); exact rfl)) ?_ (base_Within_ok N _ _ _ _ e6) ?_ ?_ ?_ ?_
  · (first | (rfl; done) | (first | rfl | (simp only [go_sem, sw1, simprocAttr, ha0, Bool.and_true, Bool.true_and, Bool.and_false, Bool.false_and, Bool.or_true, Bool.true_or, Bool.or_false, Bool.false_or, Bool.not_true, Bool.not_false]; done) | (simp only [go_sem, sw1, simprocAttr, ha0, Bool.and_true, Bool.true_and, Bool.and_false, Bool.false_and, Bool.or_true, Bool.true_or, Bool.or_false, Bool.false_or, Bool.not_true, Bool.not_false]; rfl) | (simp only [go_sem, sw1, simprocAttr, ha0, Bool.and_true, Bool.true_and, Bool.and_false, Bool.false_and, Bool.or_true, Bool.true_or, Bool.or_false, Bool.false_or, Bool.not_true, Bool.not_false]; simp only [seg, asD, go_sem, sw1, simprocAttr, ha0, Bool.and_true, Bool.true_and, Bool.and_false, Bool.false_and, Bool.or_true, Bool.true_or, Bool.or_false, Bool.false_or, Bool.not_true, Bool.not_false]; done) | (simp only [go_sem, sw1, simprocAttr, ha0, Bool.and_true, Bool.true_and, Bool.and_false, Bool.false_and, Bool.or_true, Bool.true_or, Bool.or_false, Bool.false_or, Bool.not_true, Bool.not_false]; simp only [seg, asD, go_sem, sw1, simprocAttr, ha0, Bool.and_true, Bool.true_and, Bool.and_false, Bool.false_and, Bool.or_true, Bool.true_or, Bool.or_false, Bool.false_or, Bool.not_true, Bool.not_false]; rfl) | ((try simp only [go_sem, sw1, simprocAttr, ha0, Bool.and_true, Bool.true_and, Bool.and_false, Bool.false_and, Bool.or_true, Bool.true_or, Bool.or_false, Bool.false_or, Bool.not_true, Bool.not_false]); (repeat' (first | rfl | (refine list_congr ?_; simp only [List.length_take, List.length_drop, List.length_set, List.length_replicate] <;> omega) | (refine congr (congrArg List.cons ?_) ?_) | (refine congrArg D.agg ?_) | (refine congrArg D.tup ?_) | (refine congrArg D.ref ?_) | (refine congrArg (D.list _) ?_) | (refine congrArg (D.clo _) ?_))))))
  exact okD_all rfl
  exact .inl rfl
  (simp only [go_sem, Nat.reduceLT])
  refine FW.run ?_
  (simp only [go_sem, simprocAttr, sw0, ha0])
  repeat (refine And.intro (by first | omega | (intro hg; have hq := c7 (by first | exact hg | simpa using hg); first | omega | exact hq | (simp only [List.length_map]; omega)) | (first | omega | assumption | rfl | decide | (simp only [List.length_map, List.length_replicate, List.length_append, List.length_take, List.length_drop, List.length_set, List.length_cons, List.length_nil, Nat.zero_add, Int.toNat_natCast] at *; omega) | (simp only [List.length_map, List.length_replicate, List.length_append, List.length_take, List.length_drop, List.length_set, List.length_cons, List.length_nil, Nat.zero_add, Int.toNat_natCast]; done) | trivial)) ?_)
  refine FW.nil ?_
  change OW _ _ _ _ _ _
  refine OW.run [3, 4, 5, 7, 66] ?_
  (simp only [go_sem, simprocAttr, sw0, ha0])
  repeat (refine And.intro (by first | omega | (intro hg; have hq := c7 (by first | exact hg | simpa using hg); first | omega | exact hq | (simp only [List.length_map]; omega)) | (first | omega | assumption | rfl | decide | (simp only [List.length_map, List.length_replicate, List.length_append, List.length_take, List.length_drop, List.length_set, List.length_cons, List.length_nil, Nat.zero_add, Int.toNat_natCast] at *; omega) | (simp only [List.length_map, List.length_replicate, List.length_append, List.length_take, List.length_drop, List.length_set, List.length_cons, List.length_nil, Nat.zero_add, Int.toNat_natCast]; done) | trivial)) ?_)
  refine OW.callGh' 4 rfl rfl ?_ (fun hg => by first | rfl | (simp only [go_sem, ↓reduceIte]; rfl)) (fun hg => by (first | ((simp only [go_sem, List.toList_toArray, simprocAttr, ha0]); exact rfl) | exact rfl)) (fun hg => ?_) (fun hg => (base_Within_ok N _ _ _ _ (grd_t hg e7))) ?_ ?_ ?_ ?_
  · (first | rfl | (simp only [go_sem, simprocAttr, ha0]; done) | (simp only [go_sem, simprocAttr, ha0]; rfl))
  · first | ((((simp only [go_sem, sw1, simprocAttr]; try simp only [seg, go_sem, simprocAttr])); (repeat' (first | rfl | (refine list_congr ?_; simp only [List.length_take, List.length_drop, List.length_set, List.length_replicate] <;> omega) | (refine congr (congrArg List.cons ?_) ?_) | (refine congrArg D.agg ?_) | (refine congrArg D.tup ?_) | (refine congrArg D.ref ?_) | (refine congrArg (D.list _) ?_) | (refine congrArg (D.clo _) ?_)))); done) | (exfalso; simp only [ha0, sb0] at hg)
  · intro hg; first | (exact okD_all rfl; done) | (exfalso; simp only [ha0, sb0] at hg)
  exact .inl rfl
  (simp only [go_sem, Nat.reduceLT])
  refine OW.run [3, 4, 5, 7, 66] ?_
  (simp only [go_sem, simprocAttr, sw0, ha0])
  repeat (refine And.intro (by first | omega | (intro hg; have hq := c7 (by first | exact hg | simpa using hg); first | omega | exact hq | (simp only [List.length_map]; omega)) | (first | omega | assumption | rfl | decide | (simp only [List.length_map, List.length_replicate, List.length_append, List.length_take, List.length_drop, List.length_set, List.length_cons, List.length_nil, Nat.zero_add, Int.toNat_natCast] at *; omega) | (simp only [List.length_map, List.length_replicate, List.length_append, List.length_take, List.length_drop, List.length_set, List.length_cons, List.length_nil, Nat.zero_add, Int.toNat_natCast]; done) | trivial)) ?_)
  refine OW.nil ((congrArg K ?_).mpr hKE)
  · (first | rfl | (simp only [go_sem, simprocAttr, ha0]; done) | (simp only [go_sem, simprocAttr, ha0]; rfl))
 clear hK K
 refine PW.cond rfl (fun h8 => ?_) (fun h8 => ?_)
 replace H := br_t h8 H
 refine PW.seq ?_
 refine PW.regionK fun K hK => OW.run [3, 4, 5, 7, 9] ?_
 simp only [go_sem, simprocAttr, sw0]
 refine OW.inline rfl rfl rfl (by first | exact rfl | ((simp only [go_sem, List.toList_toArray, simprocAttr]); exact rfl)) Try.func29 rfl (by rw [Try.results29]) Try.ntmps29 Try.call29 (by (simp only [go_sem, Nat.reduceLT])) ?_
 intro us p
 change PW _ _ _ _ _
 try simp only [go_sem, simprocAttr]
 refine PW.seq ?_
 refine PW.regionK fun K hK => OW.run [1, 2] ?_
 simp only [go_sem, simprocAttr, sw0]
 refine OW.nil (hK _ ?_); clear hK K
 refine PW.seq ?_
 obtain ⟨x8, e8, H⟩ := bnd_some H
 refine PW.regionK fun K hK => OW.run [1, 2] ?_
 simp only [go_sem, simprocAttr, sw0]
 repeat (refine And.intro (by omega) ?_)
 refine OW.call' 4 rfl rfl rfl (by first | exact rfl | ((simp only [go_sem, List.toList_toArray, simprocAttr]); exact rfl)) ?_ (ref09_CopyRaster_ok N _ _ e8) ?_ ?_ ?_ ?_
 rfl
 · (refine okAll_intro ?_; (simp only [go_sem, sw2, List.length_set, List.length_replicate, and_true, true_and, Nat.le_refl, simprocAttr]; done))
 exact .inl rfl
 (simp only [go_sem, Nat.reduceLT])
 refine OW.run [1, 2] ?_
 simp only [go_sem, simprocAttr, sw0]
 repeat (refine And.intro (by omega) ?_)
 refine OW.nil (hK _ ?_); clear hK K
 refine PW.seq ?_
 obtain ⟨c9, H⟩ := chk_some H
 refine PW.regionK fun K hK => OW.run [1, 2] ?_
 (simp only [go_sem, simprocAttr, sw0, z0W4a, z1W4a])
 repeat (refine And.intro (by omega) ?_)
 refine OW.nil (hK _ ?_); clear hK K
 refine PW.seq ?_
 obtain ⟨c10, H⟩ := chk_some H
 refine PW.regionK fun K hK => OW.run [1, 2] ?_
 (simp only [go_sem, simprocAttr, sw0, allOne_flatF (fun (x : Int × Int) => [(I x.1), (I x.2)]) (fun _ => rfl), flatMap_length 2 (fun (x : Int × Int) => [(I x.1), (I x.2)]) (fun _ => rfl)])
 repeat (refine And.intro (by omega) ?_)
 refine OW.nil (hK _ ?_); clear hK K
 refine PW.seq ?_
 refine PW.regionK fun K hK => OW.run [2] ?_
 simp only [go_sem, simprocAttr, sw0]
 refine OW.nil (hK _ ?_); clear hK K
 refine PW.ret ?_
 refine ⟨.inr rfl, rfl, rfl, ?_⟩
 simp only [go_sem, simprocAttr, sw0]
 change OW _ _ _ _ _ _
 refine OW.run [3, 4, 5, 7, 9] ?_
 simp only [go_sem, simprocAttr, sw0]
 refine OW.nil (hK _ ?_); clear hK K
 refine PW.seq ?_
 obtain ⟨c11, H⟩ := chk_some H
 refine PW.regionK fun K hK => OW.run [3, 4, 5, 7, 9] ?_
 (simp only [go_sem, simprocAttr, sw0, z1W4a, z9W4a Zy n_0.toNat (by omega), z10W4a Zy n_0.toNat (by omega) (by decide), z11W4a Zy n_0.toNat (by omega) 1 (by decide), z11W4a Zy n_0.toNat (by omega) 2 (by decide), z11W4a Zy n_0.toNat (by omega) 3 (by decide), z11W4a Zy n_0.toNat (by omega) 4 (by decide), z11W4a Zy n_0.toNat (by omega) 5 (by decide), z11W4a Zy n_0.toNat (by omega) 6 (by decide), show (List.set ((Zy.flatMap (fun (x : ByteArray × Int × Int × Int × Int × Int × Int) => [(Sx x.1), (I x.2.1), (I x.2.2.1), (I x.2.2.2.1), (I x.2.2.2.2.1), (I x.2.2.2.2.2.1), (I x.2.2.2.2.2.2)])).map V.d) (n_0.toNat * 7 + 5) (.d (I n_1))) = (((Zy).set n_0.toNat ((Zy.getD n_0.toNat default).1, (Zy.getD n_0.toNat default).2.1, (Zy.getD n_0.toNat default).2.2.1, (Zy.getD n_0.toNat default).2.2.2.1, (Zy.getD n_0.toNat default).2.2.2.2.1, n_1, (Zy.getD n_0.toNat default).2.2.2.2.2.2)).flatMap (fun (x : ByteArray × Int × Int × Int × Int × Int × Int) => [(Sx x.1), (I x.2.1), (I x.2.2.1), (I x.2.2.2.1), (I x.2.2.2.2.1), (I x.2.2.2.2.2.1), (I x.2.2.2.2.2.2)])).map V.d from z12W4a Zy n_0.toNat (by omega) ((Zy.getD n_0.toNat default).1, (Zy.getD n_0.toNat default).2.1, (Zy.getD n_0.toNat default).2.2.1, (Zy.getD n_0.toNat default).2.2.2.1, (Zy.getD n_0.toNat default).2.2.2.2.1, n_1, (Zy.getD n_0.toNat default).2.2.2.2.2.2) 5 [(I n_1)] (Nat.le_of_ble_eq_true rfl) rfl, set_length])
 repeat (refine And.intro (by omega) ?_)
 refine OW.nil (hK _ ?_); clear hK K
 refine PW.seq ?_
 obtain ⟨⟨x9, x91⟩, e9, H⟩ := bnd_some H
 refine PW.regionK fun K hK => OW.run [3, 4, 5, 7, 10, 11] ?_
 simp only [go_sem, simprocAttr, sw0]
 refine OW.callF' 4 rfl rfl rfl (by first | exact rfl | ((simp only [go_sem, List.toList_toArray, simprocAttr]); exact rfl)) ?_ (plan_Holes_okf N _ _ _ _ _ _ _ e9) ?_ ?_ ?_
 · (first | ((first | rfl | (simp only [go_sem, sw1, simprocAttr, okAll_segD7, z13W4a, z2W4a, z3W4a, z4W4a, z5W4a, z6W4a, z1W4a, map_nz_flat (f := (fun (x : Int × Int) => [(I x.1), (I x.2)])) (fun _ => rfl), takeFlat (fun (x : Int × Int) => [(I x.1), (I x.2)]) 2 (fun _ => rfl), takeFlat1 (fun (x : Int × Int) => [(I x.1), (I x.2)]) 2 (fun _ => rfl), takeFlatS (fun (x : Int × Int) => [(I x.1), (I x.2)]) 2 (fun _ => rfl), allValFlat (fun (x : Int × Int) => [(I x.1), (I x.2)]) (fun _ => rfl), flatMap_length 2 (fun (x : Int × Int) => [(I x.1), (I x.2)]) (fun _ => rfl)]; done) | (simp only [go_sem, sw1, simprocAttr, okAll_segD7, z13W4a, z2W4a, z3W4a, z4W4a, z5W4a, z6W4a, z1W4a, map_nz_flat (f := (fun (x : Int × Int) => [(I x.1), (I x.2)])) (fun _ => rfl), takeFlat (fun (x : Int × Int) => [(I x.1), (I x.2)]) 2 (fun _ => rfl), takeFlat1 (fun (x : Int × Int) => [(I x.1), (I x.2)]) 2 (fun _ => rfl), takeFlatS (fun (x : Int × Int) => [(I x.1), (I x.2)]) 2 (fun _ => rfl), allValFlat (fun (x : Int × Int) => [(I x.1), (I x.2)]) (fun _ => rfl), flatMap_length 2 (fun (x : Int × Int) => [(I x.1), (I x.2)]) (fun _ => rfl)]; rfl) | (simp only [go_sem, sw1, simprocAttr, okAll_segD7, z13W4a, z2W4a, z3W4a, z4W4a, z5W4a, z6W4a, z1W4a, map_nz_flat (f := (fun (x : Int × Int) => [(I x.1), (I x.2)])) (fun _ => rfl), takeFlat (fun (x : Int × Int) => [(I x.1), (I x.2)]) 2 (fun _ => rfl), takeFlat1 (fun (x : Int × Int) => [(I x.1), (I x.2)]) 2 (fun _ => rfl), takeFlatS (fun (x : Int × Int) => [(I x.1), (I x.2)]) 2 (fun _ => rfl), allValFlat (fun (x : Int × Int) => [(I x.1), (I x.2)]) (fun _ => rfl), flatMap_length 2 (fun (x : Int × Int) => [(I x.1), (I x.2)]) (fun _ => rfl)]; simp only [seg, asD, go_sem, sw1, simprocAttr, okAll_segD7, z13W4a, z2W4a, z3W4a, z4W4a, z5W4a, z6W4a, z1W4a, map_nz_flat (f := (fun (x : Int × Int) => [(I x.1), (I x.2)])) (fun _ => rfl), takeFlat (fun (x : Int × Int) => [(I x.1), (I x.2)]) 2 (fun _ => rfl), takeFlat1 (fun (x : Int × Int) => [(I x.1), (I x.2)]) 2 (fun _ => rfl), takeFlatS (fun (x : Int × Int) => [(I x.1), (I x.2)]) 2 (fun _ => rfl), allValFlat (fun (x : Int × Int) => [(I x.1), (I x.2)]) (fun _ => rfl), flatMap_length 2 (fun (x : Int × Int) => [(I x.1), (I x.2)]) (fun _ => rfl)]; done) | (simp only [go_sem, sw1, simprocAttr, okAll_segD7, z13W4a, z2W4a, z3W4a, z4W4a, z5W4a, z6W4a, z1W4a, map_nz_flat (f := (fun (x : Int × Int) => [(I x.1), (I x.2)])) (fun _ => rfl), takeFlat (fun (x : Int × Int) => [(I x.1), (I x.2)]) 2 (fun _ => rfl), takeFlat1 (fun (x : Int × Int) => [(I x.1), (I x.2)]) 2 (fun _ => rfl), takeFlatS (fun (x : Int × Int) => [(I x.1), (I x.2)]) 2 (fun _ => rfl), allValFlat (fun (x : Int × Int) => [(I x.1), (I x.2)]) (fun _ => rfl), flatMap_length 2 (fun (x : Int × Int) => [(I x.1), (I x.2)]) (fun _ => rfl)]; simp only [seg, asD, go_sem, sw1, simprocAttr, okAll_segD7, z13W4a, z2W4a, z3W4a, z4W4a, z5W4a, z6W4a, z1W4a, map_nz_flat (f := (fun (x : Int × Int) => [(I x.1), (I x.2)])) (fun _ => rfl), takeFlat (fun (x : Int × Int) => [(I x.1), (I x.2)]) 2 (fun _ => rfl), takeFlat1 (fun (x : Int × Int) => [(I x.1), (I x.2)]) 2 (fun _ => rfl), takeFlatS (fun (x : Int × Int) => [(I x.1), (I x.2)]) 2 (fun _ => rfl), allValFlat (fun (x : Int × Int) => [(I x.1), (I x.2)]) (fun _ => rfl), flatMap_length 2 (fun (x : Int × Int) => [(I x.1), (I x.2)]) (fun _ => rfl)]; rfl) | ((try simp only [go_sem, sw1, simprocAttr, okAll_segD7, z13W4a, z2W4a, z3W4a, z4W4a, z5W4a, z6W4a, z1W4a, map_nz_flat (f := (fun (x : Int × Int) => [(I x.1), (I x.2)])) (fun _ => rfl), takeFlat (fun (x : Int × Int) => [(I x.1), (I x.2)]) 2 (fun _ => rfl), takeFlat1 (fun (x : Int × Int) => [(I x.1), (I x.2)]) 2 (fun _ => rfl), takeFlatS (fun (x : Int × Int) => [(I x.1), (I x.2)]) 2 (fun _ => rfl), allValFlat (fun (x : Int × Int) => [(I x.1), (I x.2)]) (fun _ => rfl), flatMap_length 2 (fun (x : Int × Int) => [(I x.1), (I x.2)]) (fun _ => rfl)]); (repeat' (first | rfl | (refine list_congr ?_; simp only [List.length_take, List.length_drop, List.length_set, List.length_replicate] <;> omega) | (refine congr (congrArg List.cons ?_) ?_) | (refine congrArg D.agg ?_) | (refine congrArg D.tup ?_) | (refine congrArg D.ref ?_) | (refine congrArg (D.list _) ?_) | (refine congrArg (D.clo _) ?_))))); done) | ((first | rfl | (simp only [go_sem, sw1, simprocAttr, okAll_segD7, z13W4a, z2W4a, z3W4a, z4W4a, z5W4a, z6W4a, z1W4a, map_nz_flat (f := (fun (x : Int × Int) => [(I x.1), (I x.2)])) (fun _ => rfl), takeFlat (fun (x : Int × Int) => [(I x.1), (I x.2)]) 2 (fun _ => rfl), takeFlat1 (fun (x : Int × Int) => [(I x.1), (I x.2)]) 2 (fun _ => rfl), takeFlatS (fun (x : Int × Int) => [(I x.1), (I x.2)]) 2 (fun _ => rfl), allValFlat (fun (x : Int × Int) => [(I x.1), (I x.2)]) (fun _ => rfl), flatMap_length 2 (fun (x : Int × Int) => [(I x.1), (I x.2)]) (fun _ => rfl)]; done) | (simp only [go_sem, sw1, simprocAttr, okAll_segD7, z13W4a, z2W4a, z3W4a, z4W4a, z5W4a, z6W4a, z1W4a, map_nz_flat (f := (fun (x : Int × Int) => [(I x.1), (I x.2)])) (fun _ => rfl), takeFlat (fun (x : Int × Int) => [(I x.1), (I x.2)]) 2 (fun _ => rfl), takeFlat1 (fun (x : Int × Int) => [(I x.1), (I x.2)]) 2 (fun _ => rfl), takeFlatS (fun (x : Int × Int) => [(I x.1), (I x.2)]) 2 (fun _ => rfl), allValFlat (fun (x : Int × Int) => [(I x.1), (I x.2)]) (fun _ => rfl), flatMap_length 2 (fun (x : Int × Int) => [(I x.1), (I x.2)]) (fun _ => rfl)]; rfl) | (simp only [go_sem, sw1, simprocAttr, okAll_segD7, z13W4a, z2W4a, z3W4a, z4W4a, z5W4a, z6W4a, z1W4a, map_nz_flat (f := (fun (x : Int × Int) => [(I x.1), (I x.2)])) (fun _ => rfl), takeFlat (fun (x : Int × Int) => [(I x.1), (I x.2)]) 2 (fun _ => rfl), takeFlat1 (fun (x : Int × Int) => [(I x.1), (I x.2)]) 2 (fun _ => rfl), takeFlatS (fun (x : Int × Int) => [(I x.1), (I x.2)]) 2 (fun _ => rfl), allValFlat (fun (x : Int × Int) => [(I x.1), (I x.2)]) (fun _ => rfl), flatMap_length 2 (fun (x : Int × Int) => [(I x.1), (I x.2)]) (fun _ => rfl)]; simp only [seg, asD, go_sem, sw1, simprocAttr, okAll_segD7, z13W4a, z2W4a, z3W4a, z4W4a, z5W4a, z6W4a, z1W4a, map_nz_flat (f := (fun (x : Int × Int) => [(I x.1), (I x.2)])) (fun _ => rfl), takeFlat (fun (x : Int × Int) => [(I x.1), (I x.2)]) 2 (fun _ => rfl), takeFlat1 (fun (x : Int × Int) => [(I x.1), (I x.2)]) 2 (fun _ => rfl), takeFlatS (fun (x : Int × Int) => [(I x.1), (I x.2)]) 2 (fun _ => rfl), allValFlat (fun (x : Int × Int) => [(I x.1), (I x.2)]) (fun _ => rfl), flatMap_length 2 (fun (x : Int × Int) => [(I x.1), (I x.2)]) (fun _ => rfl)]; done) | (simp only [go_sem, sw1, simprocAttr, okAll_segD7, z13W4a, z2W4a, z3W4a, z4W4a, z5W4a, z6W4a, z1W4a, map_nz_flat (f := (fun (x : Int × Int) => [(I x.1), (I x.2)])) (fun _ => rfl), takeFlat (fun (x : Int × Int) => [(I x.1), (I x.2)]) 2 (fun _ => rfl), takeFlat1 (fun (x : Int × Int) => [(I x.1), (I x.2)]) 2 (fun _ => rfl), takeFlatS (fun (x : Int × Int) => [(I x.1), (I x.2)]) 2 (fun _ => rfl), allValFlat (fun (x : Int × Int) => [(I x.1), (I x.2)]) (fun _ => rfl), flatMap_length 2 (fun (x : Int × Int) => [(I x.1), (I x.2)]) (fun _ => rfl)]; simp only [seg, asD, go_sem, sw1, simprocAttr, okAll_segD7, z13W4a, z2W4a, z3W4a, z4W4a, z5W4a, z6W4a, z1W4a, map_nz_flat (f := (fun (x : Int × Int) => [(I x.1), (I x.2)])) (fun _ => rfl), takeFlat (fun (x : Int × Int) => [(I x.1), (I x.2)]) 2 (fun _ => rfl), takeFlat1 (fun (x : Int × Int) => [(I x.1), (I x.2)]) 2 (fun _ => rfl), takeFlatS (fun (x : Int × Int) => [(I x.1), (I x.2)]) 2 (fun _ => rfl), allValFlat (fun (x : Int × Int) => [(I x.1), (I x.2)]) (fun _ => rfl), flatMap_length 2 (fun (x : Int × Int) => [(I x.1), (I x.2)]) (fun _ => rfl)]; rfl) | ((try simp only [go_sem, sw1, simprocAttr, okAll_segD7, z13W4a, z2W4a, z3W4a, z4W4a, z5W4a, z6W4a, z1W4a, map_nz_flat (f := (fun (x : Int × Int) => [(I x.1), (I x.2)])) (fun _ => rfl), takeFlat (fun (x : Int × Int) => [(I x.1), (I x.2)]) 2 (fun _ => rfl), takeFlat1 (fun (x : Int × Int) => [(I x.1), (I x.2)]) 2 (fun _ => rfl), takeFlatS (fun (x : Int × Int) => [(I x.1), (I x.2)]) 2 (fun _ => rfl), allValFlat (fun (x : Int × Int) => [(I x.1), (I x.2)]) (fun _ => rfl), flatMap_length 2 (fun (x : Int × Int) => [(I x.1), (I x.2)]) (fun _ => rfl)]); (repeat' (first | rfl | (refine list_congr ?_; simp only [List.length_take, List.length_drop, List.length_set, List.length_replicate] <;> omega) | (refine congr (congrArg List.cons ?_) ?_) | (refine congrArg D.agg ?_) | (refine congrArg D.tup ?_) | (refine congrArg D.ref ?_) | (refine congrArg (D.list _) ?_) | (refine congrArg (D.clo _) ?_))))); exact z7W4a _ _ _ rfl) | ((first | rfl | (simp only [go_sem, sw1, simprocAttr, okAll_segD7, z13W4a, z2W4a, z3W4a, z4W4a, z5W4a, z6W4a, z1W4a, map_nz_flat (f := (fun (x : Int × Int) => [(I x.1), (I x.2)])) (fun _ => rfl), takeFlat (fun (x : Int × Int) => [(I x.1), (I x.2)]) 2 (fun _ => rfl), takeFlat1 (fun (x : Int × Int) => [(I x.1), (I x.2)]) 2 (fun _ => rfl), takeFlatS (fun (x : Int × Int) => [(I x.1), (I x.2)]) 2 (fun _ => rfl), allValFlat (fun (x : Int × Int) => [(I x.1), (I x.2)]) (fun _ => rfl), flatMap_length 2 (fun (x : Int × Int) => [(I x.1), (I x.2)]) (fun _ => rfl)]; done) | (simp only [go_sem, sw1, simprocAttr, okAll_segD7, z13W4a, z2W4a, z3W4a, z4W4a, z5W4a, z6W4a, z1W4a, map_nz_flat (f := (fun (x : Int × Int) => [(I x.1), (I x.2)])) (fun _ => rfl), takeFlat (fun (x : Int × Int) => [(I x.1), (I x.2)]) 2 (fun _ => rfl), takeFlat1 (fun (x : Int × Int) => [(I x.1), (I x.2)]) 2 (fun _ => rfl), takeFlatS (fun (x : Int × Int) => [(I x.1), (I x.2)]) 2 (fun _ => rfl), allValFlat (fun (x : Int × Int) => [(I x.1), (I x.2)]) (fun _ => rfl), flatMap_length 2 (fun (x : Int × Int) => [(I x.1), (I x.2)]) (fun _ => rfl)]; rfl) | (simp only [go_sem, sw1, simprocAttr, okAll_segD7, z13W4a, z2W4a, z3W4a, z4W4a, z5W4a, z6W4a, z1W4a, map_nz_flat (f := (fun (x : Int × Int) => [(I x.1), (I x.2)])) (fun _ => rfl), takeFlat (fun (x : Int × Int) => [(I x.1), (I x.2)]) 2 (fun _ => rfl), takeFlat1 (fun (x : Int × Int) => [(I x.1), (I x.2)]) 2 (fun _ => rfl), takeFlatS (fun (x : Int × Int) => [(I x.1), (I x.2)]) 2 (fun _ => rfl), allValFlat (fun (x : Int × Int) => [(I x.1), (I x.2)]) (fun _ => rfl), flatMap_length 2 (fun (x : Int × Int) => [(I x.1), (I x.2)]) (fun _ => rfl)]; simp only [seg, asD, go_sem, sw1, simprocAttr, okAll_segD7, z13W4a, z2W4a, z3W4a, z4W4a, z5W4a, z6W4a, z1W4a, map_nz_flat (f := (fun (x : Int × Int) => [(I x.1), (I x.2)])) (fun _ => rfl), takeFlat (fun (x : Int × Int) => [(I x.1), (I x.2)]) 2 (fun _ => rfl), takeFlat1 (fun (x : Int × Int) => [(I x.1), (I x.2)]) 2 (fun _ => rfl), takeFlatS (fun (x : Int × Int) => [(I x.1), (I x.2)]) 2 (fun _ => rfl), allValFlat (fun (x : Int × Int) => [(I x.1), (I x.2)]) (fun _ => rfl), flatMap_length 2 (fun (x : Int × Int) => [(I x.1), (I x.2)]) (fun _ => rfl)]; done) | (simp only [go_sem, sw1, simprocAttr, okAll_segD7, z13W4a, z2W4a, z3W4a, z4W4a, z5W4a, z6W4a, z1W4a, map_nz_flat (f := (fun (x : Int × Int) => [(I x.1), (I x.2)])) (fun _ => rfl), takeFlat (fun (x : Int × Int) => [(I x.1), (I x.2)]) 2 (fun _ => rfl), takeFlat1 (fun (x : Int × Int) => [(I x.1), (I x.2)]) 2 (fun _ => rfl), takeFlatS (fun (x : Int × Int) => [(I x.1), (I x.2)]) 2 (fun _ => rfl), allValFlat (fun (x : Int × Int) => [(I x.1), (I x.2)]) (fun _ => rfl), flatMap_length 2 (fun (x : Int × Int) => [(I x.1), (I x.2)]) (fun _ => rfl)]; simp only [seg, asD, go_sem, sw1, simprocAttr, okAll_segD7, z13W4a, z2W4a, z3W4a, z4W4a, z5W4a, z6W4a, z1W4a, map_nz_flat (f := (fun (x : Int × Int) => [(I x.1), (I x.2)])) (fun _ => rfl), takeFlat (fun (x : Int × Int) => [(I x.1), (I x.2)]) 2 (fun _ => rfl), takeFlat1 (fun (x : Int × Int) => [(I x.1), (I x.2)]) 2 (fun _ => rfl), takeFlatS (fun (x : Int × Int) => [(I x.1), (I x.2)]) 2 (fun _ => rfl), allValFlat (fun (x : Int × Int) => [(I x.1), (I x.2)]) (fun _ => rfl), flatMap_length 2 (fun (x : Int × Int) => [(I x.1), (I x.2)]) (fun _ => rfl)]; rfl) | ((try simp only [go_sem, sw1, simprocAttr, okAll_segD7, z13W4a, z2W4a, z3W4a, z4W4a, z5W4a, z6W4a, z1W4a, map_nz_flat (f := (fun (x : Int × Int) => [(I x.1), (I x.2)])) (fun _ => rfl), takeFlat (fun (x : Int × Int) => [(I x.1), (I x.2)]) 2 (fun _ => rfl), takeFlat1 (fun (x : Int × Int) => [(I x.1), (I x.2)]) 2 (fun _ => rfl), takeFlatS (fun (x : Int × Int) => [(I x.1), (I x.2)]) 2 (fun _ => rfl), allValFlat (fun (x : Int × Int) => [(I x.1), (I x.2)]) (fun _ => rfl), flatMap_length 2 (fun (x : Int × Int) => [(I x.1), (I x.2)]) (fun _ => rfl)]); (repeat' (first | rfl | (refine list_congr ?_; simp only [List.length_take, List.length_drop, List.length_set, List.length_replicate] <;> omega) | (refine congr (congrArg List.cons ?_) ?_) | (refine congrArg D.agg ?_) | (refine congrArg D.tup ?_) | (refine congrArg D.ref ?_) | (refine congrArg (D.list _) ?_) | (refine congrArg (D.clo _) ?_))))); exact segFlatSnoc (fun (x : Int × Int) => [(I x.1), (I x.2)]) 2 (fun _ => rfl) _ _ _ rfl))
 · (first | exact trivial | exact okD_all rfl | (refine okAll_intro ?_; simp only [go_sem, sw2, List.length_set, List.length_replicate, and_true, true_and, Nat.le_refl, simprocAttr, okAll_segD7, z13W4a, z2W4a, z3W4a, z4W4a, z5W4a, z6W4a, z1W4a, map_nz_flat (f := (fun (x : Int × Int) => [(I x.1), (I x.2)])) (fun _ => rfl), takeFlat (fun (x : Int × Int) => [(I x.1), (I x.2)]) 2 (fun _ => rfl), takeFlat1 (fun (x : Int × Int) => [(I x.1), (I x.2)]) 2 (fun _ => rfl), takeFlatS (fun (x : Int × Int) => [(I x.1), (I x.2)]) 2 (fun _ => rfl), allValFlat (fun (x : Int × Int) => [(I x.1), (I x.2)]) (fun _ => rfl), flatMap_length 2 (fun (x : Int × Int) => [(I x.1), (I x.2)]) (fun _ => rfl)]; done) | (refine okAll_intro ?_; simp only [go_sem, sw2, List.length_set, List.length_replicate, and_true, true_and, Nat.le_refl, simprocAttr, okAll_segD7, z13W4a, z2W4a, z3W4a, z4W4a, z5W4a, z6W4a, z1W4a, map_nz_flat (f := (fun (x : Int × Int) => [(I x.1), (I x.2)])) (fun _ => rfl), takeFlat (fun (x : Int × Int) => [(I x.1), (I x.2)]) 2 (fun _ => rfl), takeFlat1 (fun (x : Int × Int) => [(I x.1), (I x.2)]) 2 (fun _ => rfl), takeFlatS (fun (x : Int × Int) => [(I x.1), (I x.2)]) 2 (fun _ => rfl), allValFlat (fun (x : Int × Int) => [(I x.1), (I x.2)]) (fun _ => rfl), flatMap_length 2 (fun (x : Int × Int) => [(I x.1), (I x.2)]) (fun _ => rfl)]; omega))
 (simp only [go_sem, Nat.reduceLT])
 refine OW.run [3, 4, 5, 7, 10, 11] ?_
 simp only [go_sem, simprocAttr, sw0]
 refine OW.nil (hK _ ?_); clear hK K
 refine PW.seq ?_
 obtain ⟨x10, e10, H⟩ := bnd_some H
 refine PW.regionK fun K hK => OW.run [3, 4, 5, 7, 89] ?_
 simp only [go_sem, simprocAttr, sw0]
 refine OW.callG' 4 rfl rfl ?_ (fun hg => by first | rfl | (simp only [go_sem, ↓reduceIte]; rfl)) (fun hg => by ((simp only [go_sem, List.toList_toArray, simprocAttr]); exact rfl)) (fun hg => ?_) (fun hg => (law09_subset_ok N _ _ _ (grd_t hg e10))) ?_ ?_ ?_ ?_
 simp only [go_sem, simprocAttr]
 rfl
 exact okD_all rfl
 exact .inl rfl
 (simp only [go_sem, Nat.reduceLT])
 refine OW.run [3, 4, 5, 7, 89] ?_
 simp only [go_sem, simprocAttr, sw0]
 refine OW.nil (hK _ ?_); clear hK K
 refine PW.cond rfl (fun h12 => ?_) (fun h12 => ?_)
 replace H := br_t h12 H
 refine PW.seq ?_
 refine PW.regionK fun K hK => OW.run [6] ?_
 simp only [go_sem, simprocAttr, sw0]
 refine OW.nil (hK _ ?_); clear hK K
 refine PW.ret ?_
 change PW.Ends _ _ _ _ _ _
 refine PW.Ends.intro (.inr rfl) ?_
 simp only [go_sem, simprocAttr, sw0]
 obtain rfl := Option.some.inj H
 refine RetOK.data' 4 (by exact trivial) ?_
 rfl
 replace H := br_f h12 H
 refine PW.skip ?_
 refine hN6 [] () _ H (by exact trivial) ?_
 simp only [sw1, go_sem, simprocAttr]
 replace H := br_f h8 H
 refine PW.skip ?_
 refine hN6 [] () _ H (by exact trivial) ?_
 simp only [sw1, go_sem, simprocAttr]
 rintro _ H
 try simp only [go_sem, simprocAttr]
 refine PW.joinS (τ := Unit) [3, 4, 7] 2 (fun _ => []) (fun _ => [{ cells := [.d (.list Z12.length (Z12.map L)), .d (.list Zy.length (Zy.flatMap (fun (x : ByteArray × Int × Int × Int × Int × Int × Int) => [(Sx x.1), (I x.2.1), (I x.2.2.1), (I x.2.2.2.1), (I x.2.2.2.2.1), (I x.2.2.2.2.2.1), (I x.2.2.2.2.2.2)]))), .d (.list Z11.length (Z11.flatMap (fun (x : Int × Int) => [(I x.1), (I x.2)]))), .d (I Zz), .d (I Z13), .d (I Z10)], e := 55 }, { cells := [.d (Sx Ze), .d (I Zc), .d (I Za), .d (I Zb), .d (I Zd), .d (I Zf), .d (I Zg)], e := 57 }]) _ _ r (by exact Nat.zero_le _) H ?_ ?_
 intro K_1 H N13 hN13
 refine PW.seq ?_
 obtain ⟨x11, e11, H⟩ := bnd_some H
 refine PW.regionK fun K hK => OW.run [3, 4, 5, 7, 94] ?_
 simp only [go_sem, simprocAttr, sw0]
 repeat (refine And.intro (by omega) ?_)
 refine OW.call' 4 rfl rfl rfl (by first | exact rfl | ((simp only [go_sem, List.toList_toArray, simprocAttr]); exact rfl)) ?_ (base_Within_ok N _ _ _ _ e11) ?_ ?_ ?_ ?_
 rfl
 exact okD_all rfl
 exact .inl rfl
 (simp only [go_sem, Nat.reduceLT])
 refine OW.run [3, 4, 5, 7, 94] ?_
 simp only [go_sem, simprocAttr, sw0]
 refine OW.nil (hK _ ?_); clear hK K
 refine PW.cond rfl (fun h14 => ?_) (fun h14 => ?_)
 replace H := br_t h14 H
 refine PW.seq ?_
 refine PW.regionK fun K hK => OW.run [3, 4, 5, 7, 12] ?_
 simp only [go_sem, simprocAttr, sw0]
 refine OW.inline rfl rfl rfl (by first | exact rfl | ((simp only [go_sem, List.toList_toArray, simprocAttr]); exact rfl)) Try.func29 rfl (by rw [Try.results29]) Try.ntmps29 Try.call29 (by (simp only [go_sem, Nat.reduceLT])) ?_
 intro us p
 change PW _ _ _ _ _
 try simp only [go_sem, simprocAttr]
 refine PW.seq ?_
 refine PW.regionK fun K hK => OW.run [1, 2] ?_
 simp only [go_sem, simprocAttr, sw0]
 refine OW.nil (hK _ ?_); clear hK K
 refine PW.seq ?_
 obtain ⟨x12, e12, H⟩ := bnd_some H
 refine PW.regionK fun K hK => OW.run [1, 2] ?_
 simp only [go_sem, simprocAttr, sw0]
 repeat (refine And.intro (by omega) ?_)
 refine OW.call' 4 rfl rfl rfl (by first | exact rfl | ((simp only [go_sem, List.toList_toArray, simprocAttr]); exact rfl)) ?_ (ref09_CopyRaster_ok N _ _ e12) ?_ ?_ ?_ ?_
 rfl
 · (refine okAll_intro ?_; (simp only [go_sem, sw2, List.length_set, List.length_replicate, and_true, true_and, Nat.le_refl, simprocAttr]; done))
 exact .inl rfl
 (simp only [go_sem, Nat.reduceLT])
 refine OW.run [1, 2] ?_
 simp only [go_sem, simprocAttr, sw0]
 repeat (refine And.intro (by omega) ?_)
 refine OW.nil (hK _ ?_); clear hK K
 refine PW.seq ?_
 obtain ⟨c15, H⟩ := chk_some H
 refine PW.regionK fun K hK => OW.run [1, 2] ?_
 (simp only [go_sem, simprocAttr, sw0, z0W4a, z1W4a])
 repeat (refine And.intro (by omega) ?_)
 refine OW.nil (hK _ ?_); clear hK K
 refine PW.seq ?_
 obtain ⟨c16, H⟩ := chk_some H
 refine PW.regionK fun K hK => OW.run [1, 2] ?_
 (simp only [go_sem, simprocAttr, sw0, allOne_flatF (fun (x : Int × Int) => [(I x.1), (I x.2)]) (fun _ => rfl), flatMap_length 2 (fun (x : Int × Int) => [(I x.1), (I x.2)]) (fun _ => rfl)])
 repeat (refine And.intro (by omega) ?_)
 refine OW.nil (hK _ ?_); clear hK K
 refine PW.seq ?_
 refine PW.regionK fun K hK => OW.run [2] ?_
 simp only [go_sem, simprocAttr, sw0]
 refine OW.nil (hK _ ?_); clear hK K
 refine PW.ret ?_
 refine ⟨.inr rfl, rfl, rfl, ?_⟩
 simp only [go_sem, simprocAttr, sw0]
 change OW _ _ _ _ _ _
 refine OW.run [3, 4, 5, 7, 12] ?_
 simp only [go_sem, simprocAttr, sw0]
 refine OW.nil (hK _ ?_); clear hK K
 refine PW.seq ?_
 refine PW.regionK fun K hK => OW.run [3, 4, 7, 12] ?_
 simp only [go_sem, simprocAttr, sw0]
 repeat (refine And.intro (by omega) ?_)
 refine OW.nil (hK _ ?_); clear hK K
 refine PW.seq ?_
 obtain ⟨⟨x13, x131⟩, e13, H⟩ := bnd_some H
 refine PW.regionK fun K hK => OW.run [3, 4, 7, 13, 14] ?_
 simp only [go_sem, simprocAttr, sw0]
 refine OW.callF' 4 rfl rfl rfl (by first | exact rfl | ((simp only [go_sem, List.toList_toArray, simprocAttr]); exact rfl)) ?_ (plan_Holes_okf N _ _ _ _ _ _ _ e13) ?_ ?_ ?_
 · (first | ((first | rfl | (simp only [go_sem, sw1, simprocAttr, okAll_segD7, z2W4a, z3W4a, z4W4a, z5W4a, z6W4a, z1W4a, map_nz_flat (f := (fun (x : Int × Int) => [(I x.1), (I x.2)])) (fun _ => rfl), takeFlat (fun (x : Int × Int) => [(I x.1), (I x.2)]) 2 (fun _ => rfl), takeFlat1 (fun (x : Int × Int) => [(I x.1), (I x.2)]) 2 (fun _ => rfl), takeFlatS (fun (x : Int × Int) => [(I x.1), (I x.2)]) 2 (fun _ => rfl), allValFlat (fun (x : Int × Int) => [(I x.1), (I x.2)]) (fun _ => rfl), flatMap_length 2 (fun (x : Int × Int) => [(I x.1), (I x.2)]) (fun _ => rfl)]; done) | (simp only [go_sem, sw1, simprocAttr, okAll_segD7, z2W4a, z3W4a, z4W4a, z5W4a, z6W4a, z1W4a, map_nz_flat (f := (fun (x : Int × Int) => [(I x.1), (I x.2)])) (fun _ => rfl), takeFlat (fun (x : Int × Int) => [(I x.1), (I x.2)]) 2 (fun _ => rfl), takeFlat1 (fun (x : Int × Int) => [(I x.1), (I x.2)]) 2 (fun _ => rfl), takeFlatS (fun (x : Int × Int) => [(I x.1), (I x.2)]) 2 (fun _ => rfl), allValFlat (fun (x : Int × Int) => [(I x.1), (I x.2)]) (fun _ => rfl), flatMap_length 2 (fun (x : Int × Int) => [(I x.1), (I x.2)]) (fun _ => rfl)]; rfl) | (simp only [go_sem, sw1, simprocAttr, okAll_segD7, z2W4a, z3W4a, z4W4a, z5W4a, z6W4a, z1W4a, map_nz_flat (f := (fun (x : Int × Int) => [(I x.1), (I x.2)])) (fun _ => rfl), takeFlat (fun (x : Int × Int) => [(I x.1), (I x.2)]) 2 (fun _ => rfl), takeFlat1 (fun (x : Int × Int) => [(I x.1), (I x.2)]) 2 (fun _ => rfl), takeFlatS (fun (x : Int × Int) => [(I x.1), (I x.2)]) 2 (fun _ => rfl), allValFlat (fun (x : Int × Int) => [(I x.1), (I x.2)]) (fun _ => rfl), flatMap_length 2 (fun (x : Int × Int) => [(I x.1), (I x.2)]) (fun _ => rfl)]; simp only [seg, asD, go_sem, sw1, simprocAttr, okAll_segD7, z2W4a, z3W4a, z4W4a, z5W4a, z6W4a, z1W4a, map_nz_flat (f := (fun (x : Int × Int) => [(I x.1), (I x.2)])) (fun _ => rfl), takeFlat (fun (x : Int × Int) => [(I x.1), (I x.2)]) 2 (fun _ => rfl), takeFlat1 (fun (x : Int × Int) => [(I x.1), (I x.2)]) 2 (fun _ => rfl), takeFlatS (fun (x : Int × Int) => [(I x.1), (I x.2)]) 2 (fun _ => rfl), allValFlat (fun (x : Int × Int) => [(I x.1), (I x.2)]) (fun _ => rfl), flatMap_length 2 (fun (x : Int × Int) => [(I x.1), (I x.2)]) (fun _ => rfl)]; done) | (simp only [go_sem, sw1, simprocAttr, okAll_segD7, z2W4a, z3W4a, z4W4a, z5W4a, z6W4a, z1W4a, map_nz_flat (f := (fun (x : Int × Int) => [(I x.1), (I x.2)])) (fun _ => rfl), takeFlat (fun (x : Int × Int) => [(I x.1), (I x.2)]) 2 (fun _ => rfl), takeFlat1 (fun (x : Int × Int) => [(I x.1), (I x.2)]) 2 (fun _ => rfl), takeFlatS (fun (x : Int × Int) => [(I x.1), (I x.2)]) 2 (fun _ => rfl), allValFlat (fun (x : Int × Int) => [(I x.1), (I x.2)]) (fun _ => rfl), flatMap_length 2 (fun (x : Int × Int) => [(I x.1), (I x.2)]) (fun _ => rfl)]; simp only [seg, asD, go_sem, sw1, simprocAttr, okAll_segD7, z2W4a, z3W4a, z4W4a, z5W4a, z6W4a, z1W4a, map_nz_flat (f := (fun (x : Int × Int) => [(I x.1), (I x.2)])) (fun _ => rfl), takeFlat (fun (x : Int × Int) => [(I x.1), (I x.2)]) 2 (fun _ => rfl), takeFlat1 (fun (x : Int × Int) => [(I x.1), (I x.2)]) 2 (fun _ => rfl), takeFlatS (fun (x : Int × Int) => [(I x.1), (I x.2)]) 2 (fun _ => rfl), allValFlat (fun (x : Int × Int) => [(I x.1), (I x.2)]) (fun _ => rfl), flatMap_length 2 (fun (x : Int × Int) => [(I x.1), (I x.2)]) (fun _ => rfl)]; rfl) | ((try simp only [go_sem, sw1, simprocAttr, okAll_segD7, z2W4a, z3W4a, z4W4a, z5W4a, z6W4a, z1W4a, map_nz_flat (f := (fun (x : Int × Int) => [(I x.1), (I x.2)])) (fun _ => rfl), takeFlat (fun (x : Int × Int) => [(I x.1), (I x.2)]) 2 (fun _ => rfl), takeFlat1 (fun (x : Int × Int) => [(I x.1), (I x.2)]) 2 (fun _ => rfl), takeFlatS (fun (x : Int × Int) => [(I x.1), (I x.2)]) 2 (fun _ => rfl), allValFlat (fun (x : Int × Int) => [(I x.1), (I x.2)]) (fun _ => rfl), flatMap_length 2 (fun (x : Int × Int) => [(I x.1), (I x.2)]) (fun _ => rfl)]); (repeat' (first | rfl | (refine list_congr ?_; simp only [List.length_take, List.length_drop, List.length_set, List.length_replicate] <;> omega) | (refine congr (congrArg List.cons ?_) ?_) | (refine congrArg D.agg ?_) | (refine congrArg D.tup ?_) | (refine congrArg D.ref ?_) | (refine congrArg (D.list _) ?_) | (refine congrArg (D.clo _) ?_))))); done) | ((first | rfl | (simp only [go_sem, sw1, simprocAttr, okAll_segD7, z2W4a, z3W4a, z4W4a, z5W4a, z6W4a, z1W4a, map_nz_flat (f := (fun (x : Int × Int) => [(I x.1), (I x.2)])) (fun _ => rfl), takeFlat (fun (x : Int × Int) => [(I x.1), (I x.2)]) 2 (fun _ => rfl), takeFlat1 (fun (x : Int × Int) => [(I x.1), (I x.2)]) 2 (fun _ => rfl), takeFlatS (fun (x : Int × Int) => [(I x.1), (I x.2)]) 2 (fun _ => rfl), allValFlat (fun (x : Int × Int) => [(I x.1), (I x.2)]) (fun _ => rfl), flatMap_length 2 (fun (x : Int × Int) => [(I x.1), (I x.2)]) (fun _ => rfl)]; done) | (simp only [go_sem, sw1, simprocAttr, okAll_segD7, z2W4a, z3W4a, z4W4a, z5W4a, z6W4a, z1W4a, map_nz_flat (f := (fun (x : Int × Int) => [(I x.1), (I x.2)])) (fun _ => rfl), takeFlat (fun (x : Int × Int) => [(I x.1), (I x.2)]) 2 (fun _ => rfl), takeFlat1 (fun (x : Int × Int) => [(I x.1), (I x.2)]) 2 (fun _ => rfl), takeFlatS (fun (x : Int × Int) => [(I x.1), (I x.2)]) 2 (fun _ => rfl), allValFlat (fun (x : Int × Int) => [(I x.1), (I x.2)]) (fun _ => rfl), flatMap_length 2 (fun (x : Int × Int) => [(I x.1), (I x.2)]) (fun _ => rfl)]; rfl) | (simp only [go_sem, sw1, simprocAttr, okAll_segD7, z2W4a, z3W4a, z4W4a, z5W4a, z6W4a, z1W4a, map_nz_flat (f := (fun (x : Int × Int) => [(I x.1), (I x.2)])) (fun _ => rfl), takeFlat (fun (x : Int × Int) => [(I x.1), (I x.2)]) 2 (fun _ => rfl), takeFlat1 (fun (x : Int × Int) => [(I x.1), (I x.2)]) 2 (fun _ => rfl), takeFlatS (fun (x : Int × Int) => [(I x.1), (I x.2)]) 2 (fun _ => rfl), allValFlat (fun (x : Int × Int) => [(I x.1), (I x.2)]) (fun _ => rfl), flatMap_length 2 (fun (x : Int × Int) => [(I x.1), (I x.2)]) (fun _ => rfl)]; simp only [seg, asD, go_sem, sw1, simprocAttr, okAll_segD7, z2W4a, z3W4a, z4W4a, z5W4a, z6W4a, z1W4a, map_nz_flat (f := (fun (x : Int × Int) => [(I x.1), (I x.2)])) (fun _ => rfl), takeFlat (fun (x : Int × Int) => [(I x.1), (I x.2)]) 2 (fun _ => rfl), takeFlat1 (fun (x : Int × Int) => [(I x.1), (I x.2)]) 2 (fun _ => rfl), takeFlatS (fun (x : Int × Int) => [(I x.1), (I x.2)]) 2 (fun _ => rfl), allValFlat (fun (x : Int × Int) => [(I x.1), (I x.2)]) (fun _ => rfl), flatMap_length 2 (fun (x : Int × Int) => [(I x.1), (I x.2)]) (fun _ => rfl)]; done) | (simp only [go_sem, sw1, simprocAttr, okAll_segD7, z2W4a, z3W4a, z4W4a, z5W4a, z6W4a, z1W4a, map_nz_flat (f := (fun (x : Int × Int) => [(I x.1), (I x.2)])) (fun _ => rfl), takeFlat (fun (x : Int × Int) => [(I x.1), (I x.2)]) 2 (fun _ => rfl), takeFlat1 (fun (x : Int × Int) => [(I x.1), (I x.2)]) 2 (fun _ => rfl), takeFlatS (fun (x : Int × Int) => [(I x.1), (I x.2)]) 2 (fun _ => rfl), allValFlat (fun (x : Int × Int) => [(I x.1), (I x.2)]) (fun _ => rfl), flatMap_length 2 (fun (x : Int × Int) => [(I x.1), (I x.2)]) (fun _ => rfl)]; simp only [seg, asD, go_sem, sw1, simprocAttr, okAll_segD7, z2W4a, z3W4a, z4W4a, z5W4a, z6W4a, z1W4a, map_nz_flat (f := (fun (x : Int × Int) => [(I x.1), (I x.2)])) (fun _ => rfl), takeFlat (fun (x : Int × Int) => [(I x.1), (I x.2)]) 2 (fun _ => rfl), takeFlat1 (fun (x : Int × Int) => [(I x.1), (I x.2)]) 2 (fun _ => rfl), takeFlatS (fun (x : Int × Int) => [(I x.1), (I x.2)]) 2 (fun _ => rfl), allValFlat (fun (x : Int × Int) => [(I x.1), (I x.2)]) (fun _ => rfl), flatMap_length 2 (fun (x : Int × Int) => [(I x.1), (I x.2)]) (fun _ => rfl)]; rfl) | ((try simp only [go_sem, sw1, simprocAttr, okAll_segD7, z2W4a, z3W4a, z4W4a, z5W4a, z6W4a, z1W4a, map_nz_flat (f := (fun (x : Int × Int) => [(I x.1), (I x.2)])) (fun _ => rfl), takeFlat (fun (x : Int × Int) => [(I x.1), (I x.2)]) 2 (fun _ => rfl), takeFlat1 (fun (x : Int × Int) => [(I x.1), (I x.2)]) 2 (fun _ => rfl), takeFlatS (fun (x : Int × Int) => [(I x.1), (I x.2)]) 2 (fun _ => rfl), allValFlat (fun (x : Int × Int) => [(I x.1), (I x.2)]) (fun _ => rfl), flatMap_length 2 (fun (x : Int × Int) => [(I x.1), (I x.2)]) (fun _ => rfl)]); (repeat' (first | rfl | (refine list_congr ?_; simp only [List.length_take, List.length_drop, List.length_set, List.length_replicate] <;> omega) | (refine congr (congrArg List.cons ?_) ?_) | (refine congrArg D.agg ?_) | (refine congrArg D.tup ?_) | (refine congrArg D.ref ?_) | (refine congrArg (D.list _) ?_) | (refine congrArg (D.clo _) ?_))))); exact z7W4a _ _ _ rfl) | ((first | rfl | (simp only [go_sem, sw1, simprocAttr, okAll_segD7, z2W4a, z3W4a, z4W4a, z5W4a, z6W4a, z1W4a, map_nz_flat (f := (fun (x : Int × Int) => [(I x.1), (I x.2)])) (fun _ => rfl), takeFlat (fun (x : Int × Int) => [(I x.1), (I x.2)]) 2 (fun _ => rfl), takeFlat1 (fun (x : Int × Int) => [(I x.1), (I x.2)]) 2 (fun _ => rfl), takeFlatS (fun (x : Int × Int) => [(I x.1), (I x.2)]) 2 (fun _ => rfl), allValFlat (fun (x : Int × Int) => [(I x.1), (I x.2)]) (fun _ => rfl), flatMap_length 2 (fun (x : Int × Int) => [(I x.1), (I x.2)]) (fun _ => rfl)]; done) | (simp only [go_sem, sw1, simprocAttr, okAll_segD7, z2W4a, z3W4a, z4W4a, z5W4a, z6W4a, z1W4a, map_nz_flat (f := (fun (x : Int × Int) => [(I x.1), (I x.2)])) (fun _ => rfl), takeFlat (fun (x : Int × Int) => [(I x.1), (I x.2)]) 2 (fun _ => rfl), takeFlat1 (fun (x : Int × Int) => [(I x.1), (I x.2)]) 2 (fun _ => rfl), takeFlatS (fun (x : Int × Int) => [(I x.1), (I x.2)]) 2 (fun _ => rfl), allValFlat (fun (x : Int × Int) => [(I x.1), (I x.2)]) (fun _ => rfl), flatMap_length 2 (fun (x : Int × Int) => [(I x.1), (I x.2)]) (fun _ => rfl)]; rfl) | (simp only [go_sem, sw1, simprocAttr, okAll_segD7, z2W4a, z3W4a, z4W4a, z5W4a, z6W4a, z1W4a, map_nz_flat (f := (fun (x : Int × Int) => [(I x.1), (I x.2)])) (fun _ => rfl), takeFlat (fun (x : Int × Int) => [(I x.1), (I x.2)]) 2 (fun _ => rfl), takeFlat1 (fun (x : Int × Int) => [(I x.1), (I x.2)]) 2 (fun _ => rfl), takeFlatS (fun (x : Int × Int) => [(I x.1), (I x.2)]) 2 (fun _ => rfl), allValFlat (fun (x : Int × Int) => [(I x.1), (I x.2)]) (fun _ => rfl), flatMap_length 2 (fun (x : Int × Int) => [(I x.1), (I x.2)]) (fun _ => rfl)]; simp only [seg, asD, go_sem, sw1, simprocAttr, okAll_segD7, z2W4a, z3W4a, z4W4a, z5W4a, z6W4a, z1W4a, map_nz_flat (f := (fun (x : Int × Int) => [(I x.1), (I x.2)])) (fun _ => rfl), takeFlat (fun (x : Int × Int) => [(I x.1), (I x.2)]) 2 (fun _ => rfl), takeFlat1 (fun (x : Int × Int) => [(I x.1), (I x.2)]) 2 (fun _ => rfl), takeFlatS (fun (x : Int × Int) => [(I x.1), (I x.2)]) 2 (fun _ => rfl), allValFlat (fun (x : Int × Int) => [(I x.1), (I x.2)]) (fun _ => rfl), flatMap_length 2 (fun (x : Int × Int) => [(I x.1), (I x.2)]) (fun _ => rfl)]; done) | (simp only [go_sem, sw1, simprocAttr, okAll_segD7, z2W4a, z3W4a, z4W4a, z5W4a, z6W4a, z1W4a, map_nz_flat (f := (fun (x : Int × Int) => [(I x.1), (I x.2)])) (fun _ => rfl), takeFlat (fun (x : Int × Int) => [(I x.1), (I x.2)]) 2 (fun _ => rfl), takeFlat1 (fun (x : Int × Int) => [(I x.1), (I x.2)]) 2 (fun _ => rfl), takeFlatS (fun (x : Int × Int) => [(I x.1), (I x.2)]) 2 (fun _ => rfl), allValFlat (fun (x : Int × Int) => [(I x.1), (I x.2)]) (fun _ => rfl), flatMap_length 2 (fun (x : Int × Int) => [(I x.1), (I x.2)]) (fun _ => rfl)]; simp only [seg, asD, go_sem, sw1, simprocAttr, okAll_segD7, z2W4a, z3W4a, z4W4a, z5W4a, z6W4a, z1W4a, map_nz_flat (f := (fun (x : Int × Int) => [(I x.1), (I x.2)])) (fun _ => rfl), takeFlat (fun (x : Int × Int) => [(I x.1), (I x.2)]) 2 (fun _ => rfl), takeFlat1 (fun (x : Int × Int) => [(I x.1), (I x.2)]) 2 (fun _ => rfl), takeFlatS (fun (x : Int × Int) => [(I x.1), (I x.2)]) 2 (fun _ => rfl), allValFlat (fun (x : Int × Int) => [(I x.1), (I x.2)]) (fun _ => rfl), flatMap_length 2 (fun (x : Int × Int) => [(I x.1), (I x.2)]) (fun _ => rfl)]; rfl) | ((try simp only [go_sem, sw1, simprocAttr, okAll_segD7, z2W4a, z3W4a, z4W4a, z5W4a, z6W4a, z1W4a, map_nz_flat (f := (fun (x : Int × Int) => [(I x.1), (I x.2)])) (fun _ => rfl), takeFlat (fun (x : Int × Int) => [(I x.1), (I x.2)]) 2 (fun _ => rfl), takeFlat1 (fun (x : Int × Int) => [(I x.1), (I x.2)]) 2 (fun _ => rfl), takeFlatS (fun (x : Int × Int) => [(I x.1), (I x.2)]) 2 (fun _ => rfl), allValFlat (fun (x : Int × Int) => [(I x.1), (I x.2)]) (fun _ => rfl), flatMap_length 2 (fun (x : Int × Int) => [(I x.1), (I x.2)]) (fun _ => rfl)]); (repeat' (first | rfl | (refine list_congr ?_; simp only [List.length_take, List.length_drop, List.length_set, List.length_replicate] <;> omega) | (refine congr (congrArg List.cons ?_) ?_) | (refine congrArg D.agg ?_) | (refine congrArg D.tup ?_) | (refine congrArg D.ref ?_) | (refine congrArg (D.list _) ?_) | (refine congrArg (D.clo _) ?_))))); exact segFlatSnoc (fun (x : Int × Int) => [(I x.1), (I x.2)]) 2 (fun _ => rfl) _ _ _ rfl))
 · (first | exact trivial | exact okD_all rfl | (refine okAll_intro ?_; simp only [go_sem, sw2, List.length_set, List.length_replicate, and_true, true_and, Nat.le_refl, simprocAttr, okAll_segD7, z2W4a, z3W4a, z4W4a, z5W4a, z6W4a, z1W4a, map_nz_flat (f := (fun (x : Int × Int) => [(I x.1), (I x.2)])) (fun _ => rfl), takeFlat (fun (x : Int × Int) => [(I x.1), (I x.2)]) 2 (fun _ => rfl), takeFlat1 (fun (x : Int × Int) => [(I x.1), (I x.2)]) 2 (fun _ => rfl), takeFlatS (fun (x : Int × Int) => [(I x.1), (I x.2)]) 2 (fun _ => rfl), allValFlat (fun (x : Int × Int) => [(I x.1), (I x.2)]) (fun _ => rfl), flatMap_length 2 (fun (x : Int × Int) => [(I x.1), (I x.2)]) (fun _ => rfl)]; done) | (refine okAll_intro ?_; simp only [go_sem, sw2, List.length_set, List.length_replicate, and_true, true_and, Nat.le_refl, simprocAttr, okAll_segD7, z2W4a, z3W4a, z4W4a, z5W4a, z6W4a, z1W4a, map_nz_flat (f := (fun (x : Int × Int) => [(I x.1), (I x.2)])) (fun _ => rfl), takeFlat (fun (x : Int × Int) => [(I x.1), (I x.2)]) 2 (fun _ => rfl), takeFlat1 (fun (x : Int × Int) => [(I x.1), (I x.2)]) 2 (fun _ => rfl), takeFlatS (fun (x : Int × Int) => [(I x.1), (I x.2)]) 2 (fun _ => rfl), allValFlat (fun (x : Int × Int) => [(I x.1), (I x.2)]) (fun _ => rfl), flatMap_length 2 (fun (x : Int × Int) => [(I x.1), (I x.2)]) (fun _ => rfl)]; omega))
 (simp only [go_sem, Nat.reduceLT])
 refine OW.run [3, 4, 7, 13, 14] ?_
 simp only [go_sem, simprocAttr, sw0]
 refine OW.nil (hK _ ?_); clear hK K
 refine PW.seq ?_
 obtain ⟨x14, e14, H⟩ := bnd_some H
 refine PW.regionK fun K hK => OW.run [3, 4, 7, 112] ?_
 simp only [go_sem, simprocAttr, sw0]
 refine OW.callG' 4 rfl rfl ?_ (fun hg => by first | rfl | (simp only [go_sem, ↓reduceIte]; rfl)) (fun hg => by ((simp only [go_sem, List.toList_toArray, simprocAttr]); exact rfl)) (fun hg => ?_) (fun hg => (law09_subset_ok N _ _ _ (grd_t hg e14))) ?_ ?_ ?_ ?_
 simp only [go_sem, simprocAttr]
 rfl
 exact okD_all rfl
 exact .inl rfl
 (simp only [go_sem, Nat.reduceLT])
 refine OW.run [3, 4, 7, 112] ?_
 simp only [go_sem, simprocAttr, sw0]
 refine OW.nil (hK _ ?_); clear hK K
 refine PW.cond rfl (fun h17 => ?_) (fun h17 => ?_)
 replace H := br_t h17 H
 refine PW.seq ?_
 refine PW.regionK fun K hK => OW.run [6] ?_
 simp only [go_sem, simprocAttr, sw0]
 refine OW.nil (hK _ ?_); clear hK K
 refine PW.ret ?_
 change PW.Ends _ _ _ _ _ _
 refine PW.Ends.intro (.inr rfl) ?_
 simp only [go_sem, simprocAttr, sw0]
 obtain rfl := Option.some.inj H
 refine RetOK.data' 4 (by exact trivial) ?_
 rfl
 replace H := br_f h17 H
 refine PW.skip ?_
 refine hN13 [] () _ H (by exact trivial) ?_
 simp only [sw1, go_sem, simprocAttr]
 replace H := br_f h14 H
 refine PW.skip ?_
 refine hN13 [] () _ H (by exact trivial) ?_
 simp only [sw1, go_sem, simprocAttr]
 rintro _ H
 try simp only [go_sem, simprocAttr]
 refine PW.seq ?_
 refine PW.regionK fun K hK => OW.run [4, 7, 15] ?_
 simp only [go_sem, simprocAttr, sw0]
 refine OW.inline rfl rfl rfl (by first | exact rfl | ((simp only [go_sem, List.toList_toArray, simprocAttr]); exact rfl)) Try.func29 rfl (by rw [Try.results29]) Try.ntmps29 Try.call29 (by (simp only [go_sem, Nat.reduceLT])) ?_
 intro us p
 change PW _ _ _ _ _
 try simp only [go_sem, simprocAttr]
 refine PW.seq ?_
 refine PW.regionK fun K hK => OW.run [1, 2] ?_
 simp only [go_sem, simprocAttr, sw0]
 refine OW.nil (hK _ ?_); clear hK K
 refine PW.seq ?_
 obtain ⟨x15, e15, H⟩ := bnd_some H
 refine PW.regionK fun K hK => OW.run [1, 2] ?_
 simp only [go_sem, simprocAttr, sw0]
 repeat (refine And.intro (by omega) ?_)
 refine OW.call' 4 rfl rfl rfl (by first | exact rfl | ((simp only [go_sem, List.toList_toArray, simprocAttr]); exact rfl)) ?_ (ref09_CopyRaster_ok N _ _ e15) ?_ ?_ ?_ ?_
 rfl
 · (refine okAll_intro ?_; (simp only [go_sem, sw2, List.length_set, List.length_replicate, and_true, true_and, Nat.le_refl, simprocAttr]; done))
 exact .inl rfl
 (simp only [go_sem, Nat.reduceLT])
 refine OW.run [1, 2] ?_
 simp only [go_sem, simprocAttr, sw0]
 repeat (refine And.intro (by omega) ?_)
 refine OW.nil (hK _ ?_); clear hK K
 refine PW.seq ?_
 obtain ⟨c18, H⟩ := chk_some H
 refine PW.regionK fun K hK => OW.run [1, 2] ?_
 (simp only [go_sem, simprocAttr, sw0, z0W4a, z1W4a])
 repeat (refine And.intro (by omega) ?_)
 refine OW.nil (hK _ ?_); clear hK K
 refine PW.seq ?_
 obtain ⟨c19, H⟩ := chk_some H
 refine PW.regionK fun K hK => OW.run [1, 2] ?_
 (simp only [go_sem, simprocAttr, sw0, allOne_flatF (fun (x : Int × Int) => [(I x.1), (I x.2)]) (fun _ => rfl), flatMap_length 2 (fun (x : Int × Int) => [(I x.1), (I x.2)]) (fun _ => rfl)])
 repeat (refine And.intro (by omega) ?_)
 refine OW.nil (hK _ ?_); clear hK K
 refine PW.seq ?_
 refine PW.regionK fun K hK => OW.run [2] ?_
 simp only [go_sem, simprocAttr, sw0]
 refine OW.nil (hK _ ?_); clear hK K
 refine PW.ret ?_
 refine ⟨.inr rfl, rfl, rfl, ?_⟩
 simp only [go_sem, simprocAttr, sw0]
 change OW _ _ _ _ _ _
 refine OW.run [4, 7, 15] ?_
 simp only [go_sem, simprocAttr, sw0]
 refine OW.nil (hK _ ?_); clear hK K
 refine PW.seq ?_
 obtain ⟨c20, H⟩ := chk_some H
 have c20q := c20
 simp only [List.length_cons, List.length_nil] at c20q
 refine PW.regionK fun K hK => OW.run [7, 15] ?_
 (simp only [go_sem, simprocAttr, sw0, z1W4a])
 repeat (refine And.intro (by omega) ?_)
 refine OW.nil (hK _ ?_); clear hK K
 refine PW.seq ?_
 refine PW.seq ?_
 obtain ⟨x16, e16, H⟩ := bnd_some H
 refine PW.regionK fun K hK => OW.run [7, 15, 123] ?_
 simp only [go_sem, simprocAttr, sw0]
 refine OW.call' 4 rfl rfl rfl (by first | exact rfl | ((simp only [go_sem, List.toList_toArray, simprocAttr]); exact rfl)) ?_ (ref09_PlanErr_ok N _ _ _ _ _ _ _ e16) ?_ ?_ ?_ ?_
 · (first | ((first | rfl | (simp only [go_sem, sw1, simprocAttr, okAll_segD7, z2W4a, z3W4a, z4W4a, z5W4a, z6W4a, z1W4a, map_nz_flat (f := (fun (x : Int × Int) => [(I x.1), (I x.2)])) (fun _ => rfl), takeFlat (fun (x : Int × Int) => [(I x.1), (I x.2)]) 2 (fun _ => rfl), takeFlat1 (fun (x : Int × Int) => [(I x.1), (I x.2)]) 2 (fun _ => rfl), takeFlatS (fun (x : Int × Int) => [(I x.1), (I x.2)]) 2 (fun _ => rfl), allValFlat (fun (x : Int × Int) => [(I x.1), (I x.2)]) (fun _ => rfl), flatMap_length 2 (fun (x : Int × Int) => [(I x.1), (I x.2)]) (fun _ => rfl)]; done) | (simp only [go_sem, sw1, simprocAttr, okAll_segD7, z2W4a, z3W4a, z4W4a, z5W4a, z6W4a, z1W4a, map_nz_flat (f := (fun (x : Int × Int) => [(I x.1), (I x.2)])) (fun _ => rfl), takeFlat (fun (x : Int × Int) => [(I x.1), (I x.2)]) 2 (fun _ => rfl), takeFlat1 (fun (x : Int × Int) => [(I x.1), (I x.2)]) 2 (fun _ => rfl), takeFlatS (fun (x : Int × Int) => [(I x.1), (I x.2)]) 2 (fun _ => rfl), allValFlat (fun (x : Int × Int) => [(I x.1), (I x.2)]) (fun _ => rfl), flatMap_length 2 (fun (x : Int × Int) => [(I x.1), (I x.2)]) (fun _ => rfl)]; rfl) | (simp only [go_sem, sw1, simprocAttr, okAll_segD7, z2W4a, z3W4a, z4W4a, z5W4a, z6W4a, z1W4a, map_nz_flat (f := (fun (x : Int × Int) => [(I x.1), (I x.2)])) (fun _ => rfl), takeFlat (fun (x : Int × Int) => [(I x.1), (I x.2)]) 2 (fun _ => rfl), takeFlat1 (fun (x : Int × Int) => [(I x.1), (I x.2)]) 2 (fun _ => rfl), takeFlatS (fun (x : Int × Int) => [(I x.1), (I x.2)]) 2 (fun _ => rfl), allValFlat (fun (x : Int × Int) => [(I x.1), (I x.2)]) (fun _ => rfl), flatMap_length 2 (fun (x : Int × Int) => [(I x.1), (I x.2)]) (fun _ => rfl)]; simp only [seg, asD, go_sem, sw1, simprocAttr, okAll_segD7, z2W4a, z3W4a, z4W4a, z5W4a, z6W4a, z1W4a, map_nz_flat (f := (fun (x : Int × Int) => [(I x.1), (I x.2)])) (fun _ => rfl), takeFlat (fun (x : Int × Int) => [(I x.1), (I x.2)]) 2 (fun _ => rfl), takeFlat1 (fun (x : Int × Int) => [(I x.1), (I x.2)]) 2 (fun _ => rfl), takeFlatS (fun (x : Int × Int) => [(I x.1), (I x.2)]) 2 (fun _ => rfl), allValFlat (fun (x : Int × Int) => [(I x.1), (I x.2)]) (fun _ => rfl), flatMap_length 2 (fun (x : Int × Int) => [(I x.1), (I x.2)]) (fun _ => rfl)]; done) | (simp only [go_sem, sw1, simprocAttr, okAll_segD7, z2W4a, z3W4a, z4W4a, z5W4a, z6W4a, z1W4a, map_nz_flat (f := (fun (x : Int × Int) => [(I x.1), (I x.2)])) (fun _ => rfl), takeFlat (fun (x : Int × Int) => [(I x.1), (I x.2)]) 2 (fun _ => rfl), takeFlat1 (fun (x : Int × Int) => [(I x.1), (I x.2)]) 2 (fun _ => rfl), takeFlatS (fun (x : Int × Int) => [(I x.1), (I x.2)]) 2 (fun _ => rfl), allValFlat (fun (x : Int × Int) => [(I x.1), (I x.2)]) (fun _ => rfl), flatMap_length 2 (fun (x : Int × Int) => [(I x.1), (I x.2)]) (fun _ => rfl)]; simp only [seg, asD, go_sem, sw1, simprocAttr, okAll_segD7, z2W4a, z3W4a, z4W4a, z5W4a, z6W4a, z1W4a, map_nz_flat (f := (fun (x : Int × Int) => [(I x.1), (I x.2)])) (fun _ => rfl), takeFlat (fun (x : Int × Int) => [(I x.1), (I x.2)]) 2 (fun _ => rfl), takeFlat1 (fun (x : Int × Int) => [(I x.1), (I x.2)]) 2 (fun _ => rfl), takeFlatS (fun (x : Int × Int) => [(I x.1), (I x.2)]) 2 (fun _ => rfl), allValFlat (fun (x : Int × Int) => [(I x.1), (I x.2)]) (fun _ => rfl), flatMap_length 2 (fun (x : Int × Int) => [(I x.1), (I x.2)]) (fun _ => rfl)]; rfl) | ((try simp only [go_sem, sw1, simprocAttr, okAll_segD7, z2W4a, z3W4a, z4W4a, z5W4a, z6W4a, z1W4a, map_nz_flat (f := (fun (x : Int × Int) => [(I x.1), (I x.2)])) (fun _ => rfl), takeFlat (fun (x : Int × Int) => [(I x.1), (I x.2)]) 2 (fun _ => rfl), takeFlat1 (fun (x : Int × Int) => [(I x.1), (I x.2)]) 2 (fun _ => rfl), takeFlatS (fun (x : Int × Int) => [(I x.1), (I x.2)]) 2 (fun _ => rfl), allValFlat (fun (x : Int × Int) => [(I x.1), (I x.2)]) (fun _ => rfl), flatMap_length 2 (fun (x : Int × Int) => [(I x.1), (I x.2)]) (fun _ => rfl)]); (repeat' (first | rfl | (refine list_congr ?_; simp only [List.length_take, List.length_drop, List.length_set, List.length_replicate] <;> omega) | (refine congr (congrArg List.cons ?_) ?_) | (refine congrArg D.agg ?_) | (refine congrArg D.tup ?_) | (refine congrArg D.ref ?_) | (refine congrArg (D.list _) ?_) | (refine congrArg (D.clo _) ?_))))); done) | ((first | rfl | (simp only [go_sem, sw1, simprocAttr, okAll_segD7, z2W4a, z3W4a, z4W4a, z5W4a, z6W4a, z1W4a, map_nz_flat (f := (fun (x : Int × Int) => [(I x.1), (I x.2)])) (fun _ => rfl), takeFlat (fun (x : Int × Int) => [(I x.1), (I x.2)]) 2 (fun _ => rfl), takeFlat1 (fun (x : Int × Int) => [(I x.1), (I x.2)]) 2 (fun _ => rfl), takeFlatS (fun (x : Int × Int) => [(I x.1), (I x.2)]) 2 (fun _ => rfl), allValFlat (fun (x : Int × Int) => [(I x.1), (I x.2)]) (fun _ => rfl), flatMap_length 2 (fun (x : Int × Int) => [(I x.1), (I x.2)]) (fun _ => rfl)]; done) | (simp only [go_sem, sw1, simprocAttr, okAll_segD7, z2W4a, z3W4a, z4W4a, z5W4a, z6W4a, z1W4a, map_nz_flat (f := (fun (x : Int × Int) => [(I x.1), (I x.2)])) (fun _ => rfl), takeFlat (fun (x : Int × Int) => [(I x.1), (I x.2)]) 2 (fun _ => rfl), takeFlat1 (fun (x : Int × Int) => [(I x.1), (I x.2)]) 2 (fun _ => rfl), takeFlatS (fun (x : Int × Int) => [(I x.1), (I x.2)]) 2 (fun _ => rfl), allValFlat (fun (x : Int × Int) => [(I x.1), (I x.2)]) (fun _ => rfl), flatMap_length 2 (fun (x : Int × Int) => [(I x.1), (I x.2)]) (fun _ => rfl)]; rfl) | (simp only [go_sem, sw1, simprocAttr, okAll_segD7, z2W4a, z3W4a, z4W4a, z5W4a, z6W4a, z1W4a, map_nz_flat (f := (fun (x : Int × Int) => [(I x.1), (I x.2)])) (fun _ => rfl), takeFlat (fun (x : Int × Int) => [(I x.1), (I x.2)]) 2 (fun _ => rfl), takeFlat1 (fun (x : Int × Int) => [(I x.1), (I x.2)]) 2 (fun _ => rfl), takeFlatS (fun (x : Int × Int) => [(I x.1), (I x.2)]) 2 (fun _ => rfl), allValFlat (fun (x : Int × Int) => [(I x.1), (I x.2)]) (fun _ => rfl), flatMap_length 2 (fun (x : Int × Int) => [(I x.1), (I x.2)]) (fun _ => rfl)]; simp only [seg, asD, go_sem, sw1, simprocAttr, okAll_segD7, z2W4a, z3W4a, z4W4a, z5W4a, z6W4a, z1W4a, map_nz_flat (f := (fun (x : Int × Int) => [(I x.1), (I x.2)])) (fun _ => rfl), takeFlat (fun (x : Int × Int) => [(I x.1), (I x.2)]) 2 (fun _ => rfl), takeFlat1 (fun (x : Int × Int) => [(I x.1), (I x.2)]) 2 (fun _ => rfl), takeFlatS (fun (x : Int × Int) => [(I x.1), (I x.2)]) 2 (fun _ => rfl), allValFlat (fun (x : Int × Int) => [(I x.1), (I x.2)]) (fun _ => rfl), flatMap_length 2 (fun (x : Int × Int) => [(I x.1), (I x.2)]) (fun _ => rfl)]; done) | (simp only [go_sem, sw1, simprocAttr, okAll_segD7, z2W4a, z3W4a, z4W4a, z5W4a, z6W4a, z1W4a, map_nz_flat (f := (fun (x : Int × Int) => [(I x.1), (I x.2)])) (fun _ => rfl), takeFlat (fun (x : Int × Int) => [(I x.1), (I x.2)]) 2 (fun _ => rfl), takeFlat1 (fun (x : Int × Int) => [(I x.1), (I x.2)]) 2 (fun _ => rfl), takeFlatS (fun (x : Int × Int) => [(I x.1), (I x.2)]) 2 (fun _ => rfl), allValFlat (fun (x : Int × Int) => [(I x.1), (I x.2)]) (fun _ => rfl), flatMap_length 2 (fun (x : Int × Int) => [(I x.1), (I x.2)]) (fun _ => rfl)]; simp only [seg, asD, go_sem, sw1, simprocAttr, okAll_segD7, z2W4a, z3W4a, z4W4a, z5W4a, z6W4a, z1W4a, map_nz_flat (f := (fun (x : Int × Int) => [(I x.1), (I x.2)])) (fun _ => rfl), takeFlat (fun (x : Int × Int) => [(I x.1), (I x.2)]) 2 (fun _ => rfl), takeFlat1 (fun (x : Int × Int) => [(I x.1), (I x.2)]) 2 (fun _ => rfl), takeFlatS (fun (x : Int × Int) => [(I x.1), (I x.2)]) 2 (fun _ => rfl), allValFlat (fun (x : Int × Int) => [(I x.1), (I x.2)]) (fun _ => rfl), flatMap_length 2 (fun (x : Int × Int) => [(I x.1), (I x.2)]) (fun _ => rfl)]; rfl) | ((try simp only [go_sem, sw1, simprocAttr, okAll_segD7, z2W4a, z3W4a, z4W4a, z5W4a, z6W4a, z1W4a, map_nz_flat (f := (fun (x : Int × Int) => [(I x.1), (I x.2)])) (fun _ => rfl), takeFlat (fun (x : Int × Int) => [(I x.1), (I x.2)]) 2 (fun _ => rfl), takeFlat1 (fun (x : Int × Int) => [(I x.1), (I x.2)]) 2 (fun _ => rfl), takeFlatS (fun (x : Int × Int) => [(I x.1), (I x.2)]) 2 (fun _ => rfl), allValFlat (fun (x : Int × Int) => [(I x.1), (I x.2)]) (fun _ => rfl), flatMap_length 2 (fun (x : Int × Int) => [(I x.1), (I x.2)]) (fun _ => rfl)]); (repeat' (first | rfl | (refine list_congr ?_; simp only [List.length_take, List.length_drop, List.length_set, List.length_replicate] <;> omega) | (refine congr (congrArg List.cons ?_) ?_) | (refine congrArg D.agg ?_) | (refine congrArg D.tup ?_) | (refine congrArg D.ref ?_) | (refine congrArg (D.list _) ?_) | (refine congrArg (D.clo _) ?_))))); exact z7W4a _ _ _ rfl) | ((first | rfl | (simp only [go_sem, sw1, simprocAttr, okAll_segD7, z2W4a, z3W4a, z4W4a, z5W4a, z6W4a, z1W4a, map_nz_flat (f := (fun (x : Int × Int) => [(I x.1), (I x.2)])) (fun _ => rfl), takeFlat (fun (x : Int × Int) => [(I x.1), (I x.2)]) 2 (fun _ => rfl), takeFlat1 (fun (x : Int × Int) => [(I x.1), (I x.2)]) 2 (fun _ => rfl), takeFlatS (fun (x : Int × Int) => [(I x.1), (I x.2)]) 2 (fun _ => rfl), allValFlat (fun (x : Int × Int) => [(I x.1), (I x.2)]) (fun _ => rfl), flatMap_length 2 (fun (x : Int × Int) => [(I x.1), (I x.2)]) (fun _ => rfl)]; done) | (simp only [go_sem, sw1, simprocAttr, okAll_segD7, z2W4a, z3W4a, z4W4a, z5W4a, z6W4a, z1W4a, map_nz_flat (f := (fun (x : Int × Int) => [(I x.1), (I x.2)])) (fun _ => rfl), takeFlat (fun (x : Int × Int) => [(I x.1), (I x.2)]) 2 (fun _ => rfl), takeFlat1 (fun (x : Int × Int) => [(I x.1), (I x.2)]) 2 (fun _ => rfl), takeFlatS (fun (x : Int × Int) => [(I x.1), (I x.2)]) 2 (fun _ => rfl), allValFlat (fun (x : Int × Int) => [(I x.1), (I x.2)]) (fun _ => rfl), flatMap_length 2 (fun (x : Int × Int) => [(I x.1), (I x.2)]) (fun _ => rfl)]; rfl) | (simp only [go_sem, sw1, simprocAttr, okAll_segD7, z2W4a, z3W4a, z4W4a, z5W4a, z6W4a, z1W4a, map_nz_flat (f := (fun (x : Int × Int) => [(I x.1), (I x.2)])) (fun _ => rfl), takeFlat (fun (x : Int × Int) => [(I x.1), (I x.2)]) 2 (fun _ => rfl), takeFlat1 (fun (x : Int × Int) => [(I x.1), (I x.2)]) 2 (fun _ => rfl), takeFlatS (fun (x : Int × Int) => [(I x.1), (I x.2)]) 2 (fun _ => rfl), allValFlat (fun (x : Int × Int) => [(I x.1), (I x.2)]) (fun _ => rfl), flatMap_length 2 (fun (x : Int × Int) => [(I x.1), (I x.2)]) (fun _ => rfl)]; simp only [seg, asD, go_sem, sw1, simprocAttr, okAll_segD7, z2W4a, z3W4a, z4W4a, z5W4a, z6W4a, z1W4a, map_nz_flat (f := (fun (x : Int × Int) => [(I x.1), (I x.2)])) (fun _ => rfl), takeFlat (fun (x : Int × Int) => [(I x.1), (I x.2)]) 2 (fun _ => rfl), takeFlat1 (fun (x : Int × Int) => [(I x.1), (I x.2)]) 2 (fun _ => rfl), takeFlatS (fun (x : Int × Int) => [(I x.1), (I x.2)]) 2 (fun _ => rfl), allValFlat (fun (x : Int × Int) => [(I x.1), (I x.2)]) (fun _ => rfl), flatMap_length 2 (fun (x : Int × Int) => [(I x.1), (I x.2)]) (fun _ => rfl)]; done) | (simp only [go_sem, sw1, simprocAttr, okAll_segD7, z2W4a, z3W4a, z4W4a, z5W4a, z6W4a, z1W4a, map_nz_flat (f := (fun (x : Int × Int) => [(I x.1), (I x.2)])) (fun _ => rfl), takeFlat (fun (x : Int × Int) => [(I x.1), (I x.2)]) 2 (fun _ => rfl), takeFlat1 (fun (x : Int × Int) => [(I x.1), (I x.2)]) 2 (fun _ => rfl), takeFlatS (fun (x : Int × Int) => [(I x.1), (I x.2)]) 2 (fun _ => rfl), allValFlat (fun (x : Int × Int) => [(I x.1), (I x.2)]) (fun _ => rfl), flatMap_length 2 (fun (x : Int × Int) => [(I x.1), (I x.2)]) (fun _ => rfl)]; simp only [seg, asD, go_sem, sw1, simprocAttr, okAll_segD7, z2W4a, z3W4a, z4W4a, z5W4a, z6W4a, z1W4a, map_nz_flat (f := (fun (x : Int × Int) => [(I x.1), (I x.2)])) (fun _ => rfl), takeFlat (fun (x : Int × Int) => [(I x.1), (I x.2)]) 2 (fun _ => rfl), takeFlat1 (fun (x : Int × Int) => [(I x.1), (I x.2)]) 2 (fun _ => rfl), takeFlatS (fun (x : Int × Int) => [(I x.1), (I x.2)]) 2 (fun _ => rfl), allValFlat (fun (x : Int × Int) => [(I x.1), (I x.2)]) (fun _ => rfl), flatMap_length 2 (fun (x : Int × Int) => [(I x.1), (I x.2)]) (fun _ => rfl)]; rfl) | ((try simp only [go_sem, sw1, simprocAttr, okAll_segD7, z2W4a, z3W4a, z4W4a, z5W4a, z6W4a, z1W4a, map_nz_flat (f := (fun (x : Int × Int) => [(I x.1), (I x.2)])) (fun _ => rfl), takeFlat (fun (x : Int × Int) => [(I x.1), (I x.2)]) 2 (fun _ => rfl), takeFlat1 (fun (x : Int × Int) => [(I x.1), (I x.2)]) 2 (fun _ => rfl), takeFlatS (fun (x : Int × Int) => [(I x.1), (I x.2)]) 2 (fun _ => rfl), allValFlat (fun (x : Int × Int) => [(I x.1), (I x.2)]) (fun _ => rfl), flatMap_length 2 (fun (x : Int × Int) => [(I x.1), (I x.2)]) (fun _ => rfl)]); (repeat' (first | rfl | (refine list_congr ?_; simp only [List.length_take, List.length_drop, List.length_set, List.length_replicate] <;> omega) | (refine congr (congrArg List.cons ?_) ?_) | (refine congrArg D.agg ?_) | (refine congrArg D.tup ?_) | (refine congrArg D.ref ?_) | (refine congrArg (D.list _) ?_) | (refine congrArg (D.clo _) ?_))))); exact segFlatSnoc (fun (x : Int × Int) => [(I x.1), (I x.2)]) 2 (fun _ => rfl) _ _ _ rfl))
 · (first | exact trivial | exact okD_all rfl | (refine okAll_intro ?_; simp only [go_sem, sw2, List.length_set, List.length_replicate, and_true, true_and, Nat.le_refl, simprocAttr, okAll_segD7, z2W4a, z3W4a, z4W4a, z5W4a, z6W4a, z1W4a, map_nz_flat (f := (fun (x : Int × Int) => [(I x.1), (I x.2)])) (fun _ => rfl), takeFlat (fun (x : Int × Int) => [(I x.1), (I x.2)]) 2 (fun _ => rfl), takeFlat1 (fun (x : Int × Int) => [(I x.1), (I x.2)]) 2 (fun _ => rfl), takeFlatS (fun (x : Int × Int) => [(I x.1), (I x.2)]) 2 (fun _ => rfl), allValFlat (fun (x : Int × Int) => [(I x.1), (I x.2)]) (fun _ => rfl), flatMap_length 2 (fun (x : Int × Int) => [(I x.1), (I x.2)]) (fun _ => rfl)]; done) | (refine okAll_intro ?_; simp only [go_sem, sw2, List.length_set, List.length_replicate, and_true, true_and, Nat.le_refl, simprocAttr, okAll_segD7, z2W4a, z3W4a, z4W4a, z5W4a, z6W4a, z1W4a, map_nz_flat (f := (fun (x : Int × Int) => [(I x.1), (I x.2)])) (fun _ => rfl), takeFlat (fun (x : Int × Int) => [(I x.1), (I x.2)]) 2 (fun _ => rfl), takeFlat1 (fun (x : Int × Int) => [(I x.1), (I x.2)]) 2 (fun _ => rfl), takeFlatS (fun (x : Int × Int) => [(I x.1), (I x.2)]) 2 (fun _ => rfl), allValFlat (fun (x : Int × Int) => [(I x.1), (I x.2)]) (fun _ => rfl), flatMap_length 2 (fun (x : Int × Int) => [(I x.1), (I x.2)]) (fun _ => rfl)]; omega))
 · first | (exact .inr ⟨rfl, rfl⟩; done) | (simp only [cleanV, go_sem, okAll_segD7, z2W4a, z3W4a, z4W4a, z5W4a, z6W4a, z1W4a, map_nz_flat (f := (fun (x : Int × Int) => [(I x.1), (I x.2)])) (fun _ => rfl), takeFlat (fun (x : Int × Int) => [(I x.1), (I x.2)]) 2 (fun _ => rfl), takeFlat1 (fun (x : Int × Int) => [(I x.1), (I x.2)]) 2 (fun _ => rfl), takeFlatS (fun (x : Int × Int) => [(I x.1), (I x.2)]) 2 (fun _ => rfl), allValFlat (fun (x : Int × Int) => [(I x.1), (I x.2)]) (fun _ => rfl), flatMap_length 2 (fun (x : Int × Int) => [(I x.1), (I x.2)]) (fun _ => rfl)]; done) | (left; (simp only [go_sem, simprocAttr, sw0, okAll_segD7, z2W4a, z3W4a, z4W4a, z5W4a, z6W4a, z1W4a, map_nz_flat (f := (fun (x : Int × Int) => [(I x.1), (I x.2)])) (fun _ => rfl), takeFlat (fun (x : Int × Int) => [(I x.1), (I x.2)]) 2 (fun _ => rfl), takeFlat1 (fun (x : Int × Int) => [(I x.1), (I x.2)]) 2 (fun _ => rfl), takeFlatS (fun (x : Int × Int) => [(I x.1), (I x.2)]) 2 (fun _ => rfl), allValFlat (fun (x : Int × Int) => [(I x.1), (I x.2)]) (fun _ => rfl), flatMap_length 2 (fun (x : Int × Int) => [(I x.1), (I x.2)]) (fun _ => rfl)]); done) | (right; (simp only [go_sem, simprocAttr, sw0, okAll_segD7, z2W4a, z3W4a, z4W4a, z5W4a, z6W4a, z1W4a, map_nz_flat (f := (fun (x : Int × Int) => [(I x.1), (I x.2)])) (fun _ => rfl), takeFlat (fun (x : Int × Int) => [(I x.1), (I x.2)]) 2 (fun _ => rfl), takeFlat1 (fun (x : Int × Int) => [(I x.1), (I x.2)]) 2 (fun _ => rfl), takeFlatS (fun (x : Int × Int) => [(I x.1), (I x.2)]) 2 (fun _ => rfl), allValFlat (fun (x : Int × Int) => [(I x.1), (I x.2)]) (fun _ => rfl), flatMap_length 2 (fun (x : Int × Int) => [(I x.1), (I x.2)]) (fun _ => rfl)]); done)
 (simp only [go_sem, Nat.reduceLT])
 refine OW.run [7, 15, 123] ?_
 simp only [go_sem, simprocAttr, sw0]
 refine OW.nil (hK _ ?_); clear hK K
 refine PW.cond rfl (fun h21 => ?_) (fun h21 => ?_)
 replace H := br_t h21 H
 refine PW.seq ?_
 refine PW.regionK fun K hK => OW.run [6] ?_
 simp only [go_sem, simprocAttr, sw0]
 refine OW.nil (hK _ ?_); clear hK K
 refine PW.ret ?_
 change PW.Ends _ _ _ _ _ _
 refine PW.Ends.intro (.inr rfl) ?_
 simp only [go_sem, simprocAttr, sw0]
 obtain rfl := Option.some.inj H
 refine RetOK.data' 4 (by exact trivial) ?_
 rfl
 replace H := br_f h21 H
 refine PW.skip ?_
 refine PW.seq ?_
 obtain ⟨⟨x17, x171⟩, e17, H⟩ := bnd_some H
 refine PW.regionK fun K hK => OW.run [7, 16, 17] ?_
 simp only [go_sem, simprocAttr, sw0]
 refine OW.callF' 4 rfl rfl rfl (by first | exact rfl | ((simp only [go_sem, List.toList_toArray, simprocAttr]); exact rfl)) ?_ (plan_Holes_okf N _ _ _ _ _ _ _ e17) ?_ ?_ ?_
 · (first | ((first | rfl | (simp only [go_sem, sw1, simprocAttr, okAll_segD7, z2W4a, z3W4a, z4W4a, z5W4a, z6W4a, z1W4a, map_nz_flat (f := (fun (x : Int × Int) => [(I x.1), (I x.2)])) (fun _ => rfl), takeFlat (fun (x : Int × Int) => [(I x.1), (I x.2)]) 2 (fun _ => rfl), takeFlat1 (fun (x : Int × Int) => [(I x.1), (I x.2)]) 2 (fun _ => rfl), takeFlatS (fun (x : Int × Int) => [(I x.1), (I x.2)]) 2 (fun _ => rfl), allValFlat (fun (x : Int × Int) => [(I x.1), (I x.2)]) (fun _ => rfl), flatMap_length 2 (fun (x : Int × Int) => [(I x.1), (I x.2)]) (fun _ => rfl)]; done) | (simp only [go_sem, sw1, simprocAttr, okAll_segD7, z2W4a, z3W4a, z4W4a, z5W4a, z6W4a, z1W4a, map_nz_flat (f := (fun (x : Int × Int) => [(I x.1), (I x.2)])) (fun _ => rfl), takeFlat (fun (x : Int × Int) => [(I x.1), (I x.2)]) 2 (fun _ => rfl), takeFlat1 (fun (x : Int × Int) => [(I x.1), (I x.2)]) 2 (fun _ => rfl), takeFlatS (fun (x : Int × Int) => [(I x.1), (I x.2)]) 2 (fun _ => rfl), allValFlat (fun (x : Int × Int) => [(I x.1), (I x.2)]) (fun _ => rfl), flatMap_length 2 (fun (x : Int × Int) => [(I x.1), (I x.2)]) (fun _ => rfl)]; rfl) | (simp only [go_sem, sw1, simprocAttr, okAll_segD7, z2W4a, z3W4a, z4W4a, z5W4a, z6W4a, z1W4a, map_nz_flat (f := (fun (x : Int × Int) => [(I x.1), (I x.2)])) (fun _ => rfl), takeFlat (fun (x : Int × Int) => [(I x.1), (I x.2)]) 2 (fun _ => rfl), takeFlat1 (fun (x : Int × Int) => [(I x.1), (I x.2)]) 2 (fun _ => rfl), takeFlatS (fun (x : Int × Int) => [(I x.1), (I x.2)]) 2 (fun _ => rfl), allValFlat (fun (x : Int × Int) => [(I x.1), (I x.2)]) (fun _ => rfl), flatMap_length 2 (fun (x : Int × Int) => [(I x.1), (I x.2)]) (fun _ => rfl)]; simp only [seg, asD, go_sem, sw1, simprocAttr, okAll_segD7, z2W4a, z3W4a, z4W4a, z5W4a, z6W4a, z1W4a, map_nz_flat (f := (fun (x : Int × Int) => [(I x.1), (I x.2)])) (fun _ => rfl), takeFlat (fun (x : Int × Int) => [(I x.1), (I x.2)]) 2 (fun _ => rfl), takeFlat1 (fun (x : Int × Int) => [(I x.1), (I x.2)]) 2 (fun _ => rfl), takeFlatS (fun (x : Int × Int) => [(I x.1), (I x.2)]) 2 (fun _ => rfl), allValFlat (fun (x : Int × Int) => [(I x.1), (I x.2)]) (fun _ => rfl), flatMap_length 2 (fun (x : Int × Int) => [(I x.1), (I x.2)]) (fun _ => rfl)]; done) | (simp only [go_sem, sw1, simprocAttr, okAll_segD7, z2W4a, z3W4a, z4W4a, z5W4a, z6W4a, z1W4a, map_nz_flat (f := (fun (x : Int × Int) => [(I x.1), (I x.2)])) (fun _ => rfl), takeFlat (fun (x : Int × Int) => [(I x.1), (I x.2)]) 2 (fun _ => rfl), takeFlat1 (fun (x : Int × Int) => [(I x.1), (I x.2)]) 2 (fun _ => rfl), takeFlatS (fun (x : Int × Int) => [(I x.1), (I x.2)]) 2 (fun _ => rfl), allValFlat (fun (x : Int × Int) => [(I x.1), (I x.2)]) (fun _ => rfl), flatMap_length 2 (fun (x : Int × Int) => [(I x.1), (I x.2)]) (fun _ => rfl)]; simp only [seg, asD, go_sem, sw1, simprocAttr, okAll_segD7, z2W4a, z3W4a, z4W4a, z5W4a, z6W4a, z1W4a, map_nz_flat (f := (fun (x : Int × Int) => [(I x.1), (I x.2)])) (fun _ => rfl), takeFlat (fun (x : Int × Int) => [(I x.1), (I x.2)]) 2 (fun _ => rfl), takeFlat1 (fun (x : Int × Int) => [(I x.1), (I x.2)]) 2 (fun _ => rfl), takeFlatS (fun (x : Int × Int) => [(I x.1), (I x.2)]) 2 (fun _ => rfl), allValFlat (fun (x : Int × Int) => [(I x.1), (I x.2)]) (fun _ => rfl), flatMap_length 2 (fun (x : Int × Int) => [(I x.1), (I x.2)]) (fun _ => rfl)]; rfl) | ((try simp only [go_sem, sw1, simprocAttr, okAll_segD7, z2W4a, z3W4a, z4W4a, z5W4a, z6W4a, z1W4a, map_nz_flat (f := (fun (x : Int × Int) => [(I x.1), (I x.2)])) (fun _ => rfl), takeFlat (fun (x : Int × Int) => [(I x.1), (I x.2)]) 2 (fun _ => rfl), takeFlat1 (fun (x : Int × Int) => [(I x.1), (I x.2)]) 2 (fun _ => rfl), takeFlatS (fun (x : Int × Int) => [(I x.1), (I x.2)]) 2 (fun _ => rfl), allValFlat (fun (x : Int × Int) => [(I x.1), (I x.2)]) (fun _ => rfl), flatMap_length 2 (fun (x : Int × Int) => [(I x.1), (I x.2)]) (fun _ => rfl)]); (repeat' (first | rfl | (refine list_congr ?_; simp only [List.length_take, List.length_drop, List.length_set, List.length_replicate] <;> omega) | (refine congr (congrArg List.cons ?_) ?_) | (refine congrArg D.agg ?_) | (refine congrArg D.tup ?_) | (refine congrArg D.ref ?_) | (refine congrArg (D.list _) ?_) | (refine congrArg (D.clo _) ?_))))); done) | ((first | rfl | (simp only [go_sem, sw1, simprocAttr, okAll_segD7, z2W4a, z3W4a, z4W4a, z5W4a, z6W4a, z1W4a, map_nz_flat (f := (fun (x : Int × Int) => [(I x.1), (I x.2)])) (fun _ => rfl), takeFlat (fun (x : Int × Int) => [(I x.1), (I x.2)]) 2 (fun _ => rfl), takeFlat1 (fun (x : Int × Int) => [(I x.1), (I x.2)]) 2 (fun _ => rfl), takeFlatS (fun (x : Int × Int) => [(I x.1), (I x.2)]) 2 (fun _ => rfl), allValFlat (fun (x : Int × Int) => [(I x.1), (I x.2)]) (fun _ => rfl), flatMap_length 2 (fun (x : Int × Int) => [(I x.1), (I x.2)]) (fun _ => rfl)]; done) | (simp only [go_sem, sw1, simprocAttr, okAll_segD7, z2W4a, z3W4a, z4W4a, z5W4a, z6W4a, z1W4a, map_nz_flat (f := (fun (x : Int × Int) => [(I x.1), (I x.2)])) (fun _ => rfl), takeFlat (fun (x : Int × Int) => [(I x.1), (I x.2)]) 2 (fun _ => rfl), takeFlat1 (fun (x : Int × Int) => [(I x.1), (I x.2)]) 2 (fun _ => rfl), takeFlatS (fun (x : Int × Int) => [(I x.1), (I x.2)]) 2 (fun _ => rfl), allValFlat (fun (x : Int × Int) => [(I x.1), (I x.2)]) (fun _ => rfl), flatMap_length 2 (fun (x : Int × Int) => [(I x.1), (I x.2)]) (fun _ => rfl)]; rfl) | (simp only [go_sem, sw1, simprocAttr, okAll_segD7, z2W4a, z3W4a, z4W4a, z5W4a, z6W4a, z1W4a, map_nz_flat (f := (fun (x : Int × Int) => [(I x.1), (I x.2)])) (fun _ => rfl), takeFlat (fun (x : Int × Int) => [(I x.1), (I x.2)]) 2 (fun _ => rfl), takeFlat1 (fun (x : Int × Int) => [(I x.1), (I x.2)]) 2 (fun _ => rfl), takeFlatS (fun (x : Int × Int) => [(I x.1), (I x.2)]) 2 (fun _ => rfl), allValFlat (fun (x : Int × Int) => [(I x.1), (I x.2)]) (fun _ => rfl), flatMap_length 2 (fun (x : Int × Int) => [(I x.1), (I x.2)]) (fun _ => rfl)]; simp only [seg, asD, go_sem, sw1, simprocAttr, okAll_segD7, z2W4a, z3W4a, z4W4a, z5W4a, z6W4a, z1W4a, map_nz_flat (f := (fun (x : Int × Int) => [(I x.1), (I x.2)])) (fun _ => rfl), takeFlat (fun (x : Int × Int) => [(I x.1), (I x.2)]) 2 (fun _ => rfl), takeFlat1 (fun (x : Int × Int) => [(I x.1), (I x.2)]) 2 (fun _ => rfl), takeFlatS (fun (x : Int × Int) => [(I x.1), (I x.2)]) 2 (fun _ => rfl), allValFlat (fun (x : Int × Int) => [(I x.1), (I x.2)]) (fun _ => rfl), flatMap_length 2 (fun (x : Int × Int) => [(I x.1), (I x.2)]) (fun _ => rfl)]; done) | (simp only [go_sem, sw1, simprocAttr, okAll_segD7, z2W4a, z3W4a, z4W4a, z5W4a, z6W4a, z1W4a, map_nz_flat (f := (fun (x : Int × Int) => [(I x.1), (I x.2)])) (fun _ => rfl), takeFlat (fun (x : Int × Int) => [(I x.1), (I x.2)]) 2 (fun _ => rfl), takeFlat1 (fun (x : Int × Int) => [(I x.1), (I x.2)]) 2 (fun _ => rfl), takeFlatS (fun (x : Int × Int) => [(I x.1), (I x.2)]) 2 (fun _ => rfl), allValFlat (fun (x : Int × Int) => [(I x.1), (I x.2)]) (fun _ => rfl), flatMap_length 2 (fun (x : Int × Int) => [(I x.1), (I x.2)]) (fun _ => rfl)]; simp only [seg, asD, go_sem, sw1, simprocAttr, okAll_segD7, z2W4a, z3W4a, z4W4a, z5W4a, z6W4a, z1W4a, map_nz_flat (f := (fun (x : Int × Int) => [(I x.1), (I x.2)])) (fun _ => rfl), takeFlat (fun (x : Int × Int) => [(I x.1), (I x.2)]) 2 (fun _ => rfl), takeFlat1 (fun (x : Int × Int) => [(I x.1), (I x.2)]) 2 (fun _ => rfl), takeFlatS (fun (x : Int × Int) => [(I x.1), (I x.2)]) 2 (fun _ => rfl), allValFlat (fun (x : Int × Int) => [(I x.1), (I x.2)]) (fun _ => rfl), flatMap_length 2 (fun (x : Int × Int) => [(I x.1), (I x.2)]) (fun _ => rfl)]; rfl) | ((try simp only [go_sem, sw1, simprocAttr, okAll_segD7, z2W4a, z3W4a, z4W4a, z5W4a, z6W4a, z1W4a, map_nz_flat (f := (fun (x : Int × Int) => [(I x.1), (I x.2)])) (fun _ => rfl), takeFlat (fun (x : Int × Int) => [(I x.1), (I x.2)]) 2 (fun _ => rfl), takeFlat1 (fun (x : Int × Int) => [(I x.1), (I x.2)]) 2 (fun _ => rfl), takeFlatS (fun (x : Int × Int) => [(I x.1), (I x.2)]) 2 (fun _ => rfl), allValFlat (fun (x : Int × Int) => [(I x.1), (I x.2)]) (fun _ => rfl), flatMap_length 2 (fun (x : Int × Int) => [(I x.1), (I x.2)]) (fun _ => rfl)]); (repeat' (first | rfl | (refine list_congr ?_; simp only [List.length_take, List.length_drop, List.length_set, List.length_replicate] <;> omega) | (refine congr (congrArg List.cons ?_) ?_) | (refine congrArg D.agg ?_) | (refine congrArg D.tup ?_) | (refine congrArg D.ref ?_) | (refine congrArg (D.list _) ?_) | (refine congrArg (D.clo _) ?_))))); exact z7W4a _ _ _ rfl) | ((first | rfl | (simp only [go_sem, sw1, simprocAttr, okAll_segD7, z2W4a, z3W4a, z4W4a, z5W4a, z6W4a, z1W4a, map_nz_flat (f := (fun (x : Int × Int) => [(I x.1), (I x.2)])) (fun _ => rfl), takeFlat (fun (x : Int × Int) => [(I x.1), (I x.2)]) 2 (fun _ => rfl), takeFlat1 (fun (x : Int × Int) => [(I x.1), (I x.2)]) 2 (fun _ => rfl), takeFlatS (fun (x : Int × Int) => [(I x.1), (I x.2)]) 2 (fun _ => rfl), allValFlat (fun (x : Int × Int) => [(I x.1), (I x.2)]) (fun _ => rfl), flatMap_length 2 (fun (x : Int × Int) => [(I x.1), (I x.2)]) (fun _ => rfl)]; done) | (simp only [go_sem, sw1, simprocAttr, okAll_segD7, z2W4a, z3W4a, z4W4a, z5W4a, z6W4a, z1W4a, map_nz_flat (f := (fun (x : Int × Int) => [(I x.1), (I x.2)])) (fun _ => rfl), takeFlat (fun (x : Int × Int) => [(I x.1), (I x.2)]) 2 (fun _ => rfl), takeFlat1 (fun (x : Int × Int) => [(I x.1), (I x.2)]) 2 (fun _ => rfl), takeFlatS (fun (x : Int × Int) => [(I x.1), (I x.2)]) 2 (fun _ => rfl), allValFlat (fun (x : Int × Int) => [(I x.1), (I x.2)]) (fun _ => rfl), flatMap_length 2 (fun (x : Int × Int) => [(I x.1), (I x.2)]) (fun _ => rfl)]; rfl) | (simp only [go_sem, sw1, simprocAttr, okAll_segD7, z2W4a, z3W4a, z4W4a, z5W4a, z6W4a, z1W4a, map_nz_flat (f := (fun (x : Int × Int) => [(I x.1), (I x.2)])) (fun _ => rfl), takeFlat (fun (x : Int × Int) => [(I x.1), (I x.2)]) 2 (fun _ => rfl), takeFlat1 (fun (x : Int × Int) => [(I x.1), (I x.2)]) 2 (fun _ => rfl), takeFlatS (fun (x : Int × Int) => [(I x.1), (I x.2)]) 2 (fun _ => rfl), allValFlat (fun (x : Int × Int) => [(I x.1), (I x.2)]) (fun _ => rfl), flatMap_length 2 (fun (x : Int × Int) => [(I x.1), (I x.2)]) (fun _ => rfl)]; simp only [seg, asD, go_sem, sw1, simprocAttr, okAll_segD7, z2W4a, z3W4a, z4W4a, z5W4a, z6W4a, z1W4a, map_nz_flat (f := (fun (x : Int × Int) => [(I x.1), (I x.2)])) (fun _ => rfl), takeFlat (fun (x : Int × Int) => [(I x.1), (I x.2)]) 2 (fun _ => rfl), takeFlat1 (fun (x : Int × Int) => [(I x.1), (I x.2)]) 2 (fun _ => rfl), takeFlatS (fun (x : Int × Int) => [(I x.1), (I x.2)]) 2 (fun _ => rfl), allValFlat (fun (x : Int × Int) => [(I x.1), (I x.2)]) (fun _ => rfl), flatMap_length 2 (fun (x : Int × Int) => [(I x.1), (I x.2)]) (fun _ => rfl)]; done) | (simp only [go_sem, sw1, simprocAttr, okAll_segD7, z2W4a, z3W4a, z4W4a, z5W4a, z6W4a, z1W4a, map_nz_flat (f := (fun (x : Int × Int) => [(I x.1), (I x.2)])) (fun _ => rfl), takeFlat (fun (x : Int × Int) => [(I x.1), (I x.2)]) 2 (fun _ => rfl), takeFlat1 (fun (x : Int × Int) => [(I x.1), (I x.2)]) 2 (fun _ => rfl), takeFlatS (fun (x : Int × Int) => [(I x.1), (I x.2)]) 2 (fun _ => rfl), allValFlat (fun (x : Int × Int) => [(I x.1), (I x.2)]) (fun _ => rfl), flatMap_length 2 (fun (x : Int × Int) => [(I x.1), (I x.2)]) (fun _ => rfl)]; simp only [seg, asD, go_sem, sw1, simprocAttr, okAll_segD7, z2W4a, z3W4a, z4W4a, z5W4a, z6W4a, z1W4a, map_nz_flat (f := (fun (x : Int × Int) => [(I x.1), (I x.2)])) (fun _ => rfl), takeFlat (fun (x : Int × Int) => [(I x.1), (I x.2)]) 2 (fun _ => rfl), takeFlat1 (fun (x : Int × Int) => [(I x.1), (I x.2)]) 2 (fun _ => rfl), takeFlatS (fun (x : Int × Int) => [(I x.1), (I x.2)]) 2 (fun _ => rfl), allValFlat (fun (x : Int × Int) => [(I x.1), (I x.2)]) (fun _ => rfl), flatMap_length 2 (fun (x : Int × Int) => [(I x.1), (I x.2)]) (fun _ => rfl)]; rfl) | ((try simp only [go_sem, sw1, simprocAttr, okAll_segD7, z2W4a, z3W4a, z4W4a, z5W4a, z6W4a, z1W4a, map_nz_flat (f := (fun (x : Int × Int) => [(I x.1), (I x.2)])) (fun _ => rfl), takeFlat (fun (x : Int × Int) => [(I x.1), (I x.2)]) 2 (fun _ => rfl), takeFlat1 (fun (x : Int × Int) => [(I x.1), (I x.2)]) 2 (fun _ => rfl), takeFlatS (fun (x : Int × Int) => [(I x.1), (I x.2)]) 2 (fun _ => rfl), allValFlat (fun (x : Int × Int) => [(I x.1), (I x.2)]) (fun _ => rfl), flatMap_length 2 (fun (x : Int × Int) => [(I x.1), (I x.2)]) (fun _ => rfl)]); (repeat' (first | rfl | (refine list_congr ?_; simp only [List.length_take, List.length_drop, List.length_set, List.length_replicate] <;> omega) | (refine congr (congrArg List.cons ?_) ?_) | (refine congrArg D.agg ?_) | (refine congrArg D.tup ?_) | (refine congrArg D.ref ?_) | (refine congrArg (D.list _) ?_) | (refine congrArg (D.clo _) ?_))))); exact segFlatSnoc (fun (x : Int × Int) => [(I x.1), (I x.2)]) 2 (fun _ => rfl) _ _ _ rfl))
 · (first | exact trivial | exact okD_all rfl | (refine okAll_intro ?_; simp only [go_sem, sw2, List.length_set, List.length_replicate, and_true, true_and, Nat.le_refl, simprocAttr, okAll_segD7, z2W4a, z3W4a, z4W4a, z5W4a, z6W4a, z1W4a, map_nz_flat (f := (fun (x : Int × Int) => [(I x.1), (I x.2)])) (fun _ => rfl), takeFlat (fun (x : Int × Int) => [(I x.1), (I x.2)]) 2 (fun _ => rfl), takeFlat1 (fun (x : Int × Int) => [(I x.1), (I x.2)]) 2 (fun _ => rfl), takeFlatS (fun (x : Int × Int) => [(I x.1), (I x.2)]) 2 (fun _ => rfl), allValFlat (fun (x : Int × Int) => [(I x.1), (I x.2)]) (fun _ => rfl), flatMap_length 2 (fun (x : Int × Int) => [(I x.1), (I x.2)]) (fun _ => rfl)]; done) | (refine okAll_intro ?_; simp only [go_sem, sw2, List.length_set, List.length_replicate, and_true, true_and, Nat.le_refl, simprocAttr, okAll_segD7, z2W4a, z3W4a, z4W4a, z5W4a, z6W4a, z1W4a, map_nz_flat (f := (fun (x : Int × Int) => [(I x.1), (I x.2)])) (fun _ => rfl), takeFlat (fun (x : Int × Int) => [(I x.1), (I x.2)]) 2 (fun _ => rfl), takeFlat1 (fun (x : Int × Int) => [(I x.1), (I x.2)]) 2 (fun _ => rfl), takeFlatS (fun (x : Int × Int) => [(I x.1), (I x.2)]) 2 (fun _ => rfl), allValFlat (fun (x : Int × Int) => [(I x.1), (I x.2)]) (fun _ => rfl), flatMap_length 2 (fun (x : Int × Int) => [(I x.1), (I x.2)]) (fun _ => rfl)]; omega))
 (simp only [go_sem, Nat.reduceLT])
 refine OW.run [7, 16, 17] ?_
 simp only [go_sem, simprocAttr, sw0]
 refine OW.nil (hK _ ?_); clear hK K
 refine PW.seq ?_
 obtain ⟨x18, e18, H⟩ := bnd_some H
 refine PW.regionK fun K hK => OW.run [6] ?_
 simp only [go_sem, simprocAttr, sw0]
 refine OW.callG' 4 rfl rfl ?_ (fun hg => by first | rfl | (simp only [go_sem, ↓reduceIte]; rfl)) (fun hg => by ((simp only [go_sem, List.toList_toArray, simprocAttr]); exact rfl)) (fun hg => ?_) (fun hg => (law09_subset_ok N _ _ _ (grd_t hg e18))) ?_ ?_ ?_ ?_
 simp only [go_sem, simprocAttr]
 rfl
 exact okD_all rfl
 exact .inl rfl
 (simp only [go_sem, Nat.reduceLT])
 refine OW.run [6] ?_
 simp only [go_sem, simprocAttr, sw0]
 refine OW.nil (hK _ ?_); clear hK K
 refine PW.ret ?_
 change PW.Ends _ _ _ _ _ _
 refine PW.Ends.intro (.inr rfl) ?_
 simp only [go_sem, simprocAttr, sw0]
 obtain rfl := Option.some.inj H
 refine RetOK.data' 4 (by exact trivial) ?_
 rfl
end Go.Proofs.Ytklejiafioalnaa
