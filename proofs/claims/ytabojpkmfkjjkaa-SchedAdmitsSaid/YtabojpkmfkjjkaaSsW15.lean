import Derived.Test.YtabojpkmfkjjkaaSsBase
import Derived.Test.YtabojpkmfkjjkaaSsW4
import Derived.Test.YtabojpkmfkjjkaaSsW5
set_option linter.all false
namespace Go.Proofs.Ytabojpkmfkjjkaa
open Go.PW Go.Sh

set_option maxRecDepth 20000
set_option maxHeartbeats 8000000
def z0W15a := allOne_flatF (fun (x : ByteArray × Int × Int × Int × Int × Int × Int × Int × Int) => [(Sx x.1), (I x.2.1), (I x.2.2.1), (I x.2.2.2.1), (I x.2.2.2.2.1), (I x.2.2.2.2.2.1), (I x.2.2.2.2.2.2.1), (I x.2.2.2.2.2.2.2.1), (I x.2.2.2.2.2.2.2.2)]) (fun _ => rfl)
def z1W15a := flatMap_length 9 (fun (x : ByteArray × Int × Int × Int × Int × Int × Int × Int × Int) => [(Sx x.1), (I x.2.1), (I x.2.2.1), (I x.2.2.2.1), (I x.2.2.2.2.1), (I x.2.2.2.2.2.1), (I x.2.2.2.2.2.2.1), (I x.2.2.2.2.2.2.2.1), (I x.2.2.2.2.2.2.2.2)]) (fun _ => rfl)
def z2W15a := list_snocF (fun (x : ByteArray × Int × Int × Int × Int × Int × Int × Int × Int) => [(Sx x.1), (I x.2.1), (I x.2.2.1), (I x.2.2.2.1), (I x.2.2.2.2.1), (I x.2.2.2.2.2.1), (I x.2.2.2.2.2.2.1), (I x.2.2.2.2.2.2.2.1), (I x.2.2.2.2.2.2.2.2)]) 9 (fun _ => rfl)
def z3W15a := list_appF (fun (x : ByteArray × Int × Int × Int × Int × Int × Int × Int × Int) => [(Sx x.1), (I x.2.1), (I x.2.2.1), (I x.2.2.2.1), (I x.2.2.2.2.1), (I x.2.2.2.2.2.1), (I x.2.2.2.2.2.2.1), (I x.2.2.2.2.2.2.2.1), (I x.2.2.2.2.2.2.2.2)]) 9 (fun _ => rfl)
def z4W15a := map_nz_flat (f := (fun (x : ByteArray × Int × Int × Int × Int × Int × Int × Int × Int) => [(Sx x.1), (I x.2.1), (I x.2.2.1), (I x.2.2.2.1), (I x.2.2.2.2.1), (I x.2.2.2.2.2.1), (I x.2.2.2.2.2.2.1), (I x.2.2.2.2.2.2.2.1), (I x.2.2.2.2.2.2.2.2)])) (fun _ => rfl)
def z5W15a := seg_flat 9 (fun (x : ByteArray × Int × Int × Int × Int × Int × Int × Int × Int) => [(Sx x.1), (I x.2.1), (I x.2.2.1), (I x.2.2.2.1), (I x.2.2.2.2.1), (I x.2.2.2.2.2.1), (I x.2.2.2.2.2.2.1), (I x.2.2.2.2.2.2.2.1), (I x.2.2.2.2.2.2.2.2)]) (fun _ => rfl)
def z6W15a := takeFlat (fun (x : ByteArray × Int × Int × Int × Int × Int × Int × Int × Int) => [(Sx x.1), (I x.2.1), (I x.2.2.1), (I x.2.2.2.1), (I x.2.2.2.2.1), (I x.2.2.2.2.2.1), (I x.2.2.2.2.2.2.1), (I x.2.2.2.2.2.2.2.1), (I x.2.2.2.2.2.2.2.2)]) 9 (fun _ => rfl)
def z7W15a := takeFlat1 (fun (x : ByteArray × Int × Int × Int × Int × Int × Int × Int × Int) => [(Sx x.1), (I x.2.1), (I x.2.2.1), (I x.2.2.2.1), (I x.2.2.2.2.1), (I x.2.2.2.2.2.1), (I x.2.2.2.2.2.2.1), (I x.2.2.2.2.2.2.2.1), (I x.2.2.2.2.2.2.2.2)]) 9 (fun _ => rfl)
def z8W15a := takeFlatS (fun (x : ByteArray × Int × Int × Int × Int × Int × Int × Int × Int) => [(Sx x.1), (I x.2.1), (I x.2.2.1), (I x.2.2.2.1), (I x.2.2.2.2.1), (I x.2.2.2.2.2.1), (I x.2.2.2.2.2.2.1), (I x.2.2.2.2.2.2.2.1), (I x.2.2.2.2.2.2.2.2)]) 9 (fun _ => rfl)
def z9W15a := allValFlat (fun (x : ByteArray × Int × Int × Int × Int × Int × Int × Int × Int) => [(Sx x.1), (I x.2.1), (I x.2.2.1), (I x.2.2.2.1), (I x.2.2.2.2.1), (I x.2.2.2.2.2.1), (I x.2.2.2.2.2.2.1), (I x.2.2.2.2.2.2.2.1), (I x.2.2.2.2.2.2.2.2)]) (fun _ => rfl)
def z10W15a := segFlatSnoc (fun (x : ByteArray × Int × Int × Int × Int × Int × Int × Int × Int) => [(Sx x.1), (I x.2.1), (I x.2.2.1), (I x.2.2.2.1), (I x.2.2.2.2.1), (I x.2.2.2.2.2.1), (I x.2.2.2.2.2.2.1), (I x.2.2.2.2.2.2.2.1), (I x.2.2.2.2.2.2.2.2)]) 9 (fun _ => rfl)
def z11W15a := sub_el 9 (fun (x : ByteArray × Int × Int × Int × Int × Int × Int × Int × Int) => [(Sx x.1), (I x.2.1), (I x.2.2.1), (I x.2.2.2.1), (I x.2.2.2.2.1), (I x.2.2.2.2.2.1), (I x.2.2.2.2.2.2.1), (I x.2.2.2.2.2.2.2.1), (I x.2.2.2.2.2.2.2.2)]) (fun _ => rfl)
def z12W15a := take_flatMap 9 (fun (x : ByteArray × Int × Int × Int × Int × Int × Int × Int × Int) => [(Sx x.1), (I x.2.1), (I x.2.2.1), (I x.2.2.2.1), (I x.2.2.2.2.1), (I x.2.2.2.2.2.1), (I x.2.2.2.2.2.2.1), (I x.2.2.2.2.2.2.2.1), (I x.2.2.2.2.2.2.2.2)]) (fun _ => rfl)
def z13W15a := drop_flatMap 9 (fun (x : ByteArray × Int × Int × Int × Int × Int × Int × Int × Int) => [(Sx x.1), (I x.2.1), (I x.2.2.1), (I x.2.2.2.1), (I x.2.2.2.2.1), (I x.2.2.2.2.2.1), (I x.2.2.2.2.2.2.1), (I x.2.2.2.2.2.2.2.1), (I x.2.2.2.2.2.2.2.2)]) (fun _ => rfl)
theorem ref06_Admit_ok (N : Nat) (Zq : Int) (Zr : Int) (Zs : Int) (Zx : List Int) (l : List TB) (Z1e : ByteArray) (Z1c : Int) (Z1h : Int) (Z1j : Int) (Z1g : Int) (Z1d : Int) (Z19 : Int) (Z1i : Int) (Z1a : Int) (r : (List TB) × List ByteArray × Int) (H : ref06_Admit N Zq Zr Zs Zx l Z1e Z1c Z1h Z1j Z1g Z1d Z19 Z1i Z1a = some r) : CallOK Try.prog 24 [(.agg [(I Zq), (I Zr), (I Zs), (L Zx)]), (.list l.length (l.flatMap (fun (x : ByteArray × Int × Int × Int × Int × Int × Int × Int × Int) => [(Sx x.1), (I x.2.1), (I x.2.2.1), (I x.2.2.2.1), (I x.2.2.2.2.1), (I x.2.2.2.2.2.1), (I x.2.2.2.2.2.2.1), (I x.2.2.2.2.2.2.2.1), (I x.2.2.2.2.2.2.2.2)]))), (.agg [(Sx Z1e), (I Z1c), (I Z1h), (I Z1j), (I Z1g), (I Z1d), (I Z19), (I Z1i), (I Z1a)])] (.d (.tup [(.agg [(.list r.1.length (r.1.flatMap (fun (x : ByteArray × Int × Int × Int × Int × Int × Int × Int × Int) => [(Sx x.1), (I x.2.1), (I x.2.2.1), (I x.2.2.2.1), (I x.2.2.2.2.1), (I x.2.2.2.2.2.1), (I x.2.2.2.2.2.2.1), (I x.2.2.2.2.2.2.2.1), (I x.2.2.2.2.2.2.2.2)]))), (.list r.2.1.length (r.2.1.map Sx))]), (I r.2.2)])) [] := by
 refine CallOK.of_PW Try.func24 rfl (by rw [Try.results24]) Try.ntmps24 Try.call24 ?_
 change PW _ _ _ _ _
 try simp only [go_sem, simprocAttr]
 unfold ref06_Admit at H
 refine PW.seq ?_
 refine PW.regionK fun K hK => OW.run [1, 3, 5, 6] ?_
 simp only [go_sem, simprocAttr, sw0]
 refine OW.nil (hK _ ?_)
 refine PW.seq ?_
 refine PW.seq ?_
 obtain ⟨x1, e1, H⟩ := bnd_some H
 refine PW.regionK fun K hK => OW.run [1, 3, 5, 6, 16] ?_
 simp only [go_sem, simprocAttr, sw0]
 repeat (refine And.intro (by omega) ?_)
 refine OW.call' 4 rfl rfl rfl (by ((simp only [go_sem, List.toList_toArray, simprocAttr]); exact rfl)) ?_ (ref06_find_ok N _ _ _ e1) ?_ ?_ ?_ ?_
 rfl
 exact okD_all rfl
 exact .inl rfl
 (simp only [go_sem, Nat.reduceLT])
 refine OW.run [1, 3, 5, 6, 16] ?_
 simp only [go_sem, simprocAttr, sw0]
 refine OW.nil (hK _ ?_)
 refine PW.cond rfl (fun h1 => ?_) (fun h1 => ?_)
 replace H := br_t h1 H
 refine PW.seq ?_
 refine PW.regionK fun K hK => OW.run [6, 7] ?_
 simp only [go_sem, simprocAttr, sw0]
 refine OW.nil (hK _ ?_)
 refine PW.ret ?_
 change PW.Ends _ _ _ _ _ _
 refine PW.Ends.intro (.inr rfl) ?_
 simp only [go_sem, simprocAttr, sw0]
 obtain rfl := Option.some.inj H
 refine RetOK.data' 4 (by (refine okAll_intro ?_; (simp only [go_sem, sw2, List.length_set, List.length_replicate, and_true, true_and, Nat.le_refl, simprocAttr]; done))) ?_
 rfl
 replace H := br_f h1 H
 refine PW.skip ?_
 refine PW.seq ?_
 refine PW.seq ?_
 obtain ⟨x2, e2, H⟩ := bnd_some H
 refine PW.regionK fun K hK => OW.run [1, 3, 5, 6, 22] ?_
 simp only [go_sem, simprocAttr, sw0]
 refine OW.call' 4 rfl rfl rfl (by ((simp only [go_sem, List.toList_toArray, simprocAttr]); exact rfl)) ?_ (ref06_Fit_ok N _ _ _ _ _ _ e2) ?_ ?_ ?_ ?_
 rfl
 · (refine okAll_intro ?_; (simp only [go_sem, sw2, List.length_set, List.length_replicate, and_true, true_and, Nat.le_refl, simprocAttr]; simp only [seg, go_sem, sw2, List.length_set, List.length_replicate, and_true, true_and, Nat.le_refl, simprocAttr]; done))
 exact .inr ⟨rfl, rfl⟩
 (simp only [go_sem, Nat.reduceLT])
 refine OW.run [1, 3, 5, 6, 22] ?_
 simp only [go_sem, simprocAttr, sw0]
 refine OW.nil (hK _ ?_)
 refine PW.cond rfl (fun h2 => ?_) (fun h2 => ?_)
 replace H := br_t h2 H
 refine PW.seq ?_
 refine PW.regionK fun K hK => OW.run [6, 7] ?_
 simp only [go_sem, simprocAttr, sw0]
 refine OW.nil (hK _ ?_)
 refine PW.ret ?_
 change PW.Ends _ _ _ _ _ _
 refine PW.Ends.intro (.inr rfl) ?_
 simp only [go_sem, simprocAttr, sw0]
 obtain rfl := Option.some.inj H
 refine RetOK.data' 4 (by (refine okAll_intro ?_; (simp only [go_sem, sw2, List.length_set, List.length_replicate, and_true, true_and, Nat.le_refl, simprocAttr]; done))) ?_
 rfl
 ·
  replace H := br_f h2 H
  refine PW.skip ?_
  refine PW.seq ?_
  obtain ⟨c3, H⟩ := chk_some H
  refine PW.regionK fun K hK => OW.run [3, 5, 6, 8] ?_
  (simp only [go_sem, simprocAttr, sw0, z0W15a, z1W15a])
  repeat (refine And.intro (by omega) ?_)
  refine OW.frz 4 (by exact Nat.zero_le _) (by exact allD_mapV _) ?_
  simp only [map_nz_I, map_nz_Bo, map_nz_Sx, map_nz_L, nz_int, nz_bool, nz_str, nz_list, nz_ref, nz_nil, go_sem, simprocAttr]
  try simp only [z2W15a, z3W15a, z4W15a, z5W15a]
  refine OW.nil (hK _ ?_)
  refine PW.block ?_
  refine PW.virtC 5 1 9 1 _ rfl rfl ?_
  try simp only [go_sem, simprocAttr]
  refine PW.loopS (σ := (List TB) × List ByteArray) [3, 5, 6, 8] 7 (fun (b5, b6) => []) (fun (b5, b6) => [{ cells := [.d (I Zq), .d (I Zr), .d (I Zs), .d (L Zx)], e := 24 }, { cells := [.d (Sx Z1e), .d (I Z1c), .d (I Z1h), .d (I Z1j), .d (I Z1g), .d (I Z1d), .d (I Z19), .d (I Z1i), .d (I Z1a)], e := 27 }, { cells := [.d (.val (.slice none 0 0)), .d (.val (.slice none 0 0))], e := 32 }, { cells := [.d (Sx Z1e), .d (I Z1c), .d (I Z1h), .d (I Z1j), .d (I Z1g), .d (I Z1d), .d (I Z19), .d (I Z1i), .d (I Z1a)], e := 27 }, { cells := [], e := 27 }, { cells := [.d (.list b5.length (b5.flatMap (fun (x : ByteArray × Int × Int × Int × Int × Int × Int × Int × Int) => [(Sx x.1), (I x.2.1), (I x.2.2.1), (I x.2.2.2.1), (I x.2.2.2.2.1), (I x.2.2.2.2.2.1), (I x.2.2.2.2.2.2.1), (I x.2.2.2.2.2.2.2.1), (I x.2.2.2.2.2.2.2.2)]))), .own 6 0 b6.length 1], e := 32 }, { cells := (b6.map Sx).map .d, e := 9 }]) (ref06_Admit.b1 N Zq Zr Zs Zx Z1e Z1c Z1h Z1j Z1g Z1d Z19 Z1i Z1a) r N (l, ([] : List ByteArray)) (by exact Nat.zero_le _) H (by (simp only [sw1, go_sem, simprocAttr]; done)) ?_
  rintro n ⟨b5, b6⟩ H N4 hN4
  unfold ref06_Admit.b1 at H
  try simp only [go_sem, simprocAttr]
  refine PW.block ?_
  refine PW.seq ?_
  obtain ⟨c5, H⟩ := chk_some H
  obtain ⟨c6, H⟩ := chk_some H
  have c6q := c6
  simp only [List.length_cons, List.length_nil] at c6q
  refine PW.drawX 6 [0, 3] (fun j => List.getD [[{ cells := [.d (I Zq), .d (I Zr), .d (I Zs), .d (L Zx)], e := 24 }, { cells := [.d (Sx Z1e), .d (I Z1c), .d (I Z1h), .d (I Z1j), .d (I Z1g), .d (I Z1d), .d (I Z19), .d (I Z1i), .d (I Z1a)], e := 27 }, { cells := [.d (.val (.slice none 0 0)), .d (.val (.slice none 0 0))], e := 32 }, { cells := [.d (Sx Z1e), .d (I Z1c), .d (I Z1h), .d (I Z1j), .d (I Z1g), .d (I Z1d), .d (I Z19), .d (I Z1i), .d (I Z1a)], e := 27 }, { cells := [], e := 27 }, { cells := [.d (.list b5.length (b5.flatMap (fun (x : ByteArray × Int × Int × Int × Int × Int × Int × Int × Int) => [(Sx x.1), (I x.2.1), (I x.2.2.1), (I x.2.2.2.1), (I x.2.2.2.2.1), (I x.2.2.2.2.2.1), (I x.2.2.2.2.2.2.1), (I x.2.2.2.2.2.2.2.1), (I x.2.2.2.2.2.2.2.2)]))), .own 6 0 b6.length 1], e := 32 }, { cells := (b6.map Sx).map .d, e := 9 }], [{ cells := [.d (I Zq), .d (I Zr), .d (I Zs), .d (L Zx)], e := 24 }, { cells := [.d (Sx Z1e), .d (I Z1c), .d (I Z1h), .d (I Z1j), .d (I Z1g), .d (I Z1d), .d (I Z19), .d (I Z1i), .d (I Z1a)], e := 27 }, { cells := [.d (.val (.slice none 0 0)), .d (.val (.slice none 0 0))], e := 32 }, { cells := [.d (Sx Z1e), .d (I Z1c), .d (I Z1h), .d (I Z1j), .d (I Z1g), .d (I Z1d), .d (I Z19), .d (I Z1i), .d (I Z1a)], e := 27 }, { cells := [], e := 27 }, { cells := [.d (.list b5.length (b5.flatMap (fun (x : ByteArray × Int × Int × Int × Int × Int × Int × Int × Int) => [(Sx x.1), (I x.2.1), (I x.2.2.1), (I x.2.2.2.1), (I x.2.2.2.2.1), (I x.2.2.2.2.2.1), (I x.2.2.2.2.2.2.1), (I x.2.2.2.2.2.2.2.1), (I x.2.2.2.2.2.2.2.2)]))), .own 6 0 b6.length 1], e := 32 }, { cells := (b6.map Sx).map .d, e := 9 }, { cells := [], e := 27 }], [{ cells := [.d (I Zq), .d (I Zr), .d (I Zs), .d (L Zx)], e := 24 }, { cells := [.d (Sx Z1e), .d (I Z1c), .d (I Z1h), .d (I Z1j), .d (I Z1g), .d (I Z1d), .d (I Z19), .d (I Z1i), .d (I Z1a)], e := 27 }, { cells := [.d (.val (.slice none 0 0)), .d (.val (.slice none 0 0))], e := 32 }, { cells := [.d (Sx Z1e), .d (I Z1c), .d (I Z1h), .d (I Z1j), .d (I Z1g), .d (I Z1d), .d (I Z19), .d (I Z1i), .d (I Z1a)], e := 27 }, { cells := [], e := 27 }, { cells := [.d (.list b5.length (b5.flatMap (fun (x : ByteArray × Int × Int × Int × Int × Int × Int × Int × Int) => [(Sx x.1), (I x.2.1), (I x.2.2.1), (I x.2.2.2.1), (I x.2.2.2.2.1), (I x.2.2.2.2.2.1), (I x.2.2.2.2.2.2.1), (I x.2.2.2.2.2.2.2.1), (I x.2.2.2.2.2.2.2.2)]))), .own 6 0 b6.length 1], e := 32 }, { cells := (b6.map Sx).map .d, e := 9 }, { cells := (b5.flatMap (fun (x : ByteArray × Int × Int × Int × Int × Int × Int × Int × Int) => [(Sx x.1), (I x.2.1), (I x.2.2.1), (I x.2.2.2.1), (I x.2.2.2.2.1), (I x.2.2.2.2.2.1), (I x.2.2.2.2.2.2.1), (I x.2.2.2.2.2.2.2.1), (I x.2.2.2.2.2.2.2.2)])).map .d, e := 27 }]] j []) (κL [(1, 7)]) mixed (by kernel_rfl) (by decide) (by ((refine ⟨by decide, ?_⟩; intro k i i' h1 h2 o ho; match k, h1, h2 with | 0, h1, h2 => (simp at h1 h2 <;> first | (cases h2; done) | (subst h1; subst h2; simp at ho; subst ho; simp [Region.binds]; done)) | 1, h1, h2 => (simp at h1 h2 <;> first | (cases h2; done) | (subst h1; subst h2; simp at ho; subst ho; simp [Region.binds]; done)) | 2, h1, h2 => (simp at h1 h2 <;> first | (cases h2; done) | (subst h1; subst h2; simp at ho; subst ho; simp [Region.binds]; done)) | k + 3, h1, h2 => (simp at h2; done)))) (κL_dead _) (by decide) (freshL rfl) (by first | rfl | (simp only [List.getD_cons_zero, List.map_append, List.map_cons, List.map_nil, List.length_append, List.length_cons, List.length_nil, Nat.zero_add])) rfl fun K hK => ?_
  change FWX _ _ _ _ _ _ _ _ _ _
  refine FWX.build (q := 0) (by decide) rfl rfl rfl rfl (Nat.le_of_ble_eq_true rfl) (fun _ => rfl) (.own 7 0 0 9) ?_ ?_ ?_
  · first | trivial | ((simp only [go_sem, simprocAttr, sw0, z0W15a, z1W15a]); done) | ((simp only [go_sem, simprocAttr, sw0, z0W15a, z1W15a]); first | (first | omega | assumption | rfl | decide | (simp only [List.length_map, List.length_replicate, List.length_append, List.length_take, List.length_drop, List.length_set, List.length_cons, List.length_nil, Nat.zero_add, Int.toNat_natCast] at *; omega) | (simp only [List.length_map, List.length_replicate, List.length_append, List.length_take, List.length_drop, List.length_set, List.length_cons, List.length_nil, Nat.zero_add, Int.toNat_natCast]; done) | trivial) | (repeat (refine And.intro (by (first | omega | assumption | rfl | decide | (simp only [List.length_map, List.length_replicate, List.length_append, List.length_take, List.length_drop, List.length_set, List.length_cons, List.length_nil, Nat.zero_add, Int.toNat_natCast] at *; omega) | (simp only [List.length_map, List.length_replicate, List.length_append, List.length_take, List.length_drop, List.length_set, List.length_cons, List.length_nil, Nat.zero_add, Int.toNat_natCast]; done) | trivial)) ?_); (first | omega | assumption | rfl | decide | (simp only [List.length_map, List.length_replicate, List.length_append, List.length_take, List.length_drop, List.length_set, List.length_cons, List.length_nil, Nat.zero_add, Int.toNat_natCast] at *; omega) | (simp only [List.length_map, List.length_replicate, List.length_append, List.length_take, List.length_drop, List.length_set, List.length_cons, List.length_nil, Nat.zero_add, Int.toNat_natCast]; done) | trivial)))
  · first | rfl | ((simp only [go_sem, simprocAttr, sw0, z0W15a, z1W15a]); done) | ((simp only [go_sem, simprocAttr, sw0, z0W15a, z1W15a]); rfl) | ((simp only [go_sem, simprocAttr, sw0, z0W15a, z1W15a]); simp only [List.append_assoc, List.cons_append, List.nil_append]; done) | ((simp only [go_sem, simprocAttr, sw0, z0W15a, z1W15a]); simp only [List.flatMap_append, List.map_append]; done) | ((simp only [go_sem, simprocAttr, sw0, z0W15a, z1W15a]); simp only [List.flatMap_append, List.map_append]; rfl)
  try simp only [go_sem, simprocAttr]
  refine FWX.op (by decide) rfl (.ptr 5 0) 0 2 (.inl rfl) (.inl rfl) ?_ ?_ (by (simp only [go_sem, Nat.reduceLT])) ?_
  ·
   intro j hj1 hj2
   have hj : j = 0 ∨ j = 1 ∨ j = 2 := by omega
   rcases hj with rfl | rfl | rfl
   all_goals (refine ⟨?_, ?_⟩)
   all_goals (first | rfl | trivial | ((simp only [go_sem, simprocAttr, sw0, z0W15a, z1W15a]); first | done | rfl | omega | assumption | decide | (simp only [List.append_assoc, List.cons_append, List.nil_append]; done) | (simp only [List.flatMap_append, List.map_append]; first | done | rfl) | ((repeat (refine And.intro (by first | rfl | omega | assumption | decide) ?_)); first | rfl | omega | assumption | decide)))
  refine KeptX.free [28, 31] (by first | rfl | (simp only [V.kill]; exact if_neg (by omega))) ?_ (by kernel_rfl) ?_
  · repeat (first | exact fun _ h => absurd h List.not_mem_nil | (refine List.forall_mem_cons.2 (And.intro ?_ ?_); · first | exact .inr rfl | (left; simp; done) | (right; simp only [V.kill, ↓reduceIte]; first | rfl | exact if_neg (by omega) | (simp only [V.kill, V.kill.kills, ↓reduceIte]; done))))
  exact KeptX.nil
  try simp only [go_sem, simprocAttr]
  refine FWX.op (by decide) rfl (.d (.list b5.length (b5.flatMap (fun (x : ByteArray × Int × Int × Int × Int × Int × Int × Int × Int) => [(Sx x.1), (I x.2.1), (I x.2.2.1), (I x.2.2.2.1), (I x.2.2.2.2.1), (I x.2.2.2.2.2.1), (I x.2.2.2.2.2.2.1), (I x.2.2.2.2.2.2.2.1), (I x.2.2.2.2.2.2.2.2)])))) 0 1 (.inl rfl) (.inr ⟨_, _, { on := 2, ground := .data }, rfl, rfl, by simp, rfl, rfl⟩) ?_ ?_ (by (simp only [go_sem, Nat.reduceLT])) ?_
  ·
   intro j hj1 hj2
   have hj : j = 0 ∨ j = 1 := by omega
   rcases hj with rfl | rfl
   all_goals (refine ⟨?_, ?_⟩)
   all_goals (first | rfl | trivial | ((simp only [go_sem, simprocAttr, sw0, z0W15a, z1W15a]); first | done | rfl | omega | assumption | decide | (simp only [List.append_assoc, List.cons_append, List.nil_append]; done) | (simp only [List.flatMap_append, List.map_append]; first | done | rfl) | ((repeat (refine And.intro (by first | rfl | omega | assumption | decide) ?_)); first | rfl | omega | assumption | decide)))
  refine KeptX.dep rfl rfl ⟨{ on := 2, ground := .data }, by simp, rfl, rfl⟩ ?_
  exact KeptX.nil
  try simp only [go_sem, simprocAttr]
  refine FWX.append 7 (q := 1) (by decide) rfl rfl rfl rfl (Nat.le_of_ble_eq_true rfl) rfl (by first | decide | (first | exact Nat.le_refl _ | exact Nat.zero_le _ | (simp only [go_sem]; omega))) (.own 7 0 b5.length 9) ?_ rfl ?_ ?_ ?_
  ·
   refine FreeX.of' rfl [28] ?_ (by kernel_rfl)
   · repeat (first | exact fun _ h => absurd h List.not_mem_nil | (refine List.forall_mem_cons.2 (And.intro ?_ ?_); · first | exact .inr rfl | (left; simp; done) | (right; simp only [V.kill, ↓reduceIte]; first | rfl | exact if_neg (by omega) | (simp only [V.kill, V.kill.kills, ↓reduceIte]; done))))
  · first | trivial | ((simp only [go_sem, simprocAttr, sw0, z0W15a, z1W15a]); done) | ((simp only [go_sem, simprocAttr, sw0, z0W15a, z1W15a]); first | omega | (repeat (refine And.intro (by (first | omega | assumption | rfl | decide | (simp only [List.length_map, List.length_replicate, List.length_append, List.length_take, List.length_drop, List.length_set, List.length_cons, List.length_nil, Nat.zero_add, Int.toNat_natCast] at *; omega) | (simp only [List.length_map, List.length_replicate, List.length_append, List.length_take, List.length_drop, List.length_set, List.length_cons, List.length_nil, Nat.zero_add, Int.toNat_natCast]; done) | trivial)) ?_); (first | omega | assumption | rfl | decide | (simp only [List.length_map, List.length_replicate, List.length_append, List.length_take, List.length_drop, List.length_set, List.length_cons, List.length_nil, Nat.zero_add, Int.toNat_natCast] at *; omega) | (simp only [List.length_map, List.length_replicate, List.length_append, List.length_take, List.length_drop, List.length_set, List.length_cons, List.length_nil, Nat.zero_add, Int.toNat_natCast]; done) | trivial)))
  · first | rfl | ((simp only [go_sem, simprocAttr, sw0, z0W15a, z1W15a]); done) | ((simp only [go_sem, simprocAttr, sw0, z0W15a, z1W15a]); rfl) | ((simp only [go_sem, simprocAttr, sw0, z0W15a, z1W15a]); simp only [List.append_assoc, List.cons_append, List.nil_append]; done) | ((simp only [go_sem, simprocAttr, sw0, z0W15a, z1W15a]); simp only [List.flatMap_append, List.map_append]; done) | ((simp only [go_sem, simprocAttr, sw0, z0W15a, z1W15a]); simp only [List.flatMap_append, List.map_append]; rfl)
  try (simp only [go_sem, simprocAttr, sw0, z0W15a, z1W15a])
  refine FWX.op (by decide) rfl (.agg [.d (Sx Z1e), .d (I Z1c), .d (I Z1h), .d (I Z1j), .d (I Z1g), .d (I Z1d), .d (I Z19), .d (I Z1i), .d (I Z1a)]) 0 2 (.inl rfl) (.inl rfl) ?_ ?_ (by (simp only [go_sem, Nat.reduceLT])) ?_
  ·
   intro j hj1 hj2
   have hj : j = 0 ∨ j = 1 ∨ j = 2 := by omega
   rcases hj with rfl | rfl | rfl
   all_goals (refine ⟨?_, ?_⟩)
   all_goals (first | rfl | trivial | ((simp only [go_sem, simprocAttr, sw0, z0W15a, z1W15a]); first | done | rfl | omega | assumption | decide | (simp only [List.append_assoc, List.cons_append, List.nil_append]; done) | (simp only [List.flatMap_append, List.map_append]; first | done | rfl) | ((repeat (refine And.intro (by first | rfl | omega | assumption | decide) ?_)); first | rfl | omega | assumption | decide)))
  refine KeptX.free [28, 31] (by first | rfl | (simp only [V.kill]; exact if_neg (by omega))) ?_ (by kernel_rfl) ?_
  · repeat (first | exact fun _ h => absurd h List.not_mem_nil | (refine List.forall_mem_cons.2 (And.intro ?_ ?_); · first | exact .inr rfl | (left; simp; done) | (right; simp only [V.kill, ↓reduceIte]; first | rfl | exact if_neg (by omega) | (simp only [V.kill, V.kill.kills, ↓reduceIte]; done))))
  exact KeptX.nil
  try simp only [go_sem, simprocAttr]
  refine FWX.op (by decide) rfl (.d (.list ([(Z1e, Z1c, Z1h, Z1j, Z1g, Z1d, Z19, Z1i, Z1a)] : List TB).length (([(Z1e, Z1c, Z1h, Z1j, Z1g, Z1d, Z19, Z1i, Z1a)] : List TB).flatMap (fun (x : ByteArray × Int × Int × Int × Int × Int × Int × Int × Int) => [(Sx x.1), (I x.2.1), (I x.2.2.1), (I x.2.2.2.1), (I x.2.2.2.2.1), (I x.2.2.2.2.2.1), (I x.2.2.2.2.2.2.1), (I x.2.2.2.2.2.2.2.1), (I x.2.2.2.2.2.2.2.2)])))) 0 2 (.inl rfl) (.inl rfl) ?_ ?_ (by (simp only [go_sem, Nat.reduceLT])) ?_
  ·
   intro j hj1 hj2
   have hj : j = 0 ∨ j = 1 ∨ j = 2 := by omega
   rcases hj with rfl | rfl | rfl
   all_goals (refine ⟨?_, ?_⟩)
   all_goals (first | rfl | trivial | ((simp only [go_sem, simprocAttr, sw0, z0W15a, z1W15a]); first | done | rfl | omega | assumption | decide | (simp only [List.append_assoc, List.cons_append, List.nil_append]; done) | (simp only [List.flatMap_append, List.map_append]; first | done | rfl) | ((repeat (refine And.intro (by first | rfl | omega | assumption | decide) ?_)); first | rfl | omega | assumption | decide)))
  refine KeptX.free [28, 31] (by first | rfl | (simp only [V.kill]; exact if_neg (by omega))) ?_ (by kernel_rfl) ?_
  · repeat (first | exact fun _ h => absurd h List.not_mem_nil | (refine List.forall_mem_cons.2 (And.intro ?_ ?_); · first | exact .inr rfl | (left; simp; done) | (right; simp only [V.kill, ↓reduceIte]; first | rfl | exact if_neg (by omega) | (simp only [V.kill, V.kill.kills, ↓reduceIte]; done))))
  exact KeptX.nil
  try simp only [go_sem, simprocAttr]
  refine FWX.nil ?_
  change OW _ _ _ _ _ _
  change OW _ _ _ _ _ _
  refine OW.run [3, 5, 6, 8, 9] ?_
  (simp only [go_sem, simprocAttr, sw0, z0W15a, z1W15a])
  repeat (refine And.intro (by omega) ?_)
  refine OW.nil (hK _ ?_)
  refine PW.seq ?_
  refine PW.regionK fun K hK => OW.run [3, 5, 6, 8, 9, 10] ?_
  simp only [go_sem, simprocAttr, sw0]
  repeat (refine And.intro (by omega) ?_)
  refine OW.nil (hK _ ?_)
  refine PW.seq ?_
  refine PW.seq ?_
  obtain ⟨x3, e3, H⟩ := bnd_some H
  refine PW.regionK fun K hK => OW.run [3, 5, 6, 8, 9, 10, 44] ?_
  simp only [go_sem, simprocAttr, sw0]
  refine OW.callG' 4 rfl rfl ?_ (fun hg => by first | rfl | (simp only [go_sem, ↓reduceIte]; rfl)) (fun hg => by ((simp only [go_sem, List.toList_toArray, simprocAttr]); exact rfl)) (fun hg => ?_) (fun hg => (ref06_Fit_ok N _ _ _ _ _ _ (grd_t hg e3))) ?_ ?_ ?_ ?_
  simp only [go_sem, simprocAttr]
  · (first | ((first | rfl | (simp only [go_sem, sw1, simprocAttr, okAll_segD9, z4W15a, z6W15a, z7W15a, z8W15a, z9W15a, z1W15a]; done) | (simp only [go_sem, sw1, simprocAttr, okAll_segD9, z4W15a, z6W15a, z7W15a, z8W15a, z9W15a, z1W15a]; rfl) | (simp only [go_sem, sw1, simprocAttr, okAll_segD9, z4W15a, z6W15a, z7W15a, z8W15a, z9W15a, z1W15a]; simp only [seg, asD, go_sem, sw1, simprocAttr, okAll_segD9, z4W15a, z6W15a, z7W15a, z8W15a, z9W15a, z1W15a]; done) | (simp only [go_sem, sw1, simprocAttr, okAll_segD9, z4W15a, z6W15a, z7W15a, z8W15a, z9W15a, z1W15a]; simp only [seg, asD, go_sem, sw1, simprocAttr, okAll_segD9, z4W15a, z6W15a, z7W15a, z8W15a, z9W15a, z1W15a]; rfl) | ((try simp only [go_sem, sw1, simprocAttr, okAll_segD9, z4W15a, z6W15a, z7W15a, z8W15a, z9W15a, z1W15a]); (repeat' (first | rfl | (refine list_congr ?_; simp only [List.length_take, List.length_drop, List.length_set, List.length_replicate] <;> omega) | (refine congr (congrArg List.cons ?_) ?_) | (refine congrArg D.agg ?_) | (refine congrArg D.tup ?_) | (refine congrArg D.ref ?_) | (refine congrArg (D.list _) ?_) | (refine congrArg (D.clo _) ?_))))); done) | ((first | rfl | (simp only [go_sem, sw1, simprocAttr, okAll_segD9, z4W15a, z6W15a, z7W15a, z8W15a, z9W15a, z1W15a]; done) | (simp only [go_sem, sw1, simprocAttr, okAll_segD9, z4W15a, z6W15a, z7W15a, z8W15a, z9W15a, z1W15a]; rfl) | (simp only [go_sem, sw1, simprocAttr, okAll_segD9, z4W15a, z6W15a, z7W15a, z8W15a, z9W15a, z1W15a]; simp only [seg, asD, go_sem, sw1, simprocAttr, okAll_segD9, z4W15a, z6W15a, z7W15a, z8W15a, z9W15a, z1W15a]; done) | (simp only [go_sem, sw1, simprocAttr, okAll_segD9, z4W15a, z6W15a, z7W15a, z8W15a, z9W15a, z1W15a]; simp only [seg, asD, go_sem, sw1, simprocAttr, okAll_segD9, z4W15a, z6W15a, z7W15a, z8W15a, z9W15a, z1W15a]; rfl) | ((try simp only [go_sem, sw1, simprocAttr, okAll_segD9, z4W15a, z6W15a, z7W15a, z8W15a, z9W15a, z1W15a]); (repeat' (first | rfl | (refine list_congr ?_; simp only [List.length_take, List.length_drop, List.length_set, List.length_replicate] <;> omega) | (refine congr (congrArg List.cons ?_) ?_) | (refine congrArg D.agg ?_) | (refine congrArg D.tup ?_) | (refine congrArg D.ref ?_) | (refine congrArg (D.list _) ?_) | (refine congrArg (D.clo _) ?_))))); exact z10W15a _ _ _ rfl))
  · (first | exact trivial | exact okD_all rfl | (refine okAll_intro ?_; simp only [go_sem, sw2, List.length_set, List.length_replicate, and_true, true_and, Nat.le_refl, simprocAttr, okAll_segD9, z4W15a, z6W15a, z7W15a, z8W15a, z9W15a, z1W15a]; done) | (refine okAll_intro ?_; simp only [go_sem, sw2, List.length_set, List.length_replicate, and_true, true_and, Nat.le_refl, simprocAttr, okAll_segD9, z4W15a, z6W15a, z7W15a, z8W15a, z9W15a, z1W15a]; omega))
  exact .inr rfl
  (simp only [go_sem, Nat.reduceLT])
  refine OW.run [3, 5, 6, 8, 9, 10, 44] ?_
  simp only [go_sem, simprocAttr, sw0]
  refine OW.nil (hK _ ?_)
  refine PW.cond rfl (fun h7 => ?_) (fun h7 => ?_)
  replace H := br_t h7 H
  refine PW.seq ?_
  refine PW.regionK fun K hK => OW.run [6, 8] ?_
  simp only [go_sem, simprocAttr, sw0]
  repeat (refine And.intro (by omega) ?_)
  refine OW.frz 7 (by exact Nat.zero_le _) (by (simp only [go_sem, isD, allD_mapV]; done)) ?_
  simp only [map_nz_I, map_nz_Bo, map_nz_Sx, map_nz_L, nz_int, nz_bool, nz_str, nz_list, nz_ref, nz_nil, go_sem, simprocAttr]
  try simp only [z2W15a, z3W15a, z4W15a, z5W15a]
  refine OW.nil (hK _ ?_)
  refine PW.seq ?_
  refine PW.regionK fun K hK => OW.run [6, 7] ?_
  simp only [go_sem, simprocAttr, sw0]
  refine OW.nil (hK _ ?_)
  refine PW.ret ?_
  change PW.Ends _ _ _ _ _ _
  refine PW.Ends.intro (.inr rfl) ?_
  simp only [go_sem, simprocAttr, sw0]
  obtain rfl := Option.some.inj H
  refine RetOK.data' 4 (by (refine okAll_intro ?_; (simp only [go_sem, sw2, List.length_set, List.length_replicate, and_true, true_and, Nat.le_refl, simprocAttr]; done))) ?_
  · (((simp only [go_sem, sw1, simprocAttr]; try simp only [seg, go_sem, simprocAttr])); done)
  replace H := br_f h7 H
  refine PW.skip ?_
  refine PW.seq ?_
  refine PW.seq ?_
  refine PW.regionK fun K hK => OW.run [3, 5, 6, 8, 10, 50] ?_
  simp only [go_sem, simprocAttr, sw0]
  repeat (refine And.intro (by omega) ?_)
  refine OW.nil (hK _ ?_)
  refine PW.cond rfl (fun h8 => ?_) (fun h8 => ?_)
  replace H := br_t h8 H
  refine PW.seq ?_
  refine PW.regionK fun K hK => OW.run [6, 7] ?_
  simp only [go_sem, simprocAttr, sw0]
  refine OW.nil (hK _ ?_)
  refine PW.ret ?_
  change PW.Ends _ _ _ _ _ _
  refine PW.Ends.intro (.inr rfl) ?_
  simp only [go_sem, simprocAttr, sw0]
  obtain rfl := Option.some.inj H
  refine RetOK.data' 4 (by (refine okAll_intro ?_; (simp only [go_sem, sw2, List.length_set, List.length_replicate, and_true, true_and, Nat.le_refl, simprocAttr]; done))) ?_
  rfl
  replace H := br_f h8 H
  refine PW.skip ?_
  refine PW.seq ?_
  refine PW.regionK fun K hK => OW.run [3, 5, 6, 8, 10, 11] ?_
  simp only [go_sem, simprocAttr, sw0]
  refine OW.nil (hK _ ?_)
  refine PW.joinS (τ := Int) [3, 5, 6, 8, 11] 7 (fun at_ => [(11, .d (I at_))]) (fun at_ => [{ cells := [.d (I Zq), .d (I Zr), .d (I Zs), .d (L Zx)], e := 24 }, { cells := [.d (Sx Z1e), .d (I Z1c), .d (I Z1h), .d (I Z1j), .d (I Z1g), .d (I Z1d), .d (I Z19), .d (I Z1i), .d (I Z1a)], e := 27 }, { cells := [.d (.val (.slice none 0 0)), .d (.val (.slice none 0 0))], e := 32 }, { cells := [.d (Sx Z1e), .d (I Z1c), .d (I Z1h), .d (I Z1j), .d (I Z1g), .d (I Z1d), .d (I Z19), .d (I Z1i), .d (I Z1a)], e := 27 }, { cells := [], e := 27 }, { cells := [.d (.list b5.length (b5.flatMap (fun (x : ByteArray × Int × Int × Int × Int × Int × Int × Int × Int) => [(Sx x.1), (I x.2.1), (I x.2.2.1), (I x.2.2.2.1), (I x.2.2.2.2.1), (I x.2.2.2.2.2.1), (I x.2.2.2.2.2.2.1), (I x.2.2.2.2.2.2.2.1), (I x.2.2.2.2.2.2.2.2)]))), .own 6 0 b6.length 1], e := 32 }, { cells := (b6.map Sx).map .d, e := 9 }]) _ _ r (by exact Nat.zero_le _) H ?_ ?_
  intro K_ H N9 hN9
  refine PW.seq ?_
  refine PW.regionK fun K hK => OW.run [3, 5, 6, 8, 11, 53] ?_
  simp only [go_sem, simprocAttr, sw0]
  refine OW.nil (hK _ ?_)
  refine PW.cond rfl (fun h10 => ?_) (fun h10 => ?_)
  replace H := br_t h10 H
  obtain ⟨x4, e4, H⟩ := bnd_some H
  refine PW.regionK fun K hK => OW.run [3, 5, 6, 8, 11] ?_
  simp only [go_sem, simprocAttr, sw0]
  repeat (refine And.intro (by omega) ?_)
  refine OW.call' 4 rfl rfl rfl (by ((simp only [go_sem, List.toList_toArray, simprocAttr]); exact rfl)) ?_ (ref06_last_ok N _ _ _ e4) ?_ ?_ ?_ ?_
  rfl
  exact okD_all rfl
  exact .inl rfl
  (simp only [go_sem, Nat.reduceLT])
  refine OW.run [3, 5, 6, 8, 11] ?_
  simp only [go_sem, simprocAttr, sw0]
  refine OW.nil (hK _ ?_)
  refine hN9 [] x4 _ H (by exact trivial) ?_
  simp only [sw1, go_sem, simprocAttr]
  replace H := br_f h10 H
  refine PW.skip ?_
  refine hN9 [] (-1 : Int) _ H (by exact trivial) ?_
  simp only [sw1, go_sem, simprocAttr]
  rintro at_ H
  try simp only [go_sem, simprocAttr]
  refine PW.joinS (τ := Int) [3, 5, 6, 8, 11] 7 (fun at_1 => [(11, .d (I at_1))]) (fun at_1 => [{ cells := [.d (I Zq), .d (I Zr), .d (I Zs), .d (L Zx)], e := 24 }, { cells := [.d (Sx Z1e), .d (I Z1c), .d (I Z1h), .d (I Z1j), .d (I Z1g), .d (I Z1d), .d (I Z19), .d (I Z1i), .d (I Z1a)], e := 27 }, { cells := [.d (.val (.slice none 0 0)), .d (.val (.slice none 0 0))], e := 32 }, { cells := [.d (Sx Z1e), .d (I Z1c), .d (I Z1h), .d (I Z1j), .d (I Z1g), .d (I Z1d), .d (I Z19), .d (I Z1i), .d (I Z1a)], e := 27 }, { cells := [], e := 27 }, { cells := [.d (.list b5.length (b5.flatMap (fun (x : ByteArray × Int × Int × Int × Int × Int × Int × Int × Int) => [(Sx x.1), (I x.2.1), (I x.2.2.1), (I x.2.2.2.1), (I x.2.2.2.2.1), (I x.2.2.2.2.2.1), (I x.2.2.2.2.2.2.1), (I x.2.2.2.2.2.2.2.1), (I x.2.2.2.2.2.2.2.2)]))), .own 6 0 b6.length 1], e := 32 }, { cells := (b6.map Sx).map .d, e := 9 }]) _ _ r (by exact Nat.zero_le _) H ?_ ?_
  intro K_1 H N11 hN11
  refine PW.seq ?_
  refine PW.regionK fun K hK => OW.run [3, 5, 6, 8, 11, 58] ?_
  simp only [go_sem, simprocAttr, sw0]
  refine OW.nil (hK _ ?_)
  refine PW.cond rfl (fun h12 => ?_) (fun h12 => ?_)
  replace H := br_t h12 H
  obtain ⟨x5, e5, H⟩ := bnd_some H
  refine PW.regionK fun K hK => OW.run [3, 5, 6, 8, 11] ?_
  simp only [go_sem, simprocAttr, sw0]
  repeat (refine And.intro (by omega) ?_)
  refine OW.call' 4 rfl rfl rfl (by ((simp only [go_sem, List.toList_toArray, simprocAttr]); exact rfl)) ?_ (ref06_last_ok N _ _ _ e5) ?_ ?_ ?_ ?_
  rfl
  exact okD_all rfl
  exact .inl rfl
  (simp only [go_sem, Nat.reduceLT])
  refine OW.run [3, 5, 6, 8, 11] ?_
  simp only [go_sem, simprocAttr, sw0]
  refine OW.nil (hK _ ?_)
  refine hN11 [] x5 _ H (by exact trivial) ?_
  simp only [sw1, go_sem, simprocAttr]
  replace H := br_f h12 H
  refine PW.skip ?_
  refine hN11 [] at_ _ H (by exact trivial) ?_
  simp only [sw1, go_sem, simprocAttr]
  rintro at_1 H
  try simp only [go_sem, simprocAttr]
  refine PW.seq ?_
  refine PW.seq ?_
  refine PW.regionK fun K hK => OW.run [3, 5, 6, 8, 11, 63] ?_
  simp only [go_sem, simprocAttr, sw0]
  refine OW.nil (hK _ ?_)
  refine PW.cond rfl (fun h13 => ?_) (fun h13 => ?_)
  replace H := br_t h13 H
  refine PW.seq ?_
  refine PW.regionK fun K hK => OW.run [6, 7] ?_
  simp only [go_sem, simprocAttr, sw0]
  refine OW.nil (hK _ ?_)
  refine PW.ret ?_
  change PW.Ends _ _ _ _ _ _
  refine PW.Ends.intro (.inr rfl) ?_
  simp only [go_sem, simprocAttr, sw0]
  obtain rfl := Option.some.inj H
  refine RetOK.data' 4 (by (refine okAll_intro ?_; (simp only [go_sem, sw2, List.length_set, List.length_replicate, and_true, true_and, Nat.le_refl, simprocAttr]; done))) ?_
  rfl
  ·
   replace H := br_f h13 H
   refine PW.skip ?_
   refine PW.seq ?_
   obtain ⟨c14, H⟩ := chk_some H
   obtain ⟨c15, H⟩ := chk_some H
   have c15q := c15
   simp only [List.length_cons, List.length_nil] at c15q
   refine PW.drawK 9 mixed (by kernel_rfl) fun K hK => ?_
   change FW _ _ _ _ _
   refine FW.run ?_
   (simp only [go_sem, simprocAttr, sw0, z1W15a, z11W15a b5 at_1.toNat (by omega), allOne_mapF Sx (fun _ => rfl)])
   repeat (refine And.intro (by omega) ?_)
   refine FW.nil ?_
   change OW _ _ _ _ _ _
   refine OW.run [3, 5, 6, 8, 11] ?_
   (simp only [go_sem, simprocAttr, sw0, z1W15a, z11W15a b5 at_1.toNat (by omega), allOne_mapF Sx (fun _ => rfl)])
   repeat (refine And.intro (by omega) ?_)
   refine OW.nil (hK _ ?_)
   change PW _ _ _ _ _
   obtain ⟨c16, H⟩ := chk_some H
   obtain ⟨c17, H⟩ := chk_some H
   obtain ⟨c18, H⟩ := chk_some H
   obtain ⟨c19, H⟩ := chk_some H
   refine PW.drawX 11 [0, 5] (fun j => List.getD [[{ cells := [.d (I Zq), .d (I Zr), .d (I Zs), .d (L Zx)], e := 24 }, { cells := [.d (Sx Z1e), .d (I Z1c), .d (I Z1h), .d (I Z1j), .d (I Z1g), .d (I Z1d), .d (I Z19), .d (I Z1i), .d (I Z1a)], e := 27 }, { cells := [.d (.val (.slice none 0 0)), .d (.val (.slice none 0 0))], e := 32 }, { cells := [.d (Sx Z1e), .d (I Z1c), .d (I Z1h), .d (I Z1j), .d (I Z1g), .d (I Z1d), .d (I Z19), .d (I Z1i), .d (I Z1a)], e := 27 }, { cells := [], e := 27 }, { cells := [.d (.list b5.length (b5.flatMap (fun (x : ByteArray × Int × Int × Int × Int × Int × Int × Int × Int) => [(Sx x.1), (I x.2.1), (I x.2.2.1), (I x.2.2.2.1), (I x.2.2.2.2.1), (I x.2.2.2.2.2.1), (I x.2.2.2.2.2.2.1), (I x.2.2.2.2.2.2.2.1), (I x.2.2.2.2.2.2.2.2)]))), .own 6 0 ((b6 ++ ([(b5.getD at_1.toNat default).1] : List ByteArray)).length) 1], e := 32 }, { cells := ((b6 ++ ([(b5.getD at_1.toNat default).1] : List ByteArray)).map Sx).map .d, e := 9 }], [{ cells := [.d (I Zq), .d (I Zr), .d (I Zs), .d (L Zx)], e := 24 }, { cells := [.d (Sx Z1e), .d (I Z1c), .d (I Z1h), .d (I Z1j), .d (I Z1g), .d (I Z1d), .d (I Z19), .d (I Z1i), .d (I Z1a)], e := 27 }, { cells := [.d (.val (.slice none 0 0)), .d (.val (.slice none 0 0))], e := 32 }, { cells := [.d (Sx Z1e), .d (I Z1c), .d (I Z1h), .d (I Z1j), .d (I Z1g), .d (I Z1d), .d (I Z19), .d (I Z1i), .d (I Z1a)], e := 27 }, { cells := [], e := 27 }, { cells := [.d (.list b5.length (b5.flatMap (fun (x : ByteArray × Int × Int × Int × Int × Int × Int × Int × Int) => [(Sx x.1), (I x.2.1), (I x.2.2.1), (I x.2.2.2.1), (I x.2.2.2.2.1), (I x.2.2.2.2.2.1), (I x.2.2.2.2.2.2.1), (I x.2.2.2.2.2.2.2.1), (I x.2.2.2.2.2.2.2.2)]))), .own 6 0 ((b6 ++ ([(b5.getD at_1.toNat default).1] : List ByteArray)).length) 1], e := 32 }, { cells := ((b6 ++ ([(b5.getD at_1.toNat default).1] : List ByteArray)).map Sx).map .d, e := 9 }, { cells := [], e := 27 }], [{ cells := [.d (I Zq), .d (I Zr), .d (I Zs), .d (L Zx)], e := 24 }, { cells := [.d (Sx Z1e), .d (I Z1c), .d (I Z1h), .d (I Z1j), .d (I Z1g), .d (I Z1d), .d (I Z19), .d (I Z1i), .d (I Z1a)], e := 27 }, { cells := [.d (.val (.slice none 0 0)), .d (.val (.slice none 0 0))], e := 32 }, { cells := [.d (Sx Z1e), .d (I Z1c), .d (I Z1h), .d (I Z1j), .d (I Z1g), .d (I Z1d), .d (I Z19), .d (I Z1i), .d (I Z1a)], e := 27 }, { cells := [], e := 27 }, { cells := [.d (.list b5.length (b5.flatMap (fun (x : ByteArray × Int × Int × Int × Int × Int × Int × Int × Int) => [(Sx x.1), (I x.2.1), (I x.2.2.1), (I x.2.2.2.1), (I x.2.2.2.2.1), (I x.2.2.2.2.2.1), (I x.2.2.2.2.2.2.1), (I x.2.2.2.2.2.2.2.1), (I x.2.2.2.2.2.2.2.2)]))), .own 6 0 ((b6 ++ ([(b5.getD at_1.toNat default).1] : List ByteArray)).length) 1], e := 32 }, { cells := ((b6 ++ ([(b5.getD at_1.toNat default).1] : List ByteArray)).map Sx).map .d, e := 9 }, { cells := ((b5.take at_1.toNat).flatMap (fun (x : ByteArray × Int × Int × Int × Int × Int × Int × Int × Int) => [(Sx x.1), (I x.2.1), (I x.2.2.1), (I x.2.2.2.1), (I x.2.2.2.2.1), (I x.2.2.2.2.2.1), (I x.2.2.2.2.2.2.1), (I x.2.2.2.2.2.2.2.1), (I x.2.2.2.2.2.2.2.2)])).map .d, e := 27 }]] j []) (κL [(1, 7)]) mixed (by kernel_rfl) (by decide) (by ((refine ⟨by decide, ?_⟩; intro k i i' h1 h2 o ho; match k, h1, h2 with | 0, h1, h2 => (simp at h1 h2 <;> first | (cases h2; done) | (subst h1; subst h2; simp at ho; subst ho; simp [Region.binds]; done)) | 1, h1, h2 => (simp at h1 h2 <;> first | (cases h2; done) | (subst h1; subst h2; simp at ho; subst ho; simp [Region.binds]; done)) | 2, h1, h2 => (simp at h1 h2 <;> first | (cases h2; done) | (subst h1; subst h2; simp at ho; subst ho; simp [Region.binds]; done)) | k + 3, h1, h2 => (simp at h2; done)))) (κL_dead _) (by decide) (freshL rfl) (by first | rfl | (simp only [List.getD_cons_zero, List.map_append, List.map_cons, List.map_nil, List.length_append, List.length_cons, List.length_nil, Nat.zero_add])) rfl fun K hK => ?_
   change FWX _ _ _ _ _ _ _ _ _ _
   refine FWX.build (q := 0) (by decide) rfl rfl rfl rfl (Nat.le_of_ble_eq_true rfl) (fun _ => rfl) (.own 7 0 0 9) ?_ ?_ ?_
   · first | trivial | ((simp only [go_sem, simprocAttr, sw0, z12W15a, slice_lenF (fun (x : ByteArray × Int × Int × Int × Int × Int × Int × Int × Int) => [(Sx x.1), (I x.2.1), (I x.2.2.1), (I x.2.2.2.1), (I x.2.2.2.2.1), (I x.2.2.2.2.2.1), (I x.2.2.2.2.2.2.1), (I x.2.2.2.2.2.2.2.1), (I x.2.2.2.2.2.2.2.2)]) (b5.take at_1.toNat) at_1.toNat (by simp only [List.length_take, List.length_drop]; omega), z0W15a, z1W15a, z13W15a, slice_lenF (fun (x : ByteArray × Int × Int × Int × Int × Int × Int × Int × Int) => [(Sx x.1), (I x.2.1), (I x.2.2.1), (I x.2.2.2.1), (I x.2.2.2.2.1), (I x.2.2.2.2.2.1), (I x.2.2.2.2.2.2.1), (I x.2.2.2.2.2.2.2.1), (I x.2.2.2.2.2.2.2.2)]) ((b5.drop ((w64 (at_1 + (1 : Int))).toNat)).take (b5.length - (w64 (at_1 + (1 : Int))).toNat)) (b5.length - (w64 (at_1 + (1 : Int))).toNat) (by simp only [List.length_take, List.length_drop]; omega)]); done) | ((simp only [go_sem, simprocAttr, sw0, z12W15a, slice_lenF (fun (x : ByteArray × Int × Int × Int × Int × Int × Int × Int × Int) => [(Sx x.1), (I x.2.1), (I x.2.2.1), (I x.2.2.2.1), (I x.2.2.2.2.1), (I x.2.2.2.2.2.1), (I x.2.2.2.2.2.2.1), (I x.2.2.2.2.2.2.2.1), (I x.2.2.2.2.2.2.2.2)]) (b5.take at_1.toNat) at_1.toNat (by simp only [List.length_take, List.length_drop]; omega), z0W15a, z1W15a, z13W15a, slice_lenF (fun (x : ByteArray × Int × Int × Int × Int × Int × Int × Int × Int) => [(Sx x.1), (I x.2.1), (I x.2.2.1), (I x.2.2.2.1), (I x.2.2.2.2.1), (I x.2.2.2.2.2.1), (I x.2.2.2.2.2.2.1), (I x.2.2.2.2.2.2.2.1), (I x.2.2.2.2.2.2.2.2)]) ((b5.drop ((w64 (at_1 + (1 : Int))).toNat)).take (b5.length - (w64 (at_1 + (1 : Int))).toNat)) (b5.length - (w64 (at_1 + (1 : Int))).toNat) (by simp only [List.length_take, List.length_drop]; omega)]); first | (first | omega | assumption | rfl | decide | (simp only [List.length_map, List.length_replicate, List.length_append, List.length_take, List.length_drop, List.length_set, List.length_cons, List.length_nil, Nat.zero_add, Int.toNat_natCast] at *; omega) | (simp only [List.length_map, List.length_replicate, List.length_append, List.length_take, List.length_drop, List.length_set, List.length_cons, List.length_nil, Nat.zero_add, Int.toNat_natCast]; done) | trivial) | (repeat (refine And.intro (by (first | omega | assumption | rfl | decide | (simp only [List.length_map, List.length_replicate, List.length_append, List.length_take, List.length_drop, List.length_set, List.length_cons, List.length_nil, Nat.zero_add, Int.toNat_natCast] at *; omega) | (simp only [List.length_map, List.length_replicate, List.length_append, List.length_take, List.length_drop, List.length_set, List.length_cons, List.length_nil, Nat.zero_add, Int.toNat_natCast]; done) | trivial)) ?_); (first | omega | assumption | rfl | decide | (simp only [List.length_map, List.length_replicate, List.length_append, List.length_take, List.length_drop, List.length_set, List.length_cons, List.length_nil, Nat.zero_add, Int.toNat_natCast] at *; omega) | (simp only [List.length_map, List.length_replicate, List.length_append, List.length_take, List.length_drop, List.length_set, List.length_cons, List.length_nil, Nat.zero_add, Int.toNat_natCast]; done) | trivial)))
   · first | rfl | ((simp only [go_sem, simprocAttr, sw0, z12W15a, slice_lenF (fun (x : ByteArray × Int × Int × Int × Int × Int × Int × Int × Int) => [(Sx x.1), (I x.2.1), (I x.2.2.1), (I x.2.2.2.1), (I x.2.2.2.2.1), (I x.2.2.2.2.2.1), (I x.2.2.2.2.2.2.1), (I x.2.2.2.2.2.2.2.1), (I x.2.2.2.2.2.2.2.2)]) (b5.take at_1.toNat) at_1.toNat (by simp only [List.length_take, List.length_drop]; omega), z0W15a, z1W15a, z13W15a, slice_lenF (fun (x : ByteArray × Int × Int × Int × Int × Int × Int × Int × Int) => [(Sx x.1), (I x.2.1), (I x.2.2.1), (I x.2.2.2.1), (I x.2.2.2.2.1), (I x.2.2.2.2.2.1), (I x.2.2.2.2.2.2.1), (I x.2.2.2.2.2.2.2.1), (I x.2.2.2.2.2.2.2.2)]) ((b5.drop ((w64 (at_1 + (1 : Int))).toNat)).take (b5.length - (w64 (at_1 + (1 : Int))).toNat)) (b5.length - (w64 (at_1 + (1 : Int))).toNat) (by simp only [List.length_take, List.length_drop]; omega)]); done) | ((simp only [go_sem, simprocAttr, sw0, z12W15a, slice_lenF (fun (x : ByteArray × Int × Int × Int × Int × Int × Int × Int × Int) => [(Sx x.1), (I x.2.1), (I x.2.2.1), (I x.2.2.2.1), (I x.2.2.2.2.1), (I x.2.2.2.2.2.1), (I x.2.2.2.2.2.2.1), (I x.2.2.2.2.2.2.2.1), (I x.2.2.2.2.2.2.2.2)]) (b5.take at_1.toNat) at_1.toNat (by simp only [List.length_take, List.length_drop]; omega), z0W15a, z1W15a, z13W15a, slice_lenF (fun (x : ByteArray × Int × Int × Int × Int × Int × Int × Int × Int) => [(Sx x.1), (I x.2.1), (I x.2.2.1), (I x.2.2.2.1), (I x.2.2.2.2.1), (I x.2.2.2.2.2.1), (I x.2.2.2.2.2.2.1), (I x.2.2.2.2.2.2.2.1), (I x.2.2.2.2.2.2.2.2)]) ((b5.drop ((w64 (at_1 + (1 : Int))).toNat)).take (b5.length - (w64 (at_1 + (1 : Int))).toNat)) (b5.length - (w64 (at_1 + (1 : Int))).toNat) (by simp only [List.length_take, List.length_drop]; omega)]); rfl) | ((simp only [go_sem, simprocAttr, sw0, z12W15a, slice_lenF (fun (x : ByteArray × Int × Int × Int × Int × Int × Int × Int × Int) => [(Sx x.1), (I x.2.1), (I x.2.2.1), (I x.2.2.2.1), (I x.2.2.2.2.1), (I x.2.2.2.2.2.1), (I x.2.2.2.2.2.2.1), (I x.2.2.2.2.2.2.2.1), (I x.2.2.2.2.2.2.2.2)]) (b5.take at_1.toNat) at_1.toNat (by simp only [List.length_take, List.length_drop]; omega), z0W15a, z1W15a, z13W15a, slice_lenF (fun (x : ByteArray × Int × Int × Int × Int × Int × Int × Int × Int) => [(Sx x.1), (I x.2.1), (I x.2.2.1), (I x.2.2.2.1), (I x.2.2.2.2.1), (I x.2.2.2.2.2.1), (I x.2.2.2.2.2.2.1), (I x.2.2.2.2.2.2.2.1), (I x.2.2.2.2.2.2.2.2)]) ((b5.drop ((w64 (at_1 + (1 : Int))).toNat)).take (b5.length - (w64 (at_1 + (1 : Int))).toNat)) (b5.length - (w64 (at_1 + (1 : Int))).toNat) (by simp only [List.length_take, List.length_drop]; omega)]); simp only [List.append_assoc, List.cons_append, List.nil_append]; done) | ((simp only [go_sem, simprocAttr, sw0, z12W15a, slice_lenF (fun (x : ByteArray × Int × Int × Int × Int × Int × Int × Int × Int) => [(Sx x.1), (I x.2.1), (I x.2.2.1), (I x.2.2.2.1), (I x.2.2.2.2.1), (I x.2.2.2.2.2.1), (I x.2.2.2.2.2.2.1), (I x.2.2.2.2.2.2.2.1), (I x.2.2.2.2.2.2.2.2)]) (b5.take at_1.toNat) at_1.toNat (by simp only [List.length_take, List.length_drop]; omega), z0W15a, z1W15a, z13W15a, slice_lenF (fun (x : ByteArray × Int × Int × Int × Int × Int × Int × Int × Int) => [(Sx x.1), (I x.2.1), (I x.2.2.1), (I x.2.2.2.1), (I x.2.2.2.2.1), (I x.2.2.2.2.2.1), (I x.2.2.2.2.2.2.1), (I x.2.2.2.2.2.2.2.1), (I x.2.2.2.2.2.2.2.2)]) ((b5.drop ((w64 (at_1 + (1 : Int))).toNat)).take (b5.length - (w64 (at_1 + (1 : Int))).toNat)) (b5.length - (w64 (at_1 + (1 : Int))).toNat) (by simp only [List.length_take, List.length_drop]; omega)]); simp only [List.flatMap_append, List.map_append]; done) | ((simp only [go_sem, simprocAttr, sw0, z12W15a, slice_lenF (fun (x : ByteArray × Int × Int × Int × Int × Int × Int × Int × Int) => [(Sx x.1), (I x.2.1), (I x.2.2.1), (I x.2.2.2.1), (I x.2.2.2.2.1), (I x.2.2.2.2.2.1), (I x.2.2.2.2.2.2.1), (I x.2.2.2.2.2.2.2.1), (I x.2.2.2.2.2.2.2.2)]) (b5.take at_1.toNat) at_1.toNat (by simp only [List.length_take, List.length_drop]; omega), z0W15a, z1W15a, z13W15a, slice_lenF (fun (x : ByteArray × Int × Int × Int × Int × Int × Int × Int × Int) => [(Sx x.1), (I x.2.1), (I x.2.2.1), (I x.2.2.2.1), (I x.2.2.2.2.1), (I x.2.2.2.2.2.1), (I x.2.2.2.2.2.2.1), (I x.2.2.2.2.2.2.2.1), (I x.2.2.2.2.2.2.2.2)]) ((b5.drop ((w64 (at_1 + (1 : Int))).toNat)).take (b5.length - (w64 (at_1 + (1 : Int))).toNat)) (b5.length - (w64 (at_1 + (1 : Int))).toNat) (by simp only [List.length_take, List.length_drop]; omega)]); simp only [List.flatMap_append, List.map_append]; rfl)
   try simp only [go_sem, simprocAttr]
   refine FWX.op (by decide) rfl (.ptr 5 0) 0 2 (.inl rfl) (.inl rfl) ?_ ?_ (by (simp only [go_sem, Nat.reduceLT])) ?_
   ·
    intro j hj1 hj2
    have hj : j = 0 ∨ j = 1 ∨ j = 2 := by omega
    rcases hj with rfl | rfl | rfl
    all_goals (refine ⟨?_, ?_⟩)
    all_goals (first | rfl | trivial | ((simp only [go_sem, simprocAttr, sw0, z12W15a, slice_lenF (fun (x : ByteArray × Int × Int × Int × Int × Int × Int × Int × Int) => [(Sx x.1), (I x.2.1), (I x.2.2.1), (I x.2.2.2.1), (I x.2.2.2.2.1), (I x.2.2.2.2.2.1), (I x.2.2.2.2.2.2.1), (I x.2.2.2.2.2.2.2.1), (I x.2.2.2.2.2.2.2.2)]) (b5.take at_1.toNat) at_1.toNat (by simp only [List.length_take, List.length_drop]; omega), z0W15a, z1W15a, z13W15a, slice_lenF (fun (x : ByteArray × Int × Int × Int × Int × Int × Int × Int × Int) => [(Sx x.1), (I x.2.1), (I x.2.2.1), (I x.2.2.2.1), (I x.2.2.2.2.1), (I x.2.2.2.2.2.1), (I x.2.2.2.2.2.2.1), (I x.2.2.2.2.2.2.2.1), (I x.2.2.2.2.2.2.2.2)]) ((b5.drop ((w64 (at_1 + (1 : Int))).toNat)).take (b5.length - (w64 (at_1 + (1 : Int))).toNat)) (b5.length - (w64 (at_1 + (1 : Int))).toNat) (by simp only [List.length_take, List.length_drop]; omega)]); first | done | rfl | omega | assumption | decide | (simp only [List.append_assoc, List.cons_append, List.nil_append]; done) | (simp only [List.flatMap_append, List.map_append]; first | done | rfl) | ((repeat (refine And.intro (by first | rfl | omega | assumption | decide) ?_)); first | rfl | omega | assumption | decide)))
   refine KeptX.free [76, 81] (by first | rfl | (simp only [V.kill]; exact if_neg (by omega))) ?_ (by kernel_rfl) ?_
   · repeat (first | exact fun _ h => absurd h List.not_mem_nil | (refine List.forall_mem_cons.2 (And.intro ?_ ?_); · first | exact .inr rfl | (left; simp; done) | (right; simp only [V.kill, ↓reduceIte]; first | rfl | exact if_neg (by omega) | (simp only [V.kill, V.kill.kills, ↓reduceIte]; done))))
   exact KeptX.nil
   try simp only [go_sem, simprocAttr]
   refine FWX.op (by decide) rfl (.d (.list b5.length (b5.flatMap (fun (x : ByteArray × Int × Int × Int × Int × Int × Int × Int × Int) => [(Sx x.1), (I x.2.1), (I x.2.2.1), (I x.2.2.2.1), (I x.2.2.2.2.1), (I x.2.2.2.2.2.1), (I x.2.2.2.2.2.2.1), (I x.2.2.2.2.2.2.2.1), (I x.2.2.2.2.2.2.2.2)])))) 0 2 (.inl rfl) (.inl rfl) ?_ ?_ (by (simp only [go_sem, Nat.reduceLT])) ?_
   ·
    intro j hj1 hj2
    have hj : j = 0 ∨ j = 1 ∨ j = 2 := by omega
    rcases hj with rfl | rfl | rfl
    all_goals (refine ⟨?_, ?_⟩)
    all_goals (first | rfl | trivial | ((simp only [go_sem, simprocAttr, sw0, z12W15a, slice_lenF (fun (x : ByteArray × Int × Int × Int × Int × Int × Int × Int × Int) => [(Sx x.1), (I x.2.1), (I x.2.2.1), (I x.2.2.2.1), (I x.2.2.2.2.1), (I x.2.2.2.2.2.1), (I x.2.2.2.2.2.2.1), (I x.2.2.2.2.2.2.2.1), (I x.2.2.2.2.2.2.2.2)]) (b5.take at_1.toNat) at_1.toNat (by simp only [List.length_take, List.length_drop]; omega), z0W15a, z1W15a, z13W15a, slice_lenF (fun (x : ByteArray × Int × Int × Int × Int × Int × Int × Int × Int) => [(Sx x.1), (I x.2.1), (I x.2.2.1), (I x.2.2.2.1), (I x.2.2.2.2.1), (I x.2.2.2.2.2.1), (I x.2.2.2.2.2.2.1), (I x.2.2.2.2.2.2.2.1), (I x.2.2.2.2.2.2.2.2)]) ((b5.drop ((w64 (at_1 + (1 : Int))).toNat)).take (b5.length - (w64 (at_1 + (1 : Int))).toNat)) (b5.length - (w64 (at_1 + (1 : Int))).toNat) (by simp only [List.length_take, List.length_drop]; omega)]); first | done | rfl | omega | assumption | decide | (simp only [List.append_assoc, List.cons_append, List.nil_append]; done) | (simp only [List.flatMap_append, List.map_append]; first | done | rfl) | ((repeat (refine And.intro (by first | rfl | omega | assumption | decide) ?_)); first | rfl | omega | assumption | decide)))
   refine KeptX.free [76, 81] (by first | rfl | (simp only [V.kill]; exact if_neg (by omega))) ?_ (by kernel_rfl) ?_
   · repeat (first | exact fun _ h => absurd h List.not_mem_nil | (refine List.forall_mem_cons.2 (And.intro ?_ ?_); · first | exact .inr rfl | (left; simp; done) | (right; simp only [V.kill, ↓reduceIte]; first | rfl | exact if_neg (by omega) | (simp only [V.kill, V.kill.kills, ↓reduceIte]; done))))
   exact KeptX.nil
   try simp only [go_sem, simprocAttr]
   refine FWX.op (by decide) rfl (.d (I at_1)) 0 2 (.inl rfl) (.inl rfl) ?_ ?_ (by (simp only [go_sem, Nat.reduceLT])) ?_
   ·
    intro j hj1 hj2
    have hj : j = 0 ∨ j = 1 ∨ j = 2 := by omega
    rcases hj with rfl | rfl | rfl
    all_goals (refine ⟨?_, ?_⟩)
    all_goals (first | rfl | trivial | ((simp only [go_sem, simprocAttr, sw0, z12W15a, slice_lenF (fun (x : ByteArray × Int × Int × Int × Int × Int × Int × Int × Int) => [(Sx x.1), (I x.2.1), (I x.2.2.1), (I x.2.2.2.1), (I x.2.2.2.2.1), (I x.2.2.2.2.2.1), (I x.2.2.2.2.2.2.1), (I x.2.2.2.2.2.2.2.1), (I x.2.2.2.2.2.2.2.2)]) (b5.take at_1.toNat) at_1.toNat (by simp only [List.length_take, List.length_drop]; omega), z0W15a, z1W15a, z13W15a, slice_lenF (fun (x : ByteArray × Int × Int × Int × Int × Int × Int × Int × Int) => [(Sx x.1), (I x.2.1), (I x.2.2.1), (I x.2.2.2.1), (I x.2.2.2.2.1), (I x.2.2.2.2.2.1), (I x.2.2.2.2.2.2.1), (I x.2.2.2.2.2.2.2.1), (I x.2.2.2.2.2.2.2.2)]) ((b5.drop ((w64 (at_1 + (1 : Int))).toNat)).take (b5.length - (w64 (at_1 + (1 : Int))).toNat)) (b5.length - (w64 (at_1 + (1 : Int))).toNat) (by simp only [List.length_take, List.length_drop]; omega)]); first | done | rfl | omega | assumption | decide | (simp only [List.append_assoc, List.cons_append, List.nil_append]; done) | (simp only [List.flatMap_append, List.map_append]; first | done | rfl) | ((repeat (refine And.intro (by first | rfl | omega | assumption | decide) ?_)); first | rfl | omega | assumption | decide)))
   refine KeptX.free [76, 81] (by first | rfl | (simp only [V.kill]; exact if_neg (by omega))) ?_ (by kernel_rfl) ?_
   · repeat (first | exact fun _ h => absurd h List.not_mem_nil | (refine List.forall_mem_cons.2 (And.intro ?_ ?_); · first | exact .inr rfl | (left; simp; done) | (right; simp only [V.kill, ↓reduceIte]; first | rfl | exact if_neg (by omega) | (simp only [V.kill, V.kill.kills, ↓reduceIte]; done))))
   exact KeptX.nil
   try simp only [go_sem, simprocAttr]
   refine FWX.op (by decide) rfl (.d (.list (b5.take at_1.toNat).length ((b5.take at_1.toNat).flatMap (fun (x : ByteArray × Int × Int × Int × Int × Int × Int × Int × Int) => [(Sx x.1), (I x.2.1), (I x.2.2.1), (I x.2.2.2.1), (I x.2.2.2.2.1), (I x.2.2.2.2.2.1), (I x.2.2.2.2.2.2.1), (I x.2.2.2.2.2.2.2.1), (I x.2.2.2.2.2.2.2.2)])))) 0 1 (.inl rfl) (.inr ⟨_, _, { on := 4, ground := .data }, rfl, rfl, by simp, rfl, rfl⟩) ?_ ?_ (by (simp only [go_sem, Nat.reduceLT])) ?_
   ·
    intro j hj1 hj2
    have hj : j = 0 ∨ j = 1 := by omega
    rcases hj with rfl | rfl
    all_goals (refine ⟨?_, ?_⟩)
    all_goals (first | rfl | trivial | ((simp only [go_sem, simprocAttr, sw0, z12W15a, slice_lenF (fun (x : ByteArray × Int × Int × Int × Int × Int × Int × Int × Int) => [(Sx x.1), (I x.2.1), (I x.2.2.1), (I x.2.2.2.1), (I x.2.2.2.2.1), (I x.2.2.2.2.2.1), (I x.2.2.2.2.2.2.1), (I x.2.2.2.2.2.2.2.1), (I x.2.2.2.2.2.2.2.2)]) (b5.take at_1.toNat) at_1.toNat (by simp only [List.length_take, List.length_drop]; omega), z0W15a, z1W15a, z13W15a, slice_lenF (fun (x : ByteArray × Int × Int × Int × Int × Int × Int × Int × Int) => [(Sx x.1), (I x.2.1), (I x.2.2.1), (I x.2.2.2.1), (I x.2.2.2.2.1), (I x.2.2.2.2.2.1), (I x.2.2.2.2.2.2.1), (I x.2.2.2.2.2.2.2.1), (I x.2.2.2.2.2.2.2.2)]) ((b5.drop ((w64 (at_1 + (1 : Int))).toNat)).take (b5.length - (w64 (at_1 + (1 : Int))).toNat)) (b5.length - (w64 (at_1 + (1 : Int))).toNat) (by simp only [List.length_take, List.length_drop]; omega)]); first | done | rfl | omega | assumption | decide | (simp only [List.append_assoc, List.cons_append, List.nil_append]; done) | (simp only [List.flatMap_append, List.map_append]; first | done | rfl) | ((repeat (refine And.intro (by first | rfl | omega | assumption | decide) ?_)); first | rfl | omega | assumption | decide)))
   refine KeptX.dep rfl rfl ⟨{ on := 4, ground := .data }, by simp, rfl, rfl⟩ ?_
   exact KeptX.nil
   try simp only [go_sem, simprocAttr]
   refine FWX.append 7 (q := 1) (by decide) rfl rfl rfl rfl (Nat.le_of_ble_eq_true rfl) rfl (by first | decide | (first | exact Nat.le_refl _ | exact Nat.zero_le _ | (simp only [go_sem]; omega))) (.own 7 0 ((b5.take at_1.toNat).length) 9) ?_ rfl ?_ ?_ ?_
   ·
    refine FreeX.of' rfl [76] ?_ (by kernel_rfl)
    · repeat (first | exact fun _ h => absurd h List.not_mem_nil | (refine List.forall_mem_cons.2 (And.intro ?_ ?_); · first | exact .inr rfl | (left; simp; done) | (right; simp only [V.kill, ↓reduceIte]; first | rfl | exact if_neg (by omega) | (simp only [V.kill, V.kill.kills, ↓reduceIte]; done))))
   · first | trivial | ((simp only [go_sem, simprocAttr, sw0, z12W15a, slice_lenF (fun (x : ByteArray × Int × Int × Int × Int × Int × Int × Int × Int) => [(Sx x.1), (I x.2.1), (I x.2.2.1), (I x.2.2.2.1), (I x.2.2.2.2.1), (I x.2.2.2.2.2.1), (I x.2.2.2.2.2.2.1), (I x.2.2.2.2.2.2.2.1), (I x.2.2.2.2.2.2.2.2)]) (b5.take at_1.toNat) at_1.toNat (by simp only [List.length_take, List.length_drop]; omega), z0W15a, z1W15a, z13W15a, slice_lenF (fun (x : ByteArray × Int × Int × Int × Int × Int × Int × Int × Int) => [(Sx x.1), (I x.2.1), (I x.2.2.1), (I x.2.2.2.1), (I x.2.2.2.2.1), (I x.2.2.2.2.2.1), (I x.2.2.2.2.2.2.1), (I x.2.2.2.2.2.2.2.1), (I x.2.2.2.2.2.2.2.2)]) ((b5.drop ((w64 (at_1 + (1 : Int))).toNat)).take (b5.length - (w64 (at_1 + (1 : Int))).toNat)) (b5.length - (w64 (at_1 + (1 : Int))).toNat) (by simp only [List.length_take, List.length_drop]; omega)]); done) | ((simp only [go_sem, simprocAttr, sw0, z12W15a, slice_lenF (fun (x : ByteArray × Int × Int × Int × Int × Int × Int × Int × Int) => [(Sx x.1), (I x.2.1), (I x.2.2.1), (I x.2.2.2.1), (I x.2.2.2.2.1), (I x.2.2.2.2.2.1), (I x.2.2.2.2.2.2.1), (I x.2.2.2.2.2.2.2.1), (I x.2.2.2.2.2.2.2.2)]) (b5.take at_1.toNat) at_1.toNat (by simp only [List.length_take, List.length_drop]; omega), z0W15a, z1W15a, z13W15a, slice_lenF (fun (x : ByteArray × Int × Int × Int × Int × Int × Int × Int × Int) => [(Sx x.1), (I x.2.1), (I x.2.2.1), (I x.2.2.2.1), (I x.2.2.2.2.1), (I x.2.2.2.2.2.1), (I x.2.2.2.2.2.2.1), (I x.2.2.2.2.2.2.2.1), (I x.2.2.2.2.2.2.2.2)]) ((b5.drop ((w64 (at_1 + (1 : Int))).toNat)).take (b5.length - (w64 (at_1 + (1 : Int))).toNat)) (b5.length - (w64 (at_1 + (1 : Int))).toNat) (by simp only [List.length_take, List.length_drop]; omega)]); first | omega | (repeat (refine And.intro (by (first | omega | assumption | rfl | decide | (simp only [List.length_map, List.length_replicate, List.length_append, List.length_take, List.length_drop, List.length_set, List.length_cons, List.length_nil, Nat.zero_add, Int.toNat_natCast] at *; omega) | (simp only [List.length_map, List.length_replicate, List.length_append, List.length_take, List.length_drop, List.length_set, List.length_cons, List.length_nil, Nat.zero_add, Int.toNat_natCast]; done) | trivial)) ?_); (first | omega | assumption | rfl | decide | (simp only [List.length_map, List.length_replicate, List.length_append, List.length_take, List.length_drop, List.length_set, List.length_cons, List.length_nil, Nat.zero_add, Int.toNat_natCast] at *; omega) | (simp only [List.length_map, List.length_replicate, List.length_append, List.length_take, List.length_drop, List.length_set, List.length_cons, List.length_nil, Nat.zero_add, Int.toNat_natCast]; done) | trivial)))
   · first | rfl | ((simp only [go_sem, simprocAttr, sw0, z12W15a, slice_lenF (fun (x : ByteArray × Int × Int × Int × Int × Int × Int × Int × Int) => [(Sx x.1), (I x.2.1), (I x.2.2.1), (I x.2.2.2.1), (I x.2.2.2.2.1), (I x.2.2.2.2.2.1), (I x.2.2.2.2.2.2.1), (I x.2.2.2.2.2.2.2.1), (I x.2.2.2.2.2.2.2.2)]) (b5.take at_1.toNat) at_1.toNat (by simp only [List.length_take, List.length_drop]; omega), z0W15a, z1W15a, z13W15a, slice_lenF (fun (x : ByteArray × Int × Int × Int × Int × Int × Int × Int × Int) => [(Sx x.1), (I x.2.1), (I x.2.2.1), (I x.2.2.2.1), (I x.2.2.2.2.1), (I x.2.2.2.2.2.1), (I x.2.2.2.2.2.2.1), (I x.2.2.2.2.2.2.2.1), (I x.2.2.2.2.2.2.2.2)]) ((b5.drop ((w64 (at_1 + (1 : Int))).toNat)).take (b5.length - (w64 (at_1 + (1 : Int))).toNat)) (b5.length - (w64 (at_1 + (1 : Int))).toNat) (by simp only [List.length_take, List.length_drop]; omega)]); done) | ((simp only [go_sem, simprocAttr, sw0, z12W15a, slice_lenF (fun (x : ByteArray × Int × Int × Int × Int × Int × Int × Int × Int) => [(Sx x.1), (I x.2.1), (I x.2.2.1), (I x.2.2.2.1), (I x.2.2.2.2.1), (I x.2.2.2.2.2.1), (I x.2.2.2.2.2.2.1), (I x.2.2.2.2.2.2.2.1), (I x.2.2.2.2.2.2.2.2)]) (b5.take at_1.toNat) at_1.toNat (by simp only [List.length_take, List.length_drop]; omega), z0W15a, z1W15a, z13W15a, slice_lenF (fun (x : ByteArray × Int × Int × Int × Int × Int × Int × Int × Int) => [(Sx x.1), (I x.2.1), (I x.2.2.1), (I x.2.2.2.1), (I x.2.2.2.2.1), (I x.2.2.2.2.2.1), (I x.2.2.2.2.2.2.1), (I x.2.2.2.2.2.2.2.1), (I x.2.2.2.2.2.2.2.2)]) ((b5.drop ((w64 (at_1 + (1 : Int))).toNat)).take (b5.length - (w64 (at_1 + (1 : Int))).toNat)) (b5.length - (w64 (at_1 + (1 : Int))).toNat) (by simp only [List.length_take, List.length_drop]; omega)]); rfl) | ((simp only [go_sem, simprocAttr, sw0, z12W15a, slice_lenF (fun (x : ByteArray × Int × Int × Int × Int × Int × Int × Int × Int) => [(Sx x.1), (I x.2.1), (I x.2.2.1), (I x.2.2.2.1), (I x.2.2.2.2.1), (I x.2.2.2.2.2.1), (I x.2.2.2.2.2.2.1), (I x.2.2.2.2.2.2.2.1), (I x.2.2.2.2.2.2.2.2)]) (b5.take at_1.toNat) at_1.toNat (by simp only [List.length_take, List.length_drop]; omega), z0W15a, z1W15a, z13W15a, slice_lenF (fun (x : ByteArray × Int × Int × Int × Int × Int × Int × Int × Int) => [(Sx x.1), (I x.2.1), (I x.2.2.1), (I x.2.2.2.1), (I x.2.2.2.2.1), (I x.2.2.2.2.2.1), (I x.2.2.2.2.2.2.1), (I x.2.2.2.2.2.2.2.1), (I x.2.2.2.2.2.2.2.2)]) ((b5.drop ((w64 (at_1 + (1 : Int))).toNat)).take (b5.length - (w64 (at_1 + (1 : Int))).toNat)) (b5.length - (w64 (at_1 + (1 : Int))).toNat) (by simp only [List.length_take, List.length_drop]; omega)]); simp only [List.append_assoc, List.cons_append, List.nil_append]; done) | ((simp only [go_sem, simprocAttr, sw0, z12W15a, slice_lenF (fun (x : ByteArray × Int × Int × Int × Int × Int × Int × Int × Int) => [(Sx x.1), (I x.2.1), (I x.2.2.1), (I x.2.2.2.1), (I x.2.2.2.2.1), (I x.2.2.2.2.2.1), (I x.2.2.2.2.2.2.1), (I x.2.2.2.2.2.2.2.1), (I x.2.2.2.2.2.2.2.2)]) (b5.take at_1.toNat) at_1.toNat (by simp only [List.length_take, List.length_drop]; omega), z0W15a, z1W15a, z13W15a, slice_lenF (fun (x : ByteArray × Int × Int × Int × Int × Int × Int × Int × Int) => [(Sx x.1), (I x.2.1), (I x.2.2.1), (I x.2.2.2.1), (I x.2.2.2.2.1), (I x.2.2.2.2.2.1), (I x.2.2.2.2.2.2.1), (I x.2.2.2.2.2.2.2.1), (I x.2.2.2.2.2.2.2.2)]) ((b5.drop ((w64 (at_1 + (1 : Int))).toNat)).take (b5.length - (w64 (at_1 + (1 : Int))).toNat)) (b5.length - (w64 (at_1 + (1 : Int))).toNat) (by simp only [List.length_take, List.length_drop]; omega)]); simp only [List.flatMap_append, List.map_append]; done) | ((simp only [go_sem, simprocAttr, sw0, z12W15a, slice_lenF (fun (x : ByteArray × Int × Int × Int × Int × Int × Int × Int × Int) => [(Sx x.1), (I x.2.1), (I x.2.2.1), (I x.2.2.2.1), (I x.2.2.2.2.1), (I x.2.2.2.2.2.1), (I x.2.2.2.2.2.2.1), (I x.2.2.2.2.2.2.2.1), (I x.2.2.2.2.2.2.2.2)]) (b5.take at_1.toNat) at_1.toNat (by simp only [List.length_take, List.length_drop]; omega), z0W15a, z1W15a, z13W15a, slice_lenF (fun (x : ByteArray × Int × Int × Int × Int × Int × Int × Int × Int) => [(Sx x.1), (I x.2.1), (I x.2.2.1), (I x.2.2.2.1), (I x.2.2.2.2.1), (I x.2.2.2.2.2.1), (I x.2.2.2.2.2.2.1), (I x.2.2.2.2.2.2.2.1), (I x.2.2.2.2.2.2.2.2)]) ((b5.drop ((w64 (at_1 + (1 : Int))).toNat)).take (b5.length - (w64 (at_1 + (1 : Int))).toNat)) (b5.length - (w64 (at_1 + (1 : Int))).toNat) (by simp only [List.length_take, List.length_drop]; omega)]); simp only [List.flatMap_append, List.map_append]; rfl)
   try (simp only [go_sem, simprocAttr, sw0, z12W15a, slice_lenF (fun (x : ByteArray × Int × Int × Int × Int × Int × Int × Int × Int) => [(Sx x.1), (I x.2.1), (I x.2.2.1), (I x.2.2.2.1), (I x.2.2.2.2.1), (I x.2.2.2.2.2.1), (I x.2.2.2.2.2.2.1), (I x.2.2.2.2.2.2.2.1), (I x.2.2.2.2.2.2.2.2)]) (b5.take at_1.toNat) at_1.toNat (by simp only [List.length_take, List.length_drop]; omega), z0W15a, z1W15a, z13W15a, slice_lenF (fun (x : ByteArray × Int × Int × Int × Int × Int × Int × Int × Int) => [(Sx x.1), (I x.2.1), (I x.2.2.1), (I x.2.2.2.1), (I x.2.2.2.2.1), (I x.2.2.2.2.2.1), (I x.2.2.2.2.2.2.1), (I x.2.2.2.2.2.2.2.1), (I x.2.2.2.2.2.2.2.2)]) ((b5.drop ((w64 (at_1 + (1 : Int))).toNat)).take (b5.length - (w64 (at_1 + (1 : Int))).toNat)) (b5.length - (w64 (at_1 + (1 : Int))).toNat) (by simp only [List.length_take, List.length_drop]; omega)])
   refine FWX.op (by decide) rfl (.ptr 5 0) 0 2 (.inl rfl) (.inl rfl) ?_ ?_ (by (simp only [go_sem, Nat.reduceLT])) ?_
   ·
    intro j hj1 hj2
    have hj : j = 0 ∨ j = 1 ∨ j = 2 := by omega
    rcases hj with rfl | rfl | rfl
    all_goals (refine ⟨?_, ?_⟩)
    all_goals (first | rfl | trivial | ((simp only [go_sem, simprocAttr, sw0, z12W15a, slice_lenF (fun (x : ByteArray × Int × Int × Int × Int × Int × Int × Int × Int) => [(Sx x.1), (I x.2.1), (I x.2.2.1), (I x.2.2.2.1), (I x.2.2.2.2.1), (I x.2.2.2.2.2.1), (I x.2.2.2.2.2.2.1), (I x.2.2.2.2.2.2.2.1), (I x.2.2.2.2.2.2.2.2)]) (b5.take at_1.toNat) at_1.toNat (by simp only [List.length_take, List.length_drop]; omega), z0W15a, z1W15a, z13W15a, slice_lenF (fun (x : ByteArray × Int × Int × Int × Int × Int × Int × Int × Int) => [(Sx x.1), (I x.2.1), (I x.2.2.1), (I x.2.2.2.1), (I x.2.2.2.2.1), (I x.2.2.2.2.2.1), (I x.2.2.2.2.2.2.1), (I x.2.2.2.2.2.2.2.1), (I x.2.2.2.2.2.2.2.2)]) ((b5.drop ((w64 (at_1 + (1 : Int))).toNat)).take (b5.length - (w64 (at_1 + (1 : Int))).toNat)) (b5.length - (w64 (at_1 + (1 : Int))).toNat) (by simp only [List.length_take, List.length_drop]; omega)]); first | done | rfl | omega | assumption | decide | (simp only [List.append_assoc, List.cons_append, List.nil_append]; done) | (simp only [List.flatMap_append, List.map_append]; first | done | rfl) | ((repeat (refine And.intro (by first | rfl | omega | assumption | decide) ?_)); first | rfl | omega | assumption | decide)))
   refine KeptX.free [76, 81] (by first | rfl | (simp only [V.kill]; exact if_neg (by omega))) ?_ (by kernel_rfl) ?_
   · repeat (first | exact fun _ h => absurd h List.not_mem_nil | (refine List.forall_mem_cons.2 (And.intro ?_ ?_); · first | exact .inr rfl | (left; simp; done) | (right; simp only [V.kill, ↓reduceIte]; first | rfl | exact if_neg (by omega) | (simp only [V.kill, V.kill.kills, ↓reduceIte]; done))))
   exact KeptX.nil
   try simp only [go_sem, simprocAttr]
   refine FWX.op (by decide) rfl (.d (.list b5.length (b5.flatMap (fun (x : ByteArray × Int × Int × Int × Int × Int × Int × Int × Int) => [(Sx x.1), (I x.2.1), (I x.2.2.1), (I x.2.2.2.1), (I x.2.2.2.2.1), (I x.2.2.2.2.2.1), (I x.2.2.2.2.2.2.1), (I x.2.2.2.2.2.2.2.1), (I x.2.2.2.2.2.2.2.2)])))) 0 2 (.inl rfl) (.inl rfl) ?_ ?_ (by (simp only [go_sem, Nat.reduceLT])) ?_
   ·
    intro j hj1 hj2
    have hj : j = 0 ∨ j = 1 ∨ j = 2 := by omega
    rcases hj with rfl | rfl | rfl
    all_goals (refine ⟨?_, ?_⟩)
    all_goals (first | rfl | trivial | ((simp only [go_sem, simprocAttr, sw0, z12W15a, slice_lenF (fun (x : ByteArray × Int × Int × Int × Int × Int × Int × Int × Int) => [(Sx x.1), (I x.2.1), (I x.2.2.1), (I x.2.2.2.1), (I x.2.2.2.2.1), (I x.2.2.2.2.2.1), (I x.2.2.2.2.2.2.1), (I x.2.2.2.2.2.2.2.1), (I x.2.2.2.2.2.2.2.2)]) (b5.take at_1.toNat) at_1.toNat (by simp only [List.length_take, List.length_drop]; omega), z0W15a, z1W15a, z13W15a, slice_lenF (fun (x : ByteArray × Int × Int × Int × Int × Int × Int × Int × Int) => [(Sx x.1), (I x.2.1), (I x.2.2.1), (I x.2.2.2.1), (I x.2.2.2.2.1), (I x.2.2.2.2.2.1), (I x.2.2.2.2.2.2.1), (I x.2.2.2.2.2.2.2.1), (I x.2.2.2.2.2.2.2.2)]) ((b5.drop ((w64 (at_1 + (1 : Int))).toNat)).take (b5.length - (w64 (at_1 + (1 : Int))).toNat)) (b5.length - (w64 (at_1 + (1 : Int))).toNat) (by simp only [List.length_take, List.length_drop]; omega)]); first | done | rfl | omega | assumption | decide | (simp only [List.append_assoc, List.cons_append, List.nil_append]; done) | (simp only [List.flatMap_append, List.map_append]; first | done | rfl) | ((repeat (refine And.intro (by first | rfl | omega | assumption | decide) ?_)); first | rfl | omega | assumption | decide)))
   refine KeptX.free [76, 81] (by first | rfl | (simp only [V.kill]; exact if_neg (by omega))) ?_ (by kernel_rfl) ?_
   · repeat (first | exact fun _ h => absurd h List.not_mem_nil | (refine List.forall_mem_cons.2 (And.intro ?_ ?_); · first | exact .inr rfl | (left; simp; done) | (right; simp only [V.kill, ↓reduceIte]; first | rfl | exact if_neg (by omega) | (simp only [V.kill, V.kill.kills, ↓reduceIte]; done))))
   exact KeptX.nil
   try simp only [go_sem, simprocAttr]
   refine FWX.op (by decide) rfl (.d (I at_1)) 0 2 (.inl rfl) (.inl rfl) ?_ ?_ (by (simp only [go_sem, Nat.reduceLT])) ?_
   ·
    intro j hj1 hj2
    have hj : j = 0 ∨ j = 1 ∨ j = 2 := by omega
    rcases hj with rfl | rfl | rfl
    all_goals (refine ⟨?_, ?_⟩)
    all_goals (first | rfl | trivial | ((simp only [go_sem, simprocAttr, sw0, z12W15a, slice_lenF (fun (x : ByteArray × Int × Int × Int × Int × Int × Int × Int × Int) => [(Sx x.1), (I x.2.1), (I x.2.2.1), (I x.2.2.2.1), (I x.2.2.2.2.1), (I x.2.2.2.2.2.1), (I x.2.2.2.2.2.2.1), (I x.2.2.2.2.2.2.2.1), (I x.2.2.2.2.2.2.2.2)]) (b5.take at_1.toNat) at_1.toNat (by simp only [List.length_take, List.length_drop]; omega), z0W15a, z1W15a, z13W15a, slice_lenF (fun (x : ByteArray × Int × Int × Int × Int × Int × Int × Int × Int) => [(Sx x.1), (I x.2.1), (I x.2.2.1), (I x.2.2.2.1), (I x.2.2.2.2.1), (I x.2.2.2.2.2.1), (I x.2.2.2.2.2.2.1), (I x.2.2.2.2.2.2.2.1), (I x.2.2.2.2.2.2.2.2)]) ((b5.drop ((w64 (at_1 + (1 : Int))).toNat)).take (b5.length - (w64 (at_1 + (1 : Int))).toNat)) (b5.length - (w64 (at_1 + (1 : Int))).toNat) (by simp only [List.length_take, List.length_drop]; omega)]); first | done | rfl | omega | assumption | decide | (simp only [List.append_assoc, List.cons_append, List.nil_append]; done) | (simp only [List.flatMap_append, List.map_append]; first | done | rfl) | ((repeat (refine And.intro (by first | rfl | omega | assumption | decide) ?_)); first | rfl | omega | assumption | decide)))
   refine KeptX.free [76, 81] (by first | rfl | (simp only [V.kill]; exact if_neg (by omega))) ?_ (by kernel_rfl) ?_
   · repeat (first | exact fun _ h => absurd h List.not_mem_nil | (refine List.forall_mem_cons.2 (And.intro ?_ ?_); · first | exact .inr rfl | (left; simp; done) | (right; simp only [V.kill, ↓reduceIte]; first | rfl | exact if_neg (by omega) | (simp only [V.kill, V.kill.kills, ↓reduceIte]; done))))
   exact KeptX.nil
   try simp only [go_sem, simprocAttr]
   refine FWX.op (by decide) rfl (.d (I (w64 (at_1 + (1 : Int))))) 0 2 (.inl rfl) (.inl rfl) ?_ ?_ (by (simp only [go_sem, Nat.reduceLT])) ?_
   ·
    intro j hj1 hj2
    have hj : j = 0 ∨ j = 1 ∨ j = 2 := by omega
    rcases hj with rfl | rfl | rfl
    all_goals (refine ⟨?_, ?_⟩)
    all_goals (first | rfl | trivial | ((simp only [go_sem, simprocAttr, sw0, z12W15a, slice_lenF (fun (x : ByteArray × Int × Int × Int × Int × Int × Int × Int × Int) => [(Sx x.1), (I x.2.1), (I x.2.2.1), (I x.2.2.2.1), (I x.2.2.2.2.1), (I x.2.2.2.2.2.1), (I x.2.2.2.2.2.2.1), (I x.2.2.2.2.2.2.2.1), (I x.2.2.2.2.2.2.2.2)]) (b5.take at_1.toNat) at_1.toNat (by simp only [List.length_take, List.length_drop]; omega), z0W15a, z1W15a, z13W15a, slice_lenF (fun (x : ByteArray × Int × Int × Int × Int × Int × Int × Int × Int) => [(Sx x.1), (I x.2.1), (I x.2.2.1), (I x.2.2.2.1), (I x.2.2.2.2.1), (I x.2.2.2.2.2.1), (I x.2.2.2.2.2.2.1), (I x.2.2.2.2.2.2.2.1), (I x.2.2.2.2.2.2.2.2)]) ((b5.drop ((w64 (at_1 + (1 : Int))).toNat)).take (b5.length - (w64 (at_1 + (1 : Int))).toNat)) (b5.length - (w64 (at_1 + (1 : Int))).toNat) (by simp only [List.length_take, List.length_drop]; omega)]); first | done | rfl | omega | assumption | decide | (simp only [List.append_assoc, List.cons_append, List.nil_append]; done) | (simp only [List.flatMap_append, List.map_append]; first | done | rfl) | ((repeat (refine And.intro (by first | rfl | omega | assumption | decide) ?_)); first | rfl | omega | assumption | decide)))
   refine KeptX.free [76, 81] (by first | rfl | (simp only [V.kill]; exact if_neg (by omega))) ?_ (by kernel_rfl) ?_
   · repeat (first | exact fun _ h => absurd h List.not_mem_nil | (refine List.forall_mem_cons.2 (And.intro ?_ ?_); · first | exact .inr rfl | (left; simp; done) | (right; simp only [V.kill, ↓reduceIte]; first | rfl | exact if_neg (by omega) | (simp only [V.kill, V.kill.kills, ↓reduceIte]; done))))
   exact KeptX.nil
   try simp only [go_sem, simprocAttr]
   refine FWX.op (by decide) rfl (.d (.list ((b5.drop ((w64 (at_1 + (1 : Int))).toNat)).take (b5.length - (w64 (at_1 + (1 : Int))).toNat)).length (((b5.drop ((w64 (at_1 + (1 : Int))).toNat)).take (b5.length - (w64 (at_1 + (1 : Int))).toNat)).flatMap (fun (x : ByteArray × Int × Int × Int × Int × Int × Int × Int × Int) => [(Sx x.1), (I x.2.1), (I x.2.2.1), (I x.2.2.2.1), (I x.2.2.2.2.1), (I x.2.2.2.2.2.1), (I x.2.2.2.2.2.2.1), (I x.2.2.2.2.2.2.2.1), (I x.2.2.2.2.2.2.2.2)])))) 0 2 (.inl rfl) (.inl rfl) ?_ ?_ (by (simp only [go_sem, Nat.reduceLT])) ?_
   ·
    intro j hj1 hj2
    have hj : j = 0 ∨ j = 1 ∨ j = 2 := by omega
    rcases hj with rfl | rfl | rfl
    all_goals (refine ⟨?_, ?_⟩)
    all_goals (first | rfl | trivial | ((simp only [go_sem, simprocAttr, sw0, z12W15a, slice_lenF (fun (x : ByteArray × Int × Int × Int × Int × Int × Int × Int × Int) => [(Sx x.1), (I x.2.1), (I x.2.2.1), (I x.2.2.2.1), (I x.2.2.2.2.1), (I x.2.2.2.2.2.1), (I x.2.2.2.2.2.2.1), (I x.2.2.2.2.2.2.2.1), (I x.2.2.2.2.2.2.2.2)]) (b5.take at_1.toNat) at_1.toNat (by simp only [List.length_take, List.length_drop]; omega), z0W15a, z1W15a, z13W15a, slice_lenF (fun (x : ByteArray × Int × Int × Int × Int × Int × Int × Int × Int) => [(Sx x.1), (I x.2.1), (I x.2.2.1), (I x.2.2.2.1), (I x.2.2.2.2.1), (I x.2.2.2.2.2.1), (I x.2.2.2.2.2.2.1), (I x.2.2.2.2.2.2.2.1), (I x.2.2.2.2.2.2.2.2)]) ((b5.drop ((w64 (at_1 + (1 : Int))).toNat)).take (b5.length - (w64 (at_1 + (1 : Int))).toNat)) (b5.length - (w64 (at_1 + (1 : Int))).toNat) (by simp only [List.length_take, List.length_drop]; omega)]); first | done | rfl | omega | assumption | decide | (simp only [List.append_assoc, List.cons_append, List.nil_append]; done) | (simp only [List.flatMap_append, List.map_append]; first | done | rfl) | ((repeat (refine And.intro (by first | rfl | omega | assumption | decide) ?_)); first | rfl | omega | assumption | decide)))
   refine KeptX.free [76, 81] (by first | rfl | (simp only [V.kill]; exact if_neg (by omega))) ?_ (by kernel_rfl) ?_
   · repeat (first | exact fun _ h => absurd h List.not_mem_nil | (refine List.forall_mem_cons.2 (And.intro ?_ ?_); · first | exact .inr rfl | (left; simp; done) | (right; simp only [V.kill, ↓reduceIte]; first | rfl | exact if_neg (by omega) | (simp only [V.kill, V.kill.kills, ↓reduceIte]; done))))
   exact KeptX.nil
   try simp only [go_sem, simprocAttr]
   refine FWX.nil ?_
   change OW _ _ _ _ _ _
   change OW _ _ _ _ _ _
   refine OW.run [3, 5, 6, 8] ?_
   (simp only [go_sem, simprocAttr, sw0, z12W15a, slice_lenF (fun (x : ByteArray × Int × Int × Int × Int × Int × Int × Int × Int) => [(Sx x.1), (I x.2.1), (I x.2.2.1), (I x.2.2.2.1), (I x.2.2.2.2.1), (I x.2.2.2.2.2.1), (I x.2.2.2.2.2.2.1), (I x.2.2.2.2.2.2.2.1), (I x.2.2.2.2.2.2.2.2)]) (b5.take at_1.toNat) at_1.toNat (by simp only [List.length_take, List.length_drop]; omega), z0W15a, z1W15a, z13W15a, slice_lenF (fun (x : ByteArray × Int × Int × Int × Int × Int × Int × Int × Int) => [(Sx x.1), (I x.2.1), (I x.2.2.1), (I x.2.2.2.1), (I x.2.2.2.2.1), (I x.2.2.2.2.2.1), (I x.2.2.2.2.2.2.1), (I x.2.2.2.2.2.2.2.1), (I x.2.2.2.2.2.2.2.2)]) ((b5.drop ((w64 (at_1 + (1 : Int))).toNat)).take (b5.length - (w64 (at_1 + (1 : Int))).toNat)) (b5.length - (w64 (at_1 + (1 : Int))).toNat) (by simp only [List.length_take, List.length_drop]; omega)])
   repeat (refine And.intro (by omega) ?_)
   refine OW.frz 7 (by exact Nat.zero_le _) (by (simp only [go_sem, isD, allD_mapV]; done)) ?_
   simp only [map_nz_I, map_nz_Bo, map_nz_Sx, map_nz_L, nz_int, nz_bool, nz_str, nz_list, nz_ref, nz_nil, go_sem, simprocAttr]
   try simp only [z2W15a, z3W15a, z4W15a, z5W15a]
   refine OW.nil (hK _ ?_)
   refine hN4 [] (((b5.take at_1.toNat) ++ ((b5.drop ((w64 (at_1 + (1 : Int))).toNat)).take (b5.length - (w64 (at_1 + (1 : Int))).toNat))), (b6 ++ ([(b5.getD at_1.toNat default).1] : List ByteArray))) _ H (by exact trivial) ?_
   simp only [sw1, go_sem, simprocAttr]
end Go.Proofs.Ytabojpkmfkjjkaa
