import Derived.Test.YtabojpkmfkjjkaaSsBase
import Derived.Test.YtabojpkmfkjjkaaSsW0
import Derived.Test.YtabojpkmfkjjkaaSsW1
import Derived.Test.YtabojpkmfkjjkaaSsW4
import Derived.Test.YtabojpkmfkjjkaaSsW5
set_option linter.all false
namespace Go.Proofs.Ytabojpkmfkjjkaa
open Go.PW Go.Sh

set_option maxRecDepth 20000
set_option maxHeartbeats 8000000
def z0W6a := flatMap_length 9 (fun (x : ByteArray × Int × Int × Int × Int × Int × Int × Int × Int) => [(Sx x.1), (I x.2.1), (I x.2.2.1), (I x.2.2.2.1), (I x.2.2.2.2.1), (I x.2.2.2.2.2.1), (I x.2.2.2.2.2.2.1), (I x.2.2.2.2.2.2.2.1), (I x.2.2.2.2.2.2.2.2)]) (fun _ => rfl)
def z1W6a := sub_el 9 (fun (x : ByteArray × Int × Int × Int × Int × Int × Int × Int × Int) => [(Sx x.1), (I x.2.1), (I x.2.2.1), (I x.2.2.2.1), (I x.2.2.2.2.1), (I x.2.2.2.2.2.1), (I x.2.2.2.2.2.2.1), (I x.2.2.2.2.2.2.2.1), (I x.2.2.2.2.2.2.2.2)]) (fun _ => rfl)
def z2W6a := allOne_flatF (fun (x : ByteArray × Int × Int × Int × Int × Int × Int × Int × Int) => [(Sx x.1), (I x.2.1), (I x.2.2.1), (I x.2.2.2.1), (I x.2.2.2.2.1), (I x.2.2.2.2.2.1), (I x.2.2.2.2.2.2.1), (I x.2.2.2.2.2.2.2.1), (I x.2.2.2.2.2.2.2.2)]) (fun _ => rfl)
def z3W6a := map_nz_flat (f := (fun (x : ByteArray × Int × Int × Int × Int × Int × Int × Int × Int) => [(Sx x.1), (I x.2.1), (I x.2.2.1), (I x.2.2.2.1), (I x.2.2.2.2.1), (I x.2.2.2.2.2.1), (I x.2.2.2.2.2.2.1), (I x.2.2.2.2.2.2.2.1), (I x.2.2.2.2.2.2.2.2)])) (fun _ => rfl)
def z4W6a := takeFlat (fun (x : ByteArray × Int × Int × Int × Int × Int × Int × Int × Int) => [(Sx x.1), (I x.2.1), (I x.2.2.1), (I x.2.2.2.1), (I x.2.2.2.2.1), (I x.2.2.2.2.2.1), (I x.2.2.2.2.2.2.1), (I x.2.2.2.2.2.2.2.1), (I x.2.2.2.2.2.2.2.2)]) 9 (fun _ => rfl)
def z5W6a := takeFlat1 (fun (x : ByteArray × Int × Int × Int × Int × Int × Int × Int × Int) => [(Sx x.1), (I x.2.1), (I x.2.2.1), (I x.2.2.2.1), (I x.2.2.2.2.1), (I x.2.2.2.2.2.1), (I x.2.2.2.2.2.2.1), (I x.2.2.2.2.2.2.2.1), (I x.2.2.2.2.2.2.2.2)]) 9 (fun _ => rfl)
def z6W6a := takeFlatS (fun (x : ByteArray × Int × Int × Int × Int × Int × Int × Int × Int) => [(Sx x.1), (I x.2.1), (I x.2.2.1), (I x.2.2.2.1), (I x.2.2.2.2.1), (I x.2.2.2.2.2.1), (I x.2.2.2.2.2.2.1), (I x.2.2.2.2.2.2.2.1), (I x.2.2.2.2.2.2.2.2)]) 9 (fun _ => rfl)
def z7W6a := allValFlat (fun (x : ByteArray × Int × Int × Int × Int × Int × Int × Int × Int) => [(Sx x.1), (I x.2.1), (I x.2.2.1), (I x.2.2.2.1), (I x.2.2.2.2.1), (I x.2.2.2.2.2.1), (I x.2.2.2.2.2.2.1), (I x.2.2.2.2.2.2.2.1), (I x.2.2.2.2.2.2.2.2)]) (fun _ => rfl)
def z8W6a := subV_el 9 (fun (x : ByteArray × Int × Int × Int × Int × Int × Int × Int × Int) => [(Sx x.1), (I x.2.1), (I x.2.2.1), (I x.2.2.2.1), (I x.2.2.2.2.1), (I x.2.2.2.2.2.1), (I x.2.2.2.2.2.2.1), (I x.2.2.2.2.2.2.2.1), (I x.2.2.2.2.2.2.2.2)]) (fun _ => rfl)
def z9W6a := getD_elV0 9 (fun (x : ByteArray × Int × Int × Int × Int × Int × Int × Int × Int) => [(Sx x.1), (I x.2.1), (I x.2.2.1), (I x.2.2.2.1), (I x.2.2.2.2.1), (I x.2.2.2.2.2.1), (I x.2.2.2.2.2.2.1), (I x.2.2.2.2.2.2.2.1), (I x.2.2.2.2.2.2.2.2)]) (fun _ => rfl)
def z10W6a := getD_elV 9 (fun (x : ByteArray × Int × Int × Int × Int × Int × Int × Int × Int) => [(Sx x.1), (I x.2.1), (I x.2.2.1), (I x.2.2.2.1), (I x.2.2.2.2.1), (I x.2.2.2.2.2.1), (I x.2.2.2.2.2.2.1), (I x.2.2.2.2.2.2.2.1), (I x.2.2.2.2.2.2.2.2)]) (fun _ => rfl)
theorem law06_SchedNeverRefused_ok (N : Nat) (Zq : Int) (Zr : Int) (Zs : Int) (Zx : List Int) (l : List TB) (Z1e : ByteArray) (Z1c : Int) (Z1h : Int) (Z1j : Int) (Z1g : Int) (Z1d : Int) (Z19 : Int) (Z1i : Int) (Z1a : Int) (r : Bool) (H : law06_SchedNeverRefused N Zq Zr Zs Zx l Z1e Z1c Z1h Z1j Z1g Z1d Z19 Z1i Z1a = some r) : CallOK Try.prog 4 [(.agg [(I Zq), (I Zr), (I Zs), (L Zx)]), (.list l.length (l.flatMap (fun (x : ByteArray × Int × Int × Int × Int × Int × Int × Int × Int) => [(Sx x.1), (I x.2.1), (I x.2.2.1), (I x.2.2.2.1), (I x.2.2.2.2.1), (I x.2.2.2.2.2.1), (I x.2.2.2.2.2.2.1), (I x.2.2.2.2.2.2.2.1), (I x.2.2.2.2.2.2.2.2)]))), (.agg [(Sx Z1e), (I Z1c), (I Z1h), (I Z1j), (I Z1g), (I Z1d), (I Z19), (I Z1i), (I Z1a)])] (.d (Bo r)) [] := by
 refine CallOK.of_PW Try.func4 rfl (by rw [Try.results4]) Try.ntmps4 Try.call4 ?_
 change PW _ _ _ _ _
 try simp only [go_sem, simprocAttr]
 unfold law06_SchedNeverRefused at H
 refine PW.seq ?_
 refine PW.regionK fun K hK => OW.run [1, 3, 5] ?_
 simp only [go_sem, simprocAttr, sw0]
 refine OW.nil (hK _ ?_); clear hK K
 change PW _ _ _ _ _
 refine PW.seq ?_
 refine PW.seq ?_
 obtain ⟨x1, e1, H⟩ := bnd_some H
 refine PW.regionK fun K hK => OW.run [1, 3, 5, 17] ?_
 simp only [go_sem, simprocAttr, sw0]
 refine OW.call' 4 rfl rfl rfl (by ((simp only [go_sem, List.toList_toArray, simprocAttr]); exact rfl)) ?_ (law06_awake_ok N  _ e1) ?_ ?_ ?_ ?_
 · rfl
 · exact okD_all rfl
 · exact .inl rfl
 · (simp only [go_sem, Nat.reduceLT])
 refine OW.run [1, 3, 5, 17] ?_
 simp only [go_sem, simprocAttr, sw0]
 refine OW.nil (hK _ ?_); clear hK K
 change PW _ _ _ _ _
 refine PW.cond rfl (fun h1 => ?_) (fun h1 => ?_)
 ·
  replace H := br_t h1 H
  refine PW.seq ?_
  refine PW.regionK fun K hK => OW.run [6] ?_
  simp only [go_sem, simprocAttr, sw0]
  refine OW.nil (hK _ ?_); clear hK K
  change PW _ _ _ _ _
  refine PW.ret ?_
  change PW.Ends _ _ _ _ _ _
  refine PW.Ends.intro (.inr rfl) ?_
  simp only [go_sem, simprocAttr, sw0]
  obtain rfl := Option.some.inj H
  refine RetOK.data' 4 (by exact trivial) ?_
  rfl
 ·
  replace H := br_f h1 H
  refine PW.skip ?_
  change PW _ _ _ _ _
  refine PW.seq ?_
  refine PW.seq ?_
  obtain ⟨x2, e2, H⟩ := bnd_some H
  obtain ⟨x3, e3, H⟩ := bnd_some H
  obtain ⟨x4, e4, H⟩ := bnd_some H
  refine PW.regionK fun K hK => OW.run [1, 3, 5, 39] ?_
  simp only [go_sem, simprocAttr, sw0]
  refine OW.call' 4 rfl rfl rfl (by ((simp only [go_sem, List.toList_toArray, simprocAttr]); exact rfl)) ?_ (law06_Few_ok N _ _ _ _ _ _ e2) ?_ ?_ ?_ ?_
  · rfl
  · (refine okAll_intro ?_; (simp only [go_sem, sw2, List.length_set, List.length_replicate, and_true, true_and, Nat.le_refl, simprocAttr]; done))
  · exact .inl rfl
  · (simp only [go_sem, Nat.reduceLT])
  refine OW.run [1, 3, 5, 39] ?_
  simp only [go_sem, simprocAttr, sw0]
  repeat (refine And.intro (by omega) ?_)
  refine OW.callG' 4 rfl rfl ?_ (fun hg => by first | rfl | (simp only [go_sem, ↓reduceIte]; rfl)) (fun hg => by ((simp only [go_sem, List.toList_toArray, simprocAttr]); exact rfl)) (fun hg => ?_) (fun hg => (ref06_BothErr_ok N _ _ _ _ _ _ (grd_t hg e3))) ?_ ?_ ?_ ?_
  · (simp only [go_sem, simprocAttr]; done)
  · rfl
  · (refine okAll_intro ?_; (simp only [go_sem, sw2, List.length_set, List.length_replicate, and_true, true_and, Nat.le_refl, simprocAttr]; done))
  · exact .inl rfl
  · (simp only [go_sem, Nat.reduceLT])
  refine OW.run [1, 3, 5, 39] ?_
  simp only [go_sem, simprocAttr, sw0]
  refine OW.callG' 4 rfl rfl ?_ (fun hg => by first | rfl | (simp only [go_sem, ↓reduceIte]; rfl)) (fun hg => by ((simp only [go_sem, List.toList_toArray, simprocAttr]); exact rfl)) (fun hg => ?_) (fun hg => (ref06_BearerErr_ok N _ _ _ _ _ _ _ _ _ _ _ _ _ _ (grd_t hg e4))) ?_ ?_ ?_ ?_
  · (simp only [go_sem, simprocAttr]; done)
  · rfl
  · (refine okAll_intro ?_; (simp only [go_sem, sw2, List.length_set, List.length_replicate, and_true, true_and, Nat.le_refl, simprocAttr]; done))
  · exact .inl rfl
  · (simp only [go_sem, Nat.reduceLT])
  refine OW.run [1, 3, 5, 39] ?_
  simp only [go_sem, simprocAttr, sw0]
  refine OW.nil (hK _ ?_); clear hK K
  change PW _ _ _ _ _
  refine PW.cond rfl (fun h2 => ?_) (fun h2 => ?_)
  ·
   replace H := br_t h2 H
   refine PW.seq ?_
   refine PW.regionK fun K hK => OW.run [6] ?_
   simp only [go_sem, simprocAttr, sw0]
   refine OW.nil (hK _ ?_); clear hK K
   change PW _ _ _ _ _
   refine PW.ret ?_
   change PW.Ends _ _ _ _ _ _
   refine PW.Ends.intro (.inr rfl) ?_
   simp only [go_sem, simprocAttr, sw0]
   obtain rfl := Option.some.inj H
   refine RetOK.data' 4 (by exact trivial) ?_
   rfl
  ·
   replace H := br_f h2 H
   refine PW.skip ?_
   change PW _ _ _ _ _
   refine PW.seq ?_
   obtain ⟨⟨x5, x51, x52, x53⟩, e5, H⟩ := bnd_some H
   obtain ⟨x6, e6, H⟩ := bnd_some H
   obtain ⟨⟨x7, x71, x72⟩, e7, H⟩ := bnd_some H
   refine PW.drawO 11 [9] [32] mixed (by kernel_rfl) (by decide) rfl fun K hK => ?_
   refine FWO.run ?_
   simp only [go_sem, simprocAttr, sw0]
   refine FWO.call' 4 (by decide) rfl rfl rfl (by ((simp only [go_sem, List.toList_toArray, simprocAttr]); exact rfl)) ?_ (ref06_Copy_ok N _ _ _ _ _ e5) ?_ ?_ ?_ ?_
   · rfl
   · (refine okAll_intro ?_; (simp only [go_sem, sw2, List.length_set, List.length_replicate, and_true, true_and, Nat.le_refl, simprocAttr]; done))
   · exact .inl rfl
   · (simp only [go_sem, Nat.reduceLT])
   refine FWO.run ?_
   simp only [go_sem, simprocAttr, sw0]
   refine FWO.call' 4 (by decide) rfl rfl rfl (by ((simp only [go_sem, List.toList_toArray, simprocAttr]); exact rfl)) ?_ (ref06_CopyBearers_ok N _ _ e6) ?_ ?_ ?_ ?_
   · rfl
   · exact okD_all rfl
   · exact .inl rfl
   · (simp only [go_sem, Nat.reduceLT])
   refine FWO.run ?_
   simp only [go_sem, simprocAttr, sw0]
   refine FWO.call' 4 (by decide) rfl rfl rfl (by ((simp only [go_sem, List.toList_toArray, simprocAttr]); exact rfl)) ?_ (sched_Admit_ok N _ _ _ _ _ _ _ _ _ _ _ _ _ _ _ e7) ?_ ?_ ?_ ?_
   · rfl
   · (refine okAll_intro ?_; (simp only [go_sem, sw2, List.length_set, List.length_replicate, and_true, true_and, Nat.le_refl, simprocAttr]; done))
   · exact .inl rfl
   · (simp only [go_sem, Nat.reduceLT])
   refine FWO.run ?_
   simp only [go_sem, simprocAttr, sw0]
   repeat (refine And.intro (by rfl) ?_)
   first | refine FWO.nil ?_ | skip
   change OW _ _ _ _ _ _
   refine OW.run [1, 3, 5, 7, 8] ?_
   simp only [go_sem, simprocAttr, sw0]
   refine OW.nil (hK _ ?_); clear hK K
   change PW _ _ _ _ _
   refine PW.seq ?_
   refine PW.regionK fun K hK => OW.run [1, 3, 5, 7, 8, 9] ?_
   simp only [go_sem, simprocAttr, sw0]
   refine OW.nil (hK _ ?_); clear hK K
   change PW _ _ _ _ _
   refine PW.joinS (τ := (List TB)) [1, 3, 5, 7, 8, 9] 4 (fun b3 => [(9, .own 3 0 b3.length 9)]) (fun b3 => [{ cells := [.d (I Zq), .d (I Zr), .d (I Zs), .d (L Zx)], e := 24 }, { cells := [.d (Sx Z1e), .d (I Z1c), .d (I Z1h), .d (I Z1j), .d (I Z1g), .d (I Z1d), .d (I Z19), .d (I Z1i), .d (I Z1a)], e := 27 }, { cells := [.d (.list x7.length (x7.flatMap (fun (x : ByteArray × Int × Int × Int × Int × Int × Int × Int × Int) => [(Sx x.1), (I x.2.1), (I x.2.2.1), (I x.2.2.2.1), (I x.2.2.2.2.1), (I x.2.2.2.2.2.1), (I x.2.2.2.2.2.2.1), (I x.2.2.2.2.2.2.2.1), (I x.2.2.2.2.2.2.2.2)]))), .d (.list x71.length (x71.map Sx))], e := 32 }, { cells := (b3.flatMap (fun (x : ByteArray × Int × Int × Int × Int × Int × Int × Int × Int) => [(Sx x.1), (I x.2.1), (I x.2.2.1), (I x.2.2.2.1), (I x.2.2.2.2.1), (I x.2.2.2.2.2.1), (I x.2.2.2.2.2.2.1), (I x.2.2.2.2.2.2.2.1), (I x.2.2.2.2.2.2.2.2)])).map .d, e := 27 }]) _ _ r (by exact Nat.zero_le _) H ?_ ?_
   ·
    intro K_ H N3 hN3
    refine PW.seq ?_
    refine PW.regionK fun K hK => OW.run [1, 3, 5, 7, 8, 9, 10] ?_
    simp only [go_sem, simprocAttr, sw0]
    refine OW.nil (hK _ ?_); clear hK K
    change PW _ _ _ _ _
    refine PW.block ?_
    refine PW.virt 9 27 9 rfl ?_
    try simp only [go_sem, simprocAttr]
    refine PW.loopS (σ := Int × (List TB)) [1, 3, 5, 7, 8, 9, 10] 4 (fun (i, b31) => [(9, .own 3 0 b31.length 9), (10, .d (I i))]) (fun (i, b31) => [{ cells := [.d (I Zq), .d (I Zr), .d (I Zs), .d (L Zx)], e := 24 }, { cells := [.d (Sx Z1e), .d (I Z1c), .d (I Z1h), .d (I Z1j), .d (I Z1g), .d (I Z1d), .d (I Z19), .d (I Z1i), .d (I Z1a)], e := 27 }, { cells := [.d (.list x7.length (x7.flatMap (fun (x : ByteArray × Int × Int × Int × Int × Int × Int × Int × Int) => [(Sx x.1), (I x.2.1), (I x.2.2.1), (I x.2.2.2.1), (I x.2.2.2.2.1), (I x.2.2.2.2.2.1), (I x.2.2.2.2.2.2.1), (I x.2.2.2.2.2.2.2.1), (I x.2.2.2.2.2.2.2.2)]))), .d (.list x71.length (x71.map Sx))], e := 32 }, { cells := (b31.flatMap (fun (x : ByteArray × Int × Int × Int × Int × Int × Int × Int × Int) => [(Sx x.1), (I x.2.1), (I x.2.2.1), (I x.2.2.2.1), (I x.2.2.2.2.1), (I x.2.2.2.2.2.1), (I x.2.2.2.2.2.2.1), (I x.2.2.2.2.2.2.2.1), (I x.2.2.2.2.2.2.2.2)])).map .d, e := 27 }]) (law06_SchedNeverRefused.b1 N l Z1e x72 K_) r N ((0 : Int), ([] : List TB)) (by exact Nat.zero_le _) H (by (simp only [Env.frzL, Env.frz, frzOb, V.frz, V.frz.frzs, asD, map_asD, sw1, go_sem, simprocAttr]; rfl)) ?_
    rintro n ⟨i, b31⟩ H N4 hN4
    unfold law06_SchedNeverRefused.b1 at H
    try simp only [go_sem, simprocAttr]
    refine PW.seq ?_
    refine PW.seq ?_
    refine PW.regionK fun K hK => OW.run [1, 3, 5, 7, 8, 9, 10, 52] ?_
    simp only [go_sem, simprocAttr, sw0]
    refine OW.nil (hK _ ?_); clear hK K
    change PW _ _ _ _ _
    refine PW.cond rfl (fun h5 => ?_) (fun h5 => ?_)
    ·
     replace H := br_t h5 H
     refine PW.skip ?_
     change PW _ _ _ _ _
     refine PW.seq ?_
     refine PW.block ?_
     refine PW.seq ?_
     refine PW.seq ?_
     obtain ⟨c6, H⟩ := chk_some H
     refine PW.drawK 7 mixed (by kernel_rfl) fun K hK => ?_
     change FW _ _ _ _ _
     refine FW.run ?_
     (simp only [go_sem, simprocAttr, sw0, z0W6a, z1W6a l i.toNat (by omega)])
     repeat (refine And.intro (by omega) ?_)
     refine FW.nil ?_
     change OW _ _ _ _ _ _
     refine OW.run [1, 3, 5, 7, 8, 9, 10, 62] ?_
     (simp only [go_sem, simprocAttr, sw0, z0W6a, z1W6a l i.toNat (by omega)])
     refine OW.nil (hK _ ?_); clear hK K
     change PW _ _ _ _ _
     refine PW.cond rfl (fun h7 => ?_) (fun h7 => ?_)
     ·
      replace H := br_t h7 H
      refine PW.seq ?_
      refine PW.regionK fun K hK => OW.run [6] ?_
      simp only [go_sem, simprocAttr, sw0]
      refine OW.nil (hK _ ?_); clear hK K
      change PW _ _ _ _ _
      refine PW.ret ?_
      change PW.Ends _ _ _ _ _ _
      refine PW.Ends.intro (.inr rfl) ?_
      simp only [go_sem, simprocAttr, sw0]
      obtain rfl := Option.some.inj H
      refine RetOK.data' 4 (by exact trivial) ?_
      rfl
     ·
      replace H := br_f h7 H
      refine PW.skip ?_
      change PW _ _ _ _ _
      refine PW.seq ?_
      obtain ⟨c8, H⟩ := chk_some H
      refine PW.regionK fun K hK => OW.run [1, 3, 5, 7, 8, 9, 10, 70] ?_
      (simp only [go_sem, simprocAttr, sw0, z0W6a, z1W6a l i.toNat (by omega)])
      repeat (refine And.intro (by omega) ?_)
      refine OW.nil (hK _ ?_); clear hK K
      change PW _ _ _ _ _
      refine PW.cond rfl (fun h9 => ?_) (fun h9 => ?_)
      ·
       replace H := br_t h9 H
       obtain ⟨c10, H⟩ := chk_some H
       obtain ⟨c11, H⟩ := chk_some H
       have c11q := c11
       simp only [List.length_cons, List.length_nil] at c11q
       refine PW.regionK fun K hK => OW.run [1, 3, 5, 7, 8, 9, 10] ?_
       (simp only [go_sem, simprocAttr, sw0, z0W6a, z1W6a l i.toNat (by omega)])
       repeat (refine And.intro (by first | omega | rfl) ?_)
       refine OW.nil (hK _ ?_); clear hK K
       change PW _ _ _ _ _
       refine PW.regionK fun K hK => OW.run [1, 3, 5, 7, 8, 9, 10] ?_
       simp only [go_sem, simprocAttr, sw0]
       refine OW.nil (hK _ ?_); clear hK K
       refine hN4 [] (w64 (i + (1 : Int)), (b31 ++ ([((l.getD i.toNat default).1, (l.getD i.toNat default).2.1, (l.getD i.toNat default).2.2.1, (l.getD i.toNat default).2.2.2.1, (l.getD i.toNat default).2.2.2.2.1, (l.getD i.toNat default).2.2.2.2.2.1, (l.getD i.toNat default).2.2.2.2.2.2.1, (l.getD i.toNat default).2.2.2.2.2.2.2.1, (l.getD i.toNat default).2.2.2.2.2.2.2.2)] : List TB))) _ H (by exact trivial) ?_
       (simp only [Env.frzL, Env.frz, frzOb, V.frz, V.frz.frzs, asD, map_asD, sw1, go_sem, simprocAttr]; simp only [List.length_set, List.length_append, List.length_cons, List.length_nil, Nat.zero_add, List.map_set, List.map_append, List.map_cons, List.map_nil, List.flatMap_append, List.flatMap_cons, List.flatMap_nil, List.append_nil, List.cons_append, List.nil_append]; rfl)
      ·
       replace H := br_f h9 H
       refine PW.skip ?_
       change PW _ _ _ _ _
       refine PW.regionK fun K hK => OW.run [1, 3, 5, 7, 8, 9, 10] ?_
       simp only [go_sem, simprocAttr, sw0]
       refine OW.nil (hK _ ?_); clear hK K
       refine hN4 [] (w64 (i + (1 : Int)), b31) _ H (by exact trivial) ?_
       (simp only [Env.frzL, Env.frz, frzOb, V.frz, V.frz.frzs, asD, map_asD, sw1, go_sem, simprocAttr]; done)
    ·
     replace H := br_f h5 H
     refine PW.exit ?_
     refine hN3 [] b31 _ H (by exact trivial) ?_
     (simp only [Env.frzL, Env.frz, frzOb, V.frz, V.frz.frzs, asD, map_asD, sw1, go_sem, simprocAttr]; done)
   ·
    rintro b3 H
    try simp only [go_sem, simprocAttr]
    refine PW.seq ?_
    refine PW.seq ?_
    refine PW.regionK fun K hK => OW.run [1, 3, 5, 7, 8, 9, 79] ?_
    simp only [go_sem, simprocAttr, sw0]
    refine OW.nil (hK _ ?_); clear hK K
    change PW _ _ _ _ _
    refine PW.cond rfl (fun h12 => ?_) (fun h12 => ?_)
    ·
     replace H := br_t h12 H
     refine PW.seq ?_
     refine PW.seq ?_
     refine PW.regionK fun K hK => ?_
     refine OW.toS [(3, .ptr 0 0), (5, .ptr 1 0), (8, .d (I x72)), (9, .own 3 0 b3.length 9), (94, .d (Bo (((Z1c == (0 : Int)) && (x72 == (8 : Int))) || ((x72 != (8 : Int)) && (x72 != (28 : Int))))))] [{ cells := [.d (I Zq), .d (I Zr), .d (I Zs), .d (L Zx)], e := 24 }, { cells := [.d (Sx Z1e), .d (I Z1c), .d (I Z1h), .d (I Z1j), .d (I Z1g), .d (I Z1d), .d (I Z19), .d (I Z1i), .d (I Z1a)], e := 27 }, { cells := [.d (.list x7.length (x7.flatMap (fun (x : ByteArray × Int × Int × Int × Int × Int × Int × Int × Int) => [(Sx x.1), (I x.2.1), (I x.2.2.1), (I x.2.2.2.1), (I x.2.2.2.2.1), (I x.2.2.2.2.2.1), (I x.2.2.2.2.2.2.1), (I x.2.2.2.2.2.2.2.1), (I x.2.2.2.2.2.2.2.2)]))), .d (.list x71.length (x71.map Sx))], e := 32 }, { cells := (b3.flatMap (fun (x : ByteArray × Int × Int × Int × Int × Int × Int × Int × Int) => [(Sx x.1), (I x.2.1), (I x.2.2.1), (I x.2.2.2.1), (I x.2.2.2.2.1), (I x.2.2.2.2.2.1), (I x.2.2.2.2.2.2.1), (I x.2.2.2.2.2.2.2.1), (I x.2.2.2.2.2.2.2.2)])).map .d, e := 27 }] ?_ (hK _ ?_)
     ·
      intro K hKE
      rcases Bool.eq_false_or_eq_true ((Z1c == (0 : Int))) with ha0 | ha0
      ·
       rcases Bool.eq_false_or_eq_true ((x72 == (8 : Int))) with ha1 | ha1
       ·
        refine OW.run [3, 5, 8, 9, 94] ?_
        (simp only [go_sem, simprocAttr, sw0, ha0, ha1])
        repeat (refine And.intro (by omega) ?_)
        refine OW.nil ((congrArg K ?_).mpr hKE)
        (first | rfl | (simp only [go_sem, simprocAttr, ha0, ha1]; done) | (simp only [go_sem, simprocAttr, ha0, ha1]; rfl))
       ·
        rcases Bool.eq_false_or_eq_true ((x72 != (8 : Int))) with ha2 | ha2
        ·
         refine OW.run [3, 5, 8, 9, 94] ?_
         (simp only [go_sem, simprocAttr, sw0, ha0, ha1, ha2])
         repeat (refine And.intro (by omega) ?_)
         refine OW.nil ((congrArg K ?_).mpr hKE)
         (first | rfl | (simp only [go_sem, simprocAttr, ha0, ha1, ha2]; done) | (simp only [go_sem, simprocAttr, ha0, ha1, ha2]; rfl))
        ·
         refine OW.run [3, 5, 8, 9, 94] ?_
         (simp only [go_sem, simprocAttr, sw0, ha0, ha1, ha2])
         repeat (refine And.intro (by omega) ?_)
         refine OW.nil ((congrArg K ?_).mpr hKE)
         (first | rfl | (simp only [go_sem, simprocAttr, ha0, ha1, ha2]; done) | (simp only [go_sem, simprocAttr, ha0, ha1, ha2]; rfl))
      ·
       rcases Bool.eq_false_or_eq_true ((x72 == (8 : Int))) with ha1 | ha1
       ·
        rcases Bool.eq_false_or_eq_true ((x72 != (8 : Int))) with ha2 | ha2
        ·
         refine OW.run [3, 5, 8, 9, 94] ?_
         (simp only [go_sem, simprocAttr, sw0, ha0, ha1, ha2])
         repeat (refine And.intro (by omega) ?_)
         refine OW.nil ((congrArg K ?_).mpr hKE)
         (first | rfl | (simp only [go_sem, simprocAttr, ha0, ha1, ha2]; done) | (simp only [go_sem, simprocAttr, ha0, ha1, ha2]; rfl))
        ·
         refine OW.run [3, 5, 8, 9, 94] ?_
         (simp only [go_sem, simprocAttr, sw0, ha0, ha1, ha2])
         repeat (refine And.intro (by omega) ?_)
         refine OW.nil ((congrArg K ?_).mpr hKE)
         (first | rfl | (simp only [go_sem, simprocAttr, ha0, ha1, ha2]; done) | (simp only [go_sem, simprocAttr, ha0, ha1, ha2]; rfl))
       ·
        rcases Bool.eq_false_or_eq_true ((x72 != (8 : Int))) with ha2 | ha2
        ·
         refine OW.run [3, 5, 8, 9, 94] ?_
         (simp only [go_sem, simprocAttr, sw0, ha0, ha1, ha2])
         repeat (refine And.intro (by omega) ?_)
         refine OW.nil ((congrArg K ?_).mpr hKE)
         (first | rfl | (simp only [go_sem, simprocAttr, ha0, ha1, ha2]; done) | (simp only [go_sem, simprocAttr, ha0, ha1, ha2]; rfl))
        ·
         refine OW.run [3, 5, 8, 9, 94] ?_
         (simp only [go_sem, simprocAttr, sw0, ha0, ha1, ha2])
         repeat (refine And.intro (by omega) ?_)
         refine OW.nil ((congrArg K ?_).mpr hKE)
         (first | rfl | (simp only [go_sem, simprocAttr, ha0, ha1, ha2]; done) | (simp only [go_sem, simprocAttr, ha0, ha1, ha2]; rfl))
     clear hK K
     change PW _ _ _ _ _
     refine PW.cond rfl (fun h13 => ?_) (fun h13 => ?_)
     ·
      replace H := br_t h13 H
      refine PW.seq ?_
      refine PW.regionK fun K hK => OW.run [6] ?_
      simp only [go_sem, simprocAttr, sw0]
      refine OW.nil (hK _ ?_); clear hK K
      change PW _ _ _ _ _
      refine PW.ret ?_
      change PW.Ends _ _ _ _ _ _
      refine PW.Ends.intro (.inr rfl) ?_
      simp only [go_sem, simprocAttr, sw0]
      obtain rfl := Option.some.inj H
      refine RetOK.data' 4 (by exact trivial) ?_
      rfl
     ·
      replace H := br_f h13 H
      refine PW.skip ?_
      change PW _ _ _ _ _
      refine PW.seq ?_
      refine PW.seq ?_
      refine PW.regionK fun K hK => OW.run [3, 5, 9, 101] ?_
      simp only [go_sem, simprocAttr, sw0]
      repeat (refine And.intro (by omega) ?_)
      refine OW.nil (hK _ ?_); clear hK K
      change PW _ _ _ _ _
      refine PW.cond rfl (fun h14 => ?_) (fun h14 => ?_)
      ·
       replace H := br_t h14 H
       refine PW.seq ?_
       refine PW.regionK fun K hK => OW.run [6] ?_
       simp only [go_sem, simprocAttr, sw0]
       refine OW.nil (hK _ ?_); clear hK K
       change PW _ _ _ _ _
       refine PW.ret ?_
       change PW.Ends _ _ _ _ _ _
       refine PW.Ends.intro (.inr rfl) ?_
       simp only [go_sem, simprocAttr, sw0]
       obtain rfl := Option.some.inj H
       refine RetOK.data' 4 (by exact trivial) ?_
       rfl
      ·
       replace H := br_f h14 H
       refine PW.skip ?_
       change PW _ _ _ _ _
       refine PW.seq ?_
       obtain ⟨⟨x8, x81, x82, x83⟩, e8, H⟩ := bnd_some H
       obtain ⟨c15, H⟩ := chk_some H
       have c15q := c15
       simp only [List.length_cons, List.length_nil] at c15q
       obtain ⟨⟨x9, x91⟩, e9, H⟩ := bnd_some H
       refine PW.drawX 11 [5] (fun j => List.getD [[{ cells := [.d (I Zq), .d (I Zr), .d (I Zs), .d (L Zx)], e := 24 }, { cells := [.d (Sx Z1e), .d (I Z1c), .d (I Z1h), .d (I Z1j), .d (I Z1g), .d (I Z1d), .d (I Z19), .d (I Z1i), .d (I Z1a)], e := 27 }, { cells := [.d (.list x7.length (x7.flatMap (fun (x : ByteArray × Int × Int × Int × Int × Int × Int × Int × Int) => [(Sx x.1), (I x.2.1), (I x.2.2.1), (I x.2.2.2.1), (I x.2.2.2.2.1), (I x.2.2.2.2.2.1), (I x.2.2.2.2.2.2.1), (I x.2.2.2.2.2.2.2.1), (I x.2.2.2.2.2.2.2.2)]))), .d (.list x71.length (x71.map Sx))], e := 32 }, { cells := (b3.flatMap (fun (x : ByteArray × Int × Int × Int × Int × Int × Int × Int × Int) => [(Sx x.1), (I x.2.1), (I x.2.2.1), (I x.2.2.2.1), (I x.2.2.2.2.1), (I x.2.2.2.2.2.1), (I x.2.2.2.2.2.2.1), (I x.2.2.2.2.2.2.2.1), (I x.2.2.2.2.2.2.2.2)])).map .d, e := 27 }], [{ cells := [.d (I Zq), .d (I Zr), .d (I Zs), .d (L Zx)], e := 24 }, { cells := [.d (Sx Z1e), .d (I Z1c), .d (I Z1h), .d (I Z1j), .d (I Z1g), .d (I Z1d), .d (I Z19), .d (I Z1i), .d (I Z1a)], e := 27 }, { cells := [.d (.list x7.length (x7.flatMap (fun (x : ByteArray × Int × Int × Int × Int × Int × Int × Int × Int) => [(Sx x.1), (I x.2.1), (I x.2.2.1), (I x.2.2.2.1), (I x.2.2.2.2.1), (I x.2.2.2.2.2.1), (I x.2.2.2.2.2.2.1), (I x.2.2.2.2.2.2.2.1), (I x.2.2.2.2.2.2.2.2)]))), .d (.list x71.length (x71.map Sx))], e := 32 }, { cells := ((b3 ++ ([(Z1e, Z1c, Z1h, Z1j, Z1g, Z1d, Z19, Z1i, Z1a)] : List TB)).flatMap (fun (x : ByteArray × Int × Int × Int × Int × Int × Int × Int × Int) => [(Sx x.1), (I x.2.1), (I x.2.2.1), (I x.2.2.2.1), (I x.2.2.2.2.1), (I x.2.2.2.2.2.1), (I x.2.2.2.2.2.2.1), (I x.2.2.2.2.2.2.2.1), (I x.2.2.2.2.2.2.2.2)])).map .d, e := 27 }]] j []) (κL [(0, 3)]) mixed (by kernel_rfl) (by decide) (by ((refine ⟨by decide, ?_⟩; intro k i i' h1 h2 o ho; match k, h1, h2 with | 0, h1, h2 => (simp at h1 h2 <;> first | (cases h2; done) | (subst h1; subst h2; simp at ho; subst ho; simp [Region.binds]; done)) | 1, h1, h2 => (simp at h1 h2 <;> first | (cases h2; done) | (subst h1; subst h2; simp at ho; subst ho; simp [Region.binds]; done)) | 2, h1, h2 => (simp at h1 h2 <;> first | (cases h2; done) | (subst h1; subst h2; simp at ho; subst ho; simp [Region.binds]; done)) | k + 3, h1, h2 => (simp at h2; done)))) (κL_dead _) (by decide) (freshL rfl) rfl rfl fun K hK => ?_
       change FWX _ _ _ _ _ _ _ _ _ _
       refine FWX.op (by decide) rfl (.agg [.d (I Zq), .d (I Zr), .d (I Zs), .d (L Zx)]) 0 1 (.inl rfl) (.inl rfl) ?_ ?_ (by (simp only [go_sem, Nat.reduceLT])) ?_
       ·
        intro j hj1 hj2
        have hj : j = 0 ∨ j = 1 := by omega
        rcases hj with rfl | rfl
        all_goals (refine ⟨?_, ?_⟩)
        all_goals (first | rfl | trivial | ((simp only [go_sem, simprocAttr, sw0, z2W6a, z0W6a]); first | done | rfl | omega | assumption | decide | (simp only [List.append_assoc, List.cons_append, List.nil_append]; done) | (simp only [List.flatMap_append, List.map_append]; first | done | rfl) | ((repeat (refine And.intro (by first | rfl | omega | assumption | decide) ?_)); first | rfl | omega | assumption | decide)))
       ·
        refine KeptX.free [9, 105, 108] (by first | rfl | (simp only [V.kill]; exact if_neg (by omega))) ?_ (by kernel_rfl) ?_
        · repeat (first | exact fun _ h => absurd h List.not_mem_nil | (refine List.forall_mem_cons.2 (And.intro ?_ ?_); · first | exact .inr rfl | (left; simp; done) | (right; simp only [V.kill, ↓reduceIte]; first | rfl | exact if_neg (by omega) | (simp only [V.kill, V.kill.kills, ↓reduceIte]; done))))
        exact KeptX.nil
       try simp only [go_sem, simprocAttr]
       refine FWX.call (by decide) rfl rfl 4 0 0 (.inl rfl) (.inr ⟨_, _, { on := 1, ground := .chain }, rfl, rfl, by simp, rfl, rfl⟩) rfl (by ((simp only [go_sem, List.toList_toArray, simprocAttr]); exact rfl)) (ref06_Copy_ok N _ _ _ _ _ e8) ?_ ?_ ?_ (by (simp only [go_sem, Nat.reduceLT])) ?_
       ·
        intro j hj1 hj2
        have hj : j = 0 := by omega
        subst hj
        all_goals (refine ⟨?_, ?_⟩)
        any_goals try simp only [go_sem, simprocAttr]
        all_goals first | ((refine okAll_intro ?_; (simp only [go_sem, sw2, List.length_set, List.length_replicate, and_true, true_and, Nat.le_refl, simprocAttr]; done)); done) | (rfl; done)
       ·
        refine KeptX.dep rfl rfl ⟨{ on := 1, ground := .chain }, by simp, rfl, rfl⟩ ?_
        exact KeptX.nil
       · exact .inl rfl
       try simp only [go_sem, simprocAttr]
       refine FWX.op (by decide) rfl (.own 3 0 b3.length 9) 0 0 (.inl rfl) (.inr ⟨_, _, { on := 2, ground := .data }, rfl, rfl, by simp, rfl, rfl⟩) ?_ ?_ (by (simp only [go_sem, Nat.reduceLT])) ?_
       ·
        intro j hj1 hj2
        have hj : j = 0 := by omega
        subst hj
        all_goals (refine ⟨?_, ?_⟩)
        all_goals (first | rfl | trivial | ((simp only [go_sem, simprocAttr, sw0, z2W6a, z0W6a]); first | done | rfl | omega | assumption | decide | (simp only [List.append_assoc, List.cons_append, List.nil_append]; done) | (simp only [List.flatMap_append, List.map_append]; first | done | rfl) | ((repeat (refine And.intro (by first | rfl | omega | assumption | decide) ?_)); first | rfl | omega | assumption | decide)))
       ·
        refine KeptX.dep rfl rfl ⟨{ on := 2, ground := .data }, by simp, rfl, rfl⟩ ?_
        exact KeptX.nil
       try simp only [go_sem, simprocAttr]
       refine FWX.op (by decide) rfl (.agg [.d (Sx Z1e), .d (I Z1c), .d (I Z1h), .d (I Z1j), .d (I Z1g), .d (I Z1d), .d (I Z19), .d (I Z1i), .d (I Z1a)]) 0 1 (.inl rfl) (.inl rfl) ?_ ?_ (by (simp only [go_sem, Nat.reduceLT])) ?_
       ·
        intro j hj1 hj2
        have hj : j = 0 ∨ j = 1 := by omega
        rcases hj with rfl | rfl
        all_goals (refine ⟨?_, ?_⟩)
        all_goals (first | rfl | trivial | ((simp only [go_sem, simprocAttr, sw0, z2W6a, z0W6a]); first | done | rfl | omega | assumption | decide | (simp only [List.append_assoc, List.cons_append, List.nil_append]; done) | (simp only [List.flatMap_append, List.map_append]; first | done | rfl) | ((repeat (refine And.intro (by first | rfl | omega | assumption | decide) ?_)); first | rfl | omega | assumption | decide)))
       ·
        refine KeptX.free [9, 105, 108] (by first | rfl | (simp only [V.kill]; exact if_neg (by omega))) ?_ (by kernel_rfl) ?_
        · repeat (first | exact fun _ h => absurd h List.not_mem_nil | (refine List.forall_mem_cons.2 (And.intro ?_ ?_); · first | exact .inr rfl | (left; simp; done) | (right; simp only [V.kill, ↓reduceIte]; first | rfl | exact if_neg (by omega) | (simp only [V.kill, V.kill.kills, ↓reduceIte]; done))))
        exact KeptX.nil
       try simp only [go_sem, simprocAttr]
       refine FWX.op (by decide) rfl (.d (.list ([(Z1e, Z1c, Z1h, Z1j, Z1g, Z1d, Z19, Z1i, Z1a)] : List TB).length (([(Z1e, Z1c, Z1h, Z1j, Z1g, Z1d, Z19, Z1i, Z1a)] : List TB).flatMap (fun (x : ByteArray × Int × Int × Int × Int × Int × Int × Int × Int) => [(Sx x.1), (I x.2.1), (I x.2.2.1), (I x.2.2.2.1), (I x.2.2.2.2.1), (I x.2.2.2.2.2.1), (I x.2.2.2.2.2.2.1), (I x.2.2.2.2.2.2.2.1), (I x.2.2.2.2.2.2.2.2)])))) 0 0 (.inl rfl) (.inr ⟨_, _, { on := 4, ground := .data }, rfl, rfl, by simp, rfl, rfl⟩) ?_ ?_ (by (simp only [go_sem, Nat.reduceLT])) ?_
       ·
        intro j hj1 hj2
        have hj : j = 0 := by omega
        subst hj
        all_goals (refine ⟨?_, ?_⟩)
        all_goals (first | rfl | trivial | ((simp only [go_sem, simprocAttr, sw0, z2W6a, z0W6a]); first | done | rfl | omega | assumption | decide | (simp only [List.append_assoc, List.cons_append, List.nil_append]; done) | (simp only [List.flatMap_append, List.map_append]; first | done | rfl) | ((repeat (refine And.intro (by first | rfl | omega | assumption | decide) ?_)); first | rfl | omega | assumption | decide)))
       ·
        refine KeptX.dep rfl rfl ⟨{ on := 4, ground := .data }, by simp, rfl, rfl⟩ ?_
        exact KeptX.nil
       try simp only [go_sem, simprocAttr]
       refine FWX.append 3 (q := 0) (by decide) rfl rfl rfl rfl (Nat.le_of_ble_eq_true rfl) rfl (by first | decide | (first | exact Nat.le_refl _ | exact Nat.zero_le _ | (simp only [go_sem]; omega))) (.own 3 0 ((b3 ++ ([(Z1e, Z1c, Z1h, Z1j, Z1g, Z1d, Z19, Z1i, Z1a)] : List TB)).length) 9) ?_ rfl ?_ ?_ ?_
       ·
        refine FreeX.of' rfl [9, 105] ?_ (by kernel_rfl)
        repeat (first | exact fun _ h => absurd h List.not_mem_nil | (refine List.forall_mem_cons.2 (And.intro ?_ ?_); · first | exact .inr rfl | (left; simp; done) | (right; simp only [V.kill, ↓reduceIte]; first | rfl | exact if_neg (by omega) | (simp only [V.kill, V.kill.kills, ↓reduceIte]; done))))
       · first | trivial | ((simp only [go_sem, simprocAttr, sw0, z2W6a, z0W6a]); done) | ((simp only [go_sem, simprocAttr, sw0, z2W6a, z0W6a]); first | omega | (repeat (refine And.intro (by (first | omega | assumption | rfl | decide | (simp only [List.length_map, List.length_replicate, List.length_append, List.length_take, List.length_drop, List.length_set, List.length_cons, List.length_nil, Nat.zero_add, Int.toNat_natCast] at *; omega) | (simp only [List.length_map, List.length_replicate, List.length_append, List.length_take, List.length_drop, List.length_set, List.length_cons, List.length_nil, Nat.zero_add, Int.toNat_natCast]; done) | trivial)) ?_); (first | omega | assumption | rfl | decide | (simp only [List.length_map, List.length_replicate, List.length_append, List.length_take, List.length_drop, List.length_set, List.length_cons, List.length_nil, Nat.zero_add, Int.toNat_natCast] at *; omega) | (simp only [List.length_map, List.length_replicate, List.length_append, List.length_take, List.length_drop, List.length_set, List.length_cons, List.length_nil, Nat.zero_add, Int.toNat_natCast]; done) | trivial)))
       · first | rfl | ((simp only [go_sem, simprocAttr, sw0, z2W6a, z0W6a]); done) | ((simp only [go_sem, simprocAttr, sw0, z2W6a, z0W6a]); rfl) | ((simp only [go_sem, simprocAttr, sw0, z2W6a, z0W6a]); simp only [List.append_assoc, List.cons_append, List.nil_append]; done) | ((simp only [go_sem, simprocAttr, sw0, z2W6a, z0W6a]); simp only [List.flatMap_append, List.map_append]; done) | ((simp only [go_sem, simprocAttr, sw0, z2W6a, z0W6a]); simp only [List.flatMap_append, List.map_append]; rfl)
       try (simp only [go_sem, simprocAttr, sw0, z2W6a, z0W6a])
       refine FWX.call (by decide) rfl rfl 4 1 1 (.inr ⟨{ on := 5, ground := .data }, by simp, rfl, rfl⟩) (.inl rfl) rfl (by ((simp only [go_sem, List.toList_toArray, simprocAttr]); exact rfl)) (sched_CheckBearers_ok N _ _ _ _ _ _ e9) ?_ ?_ ?_ (by (simp only [go_sem, Nat.reduceLT])) ?_
       ·
        intro j hj1 hj2
        have hj : j = 1 := by omega
        subst hj
        all_goals (refine ⟨?_, ?_⟩)
        any_goals try simp only [go_sem, simprocAttr]
        all_goals first | ((first | exact trivial | exact okD_all rfl | (refine okAll_intro ?_; simp only [go_sem, sw2, List.length_set, List.length_replicate, and_true, true_and, Nat.le_refl, simprocAttr, okAll_segD9, z3W6a, z4W6a, z5W6a, z6W6a, z7W6a, z0W6a]; done) | (refine okAll_intro ?_; simp only [go_sem, sw2, List.length_set, List.length_replicate, and_true, true_and, Nat.le_refl, simprocAttr, okAll_segD9, z3W6a, z4W6a, z5W6a, z6W6a, z7W6a, z0W6a]; omega)); done) | ((first | rfl | (simp only [go_sem, sw1, simprocAttr, okAll_segD9, z3W6a, z4W6a, z5W6a, z6W6a, z7W6a, z0W6a]; done) | (simp only [go_sem, sw1, simprocAttr, okAll_segD9, z3W6a, z4W6a, z5W6a, z6W6a, z7W6a, z0W6a]; rfl) | (simp only [go_sem, sw1, simprocAttr, okAll_segD9, z3W6a, z4W6a, z5W6a, z6W6a, z7W6a, z0W6a]; simp only [seg, asD, go_sem, sw1, simprocAttr, okAll_segD9, z3W6a, z4W6a, z5W6a, z6W6a, z7W6a, z0W6a]; done) | (simp only [go_sem, sw1, simprocAttr, okAll_segD9, z3W6a, z4W6a, z5W6a, z6W6a, z7W6a, z0W6a]; simp only [seg, asD, go_sem, sw1, simprocAttr, okAll_segD9, z3W6a, z4W6a, z5W6a, z6W6a, z7W6a, z0W6a]; rfl) | ((try simp only [go_sem, sw1, simprocAttr, okAll_segD9, z3W6a, z4W6a, z5W6a, z6W6a, z7W6a, z0W6a]); (repeat' (first | rfl | (refine list_congr ?_; simp only [List.length_take, List.length_drop, List.length_set, List.length_replicate] <;> omega) | (refine congr (congrArg List.cons ?_) ?_) | (refine congrArg D.agg ?_) | (refine congrArg D.tup ?_) | (refine congrArg D.ref ?_) | (refine congrArg (D.list _) ?_) | (refine congrArg (D.clo _) ?_))))); done)
       ·
        refine KeptX.depR rfl ⟨{ on := 5, ground := .data }, by simp, rfl, rfl⟩ ?_
        exact KeptX.nil
       · exact .inr rfl
       try simp only [go_sem, simprocAttr]
       refine FWX.op (by decide) rfl (.d (.tup [(I x9), (I x91)])) 0 1 (.inl rfl) (.inl rfl) ?_ ?_ (by (simp only [go_sem, Nat.reduceLT])) ?_
       ·
        intro j hj1 hj2
        have hj : j = 0 ∨ j = 1 := by omega
        rcases hj with rfl | rfl
        all_goals (refine ⟨?_, ?_⟩)
        all_goals (first | rfl | trivial | ((simp only [go_sem, simprocAttr, sw0, z2W6a, z0W6a]); first | done | rfl | omega | assumption | decide | (simp only [List.append_assoc, List.cons_append, List.nil_append]; done) | (simp only [List.flatMap_append, List.map_append]; first | done | rfl) | ((repeat (refine And.intro (by first | rfl | omega | assumption | decide) ?_)); first | rfl | omega | assumption | decide)))
       ·
        refine KeptX.free [9, 105, 108] (by first | rfl | (simp only [V.kill]; exact if_neg (by omega))) ?_ (by kernel_rfl) ?_
        · repeat (first | exact fun _ h => absurd h List.not_mem_nil | (refine List.forall_mem_cons.2 (And.intro ?_ ?_); · first | exact .inr rfl | (left; simp; done) | (right; simp only [V.kill, ↓reduceIte]; first | rfl | exact if_neg (by omega) | (simp only [V.kill, V.kill.kills, ↓reduceIte]; done))))
        exact KeptX.nil
       try simp only [go_sem, simprocAttr]
       refine FWX.op (by decide) rfl (.d (I x9)) 0 1 (.inl rfl) (.inl rfl) ?_ ?_ (by (simp only [go_sem, Nat.reduceLT])) ?_
       ·
        intro j hj1 hj2
        have hj : j = 0 ∨ j = 1 := by omega
        rcases hj with rfl | rfl
        all_goals (refine ⟨?_, ?_⟩)
        all_goals (first | rfl | trivial | ((simp only [go_sem, simprocAttr, sw0, z2W6a, z0W6a]); first | done | rfl | omega | assumption | decide | (simp only [List.append_assoc, List.cons_append, List.nil_append]; done) | (simp only [List.flatMap_append, List.map_append]; first | done | rfl) | ((repeat (refine And.intro (by first | rfl | omega | assumption | decide) ?_)); first | rfl | omega | assumption | decide)))
       ·
        refine KeptX.free [9, 105, 108] (by first | rfl | (simp only [V.kill]; exact if_neg (by omega))) ?_ (by kernel_rfl) ?_
        · repeat (first | exact fun _ h => absurd h List.not_mem_nil | (refine List.forall_mem_cons.2 (And.intro ?_ ?_); · first | exact .inr rfl | (left; simp; done) | (right; simp only [V.kill, ↓reduceIte]; first | rfl | exact if_neg (by omega) | (simp only [V.kill, V.kill.kills, ↓reduceIte]; done))))
        exact KeptX.nil
       try simp only [go_sem, simprocAttr]
       refine FWX.op (by decide) rfl (.d (I x91)) 0 1 (.inl rfl) (.inl rfl) ?_ ?_ (by (simp only [go_sem, Nat.reduceLT])) ?_
       ·
        intro j hj1 hj2
        have hj : j = 0 ∨ j = 1 := by omega
        rcases hj with rfl | rfl
        all_goals (refine ⟨?_, ?_⟩)
        all_goals (first | rfl | trivial | ((simp only [go_sem, simprocAttr, sw0, z2W6a, z0W6a]); first | done | rfl | omega | assumption | decide | (simp only [List.append_assoc, List.cons_append, List.nil_append]; done) | (simp only [List.flatMap_append, List.map_append]; first | done | rfl) | ((repeat (refine And.intro (by first | rfl | omega | assumption | decide) ?_)); first | rfl | omega | assumption | decide)))
       ·
        refine KeptX.free [9, 105, 108] (by first | rfl | (simp only [V.kill]; exact if_neg (by omega))) ?_ (by kernel_rfl) ?_
        · repeat (first | exact fun _ h => absurd h List.not_mem_nil | (refine List.forall_mem_cons.2 (And.intro ?_ ?_); · first | exact .inr rfl | (left; simp; done) | (right; simp only [V.kill, ↓reduceIte]; first | rfl | exact if_neg (by omega) | (simp only [V.kill, V.kill.kills, ↓reduceIte]; done))))
        exact KeptX.nil
       try simp only [go_sem, simprocAttr]
       refine FWX.op (by decide) rfl (.d (I x9)) 1 1 (.inr ⟨{ on := 5, ground := .phase }, by simp, rfl, rfl⟩) (.inl rfl) ?_ ?_ (by (simp only [go_sem, Nat.reduceLT])) ?_
       ·
        intro j hj1 hj2
        have hj : j = 1 := by omega
        subst hj
        all_goals (refine ⟨?_, ?_⟩)
        all_goals (first | rfl | trivial | ((simp only [go_sem, simprocAttr, sw0, z2W6a, z0W6a]); first | done | rfl | omega | assumption | decide | (simp only [List.append_assoc, List.cons_append, List.nil_append]; done) | (simp only [List.flatMap_append, List.map_append]; first | done | rfl) | ((repeat (refine And.intro (by first | rfl | omega | assumption | decide) ?_)); first | rfl | omega | assumption | decide)))
       ·
        refine KeptX.depR rfl ⟨{ on := 5, ground := .phase }, by simp, rfl, rfl⟩ ?_
        exact KeptX.nil
       try simp only [go_sem, simprocAttr]
       refine FWX.nil ?_
       change OW _ _ _ _ _ _
       change OW _ _ _ _ _ _
       refine OW.run [12] ?_
       (simp only [go_sem, simprocAttr, sw0, z2W6a, z0W6a])
       refine OW.nil (hK _ ?_); clear hK K
       change PW _ _ _ _ _
       refine PW.seq ?_
       refine PW.regionK fun K hK => OW.run [6] ?_
       simp only [go_sem, simprocAttr, sw0]
       refine OW.nil (hK _ ?_); clear hK K
       change PW _ _ _ _ _
       refine PW.ret ?_
       change PW.Ends _ _ _ _ _ _
       refine PW.Ends.intro (.inr rfl) ?_
       simp only [go_sem, simprocAttr, sw0]
       obtain rfl := Option.some.inj H
       refine RetOK.data' 4 (by exact trivial) ?_
       rfl
    ·
     replace H := br_f h12 H
     refine PW.skip ?_
     change PW _ _ _ _ _
     refine PW.seq ?_
     refine PW.seq ?_
     obtain ⟨⟨x10, x101, x102, x103⟩, e10, H⟩ := bnd_some H
     obtain ⟨x11, e11, H⟩ := bnd_some H
     obtain ⟨⟨x12, x121⟩, e12, H⟩ := bnd_some H
     refine PW.drawK 10 mixed (by kernel_rfl) fun K hK => ?_
     change FW _ _ _ _ _
     refine FW.run ?_
     simp only [go_sem, simprocAttr, sw0]
     refine FW.call' 4 rfl rfl rfl (by ((simp only [go_sem, List.toList_toArray, simprocAttr]); exact rfl)) ?_ (ref06_Copy_ok N _ _ _ _ _ e10) ?_ ?_ ?_ ?_
     · rfl
     · (refine okAll_intro ?_; (simp only [go_sem, sw2, List.length_set, List.length_replicate, and_true, true_and, Nat.le_refl, simprocAttr]; done))
     · exact .inl rfl
     · (simp only [go_sem, Nat.reduceLT])
     refine FW.run ?_
     simp only [go_sem, simprocAttr, sw0]
     repeat (refine And.intro (by omega) ?_)
     refine FW.call' 4 rfl rfl rfl (by ((simp only [go_sem, List.toList_toArray, simprocAttr]); exact rfl)) ?_ (ref06_CopyBearers_ok N _ _ e11) ?_ ?_ ?_ ?_
     · rfl
     · exact okD_all rfl
     · exact .inl rfl
     · (simp only [go_sem, Nat.reduceLT])
     refine FW.run ?_
     simp only [go_sem, simprocAttr, sw0]
     refine FW.call' 4 rfl rfl rfl (by ((simp only [go_sem, List.toList_toArray, simprocAttr]); exact rfl)) ?_ (sched_CheckBearers_ok N _ _ _ _ _ _ e12) ?_ ?_ ?_ ?_
     · rfl
     · exact okD_all rfl
     · exact .inl rfl
     · (simp only [go_sem, Nat.reduceLT])
     refine FW.run ?_
     simp only [go_sem, simprocAttr, sw0]
     refine FW.nil ?_
     change OW _ _ _ _ _ _
     refine OW.run [1, 5, 7, 9, 14] ?_
     simp only [go_sem, simprocAttr, sw0]
     refine OW.nil (hK _ ?_); clear hK K
     change PW _ _ _ _ _
     refine PW.seq ?_
     obtain ⟨c16, H⟩ := chk_some H
     refine PW.drawK 18 mixed (by kernel_rfl) fun K hK => ?_
     change FW _ _ _ _ _
     refine FW.toS [(1, .d (.list l.length (l.flatMap (fun (x : ByteArray × Int × Int × Int × Int × Int × Int × Int × Int) => [(Sx x.1), (I x.2.1), (I x.2.2.1), (I x.2.2.2.1), (I x.2.2.2.2.1), (I x.2.2.2.2.2.1), (I x.2.2.2.2.2.2.1), (I x.2.2.2.2.2.2.2.1), (I x.2.2.2.2.2.2.2.2)])))), (5, .ptr 1 0), (7, .ptr 2 0), (9, .own 3 0 b3.length 9), (146, .d (Bo (((x121 != (0 : Int)) || ((x7.length : Int) == (0 : Int))) || (!((((x7.getD ((w64 ((x7.length : Int) - (1 : Int))).toNat) default).1).toList == Z1e.toList) && (((x7.getD ((w64 ((x7.length : Int) - (1 : Int))).toNat) default).2.1 == Z1c) && (((x7.getD ((w64 ((x7.length : Int) - (1 : Int))).toNat) default).2.2.1 == Z1h) && (((x7.getD ((w64 ((x7.length : Int) - (1 : Int))).toNat) default).2.2.2.1 == Z1j) && (((x7.getD ((w64 ((x7.length : Int) - (1 : Int))).toNat) default).2.2.2.2.1 == Z1g) && (((x7.getD ((w64 ((x7.length : Int) - (1 : Int))).toNat) default).2.2.2.2.2.1 == Z1d) && (((x7.getD ((w64 ((x7.length : Int) - (1 : Int))).toNat) default).2.2.2.2.2.2.1 == Z19) && (((x7.getD ((w64 ((x7.length : Int) - (1 : Int))).toNat) default).2.2.2.2.2.2.2.1 == Z1i) && ((x7.getD ((w64 ((x7.length : Int) - (1 : Int))).toNat) default).2.2.2.2.2.2.2.2 == Z1a)))))))))))))] [{ cells := [.d (I Zq), .d (I Zr), .d (I Zs), .d (L Zx)], e := 24 }, { cells := [.d (Sx Z1e), .d (I Z1c), .d (I Z1h), .d (I Z1j), .d (I Z1g), .d (I Z1d), .d (I Z19), .d (I Z1i), .d (I Z1a)], e := 27 }, { cells := [.d (.list x7.length (x7.flatMap (fun (x : ByteArray × Int × Int × Int × Int × Int × Int × Int × Int) => [(Sx x.1), (I x.2.1), (I x.2.2.1), (I x.2.2.2.1), (I x.2.2.2.2.1), (I x.2.2.2.2.2.1), (I x.2.2.2.2.2.2.1), (I x.2.2.2.2.2.2.2.1), (I x.2.2.2.2.2.2.2.2)]))), .d (.list x71.length (x71.map Sx))], e := 32 }, { cells := (b3.flatMap (fun (x : ByteArray × Int × Int × Int × Int × Int × Int × Int × Int) => [(Sx x.1), (I x.2.1), (I x.2.2.1), (I x.2.2.2.1), (I x.2.2.2.2.1), (I x.2.2.2.2.2.1), (I x.2.2.2.2.2.2.1), (I x.2.2.2.2.2.2.2.1), (I x.2.2.2.2.2.2.2.2)])).map .d, e := 27 }] ?_ (hK _ ?_)
     ·
      intro K hKE
      rcases Bool.eq_false_or_eq_true ((x121 != (0 : Int))) with ha0 | ha0
      ·
       try simp only [ha0, sb0, true_implies, false_implies, forall_const] at c16
       refine FW.run ?_
       (simp only [go_sem, simprocAttr, sw0, ha0])
       repeat (refine And.intro (by first | omega | (intro hg; have hq := c16 (by first | exact hg | simpa using hg); first | omega | exact hq | (simp only [List.length_map]; omega)) | (first | omega | assumption | rfl | decide | (simp only [List.length_map, List.length_replicate, List.length_append, List.length_take, List.length_drop, List.length_set, List.length_cons, List.length_nil, Nat.zero_add, Int.toNat_natCast] at *; omega) | (simp only [List.length_map, List.length_replicate, List.length_append, List.length_take, List.length_drop, List.length_set, List.length_cons, List.length_nil, Nat.zero_add, Int.toNat_natCast]; done) | trivial)) ?_)
       refine FW.nil ?_
       change OW _ _ _ _ _ _
       refine OW.run [1, 5, 7, 9, 146] ?_
       (simp only [go_sem, simprocAttr, sw0, ha0])
       repeat (refine And.intro (by first | omega | (intro hg; have hq := c16 (by first | exact hg | simpa using hg); first | omega | exact hq | (simp only [List.length_map]; omega)) | (first | omega | assumption | rfl | decide | (simp only [List.length_map, List.length_replicate, List.length_append, List.length_take, List.length_drop, List.length_set, List.length_cons, List.length_nil, Nat.zero_add, Int.toNat_natCast] at *; omega) | (simp only [List.length_map, List.length_replicate, List.length_append, List.length_take, List.length_drop, List.length_set, List.length_cons, List.length_nil, Nat.zero_add, Int.toNat_natCast]; done) | trivial)) ?_)
       refine OW.nil ((congrArg K ?_).mpr hKE)
       (first | rfl | (simp only [go_sem, simprocAttr, ha0]; done) | (simp only [go_sem, simprocAttr, ha0]; rfl))
      ·
       rcases Bool.eq_false_or_eq_true (((x7.length : Int) == (0 : Int))) with ha1 | ha1
       ·
        try simp only [ha0, ha1, sb0, true_implies, false_implies, forall_const] at c16
        refine FW.run ?_
        (simp only [go_sem, simprocAttr, sw0, ha0, ha1])
        repeat (refine And.intro (by first | omega | (intro hg; have hq := c16 (by first | exact hg | simpa using hg); first | omega | exact hq | (simp only [List.length_map]; omega)) | (first | omega | assumption | rfl | decide | (simp only [List.length_map, List.length_replicate, List.length_append, List.length_take, List.length_drop, List.length_set, List.length_cons, List.length_nil, Nat.zero_add, Int.toNat_natCast] at *; omega) | (simp only [List.length_map, List.length_replicate, List.length_append, List.length_take, List.length_drop, List.length_set, List.length_cons, List.length_nil, Nat.zero_add, Int.toNat_natCast]; done) | trivial)) ?_)
        refine FW.nil ?_
        change OW _ _ _ _ _ _
        refine OW.run [1, 5, 7, 9, 146] ?_
        (simp only [go_sem, simprocAttr, sw0, ha0, ha1])
        repeat (refine And.intro (by first | omega | (intro hg; have hq := c16 (by first | exact hg | simpa using hg); first | omega | exact hq | (simp only [List.length_map]; omega)) | (first | omega | assumption | rfl | decide | (simp only [List.length_map, List.length_replicate, List.length_append, List.length_take, List.length_drop, List.length_set, List.length_cons, List.length_nil, Nat.zero_add, Int.toNat_natCast] at *; omega) | (simp only [List.length_map, List.length_replicate, List.length_append, List.length_take, List.length_drop, List.length_set, List.length_cons, List.length_nil, Nat.zero_add, Int.toNat_natCast]; done) | trivial)) ?_)
        refine OW.nil ((congrArg K ?_).mpr hKE)
        (first | rfl | (simp only [go_sem, simprocAttr, ha0, ha1]; done) | (simp only [go_sem, simprocAttr, ha0, ha1]; rfl))
       ·
        try simp only [ha0, ha1, sb0, true_implies, false_implies, forall_const] at c16
        refine FW.run ?_
        (simp only [go_sem, simprocAttr, sw0, z0W6a, z1W6a x7 ((w64 ((x7.length : Int) - (1 : Int))).toNat) (by omega), ha0, ha1])
        repeat (refine And.intro (by first | omega | (intro hg; have hq := c16 (by first | exact hg | simpa using hg); first | omega | exact hq | (simp only [List.length_map]; omega)) | (first | omega | assumption | rfl | decide | (simp only [List.length_map, List.length_replicate, List.length_append, List.length_take, List.length_drop, List.length_set, List.length_cons, List.length_nil, Nat.zero_add, Int.toNat_natCast] at *; omega) | (simp only [List.length_map, List.length_replicate, List.length_append, List.length_take, List.length_drop, List.length_set, List.length_cons, List.length_nil, Nat.zero_add, Int.toNat_natCast]; done) | trivial)) ?_)
        refine FW.nil ?_
        change OW _ _ _ _ _ _
        refine OW.run [1, 5, 7, 9, 146] ?_
        (simp only [go_sem, simprocAttr, sw0, z0W6a, z1W6a x7 ((w64 ((x7.length : Int) - (1 : Int))).toNat) (by omega), ha0, ha1])
        repeat (refine And.intro (by first | omega | (intro hg; have hq := c16 (by first | exact hg | simpa using hg); first | omega | exact hq | (simp only [List.length_map]; omega)) | (first | omega | assumption | rfl | decide | (simp only [List.length_map, List.length_replicate, List.length_append, List.length_take, List.length_drop, List.length_set, List.length_cons, List.length_nil, Nat.zero_add, Int.toNat_natCast] at *; omega) | (simp only [List.length_map, List.length_replicate, List.length_append, List.length_take, List.length_drop, List.length_set, List.length_cons, List.length_nil, Nat.zero_add, Int.toNat_natCast]; done) | trivial)) ?_)
        refine OW.nil ((congrArg K ?_).mpr hKE)
        (first | rfl | (simp only [go_sem, simprocAttr, ha0, ha1]; done) | (simp only [go_sem, simprocAttr, ha0, ha1]; rfl))
     clear hK K
     change PW _ _ _ _ _
     refine PW.cond rfl (fun h17 => ?_) (fun h17 => ?_)
     ·
      replace H := br_t h17 H
      refine PW.seq ?_
      refine PW.regionK fun K hK => OW.run [6] ?_
      simp only [go_sem, simprocAttr, sw0]
      refine OW.nil (hK _ ?_); clear hK K
      change PW _ _ _ _ _
      refine PW.ret ?_
      change PW.Ends _ _ _ _ _ _
      refine PW.Ends.intro (.inr rfl) ?_
      simp only [go_sem, simprocAttr, sw0]
      obtain rfl := Option.some.inj H
      refine RetOK.data' 4 (by exact trivial) ?_
      rfl
     ·
      replace H := br_f h17 H
      refine PW.skip ?_
      change PW _ _ _ _ _
      refine PW.seq ?_
      refine PW.seq ?_
      refine PW.regionK fun K hK => OW.run [7, 9, 168] ?_
      simp only [go_sem, simprocAttr, sw0]
      repeat (refine And.intro (by omega) ?_)
      refine OW.nil (hK _ ?_); clear hK K
      change PW _ _ _ _ _
      refine PW.cond rfl (fun h18 => ?_) (fun h18 => ?_)
      ·
       replace H := br_t h18 H
       refine PW.seq ?_
       refine PW.regionK fun K hK => OW.run [6] ?_
       simp only [go_sem, simprocAttr, sw0]
       refine OW.nil (hK _ ?_); clear hK K
       change PW _ _ _ _ _
       refine PW.ret ?_
       change PW.Ends _ _ _ _ _ _
       refine PW.Ends.intro (.inr rfl) ?_
       simp only [go_sem, simprocAttr, sw0]
       obtain rfl := Option.some.inj H
       refine RetOK.data' 4 (by exact trivial) ?_
       rfl
      ·
       replace H := br_f h18 H
       refine PW.skip ?_
       change PW _ _ _ _ _
       refine PW.joinS (τ := Unit) [] 0 (fun _ => []) (fun _ => []) _ _ r (by exact Nat.le_refl _) H ?_ ?_
       ·
        intro K_1 H N19 hN19
        refine PW.seq ?_
        refine PW.regionK fun K hK => OW.run [7, 9, 15] ?_
        simp only [go_sem, simprocAttr, sw0]
        refine OW.nil (hK _ ?_); clear hK K
        change PW _ _ _ _ _
        refine PW.block ?_
        refine PW.loopS (σ := Int) [7, 9, 15] 4 (fun i1 => [(15, .d (I i1))]) (fun i1 => [{ cells := [.d (I Zq), .d (I Zr), .d (I Zs), .d (L Zx)], e := 24 }, { cells := [.d (Sx Z1e), .d (I Z1c), .d (I Z1h), .d (I Z1j), .d (I Z1g), .d (I Z1d), .d (I Z19), .d (I Z1i), .d (I Z1a)], e := 27 }, { cells := [.d (.list x7.length (x7.flatMap (fun (x : ByteArray × Int × Int × Int × Int × Int × Int × Int × Int) => [(Sx x.1), (I x.2.1), (I x.2.2.1), (I x.2.2.2.1), (I x.2.2.2.2.1), (I x.2.2.2.2.2.1), (I x.2.2.2.2.2.2.1), (I x.2.2.2.2.2.2.2.1), (I x.2.2.2.2.2.2.2.2)]))), .d (.list x71.length (x71.map Sx))], e := 32 }, { cells := (b3.flatMap (fun (x : ByteArray × Int × Int × Int × Int × Int × Int × Int × Int) => [(Sx x.1), (I x.2.1), (I x.2.2.1), (I x.2.2.2.1), (I x.2.2.2.2.1), (I x.2.2.2.2.2.1), (I x.2.2.2.2.2.2.1), (I x.2.2.2.2.2.2.2.1), (I x.2.2.2.2.2.2.2.2)])).map .d, e := 27 }]) (law06_SchedNeverRefused.b2 N x71 b3 K_1) r N (0 : Int) (by exact Nat.zero_le _) H (by (simp only [Env.frzL, Env.frz, frzOb, V.frz, V.frz.frzs, asD, map_asD, sw1, go_sem, simprocAttr]; done)) ?_
        rintro n i1 H N20 hN20
        unfold law06_SchedNeverRefused.b2 at H
        try simp only [go_sem, simprocAttr]
        refine PW.seq ?_
        refine PW.seq ?_
        refine PW.regionK fun K hK => OW.run [7, 9, 15, 172] ?_
        simp only [go_sem, simprocAttr, sw0]
        refine OW.nil (hK _ ?_); clear hK K
        change PW _ _ _ _ _
        refine PW.cond rfl (fun h21 => ?_) (fun h21 => ?_)
        ·
         replace H := br_t h21 H
         refine PW.skip ?_
         change PW _ _ _ _ _
         refine PW.seq ?_
         refine PW.block ?_
         refine PW.seq ?_
         obtain ⟨c22, H⟩ := chk_some H
         obtain ⟨x13, e13, H⟩ := bnd_some H
         refine PW.drawK 7 mixed (by kernel_rfl) fun K hK => ?_
         change FW _ _ _ _ _
         refine FW.run ?_
         (simp only [go_sem, simprocAttr, sw0, z0W6a, z8W6a b3 i1.toNat (by omega), z9W6a b3 i1.toNat (by omega) (by decide), z10W6a b3 i1.toNat (by omega) 1 (by decide), z10W6a b3 i1.toNat (by omega) 2 (by decide), z10W6a b3 i1.toNat (by omega) 3 (by decide), z10W6a b3 i1.toNat (by omega) 4 (by decide), z10W6a b3 i1.toNat (by omega) 5 (by decide), z10W6a b3 i1.toNat (by omega) 6 (by decide), z10W6a b3 i1.toNat (by omega) 7 (by decide), z10W6a b3 i1.toNat (by omega) 8 (by decide)])
         repeat (refine And.intro (by omega) ?_)
         refine FW.nil ?_
         change OW _ _ _ _ _ _
         refine OW.run [7, 9, 15, 182] ?_
         (simp only [go_sem, simprocAttr, sw0, z0W6a, z8W6a b3 i1.toNat (by omega), z9W6a b3 i1.toNat (by omega) (by decide), z10W6a b3 i1.toNat (by omega) 1 (by decide), z10W6a b3 i1.toNat (by omega) 2 (by decide), z10W6a b3 i1.toNat (by omega) 3 (by decide), z10W6a b3 i1.toNat (by omega) 4 (by decide), z10W6a b3 i1.toNat (by omega) 5 (by decide), z10W6a b3 i1.toNat (by omega) 6 (by decide), z10W6a b3 i1.toNat (by omega) 7 (by decide), z10W6a b3 i1.toNat (by omega) 8 (by decide)])
         refine OW.call' 4 rfl rfl rfl (by ((simp only [go_sem, List.toList_toArray, simprocAttr]); exact rfl)) ?_ (base_HasText_ok N _ _ _ e13) ?_ ?_ ?_ ?_
         · rfl
         · exact okD_all rfl
         · exact .inl rfl
         · (simp only [go_sem, Nat.reduceLT])
         refine OW.run [7, 9, 15, 182] ?_
         (simp only [go_sem, simprocAttr, sw0, z0W6a, z8W6a b3 i1.toNat (by omega), z9W6a b3 i1.toNat (by omega) (by decide), z10W6a b3 i1.toNat (by omega) 1 (by decide), z10W6a b3 i1.toNat (by omega) 2 (by decide), z10W6a b3 i1.toNat (by omega) 3 (by decide), z10W6a b3 i1.toNat (by omega) 4 (by decide), z10W6a b3 i1.toNat (by omega) 5 (by decide), z10W6a b3 i1.toNat (by omega) 6 (by decide), z10W6a b3 i1.toNat (by omega) 7 (by decide), z10W6a b3 i1.toNat (by omega) 8 (by decide)])
         refine OW.nil (hK _ ?_); clear hK K
         change PW _ _ _ _ _
         refine PW.cond rfl (fun h23 => ?_) (fun h23 => ?_)
         ·
          replace H := br_t h23 H
          refine PW.seq ?_
          refine PW.regionK fun K hK => OW.run [6] ?_
          simp only [go_sem, simprocAttr, sw0]
          refine OW.nil (hK _ ?_); clear hK K
          change PW _ _ _ _ _
          refine PW.ret ?_
          change PW.Ends _ _ _ _ _ _
          refine PW.Ends.intro (.inr rfl) ?_
          simp only [go_sem, simprocAttr, sw0]
          obtain rfl := Option.some.inj H
          refine RetOK.data' 4 (by exact trivial) ?_
          rfl
         ·
          replace H := br_f h23 H
          refine PW.skip ?_
          change PW _ _ _ _ _
          refine PW.regionK fun K hK => OW.run [7, 9, 15] ?_
          simp only [go_sem, simprocAttr, sw0]
          refine OW.nil (hK _ ?_); clear hK K
          refine hN20 [] (w64 (i1 + (1 : Int))) _ H (by exact trivial) ?_
          (simp only [Env.frzL, Env.frz, frzOb, V.frz, V.frz.frzs, asD, map_asD, sw1, go_sem, simprocAttr]; done)
        ·
         replace H := br_f h21 H
         refine PW.exit ?_
         refine hN19 [] () _ H (by exact trivial) ?_
         (simp only [Env.frzL, Env.frz, frzOb, V.frz, V.frz.frzs, asD, map_asD, sw1, go_sem, simprocAttr]; done)
       ·
        rintro _ H
        try simp only [go_sem, simprocAttr]
        refine PW.seq ?_
        refine PW.regionK fun K hK => OW.run [6] ?_
        simp only [go_sem, simprocAttr, sw0]
        refine OW.nil (hK _ ?_); clear hK K
        change PW _ _ _ _ _
        refine PW.ret ?_
        change PW.Ends _ _ _ _ _ _
        refine PW.Ends.intro (.inr rfl) ?_
        simp only [go_sem, simprocAttr, sw0]
        obtain rfl := Option.some.inj H
        refine RetOK.data' 4 (by exact trivial) ?_
        rfl
end Go.Proofs.Ytabojpkmfkjjkaa
