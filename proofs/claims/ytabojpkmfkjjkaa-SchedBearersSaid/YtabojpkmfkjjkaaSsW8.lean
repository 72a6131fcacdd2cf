import Derived.Test.YtabojpkmfkjjkaaSsBase
import Derived.Test.YtabojpkmfkjjkaaSsW0
import Derived.Test.YtabojpkmfkjjkaaSsW4
import Derived.Test.YtabojpkmfkjjkaaSsW5
import Derived.Test.YtabojpkmfkjjkaaSsW7
set_option linter.all false
namespace Go.Proofs.Ytabojpkmfkjjkaa
open Go.PW Go.Sh

set_option maxRecDepth 20000
set_option maxHeartbeats 8000000
def scqW8 := And.intro @List.length_set <| And.intro @List.length_replicate <| And.intro @and_true <| And.intro @true_and @Nat.le_refl
theorem law06_SchedBearers_ok (N : Nat) (Zq : Int) (Zr : Int) (Zs : Int) (Zx : List Int) (l : List TB) (Z1e : ByteArray) (Z1c : Int) (Z1h : Int) (Z1j : Int) (Z1g : Int) (Z1d : Int) (Z19 : Int) (Z1i : Int) (Z1a : Int) (r : Bool) (H : law06_SchedBearers N Zq Zr Zs Zx l Z1e Z1c Z1h Z1j Z1g Z1d Z19 Z1i Z1a = some r) : CallOK Try.prog 6 [(.agg [(I Zq), (I Zr), (I Zs), (L Zx)]), (.list l.length (l.flatMap (fun (x : ByteArray × Int × Int × Int × Int × Int × Int × Int × Int) => [(Sx x.1), (I x.2.1), (I x.2.2.1), (I x.2.2.2.1), (I x.2.2.2.2.1), (I x.2.2.2.2.2.1), (I x.2.2.2.2.2.2.1), (I x.2.2.2.2.2.2.2.1), (I x.2.2.2.2.2.2.2.2)]))), (.agg [(Sx Z1e), (I Z1c), (I Z1h), (I Z1j), (I Z1g), (I Z1d), (I Z19), (I Z1i), (I Z1a)])] (.d (Bo r)) [] := by
 refine CallOK.of_PW Try.func6 rfl (by rw [Try.results6]) Try.ntmps6 Try.call6 ?_
 change PW _ _ _ _ _
 try simp only [go_sem, simprocAttr]
 unfold law06_SchedBearers at H
 refine PW.seq ?_
 refine PW.regionK fun K hK => OW.run [1, 3, 5] ?_
 simp only [go_sem, simprocAttr, sw0]
 refine OW.nil (hK _ ?_); clear hK K
 change PW _ _ _ _ _
 refine PW.seq ?_
 refine PW.seq ?_
 obtain ⟨x1, e1, H⟩ := bnd_some H
 refine PW.regionK fun K hK => OW.run [1, 3, 5, 19] ?_
 simp only [go_sem, simprocAttr, sw0]
 refine OW.call' 4 rfl rfl rfl (by ((simp only [go_sem, List.toList_toArray, simprocAttr]); exact rfl)) ?_ (law06_awake_ok N  _ e1) ?_ ?_ ?_ ?_
 · rfl
 · exact okD_all rfl
 · exact .inl rfl
 · (simp only [go_sem, Nat.reduceLT])
 refine OW.run [1, 3, 5, 19] ?_
 simp only [go_sem, simprocAttr, sw0]
 refine OW.nil (hK _ ?_); clear hK K
 change PW _ _ _ _ _
 refine PW.cond rfl (fun h1 => ?_) (fun h1 => ?_)
 ·
  replace H := br_t h1 H
  refine PW.seq ?_
  refine PW.regionK fun K hK => OW.run [6] ?_
  simp only [go_sem, simprocAttr, sw0]
  refine OW.nil (hK _ ?_); clear hK K
  change PW _ _ _ _ _
  refine PW.ret ?_
  change PW.Ends _ _ _ _ _ _
  refine PW.Ends.intro (.inr rfl) ?_
  simp only [go_sem, simprocAttr, sw0]
  obtain rfl := Option.some.inj H
  refine RetOK.data' 4 (by exact trivial) ?_
  rfl
 ·
  replace H := br_f h1 H
  refine PW.skip ?_
  change PW _ _ _ _ _
  refine PW.seq ?_
  refine PW.seq ?_
  obtain ⟨x2, e2, H⟩ := bnd_some H
  refine PW.regionK fun K hK => OW.run [1, 3, 5, 29] ?_
  simp only [go_sem, simprocAttr, sw0]
  refine OW.call' 4 rfl rfl rfl (by ((simp only [go_sem, List.toList_toArray, simprocAttr]); exact rfl)) ?_ (law06_Few_ok N _ _ _ _ _ _ e2) ?_ ?_ ?_ ?_
  · rfl
  · (refine okAll_intro ?_; (simp only [go_sem, sw2, scqW8, simprocAttr]; done))
  · exact .inl rfl
  · (simp only [go_sem, Nat.reduceLT])
  refine OW.run [1, 3, 5, 29] ?_
  simp only [go_sem, simprocAttr, sw0]
  repeat (refine And.intro (by omega) ?_)
  refine OW.nil (hK _ ?_); clear hK K
  change PW _ _ _ _ _
  refine PW.cond rfl (fun h2 => ?_) (fun h2 => ?_)
  ·
   replace H := br_t h2 H
   refine PW.seq ?_
   refine PW.regionK fun K hK => OW.run [6] ?_
   simp only [go_sem, simprocAttr, sw0]
   refine OW.nil (hK _ ?_); clear hK K
   change PW _ _ _ _ _
   refine PW.ret ?_
   change PW.Ends _ _ _ _ _ _
   refine PW.Ends.intro (.inr rfl) ?_
   simp only [go_sem, simprocAttr, sw0]
   obtain rfl := Option.some.inj H
   refine RetOK.data' 4 (by exact trivial) ?_
   rfl
  ·
   replace H := br_f h2 H
   refine PW.skip ?_
   change PW _ _ _ _ _
   refine PW.seq ?_
   obtain ⟨⟨x3, x31, x32, x33⟩, e3, H⟩ := bnd_some H
   obtain ⟨x4, e4, H⟩ := bnd_some H
   refine PW.drawK 3 mixed (by kernel_rfl) fun K hK => ?_
   change FW _ _ _ _ _
   refine FW.run ?_
   simp only [go_sem, simprocAttr, sw0]
   refine FW.call' 4 rfl rfl rfl (by ((simp only [go_sem, List.toList_toArray, simprocAttr]); exact rfl)) ?_ (ref06_Copy_ok N _ _ _ _ _ e3) ?_ ?_ ?_ ?_
   · rfl
   · (refine okAll_intro ?_; (simp only [go_sem, sw2, scqW8, simprocAttr]; done))
   · exact .inl rfl
   · (simp only [go_sem, Nat.reduceLT])
   refine FW.run ?_
   simp only [go_sem, simprocAttr, sw0]
   refine FW.nil ?_
   change OW _ _ _ _ _ _
   refine OW.run [1, 3, 5, 7] ?_
   simp only [go_sem, simprocAttr, sw0]
   refine OW.call' 4 rfl rfl rfl (by ((simp only [go_sem, List.toList_toArray, simprocAttr]); exact rfl)) ?_ (sched_CheckBearer_ok N _ _ _ _ _ _ _ _ _ _ _ _ _ _ e4) ?_ ?_ ?_ ?_
   · rfl
   · (refine okAll_intro ?_; (simp only [go_sem, sw2, scqW8, simprocAttr]; done))
   · exact .inl rfl
   · (simp only [go_sem, Nat.reduceLT])
   refine OW.run [1, 3, 5, 7] ?_
   simp only [go_sem, simprocAttr, sw0]
   refine OW.nil (hK _ ?_); clear hK K
   change PW _ _ _ _ _
   refine PW.seq ?_
   obtain ⟨⟨x5, x51, x52, x53⟩, e5, H⟩ := bnd_some H
   obtain ⟨⟨x6, x61, x62, x63⟩, e6, H⟩ := bnd_some H
   refine PW.drawO 9 [7] [62] mixed (by kernel_rfl) (by decide) rfl fun K hK => ?_
   refine FWO.run ?_
   simp only [go_sem, simprocAttr, sw0]
   refine FWO.call' 4 (by decide) rfl rfl rfl (by ((simp only [go_sem, List.toList_toArray, simprocAttr]); exact rfl)) ?_ (ref06_Copy_ok N _ _ _ _ _ e5) ?_ ?_ ?_ ?_
   · rfl
   · (refine okAll_intro ?_; (simp only [go_sem, sw2, scqW8, simprocAttr]; done))
   · exact .inl rfl
   · (simp only [go_sem, Nat.reduceLT])
   refine FWO.run ?_
   simp only [go_sem, simprocAttr, sw0]
   refine FWO.call' 4 (by decide) rfl rfl rfl (by ((simp only [go_sem, List.toList_toArray, simprocAttr]); exact rfl)) ?_ (sched_NeedOf_ok N _ _ _ _ _ _ _ _ _ _ _ _ _ _ e6) ?_ ?_ ?_ ?_
   · rfl
   · (refine okAll_intro ?_; (simp only [go_sem, sw2, scqW8, simprocAttr]; done))
   · exact .inl rfl
   · (simp only [go_sem, Nat.reduceLT])
   refine FWO.run ?_
   simp only [go_sem, simprocAttr, sw0]
   repeat (refine And.intro (by rfl) ?_)
   first | refine FWO.nil ?_ | skip
   change OW _ _ _ _ _ _
   refine OW.run [1, 3, 5, 7, 8, 9] ?_
   simp only [go_sem, simprocAttr, sw0]
   refine OW.nil (hK _ ?_); clear hK K
   change PW _ _ _ _ _
   refine PW.seq ?_
   obtain ⟨⟨x7, x71, x72, x73⟩, e7, H⟩ := bnd_some H
   obtain ⟨x8, e8, H⟩ := bnd_some H
   obtain ⟨⟨x9, x91⟩, e9, H⟩ := bnd_some H
   refine PW.regionK fun K hK => OW.run [1, 3, 5, 7, 8, 9, 10, 11] ?_
   simp only [go_sem, simprocAttr, sw0]
   refine OW.call' 4 rfl rfl rfl (by ((simp only [go_sem, List.toList_toArray, simprocAttr]); exact rfl)) ?_ (ref06_Copy_ok N _ _ _ _ _ e7) ?_ ?_ ?_ ?_
   · rfl
   · (refine okAll_intro ?_; (simp only [go_sem, sw2, scqW8, simprocAttr]; done))
   · exact .inl rfl
   · (simp only [go_sem, Nat.reduceLT])
   refine OW.run [1, 3, 5, 7, 8, 9, 10, 11] ?_
   simp only [go_sem, simprocAttr, sw0]
   refine OW.call' 4 rfl rfl rfl (by ((simp only [go_sem, List.toList_toArray, simprocAttr]); exact rfl)) ?_ (ref06_CopyBearers_ok N _ _ e8) ?_ ?_ ?_ ?_
   · rfl
   · exact okD_all rfl
   · exact .inl rfl
   · (simp only [go_sem, Nat.reduceLT])
   refine OW.run [1, 3, 5, 7, 8, 9, 10, 11] ?_
   simp only [go_sem, simprocAttr, sw0]
   refine OW.call' 4 rfl rfl rfl (by ((simp only [go_sem, List.toList_toArray, simprocAttr]); exact rfl)) ?_ (sched_CheckBearers_ok N _ _ _ _ _ _ e9) ?_ ?_ ?_ ?_
   · rfl
   · exact okD_all rfl
   · exact .inl rfl
   · (simp only [go_sem, Nat.reduceLT])
   refine OW.run [1, 3, 5, 7, 8, 9, 10, 11] ?_
   simp only [go_sem, simprocAttr, sw0]
   refine OW.nil (hK _ ?_); clear hK K
   change PW _ _ _ _ _
   refine PW.seq ?_
   obtain ⟨⟨x10, x101, x102, x103⟩, e10, H⟩ := bnd_some H
   obtain ⟨x11, e11, H⟩ := bnd_some H
   obtain ⟨⟨x12, x121, x122, x123⟩, e12, H⟩ := bnd_some H
   refine PW.regionK fun K hK => OW.run [1, 3, 5, 7, 8, 9, 10, 11, 12, 13] ?_
   simp only [go_sem, simprocAttr, sw0]
   refine OW.call' 4 rfl rfl rfl (by ((simp only [go_sem, List.toList_toArray, simprocAttr]); exact rfl)) ?_ (ref06_Copy_ok N _ _ _ _ _ e10) ?_ ?_ ?_ ?_
   · rfl
   · (refine okAll_intro ?_; (simp only [go_sem, sw2, scqW8, simprocAttr]; done))
   · exact .inl rfl
   · (simp only [go_sem, Nat.reduceLT])
   refine OW.run [1, 3, 5, 7, 8, 9, 10, 11, 12, 13] ?_
   simp only [go_sem, simprocAttr, sw0]
   refine OW.call' 4 rfl rfl rfl (by ((simp only [go_sem, List.toList_toArray, simprocAttr]); exact rfl)) ?_ (ref06_CopyBearers_ok N _ _ e11) ?_ ?_ ?_ ?_
   · rfl
   · exact okD_all rfl
   · exact .inl rfl
   · (simp only [go_sem, Nat.reduceLT])
   refine OW.run [1, 3, 5, 7, 8, 9, 10, 11, 12, 13] ?_
   simp only [go_sem, simprocAttr, sw0]
   refine OW.call' 4 rfl rfl rfl (by ((simp only [go_sem, List.toList_toArray, simprocAttr]); exact rfl)) ?_ (sched_Room_ok N _ _ _ _ _ _ e12) ?_ ?_ ?_ ?_
   · rfl
   · exact okD_all rfl
   · exact .inl rfl
   · (simp only [go_sem, Nat.reduceLT])
   refine OW.run [1, 3, 5, 7, 8, 9, 10, 11, 12, 13] ?_
   simp only [go_sem, simprocAttr, sw0]
   refine OW.nil (hK _ ?_); clear hK K
   change PW _ _ _ _ _
   refine PW.seq ?_
   refine PW.seq ?_
   obtain ⟨x13, e13, H⟩ := bnd_some H
   refine PW.regionK fun K hK => OW.run [1, 3, 5, 7, 8, 9, 10, 11, 12, 13, 14] ?_
   simp only [go_sem, simprocAttr, sw0]
   refine OW.call' 4 rfl rfl rfl (by ((simp only [go_sem, List.toList_toArray, simprocAttr]); exact rfl)) ?_ (ref06_SiteErr_ok N _ _ _ _ _ e13) ?_ ?_ ?_ ?_
   · rfl
   · (refine okAll_intro ?_; (simp only [go_sem, sw2, scqW8, simprocAttr]; done))
   · exact .inl rfl
   · (simp only [go_sem, Nat.reduceLT])
   refine OW.run [1, 3, 5, 7, 8, 9, 10, 11, 12, 13, 14] ?_
   simp only [go_sem, simprocAttr, sw0]
   refine OW.nil (hK _ ?_); clear hK K
   change PW _ _ _ _ _
   refine PW.seq ?_
   refine PW.regionK fun K hK => OW.run [1, 3, 5, 7, 8, 9, 10, 11, 12, 13, 14, 60] ?_
   simp only [go_sem, simprocAttr, sw0]
   refine OW.nil (hK _ ?_); clear hK K
   change PW _ _ _ _ _
   refine PW.cond rfl (fun h3 => ?_) (fun h3 => ?_)
   ·
    replace H := br_t h3 H
    refine PW.seq ?_
    refine PW.regionK fun K hK => ?_
    refine OW.step rfl ?_
    simp only [go_sem, simprocAttr, sw0]
    refine OW.step rfl ?_
    simp only [go_sem, simprocAttr, sw0]
    refine OW.step rfl ?_
    simp only [go_sem, simprocAttr, sw0]
    refine OW.step rfl ?_
    simp only [go_sem, simprocAttr, sw0]
    refine OW.opA (g := (x4 == x13)) rfl ?_ (fun hg => ?_) (by (simp only [go_sem, Nat.reduceLT])) ?_
    · (simp only [go_sem, simprocAttr]; done)
    · (first | decide | ((simp only [go_sem, simprocAttr, sw0]); done) | ((simp only [go_sem, simprocAttr, sw0]); (repeat (refine And.intro (by (first | omega | assumption | rfl | decide | trivial)) ?_)); done) | ((simp only [go_sem, simprocAttr, sw0]); repeat (first | omega | rfl | trivial | refine ⟨?_, ?_⟩)))
    try simp only [go_sem, simprocAttr]
    refine OW.opA (g := (x4 == x13)) rfl ?_ (fun hg => ?_) (by (simp only [go_sem, Nat.reduceLT])) ?_
    · (simp only [go_sem, simprocAttr]; done)
    · (first | decide | ((simp only [go_sem, simprocAttr, sw0]); done) | ((simp only [go_sem, simprocAttr, sw0]); (repeat (refine And.intro (by (first | omega | assumption | rfl | decide | trivial)) ?_)); done) | ((simp only [go_sem, simprocAttr, sw0]); repeat (first | omega | rfl | trivial | refine ⟨?_, ?_⟩)))
    try simp only [go_sem, simprocAttr]
    refine OW.opA (g := (x4 == x13)) rfl ?_ (fun hg => ?_) (by (simp only [go_sem, Nat.reduceLT])) ?_
    · (simp only [go_sem, simprocAttr]; done)
    · (first | decide | ((simp only [go_sem, simprocAttr, sw0]); done) | ((simp only [go_sem, simprocAttr, sw0]); (repeat (refine And.intro (by (first | omega | assumption | rfl | decide | trivial)) ?_)); done) | ((simp only [go_sem, simprocAttr, sw0]); repeat (first | omega | rfl | trivial | refine ⟨?_, ?_⟩)))
    try simp only [go_sem, simprocAttr]
    refine OW.step rfl ?_
    simp only [go_sem, simprocAttr, sw0]
    refine OW.step rfl ?_
    simp only [go_sem, simprocAttr, sw0]
    refine OW.opA (g := ((x4 == x13) && (x63 == x13))) rfl ?_ (fun hg => ?_) (by (simp only [go_sem, Nat.reduceLT])) ?_
    · (simp only [go_sem, simprocAttr]; done)
    · (first | decide | ((simp only [go_sem, simprocAttr, sw0]); done) | ((simp only [go_sem, simprocAttr, sw0]); (repeat (refine And.intro (by (first | omega | assumption | rfl | decide | trivial)) ?_)); done) | ((simp only [go_sem, simprocAttr, sw0]); repeat (first | omega | rfl | trivial | refine ⟨?_, ?_⟩)))
    try simp only [go_sem, simprocAttr]
    refine OW.opA (g := ((x4 == x13) && (x63 == x13))) rfl ?_ (fun hg => ?_) (by (simp only [go_sem, Nat.reduceLT])) ?_
    · (simp only [go_sem, simprocAttr]; done)
    · (first | decide | ((simp only [go_sem, simprocAttr, sw0]); done) | ((simp only [go_sem, simprocAttr, sw0]); (repeat (refine And.intro (by (first | omega | assumption | rfl | decide | trivial)) ?_)); done) | ((simp only [go_sem, simprocAttr, sw0]); repeat (first | omega | rfl | trivial | refine ⟨?_, ?_⟩)))
    try simp only [go_sem, simprocAttr]
    refine OW.opA (g := ((x4 == x13) && (x63 == x13))) rfl ?_ (fun hg => ?_) (by (simp only [go_sem, Nat.reduceLT])) ?_
    · (simp only [go_sem, simprocAttr]; done)
    · (first | decide | ((simp only [go_sem, simprocAttr, sw0]); done) | ((simp only [go_sem, simprocAttr, sw0]); (repeat (refine And.intro (by (first | omega | assumption | rfl | decide | trivial)) ?_)); done) | ((simp only [go_sem, simprocAttr, sw0]); repeat (first | omega | rfl | trivial | refine ⟨?_, ?_⟩)))
    try simp only [go_sem, simprocAttr]
    refine OW.step rfl ?_
    simp only [go_sem, simprocAttr, sw0]
    refine OW.step rfl ?_
    simp only [go_sem, simprocAttr, sw0]
    refine OW.opA (g := (((x4 == x13) && (x63 == x13)) && (x91 == x13))) rfl ?_ (fun hg => ?_) (by (simp only [go_sem, Nat.reduceLT])) ?_
    · (simp only [go_sem, simprocAttr]; done)
    · (first | decide | ((simp only [go_sem, simprocAttr, sw0]); done) | ((simp only [go_sem, simprocAttr, sw0]); (repeat (refine And.intro (by (first | omega | assumption | rfl | decide | trivial)) ?_)); done) | ((simp only [go_sem, simprocAttr, sw0]); repeat (first | omega | rfl | trivial | refine ⟨?_, ?_⟩)))
    try simp only [go_sem, simprocAttr]
    refine OW.opA (g := (((x4 == x13) && (x63 == x13)) && (x91 == x13))) rfl ?_ (fun hg => ?_) (by (simp only [go_sem, Nat.reduceLT])) ?_
    · (simp only [go_sem, simprocAttr]; done)
    · (first | decide | ((simp only [go_sem, simprocAttr, sw0]); done) | ((simp only [go_sem, simprocAttr, sw0]); (repeat (refine And.intro (by (first | omega | assumption | rfl | decide | trivial)) ?_)); done) | ((simp only [go_sem, simprocAttr, sw0]); repeat (first | omega | rfl | trivial | refine ⟨?_, ?_⟩)))
    try simp only [go_sem, simprocAttr]
    refine OW.opA (g := (((x4 == x13) && (x63 == x13)) && (x91 == x13))) rfl ?_ (fun hg => ?_) (by (simp only [go_sem, Nat.reduceLT])) ?_
    · (simp only [go_sem, simprocAttr]; done)
    · (first | decide | ((simp only [go_sem, simprocAttr, sw0]); done) | ((simp only [go_sem, simprocAttr, sw0]); (repeat (refine And.intro (by (first | omega | assumption | rfl | decide | trivial)) ?_)); done) | ((simp only [go_sem, simprocAttr, sw0]); repeat (first | omega | rfl | trivial | refine ⟨?_, ?_⟩)))
    try simp only [go_sem, simprocAttr]
    refine OW.step rfl ?_
    simp only [go_sem, simprocAttr, sw0]
    refine OW.step rfl ?_
    simp only [go_sem, simprocAttr, sw0]
    refine OW.opA (g := ((((x4 == x13) && (x63 == x13)) && (x91 == x13)) && (x123 == x13))) rfl ?_ (fun hg => ?_) (by (simp only [go_sem, Nat.reduceLT])) ?_
    · (simp only [go_sem, simprocAttr]; done)
    · (first | decide | ((simp only [go_sem, simprocAttr, sw0]); done) | ((simp only [go_sem, simprocAttr, sw0]); (repeat (refine And.intro (by (first | omega | assumption | rfl | decide | trivial)) ?_)); done) | ((simp only [go_sem, simprocAttr, sw0]); repeat (first | omega | rfl | trivial | refine ⟨?_, ?_⟩)))
    try simp only [go_sem, simprocAttr]
    refine OW.opA (g := ((((x4 == x13) && (x63 == x13)) && (x91 == x13)) && (x123 == x13))) rfl ?_ (fun hg => ?_) (by (simp only [go_sem, Nat.reduceLT])) ?_
    · (simp only [go_sem, simprocAttr]; done)
    · (first | decide | ((simp only [go_sem, simprocAttr, sw0]); done) | ((simp only [go_sem, simprocAttr, sw0]); (repeat (refine And.intro (by (first | omega | assumption | rfl | decide | trivial)) ?_)); done) | ((simp only [go_sem, simprocAttr, sw0]); repeat (first | omega | rfl | trivial | refine ⟨?_, ?_⟩)))
    try simp only [go_sem, simprocAttr]
    refine OW.opA (g := ((((x4 == x13) && (x63 == x13)) && (x91 == x13)) && (x123 == x13))) rfl ?_ (fun hg => ?_) (by (simp only [go_sem, Nat.reduceLT])) ?_
    · (simp only [go_sem, simprocAttr]; done)
    · (first | decide | ((simp only [go_sem, simprocAttr, sw0]); done) | ((simp only [go_sem, simprocAttr, sw0]); (repeat (refine And.intro (by (first | omega | assumption | rfl | decide | trivial)) ?_)); done) | ((simp only [go_sem, simprocAttr, sw0]); repeat (first | omega | rfl | trivial | refine ⟨?_, ?_⟩)))
    try simp only [go_sem, simprocAttr]
    refine OW.step rfl ?_
    simp only [go_sem, simprocAttr, sw0]
    refine OW.step rfl ?_
    simp only [go_sem, simprocAttr, sw0]
    refine OW.opA (g := (((((x4 == x13) && (x63 == x13)) && (x91 == x13)) && (x123 == x13)) && (Bool.and (x6 == (0 : Int)) (Bool.and (x61 == (0 : Int)) (x62 == (0 : Int)))))) rfl ?_ (fun hg => ?_) (by (simp only [go_sem, Nat.reduceLT])) ?_
    · (simp only [go_sem, simprocAttr]; done)
    · (first | decide | ((simp only [go_sem, simprocAttr, sw0]); done) | ((simp only [go_sem, simprocAttr, sw0]); (repeat (refine And.intro (by (first | omega | assumption | rfl | decide | trivial)) ?_)); done) | ((simp only [go_sem, simprocAttr, sw0]); repeat (first | omega | rfl | trivial | refine ⟨?_, ?_⟩)))
    try simp only [go_sem, simprocAttr]
    refine OW.opA (g := (((((x4 == x13) && (x63 == x13)) && (x91 == x13)) && (x123 == x13)) && (Bool.and (x6 == (0 : Int)) (Bool.and (x61 == (0 : Int)) (x62 == (0 : Int)))))) rfl ?_ (fun hg => ?_) (by (simp only [go_sem, Nat.reduceLT])) ?_
    · (simp only [go_sem, simprocAttr]; done)
    · (first | decide | ((simp only [go_sem, simprocAttr, sw0]); done) | ((simp only [go_sem, simprocAttr, sw0]); (repeat (refine And.intro (by (first | omega | assumption | rfl | decide | trivial)) ?_)); done) | ((simp only [go_sem, simprocAttr, sw0]); repeat (first | omega | rfl | trivial | refine ⟨?_, ?_⟩)))
    try simp only [go_sem, simprocAttr]
    refine OW.step rfl ?_
    simp only [go_sem, simprocAttr, sw0]
    refine OW.step rfl ?_
    simp only [go_sem, simprocAttr, sw0]
    refine OW.opA (g := ((((((x4 == x13) && (x63 == x13)) && (x91 == x13)) && (x123 == x13)) && (Bool.and (x6 == (0 : Int)) (Bool.and (x61 == (0 : Int)) (x62 == (0 : Int))))) && (x9 == (0 : Int)))) rfl ?_ (fun hg => ?_) (by (simp only [go_sem, Nat.reduceLT])) ?_
    · (simp only [go_sem, simprocAttr]; done)
    · (first | decide | ((simp only [go_sem, simprocAttr, sw0]); done) | ((simp only [go_sem, simprocAttr, sw0]); (repeat (refine And.intro (by (first | omega | assumption | rfl | decide | trivial)) ?_)); done) | ((simp only [go_sem, simprocAttr, sw0]); repeat (first | omega | rfl | trivial | refine ⟨?_, ?_⟩)))
    try simp only [go_sem, simprocAttr]
    refine OW.opA (g := ((((((x4 == x13) && (x63 == x13)) && (x91 == x13)) && (x123 == x13)) && (Bool.and (x6 == (0 : Int)) (Bool.and (x61 == (0 : Int)) (x62 == (0 : Int))))) && (x9 == (0 : Int)))) rfl ?_ (fun hg => ?_) (by (simp only [go_sem, Nat.reduceLT])) ?_
    · (simp only [go_sem, simprocAttr]; done)
    · (first | decide | ((simp only [go_sem, simprocAttr, sw0]); done) | ((simp only [go_sem, simprocAttr, sw0]); (repeat (refine And.intro (by (first | omega | assumption | rfl | decide | trivial)) ?_)); done) | ((simp only [go_sem, simprocAttr, sw0]); repeat (first | omega | rfl | trivial | refine ⟨?_, ?_⟩)))
    try simp only [go_sem, simprocAttr]
    refine OW.run [6] ?_
    simp only [go_sem, simprocAttr, sw0]
    refine OW.nil (hK _ ?_); clear hK K
    change PW _ _ _ _ _
    refine PW.ret ?_
    change PW.Ends _ _ _ _ _ _
    refine PW.Ends.intro (.inr rfl) ?_
    simp only [go_sem, simprocAttr, sw0]
    obtain rfl := Option.some.inj H
    refine RetOK.data' 4 (by exact trivial) ?_
    rfl
   ·
    replace H := br_f h3 H
    refine PW.skip ?_
    change PW _ _ _ _ _
    refine PW.seq ?_
    refine PW.seq ?_
    obtain ⟨x14, e14, H⟩ := bnd_some H
    refine PW.regionK fun K hK => OW.run [1, 3, 5, 7, 8, 9, 10, 11, 12, 13, 15] ?_
    simp only [go_sem, simprocAttr, sw0]
    refine OW.call' 4 rfl rfl rfl (by ((simp only [go_sem, List.toList_toArray, simprocAttr]); exact rfl)) ?_ (ref06_BearerErr_ok N _ _ _ _ _ _ _ _ _ _ _ _ _ _ e14) ?_ ?_ ?_ ?_
    · rfl
    · (refine okAll_intro ?_; (simp only [go_sem, sw2, scqW8, simprocAttr]; done))
    · exact .inl rfl
    · (simp only [go_sem, Nat.reduceLT])
    refine OW.run [1, 3, 5, 7, 8, 9, 10, 11, 12, 13, 15] ?_
    simp only [go_sem, simprocAttr, sw0]
    refine OW.nil (hK _ ?_); clear hK K
    change PW _ _ _ _ _
    refine PW.seq ?_
    obtain ⟨⟨x15, x151, x152⟩, e15, H⟩ := bnd_some H
    refine PW.drawK 32 mixed (by kernel_rfl) fun K hK => ?_
    change FW _ _ _ _ _
    refine FW.toS [(1, .d (.list l.length (l.flatMap (fun (x : ByteArray × Int × Int × Int × Int × Int × Int × Int × Int) => [(Sx x.1), (I x.2.1), (I x.2.2.1), (I x.2.2.2.1), (I x.2.2.2.2.1), (I x.2.2.2.2.2.1), (I x.2.2.2.2.2.2.1), (I x.2.2.2.2.2.2.2.1), (I x.2.2.2.2.2.2.2.2)])))), (3, .ptr 0 0), (10, .d (I x9)), (11, .d (I x91)), (12, .ptr 3 0), (13, .d (I x123)), (131, .d (Bo (((x14 != (0 : Int)) && (((x4 != x14) || (x63 != x14)) || (!(Bool.and (x6 == (0 : Int)) (Bool.and (x61 == (0 : Int)) (x62 == (0 : Int))))))) || ((x14 == (0 : Int)) && (((x4 != (0 : Int)) || (x63 != (0 : Int))) || (!(Bool.and (x6 == x15) (Bool.and (x61 == x151) (x62 == x152)))))))))] [{ cells := [.d (I Zq), .d (I Zr), .d (I Zs), .d (L Zx)], e := 24 }, { cells := [.d (Sx Z1e), .d (I Z1c), .d (I Z1h), .d (I Z1j), .d (I Z1g), .d (I Z1d), .d (I Z19), .d (I Z1i), .d (I Z1a)], e := 27 }, { cells := [.d (I x6), .d (I x61), .d (I x62)], e := 62 }, { cells := [.d (I x12), .d (I x121), .d (I x122)], e := 62 }] ?_ (hK _ ?_)
    ·
     intro K hKE
     rcases Bool.eq_false_or_eq_true ((x14 != (0 : Int))) with ha0 | ha0
     ·
      rcases Bool.eq_false_or_eq_true ((x4 != x14)) with ha1 | ha1
      ·
       refine FW.run ?_
       (simp only [go_sem, simprocAttr, sw0, ha0, ha1])
       refine FW.callG' 4 rfl rfl ?_ (fun hg => by first | rfl | (simp only [go_sem, ↓reduceIte]; rfl)) (fun hg => by (first | ((simp only [go_sem, List.toList_toArray, simprocAttr, ha0, ha1]); exact rfl) | exact rfl)) (fun hg => ?_) (fun hg => (ref06_NeedOf_ok N _ _ _ _ _ _ _ _ _ _ _ _ _ _ (grd_t hg e15))) ?_ ?_ ?_ ?_
       · (first | rfl | (simp only [go_sem, simprocAttr, ha0, ha1]; done) | (simp only [go_sem, simprocAttr, ha0, ha1]; rfl))
       · first | (rfl; done) | (exfalso; simp only [ha0, ha1, sb0] at hg)
       · (refine okAll_intro ?_; (simp only [go_sem, sw2, scqW8, simprocAttr]; done))
       · exact .inl rfl
       · (simp only [go_sem, Nat.reduceLT])
       refine FW.run ?_
       (simp only [go_sem, simprocAttr, sw0, ha0, ha1])
       refine FW.nil ?_
       change OW _ _ _ _ _ _
       refine OW.run [1, 3, 10, 11, 12, 13, 131] ?_
       (simp only [go_sem, simprocAttr, sw0, ha0, ha1])
       refine OW.nil ((congrArg K ?_).mpr hKE)
       (first | rfl | (simp only [go_sem, simprocAttr, ha0, ha1]; done) | (simp only [go_sem, simprocAttr, ha0, ha1]; rfl))
      ·
       rcases Bool.eq_false_or_eq_true ((x63 != x14)) with ha2 | ha2
       ·
        refine FW.run ?_
        (simp only [go_sem, simprocAttr, sw0, ha0, ha1, ha2])
        refine FW.callG' 4 rfl rfl ?_ (fun hg => by first | rfl | (simp only [go_sem, ↓reduceIte]; rfl)) (fun hg => by (first | ((simp only [go_sem, List.toList_toArray, simprocAttr, ha0, ha1, ha2]); exact rfl) | exact rfl)) (fun hg => ?_) (fun hg => (ref06_NeedOf_ok N _ _ _ _ _ _ _ _ _ _ _ _ _ _ (grd_t hg e15))) ?_ ?_ ?_ ?_
        · (first | rfl | (simp only [go_sem, simprocAttr, ha0, ha1, ha2]; done) | (simp only [go_sem, simprocAttr, ha0, ha1, ha2]; rfl))
        · first | (rfl; done) | (exfalso; simp only [ha0, ha1, ha2, sb0] at hg)
        · (refine okAll_intro ?_; (simp only [go_sem, sw2, scqW8, simprocAttr]; done))
        · exact .inl rfl
        · (simp only [go_sem, Nat.reduceLT])
        refine FW.run ?_
        (simp only [go_sem, simprocAttr, sw0, ha0, ha1, ha2])
        refine FW.nil ?_
        change OW _ _ _ _ _ _
        refine OW.run [1, 3, 10, 11, 12, 13, 131] ?_
        (simp only [go_sem, simprocAttr, sw0, ha0, ha1, ha2])
        refine OW.nil ((congrArg K ?_).mpr hKE)
        (first | rfl | (simp only [go_sem, simprocAttr, ha0, ha1, ha2]; done) | (simp only [go_sem, simprocAttr, ha0, ha1, ha2]; rfl))
       ·
        rcases Bool.eq_false_or_eq_true ((Bool.and (x6 == (0 : Int)) (Bool.and (x61 == (0 : Int)) (x62 == (0 : Int))))) with ha3 | ha3
        ·
         rcases Bool.eq_false_or_eq_true ((x14 == (0 : Int))) with ha4 | ha4
         ·
          rcases Bool.eq_false_or_eq_true ((x4 != (0 : Int))) with ha5 | ha5
          ·
           refine FW.run ?_
           (simp only [go_sem, simprocAttr, sw0, ha0, ha1, ha2, ha3, ha4, ha5])
           refine FW.callG' 4 rfl rfl ?_ (fun hg => by first | rfl | (simp only [go_sem, ↓reduceIte]; rfl)) (fun hg => by (first | ((simp only [go_sem, List.toList_toArray, simprocAttr, ha0, ha1, ha2, ha3, ha4, ha5]); exact rfl) | exact rfl)) (fun hg => ?_) (fun hg => (ref06_NeedOf_ok N _ _ _ _ _ _ _ _ _ _ _ _ _ _ (grd_t hg e15))) ?_ ?_ ?_ ?_
           · (first | rfl | (simp only [go_sem, simprocAttr, ha0, ha1, ha2, ha3, ha4, ha5]; done) | (simp only [go_sem, simprocAttr, ha0, ha1, ha2, ha3, ha4, ha5]; rfl))
           · first | (rfl; done) | (exfalso; simp only [ha0, ha1, ha2, ha3, ha4, ha5, sb0] at hg)
           · (refine okAll_intro ?_; (simp only [go_sem, sw2, scqW8, simprocAttr]; done))
           · exact .inl rfl
           · (simp only [go_sem, Nat.reduceLT])
           refine FW.run ?_
           (simp only [go_sem, simprocAttr, sw0, ha0, ha1, ha2, ha3, ha4, ha5])
           refine FW.nil ?_
           change OW _ _ _ _ _ _
           refine OW.run [1, 3, 10, 11, 12, 13, 131] ?_
           (simp only [go_sem, simprocAttr, sw0, ha0, ha1, ha2, ha3, ha4, ha5])
           refine OW.nil ((congrArg K ?_).mpr hKE)
           (first | rfl | (simp only [go_sem, simprocAttr, ha0, ha1, ha2, ha3, ha4, ha5]; done) | (simp only [go_sem, simprocAttr, ha0, ha1, ha2, ha3, ha4, ha5]; rfl))
          ·
           rcases Bool.eq_false_or_eq_true ((x63 != (0 : Int))) with ha6 | ha6
           ·
            refine FW.run ?_
            (simp only [go_sem, simprocAttr, sw0, ha0, ha1, ha2, ha3, ha4, ha5, ha6])
            refine FW.callG' 4 rfl rfl ?_ (fun hg => by first | rfl | (simp only [go_sem, ↓reduceIte]; rfl)) (fun hg => by (first | ((simp only [go_sem, List.toList_toArray, simprocAttr, ha0, ha1, ha2, ha3, ha4, ha5, ha6]); exact rfl) | exact rfl)) (fun hg => ?_) (fun hg => (ref06_NeedOf_ok N _ _ _ _ _ _ _ _ _ _ _ _ _ _ (grd_t hg e15))) ?_ ?_ ?_ ?_
            · (first | rfl | (simp only [go_sem, simprocAttr, ha0, ha1, ha2, ha3, ha4, ha5, ha6]; done) | (simp only [go_sem, simprocAttr, ha0, ha1, ha2, ha3, ha4, ha5, ha6]; rfl))
            · first | (rfl; done) | (exfalso; simp only [ha0, ha1, ha2, ha3, ha4, ha5, ha6, sb0] at hg)
            · (refine okAll_intro ?_; (simp only [go_sem, sw2, scqW8, simprocAttr]; done))
            · exact .inl rfl
            · (simp only [go_sem, Nat.reduceLT])
            refine FW.run ?_
            (simp only [go_sem, simprocAttr, sw0, ha0, ha1, ha2, ha3, ha4, ha5, ha6])
            refine FW.nil ?_
            change OW _ _ _ _ _ _
            refine OW.run [1, 3, 10, 11, 12, 13, 131] ?_
            (simp only [go_sem, simprocAttr, sw0, ha0, ha1, ha2, ha3, ha4, ha5, ha6])
            refine OW.nil ((congrArg K ?_).mpr hKE)
            (first | rfl | (simp only [go_sem, simprocAttr, ha0, ha1, ha2, ha3, ha4, ha5, ha6]; done) | (simp only [go_sem, simprocAttr, ha0, ha1, ha2, ha3, ha4, ha5, ha6]; rfl))
           ·
            refine FW.run ?_
            (simp only [go_sem, simprocAttr, sw0, ha0, ha1, ha2, ha3, ha4, ha5, ha6])
            refine FW.callG' 4 rfl rfl ?_ (fun hg => by first | rfl | (simp only [go_sem, ↓reduceIte]; rfl)) (fun hg => by (first | ((simp only [go_sem, List.toList_toArray, simprocAttr, ha0, ha1, ha2, ha3, ha4, ha5, ha6]); exact rfl) | exact rfl)) (fun hg => ?_) (fun hg => (ref06_NeedOf_ok N _ _ _ _ _ _ _ _ _ _ _ _ _ _ (grd_t hg e15))) ?_ ?_ ?_ ?_
            · (first | rfl | (simp only [go_sem, simprocAttr, ha0, ha1, ha2, ha3, ha4, ha5, ha6]; done) | (simp only [go_sem, simprocAttr, ha0, ha1, ha2, ha3, ha4, ha5, ha6]; rfl))
            · first | (rfl; done) | (exfalso; simp only [ha0, ha1, ha2, ha3, ha4, ha5, ha6, sb0] at hg)
            · (refine okAll_intro ?_; (simp only [go_sem, sw2, scqW8, simprocAttr]; done))
            · exact .inl rfl
            · (simp only [go_sem, Nat.reduceLT])
            refine FW.run ?_
            (simp only [go_sem, simprocAttr, sw0, ha0, ha1, ha2, ha3, ha4, ha5, ha6])
            refine FW.nil ?_
            change OW _ _ _ _ _ _
            refine OW.run [1, 3, 10, 11, 12, 13, 131] ?_
            (simp only [go_sem, simprocAttr, sw0, ha0, ha1, ha2, ha3, ha4, ha5, ha6])
            refine OW.nil ((congrArg K ?_).mpr hKE)
            (first | rfl | (simp only [go_sem, simprocAttr, ha0, ha1, ha2, ha3, ha4, ha5, ha6]; done) | (simp only [go_sem, simprocAttr, ha0, ha1, ha2, ha3, ha4, ha5, ha6]; rfl))
         ·
          refine FW.run ?_
          (simp only [go_sem, simprocAttr, sw0, ha0, ha1, ha2, ha3, ha4])
          refine FW.callG' 4 rfl rfl ?_ (fun hg => by first | rfl | (simp only [go_sem, ↓reduceIte]; rfl)) (fun hg => by (first | ((simp only [go_sem, List.toList_toArray, simprocAttr, ha0, ha1, ha2, ha3, ha4]); exact rfl) | exact rfl)) (fun hg => ?_) (fun hg => (ref06_NeedOf_ok N _ _ _ _ _ _ _ _ _ _ _ _ _ _ (grd_t hg e15))) ?_ ?_ ?_ ?_
          · (first | rfl | (simp only [go_sem, simprocAttr, ha0, ha1, ha2, ha3, ha4]; done) | (simp only [go_sem, simprocAttr, ha0, ha1, ha2, ha3, ha4]; rfl))
          · first | (rfl; done) | (exfalso; simp only [ha0, ha1, ha2, ha3, ha4, sb0] at hg)
          · (refine okAll_intro ?_; (simp only [go_sem, sw2, scqW8, simprocAttr]; done))
          · exact .inl rfl
          · (simp only [go_sem, Nat.reduceLT])
          refine FW.run ?_
          (simp only [go_sem, simprocAttr, sw0, ha0, ha1, ha2, ha3, ha4])
          refine FW.nil ?_
          change OW _ _ _ _ _ _
          refine OW.run [1, 3, 10, 11, 12, 13, 131] ?_
          (simp only [go_sem, simprocAttr, sw0, ha0, ha1, ha2, ha3, ha4])
          refine OW.nil ((congrArg K ?_).mpr hKE)
          (first | rfl | (simp only [go_sem, simprocAttr, ha0, ha1, ha2, ha3, ha4]; done) | (simp only [go_sem, simprocAttr, ha0, ha1, ha2, ha3, ha4]; rfl))
        ·
         refine FW.run ?_
         (simp only [go_sem, simprocAttr, sw0, ha0, ha1, ha2, ha3])
         refine FW.callG' 4 rfl rfl ?_ (fun hg => by first | rfl | (simp only [go_sem, ↓reduceIte]; rfl)) (fun hg => by (first | ((simp only [go_sem, List.toList_toArray, simprocAttr, ha0, ha1, ha2, ha3]); exact rfl) | exact rfl)) (fun hg => ?_) (fun hg => (ref06_NeedOf_ok N _ _ _ _ _ _ _ _ _ _ _ _ _ _ (grd_t hg e15))) ?_ ?_ ?_ ?_
         · (first | rfl | (simp only [go_sem, simprocAttr, ha0, ha1, ha2, ha3]; done) | (simp only [go_sem, simprocAttr, ha0, ha1, ha2, ha3]; rfl))
         · first | (rfl; done) | (exfalso; simp only [ha0, ha1, ha2, ha3, sb0] at hg)
         · (refine okAll_intro ?_; (simp only [go_sem, sw2, scqW8, simprocAttr]; done))
         · exact .inl rfl
         · (simp only [go_sem, Nat.reduceLT])
         refine FW.run ?_
         (simp only [go_sem, simprocAttr, sw0, ha0, ha1, ha2, ha3])
         refine FW.nil ?_
         change OW _ _ _ _ _ _
         refine OW.run [1, 3, 10, 11, 12, 13, 131] ?_
         (simp only [go_sem, simprocAttr, sw0, ha0, ha1, ha2, ha3])
         refine OW.nil ((congrArg K ?_).mpr hKE)
         (first | rfl | (simp only [go_sem, simprocAttr, ha0, ha1, ha2, ha3]; done) | (simp only [go_sem, simprocAttr, ha0, ha1, ha2, ha3]; rfl))
     ·
      rcases Bool.eq_false_or_eq_true ((x4 != x14)) with ha1 | ha1
      ·
       rcases Bool.eq_false_or_eq_true ((x63 != x14)) with ha2 | ha2
       ·
        rcases Bool.eq_false_or_eq_true ((Bool.and (x6 == (0 : Int)) (Bool.and (x61 == (0 : Int)) (x62 == (0 : Int))))) with ha3 | ha3
        ·
         rcases Bool.eq_false_or_eq_true ((x14 == (0 : Int))) with ha4 | ha4
         ·
          rcases Bool.eq_false_or_eq_true ((x4 != (0 : Int))) with ha5 | ha5
          ·
           refine FW.run ?_
           (simp only [go_sem, simprocAttr, sw0, ha0, ha1, ha2, ha3, ha4, ha5])
           refine FW.callG' 4 rfl rfl ?_ (fun hg => by first | rfl | (simp only [go_sem, ↓reduceIte]; rfl)) (fun hg => by (first | ((simp only [go_sem, List.toList_toArray, simprocAttr, ha0, ha1, ha2, ha3, ha4, ha5]); exact rfl) | exact rfl)) (fun hg => ?_) (fun hg => (ref06_NeedOf_ok N _ _ _ _ _ _ _ _ _ _ _ _ _ _ (grd_t hg e15))) ?_ ?_ ?_ ?_
           · (first | rfl | (simp only [go_sem, simprocAttr, ha0, ha1, ha2, ha3, ha4, ha5]; done) | (simp only [go_sem, simprocAttr, ha0, ha1, ha2, ha3, ha4, ha5]; rfl))
           · first | (rfl; done) | (exfalso; simp only [ha0, ha1, ha2, ha3, ha4, ha5, sb0] at hg)
           · (refine okAll_intro ?_; (simp only [go_sem, sw2, scqW8, simprocAttr]; done))
           · exact .inl rfl
           · (simp only [go_sem, Nat.reduceLT])
           refine FW.run ?_
           (simp only [go_sem, simprocAttr, sw0, ha0, ha1, ha2, ha3, ha4, ha5])
           refine FW.nil ?_
           change OW _ _ _ _ _ _
           refine OW.run [1, 3, 10, 11, 12, 13, 131] ?_
           (simp only [go_sem, simprocAttr, sw0, ha0, ha1, ha2, ha3, ha4, ha5])
           refine OW.nil ((congrArg K ?_).mpr hKE)
           (first | rfl | (simp only [go_sem, simprocAttr, ha0, ha1, ha2, ha3, ha4, ha5]; done) | (simp only [go_sem, simprocAttr, ha0, ha1, ha2, ha3, ha4, ha5]; rfl))
          ·
           rcases Bool.eq_false_or_eq_true ((x63 != (0 : Int))) with ha6 | ha6
           ·
            refine FW.run ?_
            (simp only [go_sem, simprocAttr, sw0, ha0, ha1, ha2, ha3, ha4, ha5, ha6])
            refine FW.callG' 4 rfl rfl ?_ (fun hg => by first | rfl | (simp only [go_sem, ↓reduceIte]; rfl)) (fun hg => by (first | ((simp only [go_sem, List.toList_toArray, simprocAttr, ha0, ha1, ha2, ha3, ha4, ha5, ha6]); exact rfl) | exact rfl)) (fun hg => ?_) (fun hg => (ref06_NeedOf_ok N _ _ _ _ _ _ _ _ _ _ _ _ _ _ (grd_t hg e15))) ?_ ?_ ?_ ?_
            · (first | rfl | (simp only [go_sem, simprocAttr, ha0, ha1, ha2, ha3, ha4, ha5, ha6]; done) | (simp only [go_sem, simprocAttr, ha0, ha1, ha2, ha3, ha4, ha5, ha6]; rfl))
            · first | (rfl; done) | (exfalso; simp only [ha0, ha1, ha2, ha3, ha4, ha5, ha6, sb0] at hg)
            · (refine okAll_intro ?_; (simp only [go_sem, sw2, scqW8, simprocAttr]; done))
            · exact .inl rfl
            · (simp only [go_sem, Nat.reduceLT])
            refine FW.run ?_
            (simp only [go_sem, simprocAttr, sw0, ha0, ha1, ha2, ha3, ha4, ha5, ha6])
            refine FW.nil ?_
            change OW _ _ _ _ _ _
            refine OW.run [1, 3, 10, 11, 12, 13, 131] ?_
            (simp only [go_sem, simprocAttr, sw0, ha0, ha1, ha2, ha3, ha4, ha5, ha6])
            refine OW.nil ((congrArg K ?_).mpr hKE)
            (first | rfl | (simp only [go_sem, simprocAttr, ha0, ha1, ha2, ha3, ha4, ha5, ha6]; done) | (simp only [go_sem, simprocAttr, ha0, ha1, ha2, ha3, ha4, ha5, ha6]; rfl))
           ·
            refine FW.run ?_
            (simp only [go_sem, simprocAttr, sw0, ha0, ha1, ha2, ha3, ha4, ha5, ha6])
            refine FW.callG' 4 rfl rfl ?_ (fun hg => by first | rfl | (simp only [go_sem, ↓reduceIte]; rfl)) (fun hg => by (first | ((simp only [go_sem, List.toList_toArray, simprocAttr, ha0, ha1, ha2, ha3, ha4, ha5, ha6]); exact rfl) | exact rfl)) (fun hg => ?_) (fun hg => (ref06_NeedOf_ok N _ _ _ _ _ _ _ _ _ _ _ _ _ _ (grd_t hg e15))) ?_ ?_ ?_ ?_
            · (first | rfl | (simp only [go_sem, simprocAttr, ha0, ha1, ha2, ha3, ha4, ha5, ha6]; done) | (simp only [go_sem, simprocAttr, ha0, ha1, ha2, ha3, ha4, ha5, ha6]; rfl))
            · first | (rfl; done) | (exfalso; simp only [ha0, ha1, ha2, ha3, ha4, ha5, ha6, sb0] at hg)
            · (refine okAll_intro ?_; (simp only [go_sem, sw2, scqW8, simprocAttr]; done))
            · exact .inl rfl
            · (simp only [go_sem, Nat.reduceLT])
            refine FW.run ?_
            (simp only [go_sem, simprocAttr, sw0, ha0, ha1, ha2, ha3, ha4, ha5, ha6])
            refine FW.nil ?_
            change OW _ _ _ _ _ _
            refine OW.run [1, 3, 10, 11, 12, 13, 131] ?_
            (simp only [go_sem, simprocAttr, sw0, ha0, ha1, ha2, ha3, ha4, ha5, ha6])
            refine OW.nil ((congrArg K ?_).mpr hKE)
            (first | rfl | (simp only [go_sem, simprocAttr, ha0, ha1, ha2, ha3, ha4, ha5, ha6]; done) | (simp only [go_sem, simprocAttr, ha0, ha1, ha2, ha3, ha4, ha5, ha6]; rfl))
         ·
          refine FW.run ?_
          (simp only [go_sem, simprocAttr, sw0, ha0, ha1, ha2, ha3, ha4])
          refine FW.callG' 4 rfl rfl ?_ (fun hg => by first | rfl | (simp only [go_sem, ↓reduceIte]; rfl)) (fun hg => by (first | ((simp only [go_sem, List.toList_toArray, simprocAttr, ha0, ha1, ha2, ha3, ha4]); exact rfl) | exact rfl)) (fun hg => ?_) (fun hg => (ref06_NeedOf_ok N _ _ _ _ _ _ _ _ _ _ _ _ _ _ (grd_t hg e15))) ?_ ?_ ?_ ?_
          · (first | rfl | (simp only [go_sem, simprocAttr, ha0, ha1, ha2, ha3, ha4]; done) | (simp only [go_sem, simprocAttr, ha0, ha1, ha2, ha3, ha4]; rfl))
          · first | (rfl; done) | (exfalso; simp only [ha0, ha1, ha2, ha3, ha4, sb0] at hg)
          · (refine okAll_intro ?_; (simp only [go_sem, sw2, scqW8, simprocAttr]; done))
          · exact .inl rfl
          · (simp only [go_sem, Nat.reduceLT])
          refine FW.run ?_
          (simp only [go_sem, simprocAttr, sw0, ha0, ha1, ha2, ha3, ha4])
          refine FW.nil ?_
          change OW _ _ _ _ _ _
          refine OW.run [1, 3, 10, 11, 12, 13, 131] ?_
          (simp only [go_sem, simprocAttr, sw0, ha0, ha1, ha2, ha3, ha4])
          refine OW.nil ((congrArg K ?_).mpr hKE)
          (first | rfl | (simp only [go_sem, simprocAttr, ha0, ha1, ha2, ha3, ha4]; done) | (simp only [go_sem, simprocAttr, ha0, ha1, ha2, ha3, ha4]; rfl))
        ·
         rcases Bool.eq_false_or_eq_true ((x14 == (0 : Int))) with ha4 | ha4
         ·
          rcases Bool.eq_false_or_eq_true ((x4 != (0 : Int))) with ha5 | ha5
          ·
           refine FW.run ?_
           (simp only [go_sem, simprocAttr, sw0, ha0, ha1, ha2, ha3, ha4, ha5])
           refine FW.callG' 4 rfl rfl ?_ (fun hg => by first | rfl | (simp only [go_sem, ↓reduceIte]; rfl)) (fun hg => by (first | ((simp only [go_sem, List.toList_toArray, simprocAttr, ha0, ha1, ha2, ha3, ha4, ha5]); exact rfl) | exact rfl)) (fun hg => ?_) (fun hg => (ref06_NeedOf_ok N _ _ _ _ _ _ _ _ _ _ _ _ _ _ (grd_t hg e15))) ?_ ?_ ?_ ?_
           · (first | rfl | (simp only [go_sem, simprocAttr, ha0, ha1, ha2, ha3, ha4, ha5]; done) | (simp only [go_sem, simprocAttr, ha0, ha1, ha2, ha3, ha4, ha5]; rfl))
           · first | (rfl; done) | (exfalso; simp only [ha0, ha1, ha2, ha3, ha4, ha5, sb0] at hg)
           · (refine okAll_intro ?_; (simp only [go_sem, sw2, scqW8, simprocAttr]; done))
           · exact .inl rfl
           · (simp only [go_sem, Nat.reduceLT])
           refine FW.run ?_
           (simp only [go_sem, simprocAttr, sw0, ha0, ha1, ha2, ha3, ha4, ha5])
           refine FW.nil ?_
           change OW _ _ _ _ _ _
           refine OW.run [1, 3, 10, 11, 12, 13, 131] ?_
           (simp only [go_sem, simprocAttr, sw0, ha0, ha1, ha2, ha3, ha4, ha5])
           refine OW.nil ((congrArg K ?_).mpr hKE)
           (first | rfl | (simp only [go_sem, simprocAttr, ha0, ha1, ha2, ha3, ha4, ha5]; done) | (simp only [go_sem, simprocAttr, ha0, ha1, ha2, ha3, ha4, ha5]; rfl))
          ·
           rcases Bool.eq_false_or_eq_true ((x63 != (0 : Int))) with ha6 | ha6
           ·
            refine FW.run ?_
            (simp only [go_sem, simprocAttr, sw0, ha0, ha1, ha2, ha3, ha4, ha5, ha6])
            refine FW.callG' 4 rfl rfl ?_ (fun hg => by first | rfl | (simp only [go_sem, ↓reduceIte]; rfl)) (fun hg => by (first | ((simp only [go_sem, List.toList_toArray, simprocAttr, ha0, ha1, ha2, ha3, ha4, ha5, ha6]); exact rfl) | exact rfl)) (fun hg => ?_) (fun hg => (ref06_NeedOf_ok N _ _ _ _ _ _ _ _ _ _ _ _ _ _ (grd_t hg e15))) ?_ ?_ ?_ ?_
            · (first | rfl | (simp only [go_sem, simprocAttr, ha0, ha1, ha2, ha3, ha4, ha5, ha6]; done) | (simp only [go_sem, simprocAttr, ha0, ha1, ha2, ha3, ha4, ha5, ha6]; rfl))
            · first | (rfl; done) | (exfalso; simp only [ha0, ha1, ha2, ha3, ha4, ha5, ha6, sb0] at hg)
            · (refine okAll_intro ?_; (simp only [go_sem, sw2, scqW8, simprocAttr]; done))
            · exact .inl rfl
            · (simp only [go_sem, Nat.reduceLT])
            refine FW.run ?_
            (simp only [go_sem, simprocAttr, sw0, ha0, ha1, ha2, ha3, ha4, ha5, ha6])
            refine FW.nil ?_
            change OW _ _ _ _ _ _
            refine OW.run [1, 3, 10, 11, 12, 13, 131] ?_
            (simp only [go_sem, simprocAttr, sw0, ha0, ha1, ha2, ha3, ha4, ha5, ha6])
            refine OW.nil ((congrArg K ?_).mpr hKE)
            (first | rfl | (simp only [go_sem, simprocAttr, ha0, ha1, ha2, ha3, ha4, ha5, ha6]; done) | (simp only [go_sem, simprocAttr, ha0, ha1, ha2, ha3, ha4, ha5, ha6]; rfl))
           ·
            refine FW.run ?_
            (simp only [go_sem, simprocAttr, sw0, ha0, ha1, ha2, ha3, ha4, ha5, ha6])
            refine FW.callG' 4 rfl rfl ?_ (fun hg => by first | rfl | (simp only [go_sem, ↓reduceIte]; rfl)) (fun hg => by (first | ((simp only [go_sem, List.toList_toArray, simprocAttr, ha0, ha1, ha2, ha3, ha4, ha5, ha6]); exact rfl) | exact rfl)) (fun hg => ?_) (fun hg => (ref06_NeedOf_ok N _ _ _ _ _ _ _ _ _ _ _ _ _ _ (grd_t hg e15))) ?_ ?_ ?_ ?_
            · (first | rfl | (simp only [go_sem, simprocAttr, ha0, ha1, ha2, ha3, ha4, ha5, ha6]; done) | (simp only [go_sem, simprocAttr, ha0, ha1, ha2, ha3, ha4, ha5, ha6]; rfl))
            · first | (rfl; done) | (exfalso; simp only [ha0, ha1, ha2, ha3, ha4, ha5, ha6, sb0] at hg)
            · (refine okAll_intro ?_; (simp only [go_sem, sw2, scqW8, simprocAttr]; done))
            · exact .inl rfl
            · (simp only [go_sem, Nat.reduceLT])
            refine FW.run ?_
            (simp only [go_sem, simprocAttr, sw0, ha0, ha1, ha2, ha3, ha4, ha5, ha6])
            refine FW.nil ?_
            change OW _ _ _ _ _ _
            refine OW.run [1, 3, 10, 11, 12, 13, 131] ?_
            (simp only [go_sem, simprocAttr, sw0, ha0, ha1, ha2, ha3, ha4, ha5, ha6])
            refine OW.nil ((congrArg K ?_).mpr hKE)
            (first | rfl | (simp only [go_sem, simprocAttr, ha0, ha1, ha2, ha3, ha4, ha5, ha6]; done) | (simp only [go_sem, simprocAttr, ha0, ha1, ha2, ha3, ha4, ha5, ha6]; rfl))
         ·
          refine FW.run ?_
          (simp only [go_sem, simprocAttr, sw0, ha0, ha1, ha2, ha3, ha4])
          refine FW.callG' 4 rfl rfl ?_ (fun hg => by first | rfl | (simp only [go_sem, ↓reduceIte]; rfl)) (fun hg => by (first | ((simp only [go_sem, List.toList_toArray, simprocAttr, ha0, ha1, ha2, ha3, ha4]); exact rfl) | exact rfl)) (fun hg => ?_) (fun hg => (ref06_NeedOf_ok N _ _ _ _ _ _ _ _ _ _ _ _ _ _ (grd_t hg e15))) ?_ ?_ ?_ ?_
          · (first | rfl | (simp only [go_sem, simprocAttr, ha0, ha1, ha2, ha3, ha4]; done) | (simp only [go_sem, simprocAttr, ha0, ha1, ha2, ha3, ha4]; rfl))
          · first | (rfl; done) | (exfalso; simp only [ha0, ha1, ha2, ha3, ha4, sb0] at hg)
          · (refine okAll_intro ?_; (simp only [go_sem, sw2, scqW8, simprocAttr]; done))
          · exact .inl rfl
          · (simp only [go_sem, Nat.reduceLT])
          refine FW.run ?_
          (simp only [go_sem, simprocAttr, sw0, ha0, ha1, ha2, ha3, ha4])
          refine FW.nil ?_
          change OW _ _ _ _ _ _
          refine OW.run [1, 3, 10, 11, 12, 13, 131] ?_
          (simp only [go_sem, simprocAttr, sw0, ha0, ha1, ha2, ha3, ha4])
          refine OW.nil ((congrArg K ?_).mpr hKE)
          (first | rfl | (simp only [go_sem, simprocAttr, ha0, ha1, ha2, ha3, ha4]; done) | (simp only [go_sem, simprocAttr, ha0, ha1, ha2, ha3, ha4]; rfl))
       ·
        rcases Bool.eq_false_or_eq_true ((Bool.and (x6 == (0 : Int)) (Bool.and (x61 == (0 : Int)) (x62 == (0 : Int))))) with ha3 | ha3
        ·
         rcases Bool.eq_false_or_eq_true ((x14 == (0 : Int))) with ha4 | ha4
         ·
          rcases Bool.eq_false_or_eq_true ((x4 != (0 : Int))) with ha5 | ha5
          ·
           refine FW.run ?_
           (simp only [go_sem, simprocAttr, sw0, ha0, ha1, ha2, ha3, ha4, ha5])
           refine FW.callG' 4 rfl rfl ?_ (fun hg => by first | rfl | (simp only [go_sem, ↓reduceIte]; rfl)) (fun hg => by (first | ((simp only [go_sem, List.toList_toArray, simprocAttr, ha0, ha1, ha2, ha3, ha4, ha5]); exact rfl) | exact rfl)) (fun hg => ?_) (fun hg => (ref06_NeedOf_ok N _ _ _ _ _ _ _ _ _ _ _ _ _ _ (grd_t hg e15))) ?_ ?_ ?_ ?_
           · (first | rfl | (simp only [go_sem, simprocAttr, ha0, ha1, ha2, ha3, ha4, ha5]; done) | (simp only [go_sem, simprocAttr, ha0, ha1, ha2, ha3, ha4, ha5]; rfl))
           · first | (rfl; done) | (exfalso; simp only [ha0, ha1, ha2, ha3, ha4, ha5, sb0] at hg)
           · (refine okAll_intro ?_; (simp only [go_sem, sw2, scqW8, simprocAttr]; done))
           · exact .inl rfl
           · (simp only [go_sem, Nat.reduceLT])
           refine FW.run ?_
           (simp only [go_sem, simprocAttr, sw0, ha0, ha1, ha2, ha3, ha4, ha5])
           refine FW.nil ?_
           change OW _ _ _ _ _ _
           refine OW.run [1, 3, 10, 11, 12, 13, 131] ?_
           (simp only [go_sem, simprocAttr, sw0, ha0, ha1, ha2, ha3, ha4, ha5])
           refine OW.nil ((congrArg K ?_).mpr hKE)
           (first | rfl | (simp only [go_sem, simprocAttr, ha0, ha1, ha2, ha3, ha4, ha5]; done) | (simp only [go_sem, simprocAttr, ha0, ha1, ha2, ha3, ha4, ha5]; rfl))
          ·
           rcases Bool.eq_false_or_eq_true ((x63 != (0 : Int))) with ha6 | ha6
           ·
            refine FW.run ?_
            (simp only [go_sem, simprocAttr, sw0, ha0, ha1, ha2, ha3, ha4, ha5, ha6])
            refine FW.callG' 4 rfl rfl ?_ (fun hg => by first | rfl | (simp only [go_sem, ↓reduceIte]; rfl)) (fun hg => by (first | ((simp only [go_sem, List.toList_toArray, simprocAttr, ha0, ha1, ha2, ha3, ha4, ha5, ha6]); exact rfl) | exact rfl)) (fun hg => ?_) (fun hg => (ref06_NeedOf_ok N _ _ _ _ _ _ _ _ _ _ _ _ _ _ (grd_t hg e15))) ?_ ?_ ?_ ?_
            · (first | rfl | (simp only [go_sem, simprocAttr, ha0, ha1, ha2, ha3, ha4, ha5, ha6]; done) | (simp only [go_sem, simprocAttr, ha0, ha1, ha2, ha3, ha4, ha5, ha6]; rfl))
            · first | (rfl; done) | (exfalso; simp only [ha0, ha1, ha2, ha3, ha4, ha5, ha6, sb0] at hg)
            · (refine okAll_intro ?_; (simp only [go_sem, sw2, scqW8, simprocAttr]; done))
            · exact .inl rfl
            · (simp only [go_sem, Nat.reduceLT])
            refine FW.run ?_
            (simp only [go_sem, simprocAttr, sw0, ha0, ha1, ha2, ha3, ha4, ha5, ha6])
            refine FW.nil ?_
            change OW _ _ _ _ _ _
            refine OW.run [1, 3, 10, 11, 12, 13, 131] ?_
            (simp only [go_sem, simprocAttr, sw0, ha0, ha1, ha2, ha3, ha4, ha5, ha6])
            refine OW.nil ((congrArg K ?_).mpr hKE)
            (first | rfl | (simp only [go_sem, simprocAttr, ha0, ha1, ha2, ha3, ha4, ha5, ha6]; done) | (simp only [go_sem, simprocAttr, ha0, ha1, ha2, ha3, ha4, ha5, ha6]; rfl))
           ·
            refine FW.run ?_
            (simp only [go_sem, simprocAttr, sw0, ha0, ha1, ha2, ha3, ha4, ha5, ha6])
            refine FW.callG' 4 rfl rfl ?_ (fun hg => by first | rfl | (simp only [go_sem, ↓reduceIte]; rfl)) (fun hg => by (first | ((simp only [go_sem, List.toList_toArray, simprocAttr, ha0, ha1, ha2, ha3, ha4, ha5, ha6]); exact rfl) | exact rfl)) (fun hg => ?_) (fun hg => (ref06_NeedOf_ok N _ _ _ _ _ _ _ _ _ _ _ _ _ _ (grd_t hg e15))) ?_ ?_ ?_ ?_
            · (first | rfl | (simp only [go_sem, simprocAttr, ha0, ha1, ha2, ha3, ha4, ha5, ha6]; done) | (simp only [go_sem, simprocAttr, ha0, ha1, ha2, ha3, ha4, ha5, ha6]; rfl))
            · first | (rfl; done) | (exfalso; simp only [ha0, ha1, ha2, ha3, ha4, ha5, ha6, sb0] at hg)
            · (refine okAll_intro ?_; (simp only [go_sem, sw2, scqW8, simprocAttr]; done))
            · exact .inl rfl
            · (simp only [go_sem, Nat.reduceLT])
            refine FW.run ?_
            (simp only [go_sem, simprocAttr, sw0, ha0, ha1, ha2, ha3, ha4, ha5, ha6])
            refine FW.nil ?_
            change OW _ _ _ _ _ _
            refine OW.run [1, 3, 10, 11, 12, 13, 131] ?_
            (simp only [go_sem, simprocAttr, sw0, ha0, ha1, ha2, ha3, ha4, ha5, ha6])
            refine OW.nil ((congrArg K ?_).mpr hKE)
            (first | rfl | (simp only [go_sem, simprocAttr, ha0, ha1, ha2, ha3, ha4, ha5, ha6]; done) | (simp only [go_sem, simprocAttr, ha0, ha1, ha2, ha3, ha4, ha5, ha6]; rfl))
         ·
          refine FW.run ?_
          (simp only [go_sem, simprocAttr, sw0, ha0, ha1, ha2, ha3, ha4])
          refine FW.callG' 4 rfl rfl ?_ (fun hg => by first | rfl | (simp only [go_sem, ↓reduceIte]; rfl)) (fun hg => by (first | ((simp only [go_sem, List.toList_toArray, simprocAttr, ha0, ha1, ha2, ha3, ha4]); exact rfl) | exact rfl)) (fun hg => ?_) (fun hg => (ref06_NeedOf_ok N _ _ _ _ _ _ _ _ _ _ _ _ _ _ (grd_t hg e15))) ?_ ?_ ?_ ?_
          · (first | rfl | (simp only [go_sem, simprocAttr, ha0, ha1, ha2, ha3, ha4]; done) | (simp only [go_sem, simprocAttr, ha0, ha1, ha2, ha3, ha4]; rfl))
          · first | (rfl; done) | (exfalso; simp only [ha0, ha1, ha2, ha3, ha4, sb0] at hg)
          · (refine okAll_intro ?_; (simp only [go_sem, sw2, scqW8, simprocAttr]; done))
          · exact .inl rfl
          · (simp only [go_sem, Nat.reduceLT])
          refine FW.run ?_
          (simp only [go_sem, simprocAttr, sw0, ha0, ha1, ha2, ha3, ha4])
          refine FW.nil ?_
          change OW _ _ _ _ _ _
          refine OW.run [1, 3, 10, 11, 12, 13, 131] ?_
          (simp only [go_sem, simprocAttr, sw0, ha0, ha1, ha2, ha3, ha4])
          refine OW.nil ((congrArg K ?_).mpr hKE)
          (first | rfl | (simp only [go_sem, simprocAttr, ha0, ha1, ha2, ha3, ha4]; done) | (simp only [go_sem, simprocAttr, ha0, ha1, ha2, ha3, ha4]; rfl))
        ·
         rcases Bool.eq_false_or_eq_true ((x14 == (0 : Int))) with ha4 | ha4
         ·
          rcases Bool.eq_false_or_eq_true ((x4 != (0 : Int))) with ha5 | ha5
          ·
           refine FW.run ?_
           (simp only [go_sem, simprocAttr, sw0, ha0, ha1, ha2, ha3, ha4, ha5])
           refine FW.callG' 4 rfl rfl ?_ (fun hg => by first | rfl | (simp only [go_sem, ↓reduceIte]; rfl)) (fun hg => by (first | ((simp only [go_sem, List.toList_toArray, simprocAttr, ha0, ha1, ha2, ha3, ha4, ha5]); exact rfl) | exact rfl)) (fun hg => ?_) (fun hg => (ref06_NeedOf_ok N _ _ _ _ _ _ _ _ _ _ _ _ _ _ (grd_t hg e15))) ?_ ?_ ?_ ?_
           · (first | rfl | (simp only [go_sem, simprocAttr, ha0, ha1, ha2, ha3, ha4, ha5]; done) | (simp only [go_sem, simprocAttr, ha0, ha1, ha2, ha3, ha4, ha5]; rfl))
           · first | (rfl; done) | (exfalso; simp only [ha0, ha1, ha2, ha3, ha4, ha5, sb0] at hg)
           · (refine okAll_intro ?_; (simp only [go_sem, sw2, scqW8, simprocAttr]; done))
           · exact .inl rfl
           · (simp only [go_sem, Nat.reduceLT])
           refine FW.run ?_
           (simp only [go_sem, simprocAttr, sw0, ha0, ha1, ha2, ha3, ha4, ha5])
           refine FW.nil ?_
           change OW _ _ _ _ _ _
           refine OW.run [1, 3, 10, 11, 12, 13, 131] ?_
           (simp only [go_sem, simprocAttr, sw0, ha0, ha1, ha2, ha3, ha4, ha5])
           refine OW.nil ((congrArg K ?_).mpr hKE)
           (first | rfl | (simp only [go_sem, simprocAttr, ha0, ha1, ha2, ha3, ha4, ha5]; done) | (simp only [go_sem, simprocAttr, ha0, ha1, ha2, ha3, ha4, ha5]; rfl))
          ·
           rcases Bool.eq_false_or_eq_true ((x63 != (0 : Int))) with ha6 | ha6
           ·
            refine FW.run ?_
            (simp only [go_sem, simprocAttr, sw0, ha0, ha1, ha2, ha3, ha4, ha5, ha6])
            refine FW.callG' 4 rfl rfl ?_ (fun hg => by first | rfl | (simp only [go_sem, ↓reduceIte]; rfl)) (fun hg => by (first | ((simp only [go_sem, List.toList_toArray, simprocAttr, ha0, ha1, ha2, ha3, ha4, ha5, ha6]); exact rfl) | exact rfl)) (fun hg => ?_) (fun hg => (ref06_NeedOf_ok N _ _ _ _ _ _ _ _ _ _ _ _ _ _ (grd_t hg e15))) ?_ ?_ ?_ ?_
            · (first | rfl | (simp only [go_sem, simprocAttr, ha0, ha1, ha2, ha3, ha4, ha5, ha6]; done) | (simp only [go_sem, simprocAttr, ha0, ha1, ha2, ha3, ha4, ha5, ha6]; rfl))
            · first | (rfl; done) | (exfalso; simp only [ha0, ha1, ha2, ha3, ha4, ha5, ha6, sb0] at hg)
            · (refine okAll_intro ?_; (simp only [go_sem, sw2, scqW8, simprocAttr]; done))
            · exact .inl rfl
            · (simp only [go_sem, Nat.reduceLT])
            refine FW.run ?_
            (simp only [go_sem, simprocAttr, sw0, ha0, ha1, ha2, ha3, ha4, ha5, ha6])
            refine FW.nil ?_
            change OW _ _ _ _ _ _
            refine OW.run [1, 3, 10, 11, 12, 13, 131] ?_
            (simp only [go_sem, simprocAttr, sw0, ha0, ha1, ha2, ha3, ha4, ha5, ha6])
            refine OW.nil ((congrArg K ?_).mpr hKE)
            (first | rfl | (simp only [go_sem, simprocAttr, ha0, ha1, ha2, ha3, ha4, ha5, ha6]; done) | (simp only [go_sem, simprocAttr, ha0, ha1, ha2, ha3, ha4, ha5, ha6]; rfl))
           ·
            refine FW.run ?_
            (simp only [go_sem, simprocAttr, sw0, ha0, ha1, ha2, ha3, ha4, ha5, ha6])
            refine FW.callG' 4 rfl rfl ?_ (fun hg => by first | rfl | (simp only [go_sem, ↓reduceIte]; rfl)) (fun hg => by (first | ((simp only [go_sem, List.toList_toArray, simprocAttr, ha0, ha1, ha2, ha3, ha4, ha5, ha6]); exact rfl) | exact rfl)) (fun hg => ?_) (fun hg => (ref06_NeedOf_ok N _ _ _ _ _ _ _ _ _ _ _ _ _ _ (grd_t hg e15))) ?_ ?_ ?_ ?_
            · (first | rfl | (simp only [go_sem, simprocAttr, ha0, ha1, ha2, ha3, ha4, ha5, ha6]; done) | (simp only [go_sem, simprocAttr, ha0, ha1, ha2, ha3, ha4, ha5, ha6]; rfl))
            · first | (rfl; done) | (exfalso; simp only [ha0, ha1, ha2, ha3, ha4, ha5, ha6, sb0] at hg)
            · (refine okAll_intro ?_; (simp only [go_sem, sw2, scqW8, simprocAttr]; done))
            · exact .inl rfl
            · (simp only [go_sem, Nat.reduceLT])
            refine FW.run ?_
            (simp only [go_sem, simprocAttr, sw0, ha0, ha1, ha2, ha3, ha4, ha5, ha6])
            refine FW.nil ?_
            change OW _ _ _ _ _ _
            refine OW.run [1, 3, 10, 11, 12, 13, 131] ?_
            (simp only [go_sem, simprocAttr, sw0, ha0, ha1, ha2, ha3, ha4, ha5, ha6])
            refine OW.nil ((congrArg K ?_).mpr hKE)
            (first | rfl | (simp only [go_sem, simprocAttr, ha0, ha1, ha2, ha3, ha4, ha5, ha6]; done) | (simp only [go_sem, simprocAttr, ha0, ha1, ha2, ha3, ha4, ha5, ha6]; rfl))
         ·
          refine FW.run ?_
          (simp only [go_sem, simprocAttr, sw0, ha0, ha1, ha2, ha3, ha4])
          refine FW.callG' 4 rfl rfl ?_ (fun hg => by first | rfl | (simp only [go_sem, ↓reduceIte]; rfl)) (fun hg => by (first | ((simp only [go_sem, List.toList_toArray, simprocAttr, ha0, ha1, ha2, ha3, ha4]); exact rfl) | exact rfl)) (fun hg => ?_) (fun hg => (ref06_NeedOf_ok N _ _ _ _ _ _ _ _ _ _ _ _ _ _ (grd_t hg e15))) ?_ ?_ ?_ ?_
          · (first | rfl | (simp only [go_sem, simprocAttr, ha0, ha1, ha2, ha3, ha4]; done) | (simp only [go_sem, simprocAttr, ha0, ha1, ha2, ha3, ha4]; rfl))
          · first | (rfl; done) | (exfalso; simp only [ha0, ha1, ha2, ha3, ha4, sb0] at hg)
          · (refine okAll_intro ?_; (simp only [go_sem, sw2, scqW8, simprocAttr]; done))
          · exact .inl rfl
          · (simp only [go_sem, Nat.reduceLT])
          refine FW.run ?_
          (simp only [go_sem, simprocAttr, sw0, ha0, ha1, ha2, ha3, ha4])
          refine FW.nil ?_
          change OW _ _ _ _ _ _
          refine OW.run [1, 3, 10, 11, 12, 13, 131] ?_
          (simp only [go_sem, simprocAttr, sw0, ha0, ha1, ha2, ha3, ha4])
          refine OW.nil ((congrArg K ?_).mpr hKE)
          (first | rfl | (simp only [go_sem, simprocAttr, ha0, ha1, ha2, ha3, ha4]; done) | (simp only [go_sem, simprocAttr, ha0, ha1, ha2, ha3, ha4]; rfl))
      ·
       rcases Bool.eq_false_or_eq_true ((x63 != x14)) with ha2 | ha2
       ·
        rcases Bool.eq_false_or_eq_true ((Bool.and (x6 == (0 : Int)) (Bool.and (x61 == (0 : Int)) (x62 == (0 : Int))))) with ha3 | ha3
        ·
         rcases Bool.eq_false_or_eq_true ((x14 == (0 : Int))) with ha4 | ha4
         ·
          rcases Bool.eq_false_or_eq_true ((x4 != (0 : Int))) with ha5 | ha5
          ·
           refine FW.run ?_
           (simp only [go_sem, simprocAttr, sw0, ha0, ha1, ha2, ha3, ha4, ha5])
           refine FW.callG' 4 rfl rfl ?_ (fun hg => by first | rfl | (simp only [go_sem, ↓reduceIte]; rfl)) (fun hg => by (first | ((simp only [go_sem, List.toList_toArray, simprocAttr, ha0, ha1, ha2, ha3, ha4, ha5]); exact rfl) | exact rfl)) (fun hg => ?_) (fun hg => (ref06_NeedOf_ok N _ _ _ _ _ _ _ _ _ _ _ _ _ _ (grd_t hg e15))) ?_ ?_ ?_ ?_
           · (first | rfl | (simp only [go_sem, simprocAttr, ha0, ha1, ha2, ha3, ha4, ha5]; done) | (simp only [go_sem, simprocAttr, ha0, ha1, ha2, ha3, ha4, ha5]; rfl))
           · first | (rfl; done) | (exfalso; simp only [ha0, ha1, ha2, ha3, ha4, ha5, sb0] at hg)
           · (refine okAll_intro ?_; (simp only [go_sem, sw2, scqW8, simprocAttr]; done))
           · exact .inl rfl
           · (simp only [go_sem, Nat.reduceLT])
           refine FW.run ?_
           (simp only [go_sem, simprocAttr, sw0, ha0, ha1, ha2, ha3, ha4, ha5])
           refine FW.nil ?_
           change OW _ _ _ _ _ _
           refine OW.run [1, 3, 10, 11, 12, 13, 131] ?_
           (simp only [go_sem, simprocAttr, sw0, ha0, ha1, ha2, ha3, ha4, ha5])
           refine OW.nil ((congrArg K ?_).mpr hKE)
           (first | rfl | (simp only [go_sem, simprocAttr, ha0, ha1, ha2, ha3, ha4, ha5]; done) | (simp only [go_sem, simprocAttr, ha0, ha1, ha2, ha3, ha4, ha5]; rfl))
          ·
           rcases Bool.eq_false_or_eq_true ((x63 != (0 : Int))) with ha6 | ha6
           ·
            refine FW.run ?_
            (simp only [go_sem, simprocAttr, sw0, ha0, ha1, ha2, ha3, ha4, ha5, ha6])
            refine FW.callG' 4 rfl rfl ?_ (fun hg => by first | rfl | (simp only [go_sem, ↓reduceIte]; rfl)) (fun hg => by (first | ((simp only [go_sem, List.toList_toArray, simprocAttr, ha0, ha1, ha2, ha3, ha4, ha5, ha6]); exact rfl) | exact rfl)) (fun hg => ?_) (fun hg => (ref06_NeedOf_ok N _ _ _ _ _ _ _ _ _ _ _ _ _ _ (grd_t hg e15))) ?_ ?_ ?_ ?_
            · (first | rfl | (simp only [go_sem, simprocAttr, ha0, ha1, ha2, ha3, ha4, ha5, ha6]; done) | (simp only [go_sem, simprocAttr, ha0, ha1, ha2, ha3, ha4, ha5, ha6]; rfl))
            · first | (rfl; done) | (exfalso; simp only [ha0, ha1, ha2, ha3, ha4, ha5, ha6, sb0] at hg)
            · (refine okAll_intro ?_; (simp only [go_sem, sw2, scqW8, simprocAttr]; done))
            · exact .inl rfl
            · (simp only [go_sem, Nat.reduceLT])
            refine FW.run ?_
            (simp only [go_sem, simprocAttr, sw0, ha0, ha1, ha2, ha3, ha4, ha5, ha6])
            refine FW.nil ?_
            change OW _ _ _ _ _ _
            refine OW.run [1, 3, 10, 11, 12, 13, 131] ?_
            (simp only [go_sem, simprocAttr, sw0, ha0, ha1, ha2, ha3, ha4, ha5, ha6])
            refine OW.nil ((congrArg K ?_).mpr hKE)
            (first | rfl | (simp only [go_sem, simprocAttr, ha0, ha1, ha2, ha3, ha4, ha5, ha6]; done) | (simp only [go_sem, simprocAttr, ha0, ha1, ha2, ha3, ha4, ha5, ha6]; rfl))
           ·
            refine FW.run ?_
            (simp only [go_sem, simprocAttr, sw0, ha0, ha1, ha2, ha3, ha4, ha5, ha6])
            refine FW.callG' 4 rfl rfl ?_ (fun hg => by first | rfl | (simp only [go_sem, ↓reduceIte]; rfl)) (fun hg => by (first | ((simp only [go_sem, List.toList_toArray, simprocAttr, ha0, ha1, ha2, ha3, ha4, ha5, ha6]); exact rfl) | exact rfl)) (fun hg => ?_) (fun hg => (ref06_NeedOf_ok N _ _ _ _ _ _ _ _ _ _ _ _ _ _ (grd_t hg e15))) ?_ ?_ ?_ ?_
            · (first | rfl | (simp only [go_sem, simprocAttr, ha0, ha1, ha2, ha3, ha4, ha5, ha6]; done) | (simp only [go_sem, simprocAttr, ha0, ha1, ha2, ha3, ha4, ha5, ha6]; rfl))
            · first | (rfl; done) | (exfalso; simp only [ha0, ha1, ha2, ha3, ha4, ha5, ha6, sb0] at hg)
            · (refine okAll_intro ?_; (simp only [go_sem, sw2, scqW8, simprocAttr]; done))
            · exact .inl rfl
            · (simp only [go_sem, Nat.reduceLT])
            refine FW.run ?_
            (simp only [go_sem, simprocAttr, sw0, ha0, ha1, ha2, ha3, ha4, ha5, ha6])
            refine FW.nil ?_
            change OW _ _ _ _ _ _
            refine OW.run [1, 3, 10, 11, 12, 13, 131] ?_
            (simp only [go_sem, simprocAttr, sw0, ha0, ha1, ha2, ha3, ha4, ha5, ha6])
            refine OW.nil ((congrArg K ?_).mpr hKE)
            (first | rfl | (simp only [go_sem, simprocAttr, ha0, ha1, ha2, ha3, ha4, ha5, ha6]; done) | (simp only [go_sem, simprocAttr, ha0, ha1, ha2, ha3, ha4, ha5, ha6]; rfl))
         ·
          refine FW.run ?_
          (simp only [go_sem, simprocAttr, sw0, ha0, ha1, ha2, ha3, ha4])
          refine FW.callG' 4 rfl rfl ?_ (fun hg => by first | rfl | (simp only [go_sem, ↓reduceIte]; rfl)) (fun hg => by (first | ((simp only [go_sem, List.toList_toArray, simprocAttr, ha0, ha1, ha2, ha3, ha4]); exact rfl) | exact rfl)) (fun hg => ?_) (fun hg => (ref06_NeedOf_ok N _ _ _ _ _ _ _ _ _ _ _ _ _ _ (grd_t hg e15))) ?_ ?_ ?_ ?_
          · (first | rfl | (simp only [go_sem, simprocAttr, ha0, ha1, ha2, ha3, ha4]; done) | (simp only [go_sem, simprocAttr, ha0, ha1, ha2, ha3, ha4]; rfl))
          · first | (rfl; done) | (exfalso; simp only [ha0, ha1, ha2, ha3, ha4, sb0] at hg)
          · (refine okAll_intro ?_; (simp only [go_sem, sw2, scqW8, simprocAttr]; done))
          · exact .inl rfl
          · (simp only [go_sem, Nat.reduceLT])
          refine FW.run ?_
          (simp only [go_sem, simprocAttr, sw0, ha0, ha1, ha2, ha3, ha4])
          refine FW.nil ?_
          change OW _ _ _ _ _ _
          refine OW.run [1, 3, 10, 11, 12, 13, 131] ?_
          (simp only [go_sem, simprocAttr, sw0, ha0, ha1, ha2, ha3, ha4])
          refine OW.nil ((congrArg K ?_).mpr hKE)
          (first | rfl | (simp only [go_sem, simprocAttr, ha0, ha1, ha2, ha3, ha4]; done) | (simp only [go_sem, simprocAttr, ha0, ha1, ha2, ha3, ha4]; rfl))
        ·
         rcases Bool.eq_false_or_eq_true ((x14 == (0 : Int))) with ha4 | ha4
         ·
          rcases Bool.eq_false_or_eq_true ((x4 != (0 : Int))) with ha5 | ha5
          ·
           refine FW.run ?_
           (simp only [go_sem, simprocAttr, sw0, ha0, ha1, ha2, ha3, ha4, ha5])
           refine FW.callG' 4 rfl rfl ?_ (fun hg => by first | rfl | (simp only [go_sem, ↓reduceIte]; rfl)) (fun hg => by (first | ((simp only [go_sem, List.toList_toArray, simprocAttr, ha0, ha1, ha2, ha3, ha4, ha5]); exact rfl) | exact rfl)) (fun hg => ?_) (fun hg => (ref06_NeedOf_ok N _ _ _ _ _ _ _ _ _ _ _ _ _ _ (grd_t hg e15))) ?_ ?_ ?_ ?_
           · (first | rfl | (simp only [go_sem, simprocAttr, ha0, ha1, ha2, ha3, ha4, ha5]; done) | (simp only [go_sem, simprocAttr, ha0, ha1, ha2, ha3, ha4, ha5]; rfl))
           · first | (rfl; done) | (exfalso; simp only [ha0, ha1, ha2, ha3, ha4, ha5, sb0] at hg)
           · (refine okAll_intro ?_; (simp only [go_sem, sw2, scqW8, simprocAttr]; done))
           · exact .inl rfl
           · (simp only [go_sem, Nat.reduceLT])
           refine FW.run ?_
           (simp only [go_sem, simprocAttr, sw0, ha0, ha1, ha2, ha3, ha4, ha5])
           refine FW.nil ?_
           change OW _ _ _ _ _ _
           refine OW.run [1, 3, 10, 11, 12, 13, 131] ?_
           (simp only [go_sem, simprocAttr, sw0, ha0, ha1, ha2, ha3, ha4, ha5])
           refine OW.nil ((congrArg K ?_).mpr hKE)
           (first | rfl | (simp only [go_sem, simprocAttr, ha0, ha1, ha2, ha3, ha4, ha5]; done) | (simp only [go_sem, simprocAttr, ha0, ha1, ha2, ha3, ha4, ha5]; rfl))
          ·
           rcases Bool.eq_false_or_eq_true ((x63 != (0 : Int))) with ha6 | ha6
           ·
            refine FW.run ?_
            (simp only [go_sem, simprocAttr, sw0, ha0, ha1, ha2, ha3, ha4, ha5, ha6])
            refine FW.callG' 4 rfl rfl ?_ (fun hg => by first | rfl | (simp only [go_sem, ↓reduceIte]; rfl)) (fun hg => by (first | ((simp only [go_sem, List.toList_toArray, simprocAttr, ha0, ha1, ha2, ha3, ha4, ha5, ha6]); exact rfl) | exact rfl)) (fun hg => ?_) (fun hg => (ref06_NeedOf_ok N _ _ _ _ _ _ _ _ _ _ _ _ _ _ (grd_t hg e15))) ?_ ?_ ?_ ?_
            · (first | rfl | (simp only [go_sem, simprocAttr, ha0, ha1, ha2, ha3, ha4, ha5, ha6]; done) | (simp only [go_sem, simprocAttr, ha0, ha1, ha2, ha3, ha4, ha5, ha6]; rfl))
            · first | (rfl; done) | (exfalso; simp only [ha0, ha1, ha2, ha3, ha4, ha5, ha6, sb0] at hg)
            · (refine okAll_intro ?_; (simp only [go_sem, sw2, scqW8, simprocAttr]; done))
            · exact .inl rfl
            · (simp only [go_sem, Nat.reduceLT])
            refine FW.run ?_
            (simp only [go_sem, simprocAttr, sw0, ha0, ha1, ha2, ha3, ha4, ha5, ha6])
            refine FW.nil ?_
            change OW _ _ _ _ _ _
            refine OW.run [1, 3, 10, 11, 12, 13, 131] ?_
            (simp only [go_sem, simprocAttr, sw0, ha0, ha1, ha2, ha3, ha4, ha5, ha6])
            refine OW.nil ((congrArg K ?_).mpr hKE)
            (first | rfl | (simp only [go_sem, simprocAttr, ha0, ha1, ha2, ha3, ha4, ha5, ha6]; done) | (simp only [go_sem, simprocAttr, ha0, ha1, ha2, ha3, ha4, ha5, ha6]; rfl))
           ·
            refine FW.run ?_
            (simp only [go_sem, simprocAttr, sw0, ha0, ha1, ha2, ha3, ha4, ha5, ha6])
            refine FW.callG' 4 rfl rfl ?_ (fun hg => by first | rfl | (simp only [go_sem, ↓reduceIte]; rfl)) (fun hg => by (first | ((simp only [go_sem, List.toList_toArray, simprocAttr, ha0, ha1, ha2, ha3, ha4, ha5, ha6]); exact rfl) | exact rfl)) (fun hg => ?_) (fun hg => (ref06_NeedOf_ok N _ _ _ _ _ _ _ _ _ _ _ _ _ _ (grd_t hg e15))) ?_ ?_ ?_ ?_
            · (first | rfl | (simp only [go_sem, simprocAttr, ha0, ha1, ha2, ha3, ha4, ha5, ha6]; done) | (simp only [go_sem, simprocAttr, ha0, ha1, ha2, ha3, ha4, ha5, ha6]; rfl))
            · first | (rfl; done) | (exfalso; simp only [ha0, ha1, ha2, ha3, ha4, ha5, ha6, sb0] at hg)
            · (refine okAll_intro ?_; (simp only [go_sem, sw2, scqW8, simprocAttr]; done))
            · exact .inl rfl
            · (simp only [go_sem, Nat.reduceLT])
            refine FW.run ?_
            (simp only [go_sem, simprocAttr, sw0, ha0, ha1, ha2, ha3, ha4, ha5, ha6])
            refine FW.nil ?_
            change OW _ _ _ _ _ _
            refine OW.run [1, 3, 10, 11, 12, 13, 131] ?_
            (simp only [go_sem, simprocAttr, sw0, ha0, ha1, ha2, ha3, ha4, ha5, ha6])
            refine OW.nil ((congrArg K ?_).mpr hKE)
            (first | rfl | (simp only [go_sem, simprocAttr, ha0, ha1, ha2, ha3, ha4, ha5, ha6]; done) | (simp only [go_sem, simprocAttr, ha0, ha1, ha2, ha3, ha4, ha5, ha6]; rfl))
         ·
          refine FW.run ?_
          (simp only [go_sem, simprocAttr, sw0, ha0, ha1, ha2, ha3, ha4])
          refine FW.callG' 4 rfl rfl ?_ (fun hg => by first | rfl | (simp only [go_sem, ↓reduceIte]; rfl)) (fun hg => by (first | ((simp only [go_sem, List.toList_toArray, simprocAttr, ha0, ha1, ha2, ha3, ha4]); exact rfl) | exact rfl)) (fun hg => ?_) (fun hg => (ref06_NeedOf_ok N _ _ _ _ _ _ _ _ _ _ _ _ _ _ (grd_t hg e15))) ?_ ?_ ?_ ?_
          · (first | rfl | (simp only [go_sem, simprocAttr, ha0, ha1, ha2, ha3, ha4]; done) | (simp only [go_sem, simprocAttr, ha0, ha1, ha2, ha3, ha4]; rfl))
          · first | (rfl; done) | (exfalso; simp only [ha0, ha1, ha2, ha3, ha4, sb0] at hg)
          · (refine okAll_intro ?_; (simp only [go_sem, sw2, scqW8, simprocAttr]; done))
          · exact .inl rfl
          · (simp only [go_sem, Nat.reduceLT])
          refine FW.run ?_
          (simp only [go_sem, simprocAttr, sw0, ha0, ha1, ha2, ha3, ha4])
          refine FW.nil ?_
          change OW _ _ _ _ _ _
          refine OW.run [1, 3, 10, 11, 12, 13, 131] ?_
          (simp only [go_sem, simprocAttr, sw0, ha0, ha1, ha2, ha3, ha4])
          refine OW.nil ((congrArg K ?_).mpr hKE)
          (first | rfl | (simp only [go_sem, simprocAttr, ha0, ha1, ha2, ha3, ha4]; done) | (simp only [go_sem, simprocAttr, ha0, ha1, ha2, ha3, ha4]; rfl))
       ·
        rcases Bool.eq_false_or_eq_true ((Bool.and (x6 == (0 : Int)) (Bool.and (x61 == (0 : Int)) (x62 == (0 : Int))))) with ha3 | ha3
        ·
         rcases Bool.eq_false_or_eq_true ((x14 == (0 : Int))) with ha4 | ha4
         ·
          rcases Bool.eq_false_or_eq_true ((x4 != (0 : Int))) with ha5 | ha5
          ·
           refine FW.run ?_
           (simp only [go_sem, simprocAttr, sw0, ha0, ha1, ha2, ha3, ha4, ha5])
           refine FW.callG' 4 rfl rfl ?_ (fun hg => by first | rfl | (simp only [go_sem, ↓reduceIte]; rfl)) (fun hg => by (first | ((simp only [go_sem, List.toList_toArray, simprocAttr, ha0, ha1, ha2, ha3, ha4, ha5]); exact rfl) | exact rfl)) (fun hg => ?_) (fun hg => (ref06_NeedOf_ok N _ _ _ _ _ _ _ _ _ _ _ _ _ _ (grd_t hg e15))) ?_ ?_ ?_ ?_
           · (first | rfl | (simp only [go_sem, simprocAttr, ha0, ha1, ha2, ha3, ha4, ha5]; done) | (simp only [go_sem, simprocAttr, ha0, ha1, ha2, ha3, ha4, ha5]; rfl))
           · first | (rfl; done) | (exfalso; simp only [ha0, ha1, ha2, ha3, ha4, ha5, sb0] at hg)
           · (refine okAll_intro ?_; (simp only [go_sem, sw2, scqW8, simprocAttr]; done))
           · exact .inl rfl
           · (simp only [go_sem, Nat.reduceLT])
           refine FW.run ?_
           (simp only [go_sem, simprocAttr, sw0, ha0, ha1, ha2, ha3, ha4, ha5])
           refine FW.nil ?_
           change OW _ _ _ _ _ _
           refine OW.run [1, 3, 10, 11, 12, 13, 131] ?_
           (simp only [go_sem, simprocAttr, sw0, ha0, ha1, ha2, ha3, ha4, ha5])
           refine OW.nil ((congrArg K ?_).mpr hKE)
           (first | rfl | (simp only [go_sem, simprocAttr, ha0, ha1, ha2, ha3, ha4, ha5]; done) | (simp only [go_sem, simprocAttr, ha0, ha1, ha2, ha3, ha4, ha5]; rfl))
          ·
           rcases Bool.eq_false_or_eq_true ((x63 != (0 : Int))) with ha6 | ha6
           ·
            refine FW.run ?_
            (simp only [go_sem, simprocAttr, sw0, ha0, ha1, ha2, ha3, ha4, ha5, ha6])
            refine FW.callG' 4 rfl rfl ?_ (fun hg => by first | rfl | (simp only [go_sem, ↓reduceIte]; rfl)) (fun hg => by (first | ((simp only [go_sem, List.toList_toArray, simprocAttr, ha0, ha1, ha2, ha3, ha4, ha5, ha6]); exact rfl) | exact rfl)) (fun hg => ?_) (fun hg => (ref06_NeedOf_ok N _ _ _ _ _ _ _ _ _ _ _ _ _ _ (grd_t hg e15))) ?_ ?_ ?_ ?_
            · (first | rfl | (simp only [go_sem, simprocAttr, ha0, ha1, ha2, ha3, ha4, ha5, ha6]; done) | (simp only [go_sem, simprocAttr, ha0, ha1, ha2, ha3, ha4, ha5, ha6]; rfl))
            · first | (rfl; done) | (exfalso; simp only [ha0, ha1, ha2, ha3, ha4, ha5, ha6, sb0] at hg)
            · (refine okAll_intro ?_; (simp only [go_sem, sw2, scqW8, simprocAttr]; done))
            · exact .inl rfl
            · (simp only [go_sem, Nat.reduceLT])
            refine FW.run ?_
            (simp only [go_sem, simprocAttr, sw0, ha0, ha1, ha2, ha3, ha4, ha5, ha6])
            refine FW.nil ?_
            change OW _ _ _ _ _ _
            refine OW.run [1, 3, 10, 11, 12, 13, 131] ?_
            (simp only [go_sem, simprocAttr, sw0, ha0, ha1, ha2, ha3, ha4, ha5, ha6])
            refine OW.nil ((congrArg K ?_).mpr hKE)
            (first | rfl | (simp only [go_sem, simprocAttr, ha0, ha1, ha2, ha3, ha4, ha5, ha6]; done) | (simp only [go_sem, simprocAttr, ha0, ha1, ha2, ha3, ha4, ha5, ha6]; rfl))
           ·
            refine FW.run ?_
            (simp only [go_sem, simprocAttr, sw0, ha0, ha1, ha2, ha3, ha4, ha5, ha6])
            refine FW.callG' 4 rfl rfl ?_ (fun hg => by first | rfl | (simp only [go_sem, ↓reduceIte]; rfl)) (fun hg => by (first | ((simp only [go_sem, List.toList_toArray, simprocAttr, ha0, ha1, ha2, ha3, ha4, ha5, ha6]); exact rfl) | exact rfl)) (fun hg => ?_) (fun hg => (ref06_NeedOf_ok N _ _ _ _ _ _ _ _ _ _ _ _ _ _ (grd_t hg e15))) ?_ ?_ ?_ ?_
            · (first | rfl | (simp only [go_sem, simprocAttr, ha0, ha1, ha2, ha3, ha4, ha5, ha6]; done) | (simp only [go_sem, simprocAttr, ha0, ha1, ha2, ha3, ha4, ha5, ha6]; rfl))
            · first | (rfl; done) | (exfalso; simp only [ha0, ha1, ha2, ha3, ha4, ha5, ha6, sb0] at hg)
            · (refine okAll_intro ?_; (simp only [go_sem, sw2, scqW8, simprocAttr]; done))
            · exact .inl rfl
            · (simp only [go_sem, Nat.reduceLT])
            refine FW.run ?_
            (simp only [go_sem, simprocAttr, sw0, ha0, ha1, ha2, ha3, ha4, ha5, ha6])
            refine FW.nil ?_
            change OW _ _ _ _ _ _
            refine OW.run [1, 3, 10, 11, 12, 13, 131] ?_
            (simp only [go_sem, simprocAttr, sw0, ha0, ha1, ha2, ha3, ha4, ha5, ha6])
            refine OW.nil ((congrArg K ?_).mpr hKE)
            (first | rfl | (simp only [go_sem, simprocAttr, ha0, ha1, ha2, ha3, ha4, ha5, ha6]; done) | (simp only [go_sem, simprocAttr, ha0, ha1, ha2, ha3, ha4, ha5, ha6]; rfl))
         ·
          refine FW.run ?_
          (simp only [go_sem, simprocAttr, sw0, ha0, ha1, ha2, ha3, ha4])
          refine FW.callG' 4 rfl rfl ?_ (fun hg => by first | rfl | (simp only [go_sem, ↓reduceIte]; rfl)) (fun hg => by (first | ((simp only [go_sem, List.toList_toArray, simprocAttr, ha0, ha1, ha2, ha3, ha4]); exact rfl) | exact rfl)) (fun hg => ?_) (fun hg => (ref06_NeedOf_ok N _ _ _ _ _ _ _ _ _ _ _ _ _ _ (grd_t hg e15))) ?_ ?_ ?_ ?_
          · (first | rfl | (simp only [go_sem, simprocAttr, ha0, ha1, ha2, ha3, ha4]; done) | (simp only [go_sem, simprocAttr, ha0, ha1, ha2, ha3, ha4]; rfl))
          · first | (rfl; done) | (exfalso; simp only [ha0, ha1, ha2, ha3, ha4, sb0] at hg)
          · (refine okAll_intro ?_; (simp only [go_sem, sw2, scqW8, simprocAttr]; done))
          · exact .inl rfl
          · (simp only [go_sem, Nat.reduceLT])
          refine FW.run ?_
          (simp only [go_sem, simprocAttr, sw0, ha0, ha1, ha2, ha3, ha4])
          refine FW.nil ?_
          change OW _ _ _ _ _ _
          refine OW.run [1, 3, 10, 11, 12, 13, 131] ?_
          (simp only [go_sem, simprocAttr, sw0, ha0, ha1, ha2, ha3, ha4])
          refine OW.nil ((congrArg K ?_).mpr hKE)
          (first | rfl | (simp only [go_sem, simprocAttr, ha0, ha1, ha2, ha3, ha4]; done) | (simp only [go_sem, simprocAttr, ha0, ha1, ha2, ha3, ha4]; rfl))
        ·
         rcases Bool.eq_false_or_eq_true ((x14 == (0 : Int))) with ha4 | ha4
         ·
          rcases Bool.eq_false_or_eq_true ((x4 != (0 : Int))) with ha5 | ha5
          ·
           refine FW.run ?_
           (simp only [go_sem, simprocAttr, sw0, ha0, ha1, ha2, ha3, ha4, ha5])
           refine FW.callG' 4 rfl rfl ?_ (fun hg => by first | rfl | (simp only [go_sem, ↓reduceIte]; rfl)) (fun hg => by (first | ((simp only [go_sem, List.toList_toArray, simprocAttr, ha0, ha1, ha2, ha3, ha4, ha5]); exact rfl) | exact rfl)) (fun hg => ?_) (fun hg => (ref06_NeedOf_ok N _ _ _ _ _ _ _ _ _ _ _ _ _ _ (grd_t hg e15))) ?_ ?_ ?_ ?_
           · (first | rfl | (simp only [go_sem, simprocAttr, ha0, ha1, ha2, ha3, ha4, ha5]; done) | (simp only [go_sem, simprocAttr, ha0, ha1, ha2, ha3, ha4, ha5]; rfl))
           · first | (rfl; done) | (exfalso; simp only [ha0, ha1, ha2, ha3, ha4, ha5, sb0] at hg)
           · (refine okAll_intro ?_; (simp only [go_sem, sw2, scqW8, simprocAttr]; done))
           · exact .inl rfl
           · (simp only [go_sem, Nat.reduceLT])
           refine FW.run ?_
           (simp only [go_sem, simprocAttr, sw0, ha0, ha1, ha2, ha3, ha4, ha5])
           refine FW.nil ?_
           change OW _ _ _ _ _ _
           refine OW.run [1, 3, 10, 11, 12, 13, 131] ?_
           (simp only [go_sem, simprocAttr, sw0, ha0, ha1, ha2, ha3, ha4, ha5])
           refine OW.nil ((congrArg K ?_).mpr hKE)
           (first | rfl | (simp only [go_sem, simprocAttr, ha0, ha1, ha2, ha3, ha4, ha5]; done) | (simp only [go_sem, simprocAttr, ha0, ha1, ha2, ha3, ha4, ha5]; rfl))
          ·
           rcases Bool.eq_false_or_eq_true ((x63 != (0 : Int))) with ha6 | ha6
           ·
            refine FW.run ?_
            (simp only [go_sem, simprocAttr, sw0, ha0, ha1, ha2, ha3, ha4, ha5, ha6])
            refine FW.callG' 4 rfl rfl ?_ (fun hg => by first | rfl | (simp only [go_sem, ↓reduceIte]; rfl)) (fun hg => by (first | ((simp only [go_sem, List.toList_toArray, simprocAttr, ha0, ha1, ha2, ha3, ha4, ha5, ha6]); exact rfl) | exact rfl)) (fun hg => ?_) (fun hg => (ref06_NeedOf_ok N _ _ _ _ _ _ _ _ _ _ _ _ _ _ (grd_t hg e15))) ?_ ?_ ?_ ?_
            · (first | rfl | (simp only [go_sem, simprocAttr, ha0, ha1, ha2, ha3, ha4, ha5, ha6]; done) | (simp only [go_sem, simprocAttr, ha0, ha1, ha2, ha3, ha4, ha5, ha6]; rfl))
            · first | (rfl; done) | (exfalso; simp only [ha0, ha1, ha2, ha3, ha4, ha5, ha6, sb0] at hg)
            · (refine okAll_intro ?_; (simp only [go_sem, sw2, scqW8, simprocAttr]; done))
            · exact .inl rfl
            · (simp only [go_sem, Nat.reduceLT])
            refine FW.run ?_
            (simp only [go_sem, simprocAttr, sw0, ha0, ha1, ha2, ha3, ha4, ha5, ha6])
            refine FW.nil ?_
            change OW _ _ _ _ _ _
            refine OW.run [1, 3, 10, 11, 12, 13, 131] ?_
            (simp only [go_sem, simprocAttr, sw0, ha0, ha1, ha2, ha3, ha4, ha5, ha6])
            refine OW.nil ((congrArg K ?_).mpr hKE)
            (first | rfl | (simp only [go_sem, simprocAttr, ha0, ha1, ha2, ha3, ha4, ha5, ha6]; done) | (simp only [go_sem, simprocAttr, ha0, ha1, ha2, ha3, ha4, ha5, ha6]; rfl))
           ·
            refine FW.run ?_
            (simp only [go_sem, simprocAttr, sw0, ha0, ha1, ha2, ha3, ha4, ha5, ha6])
            refine FW.callG' 4 rfl rfl ?_ (fun hg => by first | rfl | (simp only [go_sem, ↓reduceIte]; rfl)) (fun hg => by (first | ((simp only [go_sem, List.toList_toArray, simprocAttr, ha0, ha1, ha2, ha3, ha4, ha5, ha6]); exact rfl) | exact rfl)) (fun hg => ?_) (fun hg => (ref06_NeedOf_ok N _ _ _ _ _ _ _ _ _ _ _ _ _ _ (grd_t hg e15))) ?_ ?_ ?_ ?_
            · (first | rfl | (simp only [go_sem, simprocAttr, ha0, ha1, ha2, ha3, ha4, ha5, ha6]; done) | (simp only [go_sem, simprocAttr, ha0, ha1, ha2, ha3, ha4, ha5, ha6]; rfl))
            · first | (rfl; done) | (exfalso; simp only [ha0, ha1, ha2, ha3, ha4, ha5, ha6, sb0] at hg)
            · (refine okAll_intro ?_; (simp only [go_sem, sw2, scqW8, simprocAttr]; done))
            · exact .inl rfl
            · (simp only [go_sem, Nat.reduceLT])
            refine FW.run ?_
            (simp only [go_sem, simprocAttr, sw0, ha0, ha1, ha2, ha3, ha4, ha5, ha6])
            refine FW.nil ?_
            change OW _ _ _ _ _ _
            refine OW.run [1, 3, 10, 11, 12, 13, 131] ?_
            (simp only [go_sem, simprocAttr, sw0, ha0, ha1, ha2, ha3, ha4, ha5, ha6])
            refine OW.nil ((congrArg K ?_).mpr hKE)
            (first | rfl | (simp only [go_sem, simprocAttr, ha0, ha1, ha2, ha3, ha4, ha5, ha6]; done) | (simp only [go_sem, simprocAttr, ha0, ha1, ha2, ha3, ha4, ha5, ha6]; rfl))
         ·
          refine FW.run ?_
          (simp only [go_sem, simprocAttr, sw0, ha0, ha1, ha2, ha3, ha4])
          refine FW.callG' 4 rfl rfl ?_ (fun hg => by first | rfl | (simp only [go_sem, ↓reduceIte]; rfl)) (fun hg => by (first | ((simp only [go_sem, List.toList_toArray, simprocAttr, ha0, ha1, ha2, ha3, ha4]); exact rfl) | exact rfl)) (fun hg => ?_) (fun hg => (ref06_NeedOf_ok N _ _ _ _ _ _ _ _ _ _ _ _ _ _ (grd_t hg e15))) ?_ ?_ ?_ ?_
          · (first | rfl | (simp only [go_sem, simprocAttr, ha0, ha1, ha2, ha3, ha4]; done) | (simp only [go_sem, simprocAttr, ha0, ha1, ha2, ha3, ha4]; rfl))
          · first | (rfl; done) | (exfalso; simp only [ha0, ha1, ha2, ha3, ha4, sb0] at hg)
          · (refine okAll_intro ?_; (simp only [go_sem, sw2, scqW8, simprocAttr]; done))
          · exact .inl rfl
          · (simp only [go_sem, Nat.reduceLT])
          refine FW.run ?_
          (simp only [go_sem, simprocAttr, sw0, ha0, ha1, ha2, ha3, ha4])
          refine FW.nil ?_
          change OW _ _ _ _ _ _
          refine OW.run [1, 3, 10, 11, 12, 13, 131] ?_
          (simp only [go_sem, simprocAttr, sw0, ha0, ha1, ha2, ha3, ha4])
          refine OW.nil ((congrArg K ?_).mpr hKE)
          (first | rfl | (simp only [go_sem, simprocAttr, ha0, ha1, ha2, ha3, ha4]; done) | (simp only [go_sem, simprocAttr, ha0, ha1, ha2, ha3, ha4]; rfl))
    clear hK K
    change PW _ _ _ _ _
    refine PW.cond rfl (fun h4 => ?_) (fun h4 => ?_)
    ·
     replace H := br_t h4 H
     refine PW.seq ?_
     refine PW.regionK fun K hK => OW.run [6] ?_
     simp only [go_sem, simprocAttr, sw0]
     refine OW.nil (hK _ ?_); clear hK K
     change PW _ _ _ _ _
     refine PW.ret ?_
     change PW.Ends _ _ _ _ _ _
     refine PW.Ends.intro (.inr rfl) ?_
     simp only [go_sem, simprocAttr, sw0]
     obtain rfl := Option.some.inj H
     refine RetOK.data' 4 (by exact trivial) ?_
     rfl
    ·
     replace H := br_f h4 H
     refine PW.skip ?_
     change PW _ _ _ _ _
     refine PW.seq ?_
     obtain ⟨⟨x16, x161⟩, e16, H⟩ := bnd_some H
     refine PW.regionK fun K hK => OW.run [1, 3, 10, 11, 12, 13, 16, 17] ?_
     simp only [go_sem, simprocAttr, sw0]
     refine OW.call' 4 rfl rfl rfl (by ((simp only [go_sem, List.toList_toArray, simprocAttr]); exact rfl)) ?_ (ref06_CheckBearers_ok N _ _ _ _ _ _ e16) ?_ ?_ ?_ ?_
     · rfl
     · (refine okAll_intro ?_; (simp only [go_sem, sw2, scqW8, simprocAttr]; done))
     · exact .inl rfl
     · (simp only [go_sem, Nat.reduceLT])
     refine OW.run [1, 3, 10, 11, 12, 13, 16, 17] ?_
     simp only [go_sem, simprocAttr, sw0]
     refine OW.nil (hK _ ?_); clear hK K
     change PW _ _ _ _ _
     refine PW.seq ?_
     refine PW.seq ?_
     refine PW.regionK fun K hK => OW.run [1, 3, 12, 13, 17, 145] ?_
     simp only [go_sem, simprocAttr, sw0]
     refine OW.nil (hK _ ?_); clear hK K
     change PW _ _ _ _ _
     refine PW.cond rfl (fun h5 => ?_) (fun h5 => ?_)
     ·
      replace H := br_t h5 H
      refine PW.seq ?_
      refine PW.regionK fun K hK => OW.run [6] ?_
      simp only [go_sem, simprocAttr, sw0]
      refine OW.nil (hK _ ?_); clear hK K
      change PW _ _ _ _ _
      refine PW.ret ?_
      change PW.Ends _ _ _ _ _ _
      refine PW.Ends.intro (.inr rfl) ?_
      simp only [go_sem, simprocAttr, sw0]
      obtain rfl := Option.some.inj H
      refine RetOK.data' 4 (by exact trivial) ?_
      rfl
     ·
      replace H := br_f h5 H
      refine PW.skip ?_
      change PW _ _ _ _ _
      refine PW.seq ?_
      refine PW.seq ?_
      refine PW.regionK fun K hK => OW.run [1, 3, 12, 13, 17, 147] ?_
      simp only [go_sem, simprocAttr, sw0]
      refine OW.nil (hK _ ?_); clear hK K
      change PW _ _ _ _ _
      refine PW.cond rfl (fun h6 => ?_) (fun h6 => ?_)
      ·
       replace H := br_t h6 H
       refine PW.seq ?_
       refine PW.regionK fun K hK => ?_
       refine OW.step rfl ?_
       simp only [go_sem, simprocAttr, sw0]
       refine OW.step rfl ?_
       simp only [go_sem, simprocAttr, sw0]
       refine OW.step rfl ?_
       simp only [go_sem, simprocAttr, sw0]
       refine OW.step rfl ?_
       simp only [go_sem, simprocAttr, sw0]
       refine OW.opA (g := (x123 == x161)) rfl ?_ (fun hg => ?_) (by (simp only [go_sem, Nat.reduceLT])) ?_
       · (simp only [go_sem, simprocAttr]; done)
       · (first | decide | ((simp only [go_sem, simprocAttr, sw0]); done) | ((simp only [go_sem, simprocAttr, sw0]); (repeat (refine And.intro (by (first | omega | assumption | rfl | decide | trivial)) ?_)); done) | ((simp only [go_sem, simprocAttr, sw0]); repeat (first | omega | rfl | trivial | refine ⟨?_, ?_⟩)))
       try simp only [go_sem, simprocAttr]
       refine OW.opA (g := (x123 == x161)) rfl ?_ (fun hg => ?_) (by (simp only [go_sem, Nat.reduceLT])) ?_
       · (simp only [go_sem, simprocAttr]; done)
       · (first | decide | ((simp only [go_sem, simprocAttr, sw0]); done) | ((simp only [go_sem, simprocAttr, sw0]); (repeat (refine And.intro (by (first | omega | assumption | rfl | decide | trivial)) ?_)); done) | ((simp only [go_sem, simprocAttr, sw0]); repeat (first | omega | rfl | trivial | refine ⟨?_, ?_⟩)))
       try simp only [go_sem, simprocAttr]
       refine OW.run [6] ?_
       simp only [go_sem, simprocAttr, sw0]
       refine OW.nil (hK _ ?_); clear hK K
       change PW _ _ _ _ _
       refine PW.ret ?_
       change PW.Ends _ _ _ _ _ _
       refine PW.Ends.intro (.inr rfl) ?_
       simp only [go_sem, simprocAttr, sw0]
       obtain rfl := Option.some.inj H
       refine RetOK.data' 4 (by exact trivial) ?_
       rfl
      ·
       replace H := br_f h6 H
       refine PW.skip ?_
       change PW _ _ _ _ _
       refine PW.seq ?_
       obtain ⟨⟨x17, x171, x172⟩, e17, H⟩ := bnd_some H
       refine PW.drawK 7 mixed (by kernel_rfl) fun K hK => ?_
       change FW _ _ _ _ _
       refine FW.run ?_
       simp only [go_sem, simprocAttr, sw0]
       refine FW.callG' 4 rfl rfl ?_ (fun hg => by first | rfl | (simp only [go_sem, ↓reduceIte]; rfl)) (fun hg => by ((simp only [go_sem, List.toList_toArray, simprocAttr]); exact rfl)) (fun hg => ?_) (fun hg => (ref06_Room_ok N _ _ _ _ _ _ (grd_t hg e17))) ?_ ?_ ?_ ?_
       · (simp only [go_sem, simprocAttr]; done)
       · rfl
       · (refine okAll_intro ?_; (simp only [go_sem, sw2, scqW8, simprocAttr]; done))
       · exact .inl rfl
       · (simp only [go_sem, Nat.reduceLT])
       refine FW.run ?_
       simp only [go_sem, simprocAttr, sw0]
       refine FW.nil ?_
       change OW _ _ _ _ _ _
       refine OW.run [6] ?_
       simp only [go_sem, simprocAttr, sw0]
       refine OW.nil (hK _ ?_); clear hK K
       change PW _ _ _ _ _
       refine PW.ret ?_
       change PW.Ends _ _ _ _ _ _
       refine PW.Ends.intro (.inr rfl) ?_
       simp only [go_sem, simprocAttr, sw0]
       obtain rfl := Option.some.inj H
       refine RetOK.data' 4 (by exact trivial) ?_
       rfl
end Go.Proofs.Ytabojpkmfkjjkaa
