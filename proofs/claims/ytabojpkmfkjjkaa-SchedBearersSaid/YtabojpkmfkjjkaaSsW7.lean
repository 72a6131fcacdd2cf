import Derived.Test.YtabojpkmfkjjkaaSsBase
import Derived.Test.YtabojpkmfkjjkaaSsW0
import Derived.Test.YtabojpkmfkjjkaaSsW4
import Derived.Test.YtabojpkmfkjjkaaSsW5
set_option linter.all false
namespace Go.Proofs.Ytabojpkmfkjjkaa
open Go.PW Go.Sh

set_option maxRecDepth 20000
set_option maxHeartbeats 8000000
def scqW7 := And.intro @List.length_set <| And.intro @List.length_replicate <| And.intro @and_true <| And.intro @true_and @Nat.le_refl
theorem sched_CheckBearer_ok (N : Nat) (Zq : Int) (Zr : Int) (Zs : Int) (Zx : List Int) (Z1e : ByteArray) (Z1c : Int) (Z1h : Int) (Z1j : Int) (Z1g : Int) (Z1d : Int) (Z19 : Int) (Z1i : Int) (Z1a : Int) (r : Int) (H : sched_CheckBearer N Zq Zr Zs Zx Z1e Z1c Z1h Z1j Z1g Z1d Z19 Z1i Z1a = some r) : CallOK Try.prog 33 [(.agg [(I Zq), (I Zr), (I Zs), (L Zx)]), (.agg [(Sx Z1e), (I Z1c), (I Z1h), (I Z1j), (I Z1g), (I Z1d), (I Z19), (I Z1i), (I Z1a)])] (.d (I r)) [] := by
 refine CallOK.of_PW Try.func33 rfl (by rw [Try.results33]) Try.ntmps33 Try.call33 ?_
 change PW _ _ _ _ _
 try simp only [go_sem, simprocAttr]
 unfold sched_CheckBearer at H
 refine PW.seq ?_
 refine PW.regionK fun K hK => OW.run [2, 3] ?_
 simp only [go_sem, simprocAttr, sw0]
 refine OW.nil (hK _ ?_); clear hK K
 change PW _ _ _ _ _
 refine PW.seq ?_
 obtain ⟨⟨x1, x11, x12, x13, x14⟩, e1, H⟩ := bnd_some H
 refine PW.regionK fun K hK => OW.run [6] ?_
 simp only [go_sem, simprocAttr, sw0]
 refine OW.call' 4 rfl rfl rfl (by ((simp only [go_sem, List.toList_toArray, simprocAttr]); exact rfl)) ?_ (sched_openBearer_ok N _ _ _ _ _ _ _ _ _ _ _ _ _ _ e1) ?_ ?_ ?_ ?_
 · rfl
 · (refine okAll_intro ?_; (simp only [go_sem, sw2, scqW7, simprocAttr]; done))
 · exact .inl rfl
 · (simp only [go_sem, Nat.reduceLT])
 refine OW.run [6] ?_
 simp only [go_sem, simprocAttr, sw0]
 refine OW.nil (hK _ ?_); clear hK K
 change PW _ _ _ _ _
 refine PW.seq ?_
 refine PW.regionK fun K hK => OW.run [4] ?_
 simp only [go_sem, simprocAttr, sw0]
 refine OW.nil (hK _ ?_); clear hK K
 change PW _ _ _ _ _
 refine PW.ret ?_
 change PW.Ends _ _ _ _ _ _
 refine PW.Ends.intro (.inr rfl) ?_
 simp only [go_sem, simprocAttr, sw0]
 obtain rfl := Option.some.inj H
 refine RetOK.data' 4 (by exact trivial) ?_
 rfl

theorem sched_Room_ok (N : Nat) (Zq : Int) (Zr : Int) (Zs : Int) (Zx : List Int) (l : List TB) (r : Int × Int × Int × Int) (H : sched_Room N Zq Zr Zs Zx l = some r) : CallOK Try.prog 35 [(.agg [(I Zq), (I Zr), (I Zs), (L Zx)]), (.list l.length (l.flatMap (fun (x : ByteArray × Int × Int × Int × Int × Int × Int × Int × Int) => [(Sx x.1), (I x.2.1), (I x.2.2.1), (I x.2.2.2.1), (I x.2.2.2.2.1), (I x.2.2.2.2.2.1), (I x.2.2.2.2.2.2.1), (I x.2.2.2.2.2.2.2.1), (I x.2.2.2.2.2.2.2.2)])))] (.d (.tup [(.agg [(I r.1), (I r.2.1), (I r.2.2.1)]), (I r.2.2.2)])) [] := by
 refine CallOK.of_PW Try.func35 rfl (by rw [Try.results35]) Try.ntmps35 Try.call35 ?_
 change PW _ _ _ _ _
 try simp only [go_sem, simprocAttr]
 unfold sched_Room at H
 refine PW.seq ?_
 refine PW.regionK fun K hK => OW.run [1, 2, 4] ?_
 simp only [go_sem, simprocAttr, sw0]
 refine OW.nil (hK _ ?_); clear hK K
 change PW _ _ _ _ _
 refine PW.seq ?_
 obtain ⟨⟨x1, x11, x12, x13, x14⟩, e1, H⟩ := bnd_some H
 refine PW.regionK fun K hK => OW.run [1, 4, 6, 7] ?_
 simp only [go_sem, simprocAttr, sw0]
 refine OW.call' 4 rfl rfl rfl (by ((simp only [go_sem, List.toList_toArray, simprocAttr]); exact rfl)) ?_ (sched_openAll_ok N _ _ _ _ _ _ e1) ?_ ?_ ?_ ?_
 · rfl
 · (refine okAll_intro ?_; (simp only [go_sem, sw2, scqW7, simprocAttr]; done))
 · exact .inl rfl
 · (simp only [go_sem, Nat.reduceLT])
 refine OW.run [1, 4, 6, 7] ?_
 simp only [go_sem, simprocAttr, sw0]
 refine OW.nil (hK _ ?_); clear hK K
 change PW _ _ _ _ _
 refine PW.seq ?_
 refine PW.seq ?_
 refine PW.regionK fun K hK => OW.run [1, 4, 6, 7, 15] ?_
 simp only [go_sem, simprocAttr, sw0]
 refine OW.nil (hK _ ?_); clear hK K
 change PW _ _ _ _ _
 refine PW.cond rfl (fun h1 => ?_) (fun h1 => ?_)
 ·
  replace H := br_t h1 H
  refine PW.seq ?_
  refine PW.regionK fun K hK => OW.run [4, 5] ?_
  simp only [go_sem, simprocAttr, sw0]
  refine OW.nil (hK _ ?_); clear hK K
  change PW _ _ _ _ _
  refine PW.ret ?_
  change PW.Ends _ _ _ _ _ _
  refine PW.Ends.intro (.inr rfl) ?_
  simp only [go_sem, simprocAttr, sw0]
  obtain rfl := Option.some.inj H
  refine RetOK.data' 4 (by (refine okAll_intro ?_; (simp only [go_sem, sw2, scqW7, simprocAttr]; done))) ?_
  rfl
 ·
  replace H := br_f h1 H
  refine PW.skip ?_
  change PW _ _ _ _ _
  refine PW.seq ?_
  obtain ⟨⟨x2, x21, x22⟩, e2, H⟩ := bnd_some H
  refine PW.regionK fun K hK => OW.run [4, 5] ?_
  simp only [go_sem, simprocAttr, sw0]
  refine OW.call' 4 rfl rfl rfl (by ((simp only [go_sem, List.toList_toArray, simprocAttr]); exact rfl)) ?_ (sched_site_room_ok N _ _ _ _ _ _ e2) ?_ ?_ ?_ ?_
  · rfl
  · (refine okAll_intro ?_; (simp only [go_sem, sw2, scqW7, simprocAttr]; done))
  · exact .inl rfl
  · (simp only [go_sem, Nat.reduceLT])
  refine OW.run [4, 5] ?_
  simp only [go_sem, simprocAttr, sw0]
  refine OW.nil (hK _ ?_); clear hK K
  change PW _ _ _ _ _
  refine PW.ret ?_
  change PW.Ends _ _ _ _ _ _
  refine PW.Ends.intro (.inr rfl) ?_
  simp only [go_sem, simprocAttr, sw0]
  obtain rfl := Option.some.inj H
  refine RetOK.data' 4 (by (refine okAll_intro ?_; (simp only [go_sem, sw2, scqW7, simprocAttr]; done))) ?_
  rfl

theorem ref06_Room_ok (N : Nat) (Zq : Int) (Zr : Int) (Zs : Int) (Zx : List Int) (l : List TB) (r : Int × Int × Int) (H : ref06_Room N Zq Zr Zs Zx l = some r) : CallOK Try.prog 39 [(.agg [(I Zq), (I Zr), (I Zs), (L Zx)]), (.list l.length (l.flatMap (fun (x : ByteArray × Int × Int × Int × Int × Int × Int × Int × Int) => [(Sx x.1), (I x.2.1), (I x.2.2.1), (I x.2.2.2.1), (I x.2.2.2.2.1), (I x.2.2.2.2.2.1), (I x.2.2.2.2.2.2.1), (I x.2.2.2.2.2.2.2.1), (I x.2.2.2.2.2.2.2.2)])))] (.d (.agg [(I r.1), (I r.2.1), (I r.2.2)])) [] := by
 refine CallOK.of_PW Try.func39 rfl (by rw [Try.results39]) Try.ntmps39 Try.call39 ?_
 change PW _ _ _ _ _
 try simp only [go_sem, simprocAttr]
 unfold ref06_Room at H
 refine PW.seq ?_
 refine PW.regionK fun K hK => OW.run [1, 2, 4] ?_
 simp only [go_sem, simprocAttr, sw0]
 refine OW.nil (hK _ ?_); clear hK K
 change PW _ _ _ _ _
 refine PW.seq ?_
 obtain ⟨⟨x1, x11, x12⟩, e1, H⟩ := bnd_some H
 refine PW.regionK fun K hK => OW.run [2, 4, 5] ?_
 simp only [go_sem, simprocAttr, sw0]
 refine OW.call' 4 rfl rfl rfl (by ((simp only [go_sem, List.toList_toArray, simprocAttr]); exact rfl)) ?_ (ref06_needs_ok N _ _ _ _ _ _ e1) ?_ ?_ ?_ ?_
 · rfl
 · (refine okAll_intro ?_; (simp only [go_sem, sw2, scqW7, simprocAttr]; done))
 · exact .inl rfl
 · (simp only [go_sem, Nat.reduceLT])
 refine OW.run [2, 4, 5] ?_
 simp only [go_sem, simprocAttr, sw0]
 refine OW.nil (hK _ ?_); clear hK K
 change PW _ _ _ _ _
 refine PW.seq ?_
 refine PW.regionK fun K hK => OW.run [4] ?_
 simp only [go_sem, simprocAttr, sw0]
 repeat (refine And.intro (by omega) ?_)
 refine OW.nil (hK _ ?_); clear hK K
 change PW _ _ _ _ _
 refine PW.ret ?_
 change PW.Ends _ _ _ _ _ _
 refine PW.Ends.intro (.inr rfl) ?_
 simp only [go_sem, simprocAttr, sw0]
 obtain rfl := Option.some.inj H
 refine RetOK.data' 4 (by exact okD_all rfl) ?_
 rfl
end Go.Proofs.Ytabojpkmfkjjkaa
