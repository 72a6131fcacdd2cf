import Derived.Test.YtabojpkmfkjjkaaSsBase
import Derived.Test.YtabojpkmfkjjkaaSsW0
import Derived.Test.YtabojpkmfkjjkaaSsW3
import Derived.Test.YtabojpkmfkjjkaaSsW4
import Derived.Test.YtabojpkmfkjjkaaSsW9
set_option linter.all false
namespace Go.Proofs.Ytabojpkmfkjjkaa
open Go.PW Go.Sh

set_option maxRecDepth 20000
set_option maxHeartbeats 8000000
theorem ref06_sum_ok (N : Nat) (l : List Int) (r : Int) (H : ref06_sum N l = some r) : CallOK Try.prog 123 [(L l)] (.d (I r)) [] := by
 refine CallOK.of_PW Try.func123 rfl (by rw [Try.results123]) Try.ntmps123 Try.call123 ?_
 change PW _ _ _ _ _
 try simp only [go_sem, simprocAttr]
 unfold ref06_sum at H
 refine PW.seq ?_
 refine PW.regionK fun K hK => OW.run [0] ?_
 simp only [go_sem, simprocAttr, sw0]
 refine OW.nil (hK _ ?_); clear hK K
 change PW _ _ _ _ _
 refine PW.seq ?_
 refine PW.regionK fun K hK => OW.run [0, 3] ?_
 simp only [go_sem, simprocAttr, sw0]
 refine OW.nil (hK _ ?_); clear hK K
 change PW _ _ _ _ _
 refine PW.joinS (τ := Int) [3] 0 (fun n => [(3, .d (I n))]) (fun n => []) _ _ r (by exact Nat.le_refl _) H ?_ ?_
 ·
  intro K_ H N1 hN1
  refine PW.seq ?_
  refine PW.regionK fun K hK => OW.run [0, 3, 4] ?_
  simp only [go_sem, simprocAttr, sw0]
  refine OW.nil (hK _ ?_); clear hK K
  change PW _ _ _ _ _
  refine PW.block ?_
  refine PW.loopS (σ := Int × Int) [0, 3, 4] 0 (fun (n1, i) => [(3, .d (I n1)), (4, .d (I i))]) (fun (n1, i) => []) (ref06_sum.b1 N l K_) r N ((0 : Int), (0 : Int)) (by exact Nat.le_refl _) H (by (simp only [Env.frzL, Env.frz, frzOb, V.frz, V.frz.frzs, asD, map_asD, sw1, go_sem, simprocAttr]; done)) ?_
  rintro n ⟨n1, i⟩ H N2 hN2
  unfold ref06_sum.b1 at H
  try simp only [go_sem, simprocAttr]
  refine PW.seq ?_
  refine PW.seq ?_
  refine PW.regionK fun K hK => OW.run [0, 3, 4, 8] ?_
  simp only [go_sem, simprocAttr, sw0]
  refine OW.nil (hK _ ?_); clear hK K
  change PW _ _ _ _ _
  refine PW.cond rfl (fun h3 => ?_) (fun h3 => ?_)
  ·
   replace H := br_t h3 H
   refine PW.skip ?_
   change PW _ _ _ _ _
   refine PW.seq ?_
   refine PW.block ?_
   obtain ⟨c4, H⟩ := chk_some H
   refine PW.regionK fun K hK => OW.run [0, 3, 4] ?_
   simp only [go_sem, simprocAttr, sw0]
   repeat (refine And.intro (by omega) ?_)
   refine OW.nil (hK _ ?_); clear hK K
   change PW _ _ _ _ _
   refine PW.regionK fun K hK => OW.run [0, 3, 4] ?_
   simp only [go_sem, simprocAttr, sw0]
   refine OW.nil (hK _ ?_); clear hK K
   refine hN2 [] (w64 (n1 + (l.getD i.toNat 0)), w64 (i + (1 : Int))) _ H (by exact trivial) ?_
   (simp only [Env.frzL, Env.frz, frzOb, V.frz, V.frz.frzs, asD, map_asD, sw1, go_sem, simprocAttr]; done)
  ·
   replace H := br_f h3 H
   refine PW.exit ?_
   refine hN1 [] n1 _ H (by exact trivial) ?_
   (simp only [Env.frzL, Env.frz, frzOb, V.frz, V.frz.frzs, asD, map_asD, sw1, go_sem, simprocAttr]; done)
 ·
  rintro n H
  try simp only [go_sem, simprocAttr]
  refine PW.seq ?_
  refine PW.regionK fun K hK => OW.run [2] ?_
  simp only [go_sem, simprocAttr, sw0]
  refine OW.nil (hK _ ?_); clear hK K
  change PW _ _ _ _ _
  refine PW.ret ?_
  change PW.Ends _ _ _ _ _ _
  refine PW.Ends.intro (.inr rfl) ?_
  simp only [go_sem, simprocAttr, sw0]
  obtain rfl := Option.some.inj H
  refine RetOK.data' 4 (by exact trivial) ?_
  rfl

theorem sched_CheckBound_1_ok (N : Nat) (n : Int) (r : Bool) (H : sched_CheckBound_1 N n = some r) : CallOK Try.prog 125 [(I n)] (.d (Bo r)) [] := by
 refine CallOK.of_PW Try.func125 rfl (by rw [Try.results125]) Try.ntmps125 Try.call125 ?_
 change PW _ _ _ _ _
 try simp only [go_sem, simprocAttr]
 unfold sched_CheckBound_1 at H
 refine PW.seq ?_
 refine PW.regionK fun K hK => OW.run [0] ?_
 simp only [go_sem, simprocAttr, sw0]
 refine OW.nil (hK _ ?_); clear hK K
 change PW _ _ _ _ _
 refine PW.seq ?_
 obtain ⟨x1, e1, H⟩ := bnd_some H
 refine PW.regionK fun K hK => OW.run [2] ?_
 simp only [go_sem, simprocAttr, sw0]
 refine OW.call' 4 rfl rfl rfl (by ((simp only [go_sem, List.toList_toArray, simprocAttr]); exact rfl)) ?_ (sched_within_ok N _ _ _ _ e1) ?_ ?_ ?_ ?_
 · rfl
 · exact okD_all rfl
 · exact .inl rfl
 · (simp only [go_sem, Nat.reduceLT])
 refine OW.run [2] ?_
 simp only [go_sem, simprocAttr, sw0]
 refine OW.nil (hK _ ?_); clear hK K
 change PW _ _ _ _ _
 refine PW.ret ?_
 change PW.Ends _ _ _ _ _ _
 refine PW.Ends.intro (.inr rfl) ?_
 simp only [go_sem, simprocAttr, sw0]
 obtain rfl := Option.some.inj H
 refine RetOK.data' 4 (by exact trivial) ?_
 rfl

theorem sched_CheckBound_ok (N : Nat) (r_ : List (List Int)) (weights : List Int) (r : Int × Int × Int) (H : sched_CheckBound N r_ weights = some r) : CallOK Try.prog 61 [(.list r_.length (r_.map L)), (L weights)] (.d (.tup [(.agg [(I r.1), (I r.2.1)]), (I r.2.2)])) [] := by
 refine CallOK.of_PW Try.func61 rfl (by rw [Try.results61]) Try.ntmps61 Try.call61 ?_
 change PW _ _ _ _ _
 try simp only [go_sem, simprocAttr]
 unfold sched_CheckBound at H
 refine PW.seq ?_
 refine PW.regionK fun K hK => OW.run [0, 1, 4] ?_
 simp only [go_sem, simprocAttr, sw0]
 refine OW.nil (hK _ ?_); clear hK K
 change PW _ _ _ _ _
 refine PW.seq ?_
 obtain ⟨x1, e1, H⟩ := bnd_some H
 refine PW.regionK fun K hK => OW.run [0, 1, 4, 6] ?_
 simp only [go_sem, simprocAttr, sw0]
 refine OW.call' 4 rfl rfl rfl (by ((simp only [go_sem, List.toList_toArray, simprocAttr]); exact rfl)) ?_ (slices_ContainsFunc_ii_ok N _ 125 [] (fun y0 => sched_CheckBound_1 N y0) (fun y0 r h => sched_CheckBound_1_ok N y0 r h) _ e1) ?_ ?_ ?_ ?_
 · rfl
 · exact okD_all rfl
 · exact .inl rfl
 · (simp only [go_sem, Nat.reduceLT])
 refine OW.run [0, 1, 4, 6] ?_
 simp only [go_sem, simprocAttr, sw0]
 refine OW.nil (hK _ ?_); clear hK K
 change PW _ _ _ _ _
 refine PW.seq ?_
 obtain ⟨x2, e2, H⟩ := bnd_some H
 refine PW.regionK fun K hK => OW.run [0, 1, 4, 6, 7] ?_
 simp only [go_sem, simprocAttr, sw0]
 refine OW.call' 4 rfl rfl rfl (by ((simp only [go_sem, List.toList_toArray, simprocAttr]); exact rfl)) ?_ (sched_caseErr_ok N _ _ e2) ?_ ?_ ?_ ?_
 · rfl
 · exact okD_all rfl
 · exact .inl rfl
 · (simp only [go_sem, Nat.reduceLT])
 refine OW.run [0, 1, 4, 6, 7] ?_
 simp only [go_sem, simprocAttr, sw0]
 refine OW.nil (hK _ ?_); clear hK K
 change PW _ _ _ _ _
 refine PW.joinS (τ := Int) [0, 1, 4, 7] 1 (fun e => [(7, .d (I e))]) (fun e => [{ cells := [.d (I (0 : Int)), .d (I (0 : Int))], e := 86 }]) _ _ r (by exact Nat.zero_le _) H ?_ ?_
 ·
  intro K_ H N1 hN1
  refine PW.seq ?_
  refine PW.regionK fun K hK => OW.run [0, 1, 4, 6, 7, 23] ?_
  simp only [go_sem, simprocAttr, sw0]
  refine OW.nil (hK _ ?_); clear hK K
  change PW _ _ _ _ _
  refine PW.cond rfl (fun h2 => ?_) (fun h2 => ?_)
  ·
   replace H := br_t h2 H
   obtain ⟨c3, H⟩ := chk_some H
   obtain ⟨x3, e3, H⟩ := bnd_some H
   obtain ⟨x4, e4, H⟩ := bnd_some H
   obtain ⟨x5, e5, H⟩ := bnd_some H
   refine PW.regionK fun K hK => OW.run [0, 1, 4, 7] ?_
   (simp only [go_sem, simprocAttr, sw0, getD_mapF L r_ 0 default (by omega)])
   repeat (refine And.intro (by omega) ?_)
   refine OW.call' 4 rfl rfl rfl (by ((simp only [go_sem, List.toList_toArray, simprocAttr]); exact rfl)) ?_ (sched_unless_ok N _ _ _ e3) ?_ ?_ ?_ ?_
   · rfl
   · exact okD_all rfl
   · exact .inl rfl
   · (simp only [go_sem, Nat.reduceLT])
   refine OW.run [0, 1, 4, 7] ?_
   (simp only [go_sem, simprocAttr, sw0, getD_mapF L r_ 0 default (by omega)])
   refine OW.call' 4 rfl rfl rfl (by ((simp only [go_sem, List.toList_toArray, simprocAttr]); exact rfl)) ?_ (sched_unless_ok N _ _ _ e4) ?_ ?_ ?_ ?_
   · rfl
   · exact okD_all rfl
   · exact .inl rfl
   · (simp only [go_sem, Nat.reduceLT])
   refine OW.run [0, 1, 4, 7] ?_
   (simp only [go_sem, simprocAttr, sw0, getD_mapF L r_ 0 default (by omega)])
   refine OW.call' 4 rfl rfl rfl (by ((simp only [go_sem, List.toList_toArray, simprocAttr]); exact rfl)) ?_ (sched_first_ok N _ _ e5) ?_ ?_ ?_ ?_
   · rfl
   · (refine okAll_intro ?_; (simp only [go_sem, sw2, List.length_set, List.length_replicate, and_true, true_and, Nat.le_refl, simprocAttr]; simp only [seg, go_sem, sw2, List.length_set, List.length_replicate, and_true, true_and, Nat.le_refl, simprocAttr]; done))
   · exact .inr ⟨rfl, rfl⟩
   · (simp only [go_sem, Nat.reduceLT])
   refine OW.run [0, 1, 4, 7] ?_
   (simp only [go_sem, simprocAttr, sw0, getD_mapF L r_ 0 default (by omega)])
   refine OW.nil (hK _ ?_); clear hK K
   refine hN1 [] x5 _ H (by exact trivial) ?_
   (simp only [Env.frzL, Env.frz, frzOb, V.frz, V.frz.frzs, asD, map_asD, sw1, go_sem, simprocAttr]; done)
  ·
   replace H := br_f h2 H
   refine PW.skip ?_
   refine hN1 [] x2 _ H (by exact trivial) ?_
   (simp only [Env.frzL, Env.frz, frzOb, V.frz, V.frz.frzs, asD, map_asD, sw1, go_sem, simprocAttr]; done)
 ·
  rintro e H
  try simp only [go_sem, simprocAttr]
  refine PW.seq ?_
  refine PW.seq ?_
  refine PW.regionK fun K hK => OW.run [0, 1, 4, 7, 38] ?_
  simp only [go_sem, simprocAttr, sw0]
  refine OW.nil (hK _ ?_); clear hK K
  change PW _ _ _ _ _
  refine PW.cond rfl (fun h4 => ?_) (fun h4 => ?_)
  ·
   replace H := br_t h4 H
   refine PW.seq ?_
   refine PW.regionK fun K hK => OW.run [4, 5] ?_
   simp only [go_sem, simprocAttr, sw0]
   refine OW.nil (hK _ ?_); clear hK K
   change PW _ _ _ _ _
   refine PW.ret ?_
   change PW.Ends _ _ _ _ _ _
   refine PW.Ends.intro (.inr rfl) ?_
   simp only [go_sem, simprocAttr, sw0]
   obtain rfl := Option.some.inj H
   refine RetOK.data' 4 (by (refine okAll_intro ?_; (simp only [go_sem, sw2, List.length_set, List.length_replicate, and_true, true_and, Nat.le_refl, simprocAttr]; done))) ?_
   rfl
  ·
   replace H := br_f h4 H
   refine PW.skip ?_
   change PW _ _ _ _ _
   refine PW.seq ?_
   refine PW.regionK fun K hK => OW.run [0, 1, 4, 8, 9] ?_
   simp only [go_sem, simprocAttr, sw0]
   refine OW.nil (hK _ ?_); clear hK K
   change PW _ _ _ _ _
   refine PW.joinS (τ := Int) [0, 1, 4, 8, 9] 1 (fun den => [(9, .d (I den))]) (fun den => [{ cells := [.d (I (0 : Int)), .d (I (0 : Int))], e := 86 }]) _ _ r (by exact Nat.zero_le _) H ?_ ?_
   ·
    intro K_1 H N5 hN5
    refine PW.seq ?_
    refine PW.regionK fun K hK => OW.run [0, 1, 4, 8, 9, 41, 42, 43] ?_
    simp only [go_sem, simprocAttr, sw0]
    refine OW.nil (hK _ ?_); clear hK K
    change PW _ _ _ _ _
    refine PW.block ?_
    refine PW.loopS (σ := Int × Int) [0, 1, 4, 8, 9, 41, 42, 43] 1 (fun (den1, t43) => [(9, .d (I den1)), (43, .d (I t43))]) (fun (den1, t43) => [{ cells := [.d (I (0 : Int)), .d (I (0 : Int))], e := 86 }]) (sched_CheckBound.b1 N weights K_1) r N ((0 : Int), (0 : Int)) (by exact Nat.zero_le _) H (by (simp only [Env.frzL, Env.frz, frzOb, V.frz, V.frz.frzs, asD, map_asD, sw1, go_sem, simprocAttr]; done)) ?_
    rintro n ⟨den1, t43⟩ H N6 hN6
    unfold sched_CheckBound.b1 at H
    try simp only [go_sem, simprocAttr]
    refine PW.seq ?_
    refine PW.regionK fun K hK => OW.run [0, 1, 4, 8, 9, 41, 42, 43, 44] ?_
    simp only [go_sem, simprocAttr, sw0]
    refine OW.nil (hK _ ?_); clear hK K
    change PW _ _ _ _ _
    refine PW.seq ?_
    refine PW.cond rfl (fun h7 => ?_) (fun h7 => ?_)
    ·
     replace H := br_t h7 H
     refine PW.skip ?_
     change PW _ _ _ _ _
     refine PW.seq ?_
     refine PW.block ?_
     refine PW.seq ?_
     obtain ⟨c8, H⟩ := chk_some H
     refine PW.regionK fun K hK => OW.run [0, 1, 4, 8, 9, 11, 41, 42, 43] ?_
     simp only [go_sem, simprocAttr, sw0]
     repeat (refine And.intro (by omega) ?_)
     refine OW.nil (hK _ ?_); clear hK K
     change PW _ _ _ _ _
     refine PW.regionK fun K hK => OW.run [0, 1, 4, 8, 9, 41, 42, 43] ?_
     simp only [go_sem, simprocAttr, sw0]
     refine OW.nil (hK _ ?_); clear hK K
     change PW _ _ _ _ _
     refine PW.regionK fun K hK => OW.run [0, 1, 4, 8, 9, 41, 42, 43] ?_
     simp only [go_sem, simprocAttr, sw0]
     refine OW.nil (hK _ ?_); clear hK K
     refine hN6 [] (w64 (den1 + (weights.getD t43.toNat 0)), w64 (t43 + (1 : Int))) _ H (by exact trivial) ?_
     (simp only [Env.frzL, Env.frz, frzOb, V.frz, V.frz.frzs, asD, map_asD, sw1, go_sem, simprocAttr]; done)
    ·
     replace H := br_f h7 H
     refine PW.exit ?_
     refine hN5 [] den1 _ H (by exact trivial) ?_
     (simp only [Env.frzL, Env.frz, frzOb, V.frz, V.frz.frzs, asD, map_asD, sw1, go_sem, simprocAttr]; done)
   ·
    rintro den H
    try simp only [go_sem, simprocAttr]
    refine PW.seq ?_
    refine PW.seq ?_
    refine PW.regionK fun K hK => OW.run [0, 1, 4, 8, 9, 52] ?_
    simp only [go_sem, simprocAttr, sw0]
    refine OW.nil (hK _ ?_); clear hK K
    change PW _ _ _ _ _
    refine PW.cond rfl (fun h9 => ?_) (fun h9 => ?_)
    ·
     replace H := br_t h9 H
     refine PW.seq ?_
     refine PW.regionK fun K hK => OW.run [4, 5] ?_
     simp only [go_sem, simprocAttr, sw0]
     refine OW.nil (hK _ ?_); clear hK K
     change PW _ _ _ _ _
     refine PW.ret ?_
     change PW.Ends _ _ _ _ _ _
     refine PW.Ends.intro (.inr rfl) ?_
     simp only [go_sem, simprocAttr, sw0]
     obtain rfl := Option.some.inj H
     refine RetOK.data' 4 (by (refine okAll_intro ?_; (simp only [go_sem, sw2, List.length_set, List.length_replicate, and_true, true_and, Nat.le_refl, simprocAttr]; done))) ?_
     rfl
    ·
     replace H := br_f h9 H
     refine PW.skip ?_
     change PW _ _ _ _ _
     refine PW.joinS (τ := Int) [4, 8, 9] 1 (fun num => [(8, .d (I num))]) (fun num => [{ cells := [.d (I (0 : Int)), .d (I (0 : Int))], e := 86 }]) _ _ r (by exact Nat.zero_le _) H ?_ ?_
     ·
      intro K_2 H N10 hN10
      refine PW.seq ?_
      refine PW.regionK fun K hK => OW.run [1, 4, 8, 9, 54, 55, 56] ?_
      simp only [go_sem, simprocAttr, sw0]
      refine OW.nil (hK _ ?_); clear hK K
      change PW _ _ _ _ _
      refine PW.block ?_
      refine PW.loopS (σ := Int × Int) [1, 4, 8, 9, 54, 55, 56] 1 (fun (num1, t56) => [(8, .d (I num1)), (56, .d (I t56))]) (fun (num1, t56) => [{ cells := [.d (I (0 : Int)), .d (I (0 : Int))], e := 86 }]) (sched_CheckBound.b2 N r_ weights K_2) r N ((0 : Int), (0 : Int)) (by exact Nat.zero_le _) H (by (simp only [Env.frzL, Env.frz, frzOb, V.frz, V.frz.frzs, asD, map_asD, sw1, go_sem, simprocAttr]; done)) ?_
      rintro n ⟨num1, t56⟩ H N11 hN11
      unfold sched_CheckBound.b2 at H
      try simp only [go_sem, simprocAttr]
      refine PW.seq ?_
      refine PW.regionK fun K hK => OW.run [1, 4, 8, 9, 54, 55, 56, 57] ?_
      simp only [go_sem, simprocAttr, sw0]
      refine OW.nil (hK _ ?_); clear hK K
      change PW _ _ _ _ _
      refine PW.seq ?_
      refine PW.cond rfl (fun h12 => ?_) (fun h12 => ?_)
      ·
       replace H := br_t h12 H
       refine PW.skip ?_
       change PW _ _ _ _ _
       refine PW.joinS (τ := Int) [1, 4, 8, 9, 54, 55, 56] 1 (fun num2 => [(8, .d (I num2))]) (fun num2 => [{ cells := [.d (I (0 : Int)), .d (I (0 : Int))], e := 86 }]) _ _ r (by exact Nat.zero_le _) H ?_ ?_
       ·
        intro K_3 H N13 hN13
        refine PW.block ?_
        refine PW.seq ?_
        obtain ⟨c14, H⟩ := chk_some H
        refine PW.regionK fun K hK => OW.run [1, 4, 8, 9, 13, 54, 55, 56] ?_
        (simp only [go_sem, simprocAttr, sw0, getD_mapF L r_ t56.toNat default (by omega)])
        repeat (refine And.intro (by omega) ?_)
        refine OW.nil (hK _ ?_); clear hK K
        change PW _ _ _ _ _
        refine PW.seq ?_
        refine PW.regionK fun K hK => OW.run [1, 4, 8, 9, 13, 14, 54, 55, 56] ?_
        simp only [go_sem, simprocAttr, sw0]
        refine OW.nil (hK _ ?_); clear hK K
        change PW _ _ _ _ _
        refine PW.joinS (τ := Int) [1, 4, 8, 9, 14, 54, 55, 56] 1 (fun most => [(14, .d (I most))]) (fun most => [{ cells := [.d (I (0 : Int)), .d (I (0 : Int))], e := 86 }]) _ _ r (by exact Nat.zero_le _) H ?_ ?_
        ·
         intro K_4 H N15 hN15
         refine PW.seq ?_
         refine PW.regionK fun K hK => OW.run [1, 4, 8, 9, 14, 54, 55, 56, 60, 61, 62] ?_
         simp only [go_sem, simprocAttr, sw0]
         refine OW.nil (hK _ ?_); clear hK K
         change PW _ _ _ _ _
         refine PW.block ?_
         refine PW.loopS (σ := Int × Int) [1, 4, 8, 9, 14, 54, 55, 56, 60, 61, 62] 1 (fun (most1, t62) => [(14, .d (I most1)), (62, .d (I t62))]) (fun (most1, t62) => [{ cells := [.d (I (0 : Int)), .d (I (0 : Int))], e := 86 }]) (sched_CheckBound.b3 N r_ weights t56 K_4) r N ((0 : Int), (0 : Int)) (by exact Nat.zero_le _) H (by (simp only [Env.frzL, Env.frz, frzOb, V.frz, V.frz.frzs, asD, map_asD, sw1, go_sem, simprocAttr]; done)) ?_
         rintro n ⟨most1, t62⟩ H N16 hN16
         unfold sched_CheckBound.b3 at H
         try simp only [go_sem, simprocAttr]
         refine PW.seq ?_
         refine PW.regionK fun K hK => OW.run [1, 4, 8, 9, 14, 54, 55, 56, 60, 61, 62, 63] ?_
         simp only [go_sem, simprocAttr, sw0]
         refine OW.nil (hK _ ?_); clear hK K
         change PW _ _ _ _ _
         refine PW.seq ?_
         refine PW.cond rfl (fun h17 => ?_) (fun h17 => ?_)
         ·
          replace H := br_t h17 H
          refine PW.skip ?_
          change PW _ _ _ _ _
          refine PW.seq ?_
          refine PW.block ?_
          refine PW.seq ?_
          obtain ⟨c18, H⟩ := chk_some H
          refine PW.regionK fun K hK => OW.run [1, 4, 8, 9, 14, 15, 16, 54, 55, 56, 60, 61, 62] ?_
          simp only [go_sem, simprocAttr, sw0]
          repeat (refine And.intro (by omega) ?_)
          refine OW.nil (hK _ ?_); clear hK K
          change PW _ _ _ _ _
          obtain ⟨c19, H⟩ := chk_some H
          refine PW.regionK fun K hK => OW.run [1, 4, 8, 9, 14, 54, 55, 56, 60, 61, 62] ?_
          simp only [go_sem, simprocAttr, sw0]
          repeat (refine And.intro (by omega) ?_)
          refine OW.nil (hK _ ?_); clear hK K
          change PW _ _ _ _ _
          refine PW.regionK fun K hK => OW.run [1, 4, 8, 9, 14, 54, 55, 56, 60, 61, 62] ?_
          simp only [go_sem, simprocAttr, sw0]
          refine OW.nil (hK _ ?_); clear hK K
          refine hN16 [] ((if most1 < w64 ((weights.getD t62.toNat 0) * ((r_.getD t56.toNat default).getD t62.toNat 0)) then w64 ((weights.getD t62.toNat 0) * ((r_.getD t56.toNat default).getD t62.toNat 0)) else most1), w64 (t62 + (1 : Int))) _ H (by exact trivial) ?_
          (simp only [Env.frzL, Env.frz, frzOb, V.frz, V.frz.frzs, asD, map_asD, sw1, go_sem, simprocAttr]; done)
         ·
          replace H := br_f h17 H
          refine PW.exit ?_
          refine hN15 [] most1 _ H (by exact trivial) ?_
          (simp only [Env.frzL, Env.frz, frzOb, V.frz, V.frz.frzs, asD, map_asD, sw1, go_sem, simprocAttr]; done)
        ·
         rintro most H
         try simp only [go_sem, simprocAttr]
         refine PW.regionK fun K hK => OW.run [1, 4, 8, 9, 54, 55, 56] ?_
         simp only [go_sem, simprocAttr, sw0]
         refine OW.nil (hK _ ?_); clear hK K
         refine hN13 [] (w64 (num1 + most)) _ H (by exact trivial) ?_
         (simp only [Env.frzL, Env.frz, frzOb, V.frz, V.frz.frzs, asD, map_asD, sw1, go_sem, simprocAttr]; done)
       ·
        rintro num2 H
        try simp only [go_sem, simprocAttr]
        refine PW.regionK fun K hK => OW.run [1, 4, 8, 9, 54, 55, 56] ?_
        simp only [go_sem, simprocAttr, sw0]
        refine OW.nil (hK _ ?_); clear hK K
        refine hN11 [] (num2, w64 (t56 + (1 : Int))) _ H (by exact trivial) ?_
        (simp only [Env.frzL, Env.frz, frzOb, V.frz, V.frz.frzs, asD, map_asD, sw1, go_sem, simprocAttr]; done)
      ·
       replace H := br_f h12 H
       refine PW.exit ?_
       refine hN10 [] num1 _ H (by exact trivial) ?_
       (simp only [Env.frzL, Env.frz, frzOb, V.frz, V.frz.frzs, asD, map_asD, sw1, go_sem, simprocAttr]; done)
     ·
      rintro num H
      try simp only [go_sem, simprocAttr]
      refine PW.seq ?_
      obtain ⟨x6, e6, H⟩ := bnd_some H
      refine PW.regionK fun K hK => OW.run [4, 8, 9, 17] ?_
      simp only [go_sem, simprocAttr, sw0]
      refine OW.call' 4 rfl rfl rfl (by ((simp only [go_sem, List.toList_toArray, simprocAttr]); exact rfl)) ?_ (sched_divisor_ok N _ _ e6) ?_ ?_ ?_ ?_
      · rfl
      · (refine okAll_intro ?_; (simp only [go_sem, sw2, List.length_set, List.length_replicate, and_true, true_and, Nat.le_refl, simprocAttr]; simp only [seg, go_sem, sw2, List.length_set, List.length_replicate, and_true, true_and, Nat.le_refl, simprocAttr]; done))
      · exact .inr ⟨rfl, rfl⟩
      · (simp only [go_sem, Nat.reduceLT])
      refine OW.run [4, 8, 9, 17] ?_
      simp only [go_sem, simprocAttr, sw0]
      refine OW.nil (hK _ ?_); clear hK K
      change PW _ _ _ _ _
      refine PW.seq ?_
      obtain ⟨c20, H⟩ := chk_some H
      obtain ⟨c21, H⟩ := chk_some H
      refine PW.drawK 6 mixed (by kernel_rfl) fun K hK => ?_
      change FW _ _ _ _ _
      refine FW.run ?_
      simp only [go_sem, simprocAttr, sw0]
      repeat (refine And.intro (by omega) ?_)
      refine FW.nil ?_
      change OW _ _ _ _ _ _
      refine OW.run [4, 5] ?_
      simp only [go_sem, simprocAttr, sw0]
      refine OW.nil (hK _ ?_); clear hK K
      change PW _ _ _ _ _
      refine PW.ret ?_
      change PW.Ends _ _ _ _ _ _
      refine PW.Ends.intro (.inr rfl) ?_
      simp only [go_sem, simprocAttr, sw0]
      obtain rfl := Option.some.inj H
      refine RetOK.data' 4 (by (refine okAll_intro ?_; (simp only [go_sem, sw2, List.length_set, List.length_replicate, and_true, true_and, Nat.le_refl, simprocAttr]; done))) ?_
      rfl

theorem ref06_WeightsErr_ok (N : Nat) (r_ : List (List Int)) (weights : List Int) (r : Int) (H : ref06_WeightsErr N r_ weights = some r) : CallOK Try.prog 62 [(.list r_.length (r_.map L)), (L weights)] (.d (I r)) [] := by
 refine CallOK.of_PW Try.func62 rfl (by rw [Try.results62]) Try.ntmps62 Try.call62 ?_
 change PW _ _ _ _ _
 try simp only [go_sem, simprocAttr]
 unfold ref06_WeightsErr at H
 refine PW.seq ?_
 refine PW.regionK fun K hK => OW.run [0, 1] ?_
 simp only [go_sem, simprocAttr, sw0]
 refine OW.nil (hK _ ?_); clear hK K
 change PW _ _ _ _ _
 refine PW.seq ?_
 refine PW.seq ?_
 obtain ⟨c1, H⟩ := chk_some H
 refine PW.regionK fun K hK => OW.run [1, 12] ?_
 (simp only [go_sem, simprocAttr, sw0, getD_mapF L r_ 0 default (by omega)])
 repeat (refine And.intro (by omega) ?_)
 refine OW.nil (hK _ ?_); clear hK K
 change PW _ _ _ _ _
 refine PW.cond rfl (fun h2 => ?_) (fun h2 => ?_)
 ·
  replace H := br_t h2 H
  refine PW.seq ?_
  refine PW.regionK fun K hK => OW.run [4] ?_
  simp only [go_sem, simprocAttr, sw0]
  refine OW.nil (hK _ ?_); clear hK K
  change PW _ _ _ _ _
  refine PW.ret ?_
  change PW.Ends _ _ _ _ _ _
  refine PW.Ends.intro (.inr rfl) ?_
  simp only [go_sem, simprocAttr, sw0]
  obtain rfl := Option.some.inj H
  refine RetOK.data' 4 (by exact trivial) ?_
  rfl
 ·
  replace H := br_f h2 H
  refine PW.skip ?_
  change PW _ _ _ _ _
  refine PW.joinS (τ := Unit) [1] 0 (fun _ => []) (fun _ => []) _ _ r (by exact Nat.le_refl _) H ?_ ?_
  ·
   intro K_ H N3 hN3
   refine PW.seq ?_
   refine PW.regionK fun K hK => OW.run [1, 5] ?_
   simp only [go_sem, simprocAttr, sw0]
   refine OW.nil (hK _ ?_); clear hK K
   change PW _ _ _ _ _
   refine PW.block ?_
   refine PW.loopS (σ := Int) [1, 5] 0 (fun i => [(5, .d (I i))]) (fun i => []) (ref06_WeightsErr.b1 N weights K_) r N (0 : Int) (by exact Nat.le_refl _) H (by (simp only [Env.frzL, Env.frz, frzOb, V.frz, V.frz.frzs, asD, map_asD, sw1, go_sem, simprocAttr]; done)) ?_
   rintro n i H N4 hN4
   unfold ref06_WeightsErr.b1 at H
   try simp only [go_sem, simprocAttr]
   refine PW.seq ?_
   refine PW.seq ?_
   refine PW.regionK fun K hK => OW.run [1, 5, 16] ?_
   simp only [go_sem, simprocAttr, sw0]
   refine OW.nil (hK _ ?_); clear hK K
   change PW _ _ _ _ _
   refine PW.cond rfl (fun h5 => ?_) (fun h5 => ?_)
   ·
    replace H := br_t h5 H
    refine PW.skip ?_
    change PW _ _ _ _ _
    refine PW.seq ?_
    refine PW.block ?_
    refine PW.seq ?_
    obtain ⟨c6, H⟩ := chk_some H
    obtain ⟨x1, e1, H⟩ := bnd_some H
    refine PW.regionK fun K hK => OW.run [1, 5, 24] ?_
    simp only [go_sem, simprocAttr, sw0]
    repeat (refine And.intro (by omega) ?_)
    refine OW.call' 4 rfl rfl rfl (by ((simp only [go_sem, List.toList_toArray, simprocAttr]); exact rfl)) ?_ (base_Within_ok N _ _ _ _ e1) ?_ ?_ ?_ ?_
    · rfl
    · exact okD_all rfl
    · exact .inl rfl
    · (simp only [go_sem, Nat.reduceLT])
    refine OW.run [1, 5, 24] ?_
    simp only [go_sem, simprocAttr, sw0]
    refine OW.nil (hK _ ?_); clear hK K
    change PW _ _ _ _ _
    refine PW.cond rfl (fun h7 => ?_) (fun h7 => ?_)
    ·
     replace H := br_t h7 H
     refine PW.seq ?_
     refine PW.regionK fun K hK => OW.run [4] ?_
     simp only [go_sem, simprocAttr, sw0]
     refine OW.nil (hK _ ?_); clear hK K
     change PW _ _ _ _ _
     refine PW.ret ?_
     change PW.Ends _ _ _ _ _ _
     refine PW.Ends.intro (.inr rfl) ?_
     simp only [go_sem, simprocAttr, sw0]
     obtain rfl := Option.some.inj H
     refine RetOK.data' 4 (by exact trivial) ?_
     rfl
    ·
     replace H := br_f h7 H
     refine PW.skip ?_
     change PW _ _ _ _ _
     refine PW.regionK fun K hK => OW.run [1, 5] ?_
     simp only [go_sem, simprocAttr, sw0]
     refine OW.nil (hK _ ?_); clear hK K
     refine hN4 [] (w64 (i + (1 : Int))) _ H (by exact trivial) ?_
     (simp only [Env.frzL, Env.frz, frzOb, V.frz, V.frz.frzs, asD, map_asD, sw1, go_sem, simprocAttr]; done)
   ·
    replace H := br_f h5 H
    refine PW.exit ?_
    refine hN3 [] () _ H (by exact trivial) ?_
    (simp only [Env.frzL, Env.frz, frzOb, V.frz, V.frz.frzs, asD, map_asD, sw1, go_sem, simprocAttr]; done)
  ·
   rintro _ H
   try simp only [go_sem, simprocAttr]
   refine PW.seq ?_
   refine PW.seq ?_
   obtain ⟨x2, e2, H⟩ := bnd_some H
   refine PW.regionK fun K hK => OW.run [27] ?_
   simp only [go_sem, simprocAttr, sw0]
   refine OW.call' 4 rfl rfl rfl (by ((simp only [go_sem, List.toList_toArray, simprocAttr]); exact rfl)) ?_ (ref06_sum_ok N _ _ e2) ?_ ?_ ?_ ?_
   · rfl
   · exact okD_all rfl
   · exact .inl rfl
   · (simp only [go_sem, Nat.reduceLT])
   refine OW.run [27] ?_
   simp only [go_sem, simprocAttr, sw0]
   refine OW.nil (hK _ ?_); clear hK K
   change PW _ _ _ _ _
   refine PW.cond rfl (fun h8 => ?_) (fun h8 => ?_)
   ·
    replace H := br_t h8 H
    refine PW.seq ?_
    refine PW.regionK fun K hK => OW.run [4] ?_
    simp only [go_sem, simprocAttr, sw0]
    refine OW.nil (hK _ ?_); clear hK K
    change PW _ _ _ _ _
    refine PW.ret ?_
    change PW.Ends _ _ _ _ _ _
    refine PW.Ends.intro (.inr rfl) ?_
    simp only [go_sem, simprocAttr, sw0]
    obtain rfl := Option.some.inj H
    refine RetOK.data' 4 (by exact trivial) ?_
    rfl
   ·
    replace H := br_f h8 H
    refine PW.skip ?_
    change PW _ _ _ _ _
    refine PW.seq ?_
    refine PW.regionK fun K hK => OW.run [4] ?_
    simp only [go_sem, simprocAttr, sw0]
    refine OW.nil (hK _ ?_); clear hK K
    change PW _ _ _ _ _
    refine PW.ret ?_
    change PW.Ends _ _ _ _ _ _
    refine PW.Ends.intro (.inr rfl) ?_
    simp only [go_sem, simprocAttr, sw0]
    obtain rfl := Option.some.inj H
    refine RetOK.data' 4 (by exact trivial) ?_
    rfl

theorem base_Size_ok (N : Nat) (n : Int) (r : Int) (H : base_Size N n = some r) : CallOK Try.prog 148 [(I n)] (.d (I r)) [] := by
 refine CallOK.of_PW Try.func148 rfl (by rw [Try.results148]) Try.ntmps148 Try.call148 ?_
 change PW _ _ _ _ _
 try simp only [go_sem, simprocAttr]
 unfold base_Size at H
 refine PW.seq ?_
 refine PW.regionK fun K hK => OW.run [0] ?_
 simp only [go_sem, simprocAttr, sw0]
 refine OW.nil (hK _ ?_); clear hK K
 change PW _ _ _ _ _
 refine PW.seq ?_
 refine PW.regionK fun K hK => OW.run [2] ?_
 simp only [go_sem, simprocAttr, sw0]
 refine OW.nil (hK _ ?_); clear hK K
 change PW _ _ _ _ _
 refine PW.ret ?_
 change PW.Ends _ _ _ _ _ _
 refine PW.Ends.intro (.inr rfl) ?_
 simp only [go_sem, simprocAttr, sw0]
 obtain rfl := Option.some.inj H
 refine RetOK.data' 4 (by exact trivial) ?_
 rfl

theorem base_Gcd_ok (N : Nat) (a : Int) (b : Int) (r : Int) (H : base_Gcd N a b = some r) : CallOK Try.prog 127 [(I a), (I b)] (.d (I r)) [] := by
 refine CallOK.of_PW Try.func127 rfl (by rw [Try.results127]) Try.ntmps127 Try.call127 ?_
 change PW _ _ _ _ _
 try simp only [go_sem, simprocAttr]
 unfold base_Gcd at H
 refine PW.seq ?_
 refine PW.regionK fun K hK => OW.run [0, 1] ?_
 simp only [go_sem, simprocAttr, sw0]
 refine OW.nil (hK _ ?_); clear hK K
 change PW _ _ _ _ _
 refine PW.joinS (τ := Int) [0] 0 (fun a1 => [(0, .d (I a1))]) (fun a1 => []) _ _ r (by exact Nat.le_refl _) H ?_ ?_
 ·
  intro K_ H N1 hN1
  refine PW.block ?_
  refine PW.loopS (σ := Int × Int) [0, 1] 0 (fun (a2, b1) => [(0, .d (I a2)), (1, .d (I b1))]) (fun (a2, b1) => []) (base_Gcd.b1 N K_) r N (a, b) (by exact Nat.le_refl _) H (by (simp only [Env.frzL, Env.frz, frzOb, V.frz, V.frz.frzs, asD, map_asD, sw1, go_sem, simprocAttr]; done)) ?_
  rintro n ⟨a2, b1⟩ H N2 hN2
  unfold base_Gcd.b1 at H
  try simp only [go_sem, simprocAttr]
  refine PW.seq ?_
  refine PW.seq ?_
  refine PW.regionK fun K hK => OW.run [0, 1, 6] ?_
  simp only [go_sem, simprocAttr, sw0]
  refine OW.nil (hK _ ?_); clear hK K
  change PW _ _ _ _ _
  refine PW.cond rfl (fun h3 => ?_) (fun h3 => ?_)
  ·
   replace H := br_t h3 H
   refine PW.skip ?_
   change PW _ _ _ _ _
   refine PW.block ?_
   obtain ⟨c4, H⟩ := chk_some H
   refine PW.drawK 5 mixed (by kernel_rfl) fun K hK => ?_
   change FW _ _ _ _ _
   refine FW.run ?_
   simp only [go_sem, simprocAttr, sw0]
   repeat (refine And.intro (by omega) ?_)
   refine FW.nil ?_
   change OW _ _ _ _ _ _
   refine OW.run [0, 1] ?_
   simp only [go_sem, simprocAttr, sw0]
   refine OW.nil (hK _ ?_); clear hK K
   refine hN2 [] (b1, a2.tmod b1) _ H (by exact trivial) ?_
   (simp only [Env.frzL, Env.frz, frzOb, V.frz, V.frz.frzs, asD, map_asD, sw1, go_sem, simprocAttr]; done)
  ·
   replace H := br_f h3 H
   refine PW.exit ?_
   refine hN1 [] a2 _ H (by exact trivial) ?_
   (simp only [Env.frzL, Env.frz, frzOb, V.frz, V.frz.frzs, asD, map_asD, sw1, go_sem, simprocAttr]; done)
 ·
  rintro a1 H
  try simp only [go_sem, simprocAttr]
  refine PW.seq ?_
  obtain ⟨x1, e1, H⟩ := bnd_some H
  refine PW.regionK fun K hK => OW.run [4] ?_
  simp only [go_sem, simprocAttr, sw0]
  refine OW.call' 4 rfl rfl rfl (by ((simp only [go_sem, List.toList_toArray, simprocAttr]); exact rfl)) ?_ (base_Size_ok N _ _ e1) ?_ ?_ ?_ ?_
  · rfl
  · exact okD_all rfl
  · exact .inl rfl
  · (simp only [go_sem, Nat.reduceLT])
  refine OW.run [4] ?_
  simp only [go_sem, simprocAttr, sw0]
  refine OW.nil (hK _ ?_); clear hK K
  change PW _ _ _ _ _
  refine PW.ret ?_
  change PW.Ends _ _ _ _ _ _
  refine PW.Ends.intro (.inr rfl) ?_
  simp only [go_sem, simprocAttr, sw0]
  obtain rfl := Option.some.inj H
  refine RetOK.data' 4 (by exact trivial) ?_
  rfl

theorem ref06_Bound_ok (N : Nat) (r_ : List (List Int)) (weights : List Int) (r : Int × Int) (H : ref06_Bound N r_ weights = some r) : CallOK Try.prog 63 [(.list r_.length (r_.map L)), (L weights)] (.d (.agg [(I r.1), (I r.2)])) [] := by
 refine CallOK.of_PW Try.func63 rfl (by rw [Try.results63]) Try.ntmps63 Try.call63 ?_
 change PW _ _ _ _ _
 try simp only [go_sem, simprocAttr]
 unfold ref06_Bound at H
 refine PW.seq ?_
 refine PW.regionK fun K hK => OW.run [0, 1, 4] ?_
 simp only [go_sem, simprocAttr, sw0]
 refine OW.nil (hK _ ?_); clear hK K
 change PW _ _ _ _ _
 refine PW.seq ?_
 refine PW.regionK fun K hK => OW.run [0, 1, 4, 5] ?_
 simp only [go_sem, simprocAttr, sw0]
 refine OW.nil (hK _ ?_); clear hK K
 change PW _ _ _ _ _
 refine PW.joinS (τ := Int) [1, 4, 5] 1 (fun num => [(5, .d (I num))]) (fun num => [{ cells := [.d (I (0 : Int)), .d (I (0 : Int))], e := 86 }]) _ _ r (by exact Nat.zero_le _) H ?_ ?_
 ·
  intro K_ H N1 hN1
  refine PW.seq ?_
  refine PW.regionK fun K hK => OW.run [0, 1, 4, 5, 6] ?_
  simp only [go_sem, simprocAttr, sw0]
  refine OW.nil (hK _ ?_); clear hK K
  change PW _ _ _ _ _
  refine PW.block ?_
  refine PW.loopS (σ := Int × Int) [0, 1, 4, 5, 6] 1 (fun (num1, t) => [(5, .d (I num1)), (6, .d (I t))]) (fun (num1, t) => [{ cells := [.d (I (0 : Int)), .d (I (0 : Int))], e := 86 }]) (ref06_Bound.b1 N r_ weights K_) r N ((0 : Int), (0 : Int)) (by exact Nat.zero_le _) H (by (simp only [Env.frzL, Env.frz, frzOb, V.frz, V.frz.frzs, asD, map_asD, sw1, go_sem, simprocAttr]; done)) ?_
  rintro n ⟨num1, t⟩ H N2 hN2
  unfold ref06_Bound.b1 at H
  try simp only [go_sem, simprocAttr]
  refine PW.seq ?_
  refine PW.seq ?_
  refine PW.regionK fun K hK => OW.run [0, 1, 4, 5, 6, 13] ?_
  simp only [go_sem, simprocAttr, sw0]
  refine OW.nil (hK _ ?_); clear hK K
  change PW _ _ _ _ _
  refine PW.cond rfl (fun h3 => ?_) (fun h3 => ?_)
  ·
   replace H := br_t h3 H
   refine PW.skip ?_
   change PW _ _ _ _ _
   refine PW.joinS (τ := Int) [0, 1, 4, 5, 6] 1 (fun num2 => [(5, .d (I num2))]) (fun num2 => [{ cells := [.d (I (0 : Int)), .d (I (0 : Int))], e := 86 }]) _ _ r (by exact Nat.zero_le _) H ?_ ?_
   ·
    intro K_1 H N4 hN4
    refine PW.block ?_
    refine PW.seq ?_
    refine PW.regionK fun K hK => OW.run [0, 1, 4, 5, 6, 7] ?_
    simp only [go_sem, simprocAttr, sw0]
    refine OW.nil (hK _ ?_); clear hK K
    change PW _ _ _ _ _
    refine PW.joinS (τ := Int) [0, 1, 4, 5, 6, 7] 1 (fun most => [(7, .d (I most))]) (fun most => [{ cells := [.d (I (0 : Int)), .d (I (0 : Int))], e := 86 }]) _ _ r (by exact Nat.zero_le _) H ?_ ?_
    ·
     intro K_2 H N5 hN5
     refine PW.seq ?_
     refine PW.regionK fun K hK => OW.run [0, 1, 4, 5, 6, 7, 8] ?_
     simp only [go_sem, simprocAttr, sw0]
     refine OW.nil (hK _ ?_); clear hK K
     change PW _ _ _ _ _
     refine PW.block ?_
     refine PW.loopS (σ := Int × Int) [0, 1, 4, 5, 6, 7, 8] 1 (fun (most1, i) => [(7, .d (I most1)), (8, .d (I i))]) (fun (most1, i) => [{ cells := [.d (I (0 : Int)), .d (I (0 : Int))], e := 86 }]) (ref06_Bound.b2 N r_ weights t K_2) r N ((0 : Int), (0 : Int)) (by exact Nat.zero_le _) H (by (simp only [Env.frzL, Env.frz, frzOb, V.frz, V.frz.frzs, asD, map_asD, sw1, go_sem, simprocAttr]; done)) ?_
     rintro n ⟨most1, i⟩ H N6 hN6
     unfold ref06_Bound.b2 at H
     try simp only [go_sem, simprocAttr]
     refine PW.seq ?_
     refine PW.seq ?_
     refine PW.regionK fun K hK => OW.run [0, 1, 4, 5, 6, 7, 8, 19] ?_
     simp only [go_sem, simprocAttr, sw0]
     refine OW.nil (hK _ ?_); clear hK K
     change PW _ _ _ _ _
     refine PW.cond rfl (fun h7 => ?_) (fun h7 => ?_)
     ·
      replace H := br_t h7 H
      refine PW.skip ?_
      change PW _ _ _ _ _
      refine PW.seq ?_
      refine PW.block ?_
      obtain ⟨c8, H⟩ := chk_some H
      obtain ⟨c9, H⟩ := chk_some H
      obtain ⟨c10, H⟩ := chk_some H
      refine PW.drawK 13 mixed (by kernel_rfl) fun K hK => ?_
      change FW _ _ _ _ _
      refine FW.run ?_
      (simp only [go_sem, simprocAttr, sw0, getD_mapF L r_ t.toNat default (by omega)])
      repeat (refine And.intro (by omega) ?_)
      refine FW.nil ?_
      change OW _ _ _ _ _ _
      refine OW.run [0, 1, 4, 5, 6, 7, 8] ?_
      (simp only [go_sem, simprocAttr, sw0, getD_mapF L r_ t.toNat default (by omega)])
      refine OW.nil (hK _ ?_); clear hK K
      change PW _ _ _ _ _
      refine PW.regionK fun K hK => OW.run [0, 1, 4, 5, 6, 7, 8] ?_
      simp only [go_sem, simprocAttr, sw0]
      refine OW.nil (hK _ ?_); clear hK K
      refine hN6 [] ((if most1 < w64 ((weights.getD i.toNat 0) * ((r_.getD t.toNat default).getD i.toNat 0)) then w64 ((weights.getD i.toNat 0) * ((r_.getD t.toNat default).getD i.toNat 0)) else most1), w64 (i + (1 : Int))) _ H (by exact trivial) ?_
      (simp only [Env.frzL, Env.frz, frzOb, V.frz, V.frz.frzs, asD, map_asD, sw1, go_sem, simprocAttr]; done)
     ·
      replace H := br_f h7 H
      refine PW.exit ?_
      refine hN5 [] most1 _ H (by exact trivial) ?_
      (simp only [Env.frzL, Env.frz, frzOb, V.frz, V.frz.frzs, asD, map_asD, sw1, go_sem, simprocAttr]; done)
    ·
     rintro most H
     try simp only [go_sem, simprocAttr]
     refine PW.regionK fun K hK => OW.run [0, 1, 4, 5, 6] ?_
     simp only [go_sem, simprocAttr, sw0]
     refine OW.nil (hK _ ?_); clear hK K
     refine hN4 [] (w64 (num1 + most)) _ H (by exact trivial) ?_
     (simp only [Env.frzL, Env.frz, frzOb, V.frz, V.frz.frzs, asD, map_asD, sw1, go_sem, simprocAttr]; done)
   ·
    rintro num2 H
    try simp only [go_sem, simprocAttr]
    refine PW.regionK fun K hK => OW.run [0, 1, 4, 5, 6] ?_
    simp only [go_sem, simprocAttr, sw0]
    refine OW.nil (hK _ ?_); clear hK K
    refine hN2 [] (num2, w64 (t + (1 : Int))) _ H (by exact trivial) ?_
    (simp only [Env.frzL, Env.frz, frzOb, V.frz, V.frz.frzs, asD, map_asD, sw1, go_sem, simprocAttr]; done)
  ·
   replace H := br_f h3 H
   refine PW.exit ?_
   refine hN1 [] num1 _ H (by exact trivial) ?_
   (simp only [Env.frzL, Env.frz, frzOb, V.frz, V.frz.frzs, asD, map_asD, sw1, go_sem, simprocAttr]; done)
 ·
  rintro num H
  try simp only [go_sem, simprocAttr]
  refine PW.seq ?_
  obtain ⟨x1, e1, H⟩ := bnd_some H
  obtain ⟨x2, e2, H⟩ := bnd_some H
  refine PW.regionK fun K hK => OW.run [1, 4, 5, 9] ?_
  simp only [go_sem, simprocAttr, sw0]
  refine OW.call' 4 rfl rfl rfl (by ((simp only [go_sem, List.toList_toArray, simprocAttr]); exact rfl)) ?_ (ref06_sum_ok N _ _ e1) ?_ ?_ ?_ ?_
  · rfl
  · exact okD_all rfl
  · exact .inl rfl
  · (simp only [go_sem, Nat.reduceLT])
  refine OW.run [1, 4, 5, 9] ?_
  simp only [go_sem, simprocAttr, sw0]
  refine OW.call' 4 rfl rfl rfl (by ((simp only [go_sem, List.toList_toArray, simprocAttr]); exact rfl)) ?_ (base_Gcd_ok N _ _ _ e2) ?_ ?_ ?_ ?_
  · rfl
  · exact okD_all rfl
  · exact .inl rfl
  · (simp only [go_sem, Nat.reduceLT])
  refine OW.run [1, 4, 5, 9] ?_
  simp only [go_sem, simprocAttr, sw0]
  refine OW.nil (hK _ ?_); clear hK K
  change PW _ _ _ _ _
  refine PW.seq ?_
  obtain ⟨c11, H⟩ := chk_some H
  obtain ⟨x3, e3, H⟩ := bnd_some H
  obtain ⟨c12, H⟩ := chk_some H
  refine PW.drawK 7 mixed (by kernel_rfl) fun K hK => ?_
  change FW _ _ _ _ _
  refine FW.run ?_
  simp only [go_sem, simprocAttr, sw0]
  repeat (refine And.intro (by omega) ?_)
  refine FW.call' 4 rfl rfl rfl (by ((simp only [go_sem, List.toList_toArray, simprocAttr]); exact rfl)) ?_ (ref06_sum_ok N _ _ e3) ?_ ?_ ?_ ?_
  · rfl
  · exact okD_all rfl
  · exact .inl rfl
  · (simp only [go_sem, Nat.reduceLT])
  refine FW.run ?_
  simp only [go_sem, simprocAttr, sw0]
  repeat (refine And.intro (by omega) ?_)
  refine FW.nil ?_
  change OW _ _ _ _ _ _
  refine OW.run [4] ?_
  simp only [go_sem, simprocAttr, sw0]
  refine OW.nil (hK _ ?_); clear hK K
  change PW _ _ _ _ _
  refine PW.ret ?_
  change PW.Ends _ _ _ _ _ _
  refine PW.Ends.intro (.inr rfl) ?_
  simp only [go_sem, simprocAttr, sw0]
  obtain rfl := Option.some.inj H
  refine RetOK.data' 4 (by exact okD_all rfl) ?_
  rfl

theorem base_Compare_ok (N : Nat) (n : Int) (d : Int) (m : Int) (k : Int) (r : Int) (H : base_Compare N n d m k = some r) : CallOK Try.prog 64 [(I n), (I d), (I m), (I k)] (.d (I r)) [] := by
 refine CallOK.of_PW Try.func64 rfl (by rw [Try.results64]) Try.ntmps64 Try.call64 ?_
 change PW _ _ _ _ _
 try simp only [go_sem, simprocAttr]
 unfold base_Compare at H
 refine PW.seq ?_
 refine PW.regionK fun K hK => OW.run [0, 1, 2, 3] ?_
 simp only [go_sem, simprocAttr, sw0]
 refine OW.nil (hK _ ?_); clear hK K
 change PW _ _ _ _ _
 refine PW.block ?_
 refine PW.loopS (σ := Int × Int × Int × Int) [0, 1, 2, 3] 0 (fun (n1, d1, m1, k1) => [(0, .d (I n1)), (1, .d (I d1)), (2, .d (I m1)), (3, .d (I k1))]) (fun (n1, d1, m1, k1) => []) (base_Compare.b1 N ) r N (n, d, m, k) (by exact Nat.le_refl _) H (by (simp only [Env.frzL, Env.frz, frzOb, V.frz, V.frz.frzs, asD, map_asD, sw1, go_sem, simprocAttr]; done)) ?_
 rintro n ⟨n1, d1, m1, k1⟩ H N1 hN1
 unfold base_Compare.b1 at H
 try simp only [go_sem, simprocAttr]
 refine PW.block ?_
 refine PW.seq ?_
 obtain ⟨x1, e1, H⟩ := bnd_some H
 obtain ⟨x2, e2, H⟩ := bnd_some H
 refine PW.regionK fun K hK => OW.run [0, 1, 2, 3, 9, 10] ?_
 simp only [go_sem, simprocAttr, sw0]
 refine OW.call' 4 rfl rfl rfl (by ((simp only [go_sem, List.toList_toArray, simprocAttr]); exact rfl)) ?_ (base_Floor_ok N _ _ _ e1) ?_ ?_ ?_ ?_
 · rfl
 · exact okD_all rfl
 · exact .inl rfl
 · (simp only [go_sem, Nat.reduceLT])
 refine OW.run [0, 1, 2, 3, 9, 10] ?_
 simp only [go_sem, simprocAttr, sw0]
 refine OW.call' 4 rfl rfl rfl (by ((simp only [go_sem, List.toList_toArray, simprocAttr]); exact rfl)) ?_ (base_Floor_ok N _ _ _ e2) ?_ ?_ ?_ ?_
 · rfl
 · exact okD_all rfl
 · exact .inl rfl
 · (simp only [go_sem, Nat.reduceLT])
 refine OW.run [0, 1, 2, 3, 9, 10] ?_
 simp only [go_sem, simprocAttr, sw0]
 refine OW.nil (hK _ ?_); clear hK K
 change PW _ _ _ _ _
 refine PW.seq ?_
 refine PW.seq ?_
 refine PW.regionK fun K hK => OW.run [0, 1, 2, 3, 9, 10, 19] ?_
 simp only [go_sem, simprocAttr, sw0]
 refine OW.nil (hK _ ?_); clear hK K
 change PW _ _ _ _ _
 refine PW.cond rfl (fun h2 => ?_) (fun h2 => ?_)
 ·
  replace H := br_t h2 H
  refine PW.seq ?_
  refine PW.regionK fun K hK => OW.run [8] ?_
  simp only [go_sem, simprocAttr, sw0]
  refine OW.nil (hK _ ?_); clear hK K
  change PW _ _ _ _ _
  refine PW.ret ?_
  change PW.Ends _ _ _ _ _ _
  refine PW.Ends.intro (.inr rfl) ?_
  simp only [go_sem, simprocAttr, sw0]
  obtain rfl := Option.some.inj H
  refine RetOK.data' 4 (by exact trivial) ?_
  rfl
 ·
  replace H := br_f h2 H
  refine PW.skip ?_
  change PW _ _ _ _ _
  refine PW.seq ?_
  refine PW.seq ?_
  refine PW.regionK fun K hK => OW.run [0, 1, 2, 3, 9, 10, 22] ?_
  simp only [go_sem, simprocAttr, sw0]
  refine OW.nil (hK _ ?_); clear hK K
  change PW _ _ _ _ _
  refine PW.cond rfl (fun h3 => ?_) (fun h3 => ?_)
  ·
   replace H := br_t h3 H
   refine PW.seq ?_
   refine PW.regionK fun K hK => OW.run [8] ?_
   simp only [go_sem, simprocAttr, sw0]
   refine OW.nil (hK _ ?_); clear hK K
   change PW _ _ _ _ _
   refine PW.ret ?_
   change PW.Ends _ _ _ _ _ _
   refine PW.Ends.intro (.inr rfl) ?_
   simp only [go_sem, simprocAttr, sw0]
   obtain rfl := Option.some.inj H
   refine RetOK.data' 4 (by exact trivial) ?_
   rfl
  ·
   replace H := br_f h3 H
   refine PW.skip ?_
   change PW _ _ _ _ _
   refine PW.seq ?_
   refine PW.regionK fun K hK => OW.run [0, 1, 2, 3] ?_
   simp only [go_sem, simprocAttr, sw0]
   refine OW.nil (hK _ ?_); clear hK K
   change PW _ _ _ _ _
   refine PW.seq ?_
   refine PW.seq ?_
   refine PW.regionK fun K hK => OW.run [0, 1, 2, 3, 38] ?_
   simp only [go_sem, simprocAttr, sw0]
   refine OW.nil (hK _ ?_); clear hK K
   change PW _ _ _ _ _
   refine PW.cond rfl (fun h4 => ?_) (fun h4 => ?_)
   ·
    replace H := br_t h4 H
    refine PW.seq ?_
    refine PW.regionK fun K hK => OW.run [8] ?_
    simp only [go_sem, simprocAttr, sw0]
    refine OW.nil (hK _ ?_); clear hK K
    change PW _ _ _ _ _
    refine PW.ret ?_
    change PW.Ends _ _ _ _ _ _
    refine PW.Ends.intro (.inr rfl) ?_
    simp only [go_sem, simprocAttr, sw0]
    obtain rfl := Option.some.inj H
    refine RetOK.data' 4 (by exact trivial) ?_
    rfl
   ·
    replace H := br_f h4 H
    refine PW.skip ?_
    change PW _ _ _ _ _
    refine PW.seq ?_
    refine PW.seq ?_
    refine PW.regionK fun K hK => OW.run [0, 1, 2, 3, 40] ?_
    simp only [go_sem, simprocAttr, sw0]
    refine OW.nil (hK _ ?_); clear hK K
    change PW _ _ _ _ _
    refine PW.cond rfl (fun h5 => ?_) (fun h5 => ?_)
    ·
     replace H := br_t h5 H
     refine PW.seq ?_
     refine PW.regionK fun K hK => OW.run [8] ?_
     simp only [go_sem, simprocAttr, sw0]
     refine OW.nil (hK _ ?_); clear hK K
     change PW _ _ _ _ _
     refine PW.ret ?_
     change PW.Ends _ _ _ _ _ _
     refine PW.Ends.intro (.inr rfl) ?_
     simp only [go_sem, simprocAttr, sw0]
     obtain rfl := Option.some.inj H
     refine RetOK.data' 4 (by exact trivial) ?_
     rfl
    ·
     replace H := br_f h5 H
     refine PW.skip ?_
     change PW _ _ _ _ _
     refine PW.seq ?_
     refine PW.seq ?_
     refine PW.regionK fun K hK => OW.run [0, 1, 2, 3, 42] ?_
     simp only [go_sem, simprocAttr, sw0]
     refine OW.nil (hK _ ?_); clear hK K
     change PW _ _ _ _ _
     refine PW.cond rfl (fun h6 => ?_) (fun h6 => ?_)
     ·
      replace H := br_t h6 H
      refine PW.seq ?_
      refine PW.regionK fun K hK => OW.run [8] ?_
      simp only [go_sem, simprocAttr, sw0]
      refine OW.nil (hK _ ?_); clear hK K
      change PW _ _ _ _ _
      refine PW.ret ?_
      change PW.Ends _ _ _ _ _ _
      refine PW.Ends.intro (.inr rfl) ?_
      simp only [go_sem, simprocAttr, sw0]
      obtain rfl := Option.some.inj H
      refine RetOK.data' 4 (by exact trivial) ?_
      rfl
     ·
      replace H := br_f h6 H
      refine PW.skip ?_
      change PW _ _ _ _ _
      refine PW.regionK fun K hK => OW.run [0, 1, 2, 3] ?_
      simp only [go_sem, simprocAttr, sw0]
      refine OW.nil (hK _ ?_); clear hK K
      refine hN1 [] (k1, w64 (m1 - (w64 (x2 * k1))), d1, w64 (n1 - (w64 (x1 * d1)))) _ H (by exact trivial) ?_
      (simp only [Env.frzL, Env.frz, frzOb, V.frz, V.frz.frzs, asD, map_asD, sw1, go_sem, simprocAttr]; done)

theorem law06_SchedBounds_ok (N : Nat) (r_ : List (List Int)) (weights : List Int) (turns : List Int) (r : Bool) (H : law06_SchedBounds N r_ weights turns = some r) : CallOK Try.prog 12 [(.list r_.length (r_.map L)), (L weights), (L turns)] (.d (Bo r)) [] := by
 refine CallOK.of_PW Try.func12 rfl (by rw [Try.results12]) Try.ntmps12 Try.call12 ?_
 change PW _ _ _ _ _
 try simp only [go_sem, simprocAttr]
 unfold law06_SchedBounds at H
 refine PW.seq ?_
 refine PW.regionK fun K hK => OW.run [0, 1, 2] ?_
 simp only [go_sem, simprocAttr, sw0]
 refine OW.nil (hK _ ?_); clear hK K
 change PW _ _ _ _ _
 refine PW.seq ?_
 refine PW.seq ?_
 obtain ⟨x1, e1, H⟩ := bnd_some H
 refine PW.regionK fun K hK => OW.run [0, 1, 2, 16] ?_
 simp only [go_sem, simprocAttr, sw0]
 refine OW.call' 4 rfl rfl rfl (by ((simp only [go_sem, List.toList_toArray, simprocAttr]); exact rfl)) ?_ (law06_awake_ok N  _ e1) ?_ ?_ ?_ ?_
 · rfl
 · exact okD_all rfl
 · exact .inl rfl
 · (simp only [go_sem, Nat.reduceLT])
 refine OW.run [0, 1, 2, 16] ?_
 simp only [go_sem, simprocAttr, sw0]
 refine OW.nil (hK _ ?_); clear hK K
 change PW _ _ _ _ _
 refine PW.cond rfl (fun h1 => ?_) (fun h1 => ?_)
 ·
  replace H := br_t h1 H
  refine PW.seq ?_
  refine PW.regionK fun K hK => OW.run [6] ?_
  simp only [go_sem, simprocAttr, sw0]
  refine OW.nil (hK _ ?_); clear hK K
  change PW _ _ _ _ _
  refine PW.ret ?_
  change PW.Ends _ _ _ _ _ _
  refine PW.Ends.intro (.inr rfl) ?_
  simp only [go_sem, simprocAttr, sw0]
  obtain rfl := Option.some.inj H
  refine RetOK.data' 4 (by exact trivial) ?_
  rfl
 ·
  replace H := br_f h1 H
  refine PW.skip ?_
  change PW _ _ _ _ _
  refine PW.seq ?_
  refine PW.seq ?_
  obtain ⟨x2, e2, H⟩ := bnd_some H
  refine PW.regionK fun K hK => OW.run [0, 1, 2, 29] ?_
  simp only [go_sem, simprocAttr, sw0]
  refine OW.call' 4 rfl rfl rfl (by ((simp only [go_sem, List.toList_toArray, simprocAttr]); exact rfl)) ?_ (law06_rows_ok N _ _ e2) ?_ ?_ ?_ ?_
  · rfl
  · exact okD_all rfl
  · exact .inl rfl
  · (simp only [go_sem, Nat.reduceLT])
  refine OW.run [0, 1, 2, 29] ?_
  simp only [go_sem, simprocAttr, sw0]
  refine OW.nil (hK _ ?_); clear hK K
  change PW _ _ _ _ _
  refine PW.cond rfl (fun h2 => ?_) (fun h2 => ?_)
  ·
   replace H := br_t h2 H
   refine PW.seq ?_
   refine PW.regionK fun K hK => OW.run [6] ?_
   simp only [go_sem, simprocAttr, sw0]
   refine OW.nil (hK _ ?_); clear hK K
   change PW _ _ _ _ _
   refine PW.ret ?_
   change PW.Ends _ _ _ _ _ _
   refine PW.Ends.intro (.inr rfl) ?_
   simp only [go_sem, simprocAttr, sw0]
   obtain rfl := Option.some.inj H
   refine RetOK.data' 4 (by exact trivial) ?_
   rfl
  ·
   replace H := br_f h2 H
   refine PW.skip ?_
   change PW _ _ _ _ _
   refine PW.seq ?_
   obtain ⟨x3, e3, H⟩ := bnd_some H
   obtain ⟨x4, e4, H⟩ := bnd_some H
   obtain ⟨⟨x5, x51, x52⟩, e5, H⟩ := bnd_some H
   refine PW.regionK fun K hK => OW.run [0, 1, 2, 7, 8] ?_
   simp only [go_sem, simprocAttr, sw0]
   refine OW.call' 4 rfl rfl rfl (by ((simp only [go_sem, List.toList_toArray, simprocAttr]); exact rfl)) ?_ (base_CopyLists_ok N _ _ e3) ?_ ?_ ?_ ?_
   · rfl
   · exact okD_all rfl
   · exact .inl rfl
   · (simp only [go_sem, Nat.reduceLT])
   refine OW.run [0, 1, 2, 7, 8] ?_
   simp only [go_sem, simprocAttr, sw0]
   refine OW.call' 4 rfl rfl rfl (by ((simp only [go_sem, List.toList_toArray, simprocAttr]); exact rfl)) ?_ (base_CopyInts_okd N _ _ e4) ?_ ?_ ?_ ?_
   · rfl
   · exact okD_all rfl
   · exact .inl rfl
   · (simp only [go_sem, Nat.reduceLT])
   refine OW.run [0, 1, 2, 7, 8] ?_
   simp only [go_sem, simprocAttr, sw0]
   refine OW.call' 4 rfl rfl rfl (by ((simp only [go_sem, List.toList_toArray, simprocAttr]); exact rfl)) ?_ (sched_CheckBound_ok N _ _ _ e5) ?_ ?_ ?_ ?_
   · rfl
   · exact okD_all rfl
   · exact .inl rfl
   · (simp only [go_sem, Nat.reduceLT])
   refine OW.run [0, 1, 2, 7, 8] ?_
   simp only [go_sem, simprocAttr, sw0]
   refine OW.nil (hK _ ?_); clear hK K
   change PW _ _ _ _ _
   refine PW.seq ?_
   obtain ⟨x6, e6, H⟩ := bnd_some H
   refine PW.regionK fun K hK => OW.run [0, 1, 2, 7, 8, 9] ?_
   simp only [go_sem, simprocAttr, sw0]
   refine OW.call' 4 rfl rfl rfl (by ((simp only [go_sem, List.toList_toArray, simprocAttr]); exact rfl)) ?_ (ref06_CaseErr_ok N _ _ e6) ?_ ?_ ?_ ?_
   · rfl
   · exact okD_all rfl
   · exact .inl rfl
   · (simp only [go_sem, Nat.reduceLT])
   refine OW.run [0, 1, 2, 7, 8, 9] ?_
   simp only [go_sem, simprocAttr, sw0]
   refine OW.nil (hK _ ?_); clear hK K
   change PW _ _ _ _ _
   refine PW.joinS (τ := Int) [0, 1, 2, 7, 8, 9] 1 (fun d => [(9, .d (I d))]) (fun d => [{ cells := [.d (I x5), .d (I x51)], e := 86 }]) _ _ r (by exact Nat.zero_le _) H ?_ ?_
   ·
    intro K_ H N3 hN3
    refine PW.seq ?_
    refine PW.regionK fun K hK => OW.run [0, 1, 2, 7, 8, 9, 41] ?_
    simp only [go_sem, simprocAttr, sw0]
    refine OW.nil (hK _ ?_); clear hK K
    change PW _ _ _ _ _
    refine PW.cond rfl (fun h4 => ?_) (fun h4 => ?_)
    ·
     replace H := br_t h4 H
     obtain ⟨x7, e7, H⟩ := bnd_some H
     refine PW.regionK fun K hK => OW.run [0, 1, 2, 7, 8, 9] ?_
     simp only [go_sem, simprocAttr, sw0]
     refine OW.call' 4 rfl rfl rfl (by ((simp only [go_sem, List.toList_toArray, simprocAttr]); exact rfl)) ?_ (ref06_WeightsErr_ok N _ _ _ e7) ?_ ?_ ?_ ?_
     · rfl
     · exact okD_all rfl
     · exact .inl rfl
     · (simp only [go_sem, Nat.reduceLT])
     refine OW.run [0, 1, 2, 7, 8, 9] ?_
     simp only [go_sem, simprocAttr, sw0]
     refine OW.nil (hK _ ?_); clear hK K
     refine hN3 [] x7 _ H (by exact trivial) ?_
     (simp only [Env.frzL, Env.frz, frzOb, V.frz, V.frz.frzs, asD, map_asD, sw1, go_sem, simprocAttr]; done)
    ·
     replace H := br_f h4 H
     refine PW.skip ?_
     refine hN3 [] x6 _ H (by exact trivial) ?_
     (simp only [Env.frzL, Env.frz, frzOb, V.frz, V.frz.frzs, asD, map_asD, sw1, go_sem, simprocAttr]; done)
   ·
    rintro d H
    try simp only [go_sem, simprocAttr]
    refine PW.seq ?_
    refine PW.seq ?_
    refine PW.regionK fun K hK => OW.run [0, 1, 2, 7, 8, 9, 46] ?_
    simp only [go_sem, simprocAttr, sw0]
    refine OW.nil (hK _ ?_); clear hK K
    change PW _ _ _ _ _
    refine PW.cond rfl (fun h5 => ?_) (fun h5 => ?_)
    ·
     replace H := br_t h5 H
     refine PW.seq ?_
     refine PW.regionK fun K hK => ?_
     refine OW.step rfl ?_
     simp only [go_sem, simprocAttr, sw0]
     refine OW.step rfl ?_
     simp only [go_sem, simprocAttr, sw0]
     refine OW.step rfl ?_
     simp only [go_sem, simprocAttr, sw0]
     refine OW.step rfl ?_
     simp only [go_sem, simprocAttr, sw0]
     refine OW.opA (g := (x52 == d)) rfl ?_ (fun hg => ?_) (by (simp only [go_sem, Nat.reduceLT])) ?_
     · (simp only [go_sem, simprocAttr]; done)
     · (first | decide | ((simp only [go_sem, simprocAttr, sw0]); done) | ((simp only [go_sem, simprocAttr, sw0]); (repeat (refine And.intro (by (first | omega | assumption | rfl | decide | (simp only [List.length_map, List.length_replicate, List.length_append, List.length_take, List.length_drop, List.length_set, List.length_cons, List.length_nil, Nat.zero_add, Int.toNat_natCast] at *; omega) | (simp only [List.length_map, List.length_replicate, List.length_append, List.length_take, List.length_drop, List.length_set, List.length_cons, List.length_nil, Nat.zero_add, Int.toNat_natCast]; done) | trivial)) ?_)); done) | ((simp only [go_sem, simprocAttr, sw0]); repeat (first | omega | rfl | trivial | refine ⟨?_, ?_⟩)))
     try simp only [go_sem, simprocAttr]
     refine OW.opA (g := (x52 == d)) rfl ?_ (fun hg => ?_) (by (simp only [go_sem, Nat.reduceLT])) ?_
     · (simp only [go_sem, simprocAttr]; done)
     · (first | decide | ((simp only [go_sem, simprocAttr, sw0]); done) | ((simp only [go_sem, simprocAttr, sw0]); (repeat (refine And.intro (by (first | omega | assumption | rfl | decide | (simp only [List.length_map, List.length_replicate, List.length_append, List.length_take, List.length_drop, List.length_set, List.length_cons, List.length_nil, Nat.zero_add, Int.toNat_natCast] at *; omega) | (simp only [List.length_map, List.length_replicate, List.length_append, List.length_take, List.length_drop, List.length_set, List.length_cons, List.length_nil, Nat.zero_add, Int.toNat_natCast]; done) | trivial)) ?_)); done) | ((simp only [go_sem, simprocAttr, sw0]); repeat (first | omega | rfl | trivial | refine ⟨?_, ?_⟩)))
     try simp only [go_sem, simprocAttr]
     refine OW.run [6] ?_
     simp only [go_sem, simprocAttr, sw0]
     refine OW.nil (hK _ ?_); clear hK K
     change PW _ _ _ _ _
     refine PW.ret ?_
     change PW.Ends _ _ _ _ _ _
     refine PW.Ends.intro (.inr rfl) ?_
     simp only [go_sem, simprocAttr, sw0]
     obtain rfl := Option.some.inj H
     refine RetOK.data' 4 (by exact trivial) ?_
     rfl
    ·
     replace H := br_f h5 H
     refine PW.skip ?_
     change PW _ _ _ _ _
     refine PW.seq ?_
     refine PW.seq ?_
     obtain ⟨⟨x8, x81⟩, e8, H⟩ := bnd_some H
     refine PW.drawK 7 mixed (by kernel_rfl) fun K hK => ?_
     change FW _ _ _ _ _
     refine FW.run ?_
     simp only [go_sem, simprocAttr, sw0]
     refine FW.callG' 4 rfl rfl ?_ (fun hg => by first | rfl | (simp only [go_sem, ↓reduceIte]; rfl)) (fun hg => by ((simp only [go_sem, List.toList_toArray, simprocAttr]); exact rfl)) (fun hg => ?_) (fun hg => (ref06_Bound_ok N _ _ _ (grd_t hg e8))) ?_ ?_ ?_ ?_
     · (simp only [go_sem, simprocAttr]; done)
     · rfl
     · exact okD_all rfl
     · exact .inl rfl
     · (simp only [go_sem, Nat.reduceLT])
     refine FW.run ?_
     simp only [go_sem, simprocAttr, sw0]
     refine FW.nil ?_
     change OW _ _ _ _ _ _
     refine OW.run [0, 2, 7, 63] ?_
     simp only [go_sem, simprocAttr, sw0]
     refine OW.nil (hK _ ?_); clear hK K
     change PW _ _ _ _ _
     refine PW.cond rfl (fun h6 => ?_) (fun h6 => ?_)
     ·
      replace H := br_t h6 H
      refine PW.seq ?_
      refine PW.regionK fun K hK => OW.run [6] ?_
      simp only [go_sem, simprocAttr, sw0]
      refine OW.nil (hK _ ?_); clear hK K
      change PW _ _ _ _ _
      refine PW.ret ?_
      change PW.Ends _ _ _ _ _ _
      refine PW.Ends.intro (.inr rfl) ?_
      simp only [go_sem, simprocAttr, sw0]
      obtain rfl := Option.some.inj H
      refine RetOK.data' 4 (by exact trivial) ?_
      rfl
     ·
      replace H := br_f h6 H
      refine PW.skip ?_
      change PW _ _ _ _ _
      refine PW.seq ?_
      obtain ⟨x9, e9, H⟩ := bnd_some H
      obtain ⟨⟨x10, x101, x102⟩, e10, H⟩ := bnd_some H
      refine PW.regionK fun K hK => OW.run [0, 2, 7, 11, 12] ?_
      simp only [go_sem, simprocAttr, sw0]
      refine OW.call' 4 rfl rfl rfl (by ((simp only [go_sem, List.toList_toArray, simprocAttr]); exact rfl)) ?_ (base_CopyLists_ok N _ _ e9) ?_ ?_ ?_ ?_
      · rfl
      · exact okD_all rfl
      · exact .inl rfl
      · (simp only [go_sem, Nat.reduceLT])
      refine OW.run [0, 2, 7, 11, 12] ?_
      simp only [go_sem, simprocAttr, sw0]
      refine OW.call' 4 rfl rfl rfl (by ((simp only [go_sem, List.toList_toArray, simprocAttr]); exact rfl)) ?_ (sched_BestTurns_ok N _ _ e10) ?_ ?_ ?_ ?_
      · rfl
      · exact okD_all rfl
      · exact .inl rfl
      · (simp only [go_sem, Nat.reduceLT])
      refine OW.run [0, 2, 7, 11, 12] ?_
      simp only [go_sem, simprocAttr, sw0]
      refine OW.nil (hK _ ?_); clear hK K
      change PW _ _ _ _ _
      refine PW.seq ?_
      refine PW.seq ?_
      obtain ⟨x11, e11, H⟩ := bnd_some H
      refine PW.regionK fun K hK => OW.run [0, 2, 11, 81] ?_
      simp only [go_sem, simprocAttr, sw0]
      repeat (refine And.intro (by omega) ?_)
      refine OW.callG' 4 rfl rfl ?_ (fun hg => by first | rfl | (simp only [go_sem, ↓reduceIte]; rfl)) (fun hg => by ((simp only [go_sem, List.toList_toArray, simprocAttr]); exact rfl)) (fun hg => ?_) (fun hg => (base_Compare_ok N _ _ _ _ _ (grd_t hg e11))) ?_ ?_ ?_ ?_
      · (simp only [go_sem, simprocAttr]; done)
      · rfl
      · exact okD_all rfl
      · exact .inl rfl
      · (simp only [go_sem, Nat.reduceLT])
      refine OW.run [0, 2, 11, 81] ?_
      simp only [go_sem, simprocAttr, sw0]
      refine OW.nil (hK _ ?_); clear hK K
      change PW _ _ _ _ _
      refine PW.cond rfl (fun h7 => ?_) (fun h7 => ?_)
      ·
       replace H := br_t h7 H
       refine PW.seq ?_
       refine PW.regionK fun K hK => OW.run [6] ?_
       simp only [go_sem, simprocAttr, sw0]
       refine OW.nil (hK _ ?_); clear hK K
       change PW _ _ _ _ _
       refine PW.ret ?_
       change PW.Ends _ _ _ _ _ _
       refine PW.Ends.intro (.inr rfl) ?_
       simp only [go_sem, simprocAttr, sw0]
       obtain rfl := Option.some.inj H
       refine RetOK.data' 4 (by exact trivial) ?_
       rfl
      ·
       replace H := br_f h7 H
       refine PW.skip ?_
       change PW _ _ _ _ _
       refine PW.seq ?_
       obtain ⟨x12, e12, H⟩ := bnd_some H
       obtain ⟨x13, e13, H⟩ := bnd_some H
       obtain ⟨⟨x14, x141⟩, e14, H⟩ := bnd_some H
       refine PW.regionK fun K hK => OW.run [11, 13, 14] ?_
       simp only [go_sem, simprocAttr, sw0]
       refine OW.call' 4 rfl rfl rfl (by ((simp only [go_sem, List.toList_toArray, simprocAttr]); exact rfl)) ?_ (base_CopyLists_ok N _ _ e12) ?_ ?_ ?_ ?_
       · rfl
       · exact okD_all rfl
       · exact .inl rfl
       · (simp only [go_sem, Nat.reduceLT])
       refine OW.run [11, 13, 14] ?_
       simp only [go_sem, simprocAttr, sw0]
       refine OW.call' 4 rfl rfl rfl (by ((simp only [go_sem, List.toList_toArray, simprocAttr]); exact rfl)) ?_ (base_CopyInts_okd N _ _ e13) ?_ ?_ ?_ ?_
       · rfl
       · exact okD_all rfl
       · exact .inl rfl
       · (simp only [go_sem, Nat.reduceLT])
       refine OW.run [11, 13, 14] ?_
       simp only [go_sem, simprocAttr, sw0]
       refine OW.call' 4 rfl rfl rfl (by ((simp only [go_sem, List.toList_toArray, simprocAttr]); exact rfl)) ?_ (sched_TurnsOf_ok N _ _ _ e14) ?_ ?_ ?_ ?_
       · rfl
       · exact okD_all rfl
       · exact .inl rfl
       · (simp only [go_sem, Nat.reduceLT])
       refine OW.run [11, 13, 14] ?_
       simp only [go_sem, simprocAttr, sw0]
       refine OW.nil (hK _ ?_); clear hK K
       change PW _ _ _ _ _
       refine PW.seq ?_
       refine PW.regionK fun K hK => OW.run [6] ?_
       simp only [go_sem, simprocAttr, sw0]
       refine OW.nil (hK _ ?_); clear hK K
       change PW _ _ _ _ _
       refine PW.ret ?_
       change PW.Ends _ _ _ _ _ _
       refine PW.Ends.intro (.inr rfl) ?_
       simp only [go_sem, simprocAttr, sw0]
       obtain rfl := Option.some.inj H
       refine RetOK.data' 4 (by exact trivial) ?_
       rfl

end Go.Proofs.Ytabojpkmfkjjkaa
