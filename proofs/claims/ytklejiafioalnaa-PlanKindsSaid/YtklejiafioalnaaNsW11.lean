import Derived.Test.YtklejiafioalnaaNsBase
import Derived.Test.YtklejiafioalnaaNsW5
set_option linter.all false
namespace Go.Proofs.Ytklejiafioalnaa
open Go.PW Go.Sh

set_option maxRecDepth 20000
set_option maxHeartbeats 8000000
theorem plan_web_kinds_okr (N : Nat)  : ∀ (n : Nat) (w_cells : Int) (w_near : List Bool) (so : List Int) (most : Int) (r : List Int), rds (plan_web_kinds.b N ) n (w_cells, w_near, so, most) = some r → CallOK Try.prog 63 [(.ref ((I w_cells) :: w_near.map Bo)), (L so), (I most)] (.d (LN r)) [] := by
 intro n
 induction n with
 | zero => intro _ _ _ _ _ h; cases h
 | succ n ih =>
  intro w_cells w_near so most r H
  generalize hself : rds (plan_web_kinds.b N ) n = self_ at ih
  rw [rds_succ] at H
  rw [hself] at H
  clear hself
  refine CallOK.of_PW Try.func63 rfl (by rw [Try.results63]) Try.ntmps63 Try.call63 ?_
  change PW _ _ _ _ _
  try simp only [go_sem, simprocAttr]
  unfold plan_web_kinds.b at H
  try simp only [go_sem, simprocAttr]
  refine PW.seq ?_
  refine PW.regionK fun K hK => OW.run [0, 1, 2] ?_
  simp only [go_sem, simprocAttr, sw0]
  refine OW.nil (hK _ ?_)
  refine PW.seq ?_
  refine PW.regionK fun K hK => OW.run [0, 1, 2, 7] ?_
  simp only [go_sem, simprocAttr, sw0]
  refine OW.nil (hK _ ?_)
  refine PW.seq ?_
  refine PW.seq ?_
  refine PW.regionK fun K hK => OW.run [0, 1, 2, 7, 20] ?_
  simp only [go_sem, simprocAttr, sw0]
  repeat (refine And.intro (by omega) ?_)
  refine OW.nil (hK _ ?_)
  refine PW.cond rfl (fun h1 => ?_) (fun h1 => ?_)
  ·
   replace H := br_t h1 H
   refine PW.seq ?_
   refine PW.regionK fun K hK => OW.run [6] ?_
   simp only [go_sem, simprocAttr, sw0]
   refine OW.nil (hK _ ?_)
   refine PW.ret ?_
   obtain ⟨c2, H⟩ := chk_some H
   change PW.Ends _ _ _ _ _ _
   refine PW.Ends.intro (.inr rfl) ?_
   simp only [go_sem, simprocAttr, sw0]
   obtain rfl := Option.some.inj H
   rw [LN_of c2]
   refine RetOK.data' 4 (by exact trivial) ?_
   rfl
  ·
   replace H := br_f h1 H
   refine PW.skip ?_
   refine PW.joinS (τ := Unit) [] 0 (fun _ => []) (fun _ => []) _ _ r (by exact Nat.le_refl _) H ?_ ?_
   ·
    intro K_ H N3 hN3
    refine PW.seq ?_
    refine PW.regionK fun K hK => OW.run [0, 1, 2, 7, 22, 23] ?_
    simp only [go_sem, simprocAttr, sw0]
    refine OW.nil (hK _ ?_)
    refine PW.block ?_
    refine PW.loopS (σ := Int) [0, 1, 2, 7, 22, 23] 0 (fun t23 => [(23, .d (I t23))]) (fun t23 => []) (plan_web_kinds.b1 N w_cells w_near so most self_ K_) r N (0 : Int) (by exact Nat.le_refl _) H (by (simp only [sw1, go_sem, simprocAttr]; done)) ?_
    rintro n t23 H N4 hN4
    unfold plan_web_kinds.b1 at H
    try simp only [go_sem, simprocAttr]
    refine PW.seq ?_
    refine PW.regionK fun K hK => OW.run [0, 1, 2, 7, 22, 23, 24] ?_
    simp only [go_sem, simprocAttr, sw0]
    refine OW.nil (hK _ ?_)
    refine PW.seq ?_
    refine PW.cond rfl (fun h5 => ?_) (fun h5 => ?_)
    ·
     replace H := br_t h5 H
     refine PW.skip ?_
     refine PW.joinS (τ := Unit) [0, 1, 2, 7, 22, 23] 0 (fun _ => []) (fun _ => []) _ _ r (by exact Nat.le_refl _) H ?_ ?_
     ·
      intro K_1 H N6 hN6
      refine PW.block ?_
      refine PW.seq ?_
      refine PW.regionK fun K hK => OW.run [0, 1, 2, 7, 8, 22, 23] ?_
      simp only [go_sem, simprocAttr, sw0]
      refine OW.nil (hK _ ?_)
      refine PW.seq ?_
      refine PW.regionK fun K hK => OW.run [0, 1, 2, 7, 8, 9, 22, 23] ?_
      simp only [go_sem, simprocAttr, sw0]
      refine OW.nil (hK _ ?_)
      refine PW.joinS (τ := Bool) [0, 1, 2, 7, 8, 9, 22, 23] 0 (fun taken => [(9, .d (Bo taken))]) (fun taken => []) _ _ r (by exact Nat.le_refl _) H ?_ ?_
      ·
       intro K_2 H N7 hN7
       refine PW.seq ?_
       refine PW.regionK fun K hK => OW.run [0, 1, 2, 7, 8, 9, 22, 23, 26, 27, 28] ?_
       simp only [go_sem, simprocAttr, sw0]
       refine OW.nil (hK _ ?_)
       refine PW.block ?_
       refine PW.loopS (σ := Bool × Int) [0, 1, 2, 7, 8, 9, 22, 23, 26, 27, 28] 0 (fun (taken1, t28) => [(9, .d (Bo taken1)), (28, .d (I t28))]) (fun (taken1, t28) => []) (plan_web_kinds.b2 N w_near so t23 K_2) r N (false, (0 : Int)) (by exact Nat.le_refl _) H (by (simp only [sw1, go_sem, simprocAttr]; done)) ?_
       rintro n ⟨taken1, t28⟩ H N8 hN8
       unfold plan_web_kinds.b2 at H
       try simp only [go_sem, simprocAttr]
       refine PW.seq ?_
       refine PW.regionK fun K hK => OW.run [0, 1, 2, 7, 8, 9, 22, 23, 26, 27, 28, 29] ?_
       simp only [go_sem, simprocAttr, sw0]
       refine OW.nil (hK _ ?_)
       refine PW.seq ?_
       refine PW.cond rfl (fun h9 => ?_) (fun h9 => ?_)
       ·
        replace H := br_t h9 H
        refine PW.skip ?_
        refine PW.seq ?_
        refine PW.block ?_
        refine PW.seq ?_
        obtain ⟨c10, H⟩ := chk_some H
        refine PW.regionK fun K hK => OW.run [0, 1, 2, 7, 8, 9, 10, 11, 22, 23, 26, 27, 28] ?_
        simp only [go_sem, simprocAttr, sw0]
        repeat (refine And.intro (by omega) ?_)
        refine OW.nil (hK _ ?_)
        change PW _ _ _ _ _
        obtain ⟨c11, H⟩ := chk_some H
        obtain ⟨c12, H⟩ := chk_some H
        obtain ⟨c13, H⟩ := chk_some H
        obtain ⟨c14, H⟩ := chk_some H
        refine PW.regionK fun K hK => ?_
        refine OW.toS [(0, .d (.ref ((I w_cells) :: w_near.map Bo))), (1, .d (L so)), (2, .d (I most)), (7, .d (I (so.length : Int))), (8, .d (I t23)), (9, .d (Bo (taken1 || (((so.getD t28.toNat 0) == t23) && (w_near.getD (((so.length : Int).toNat) * 8 + t28.toNat) false))))), (22, .d (I most)), (23, .d (I t23)), (26, .d (L so)), (27, .d (I (so.length : Int))), (28, .d (I t28))] [] ?_ (hK _ ?_)
        ·
         intro K hKE
         rcases Bool.eq_false_or_eq_true (taken1) with ha0 | ha0
         ·
          refine OW.run [0, 1, 2, 7, 8, 9, 22, 23, 26, 27, 28] ?_
          (simp only [go_sem, simprocAttr, sw0, subsub1 Bo w_near ((so.length) * 8) 8 t28.toNat false (by omega) (by omega), row8 Bo w_near ((so.length) * 8) t28.toNat false (by omega) (by omega), ha0])
          refine OW.nil ((congrArg K ?_).mpr hKE)
          (first | rfl | (simp only [go_sem, simprocAttr, ha0]; done) | (simp only [go_sem, simprocAttr, ha0]; rfl))
         ·
          rcases Bool.eq_false_or_eq_true (((so.getD t28.toNat 0) == t23)) with ha1 | ha1
          ·
           refine OW.run [0, 1, 2, 7, 8, 9, 22, 23, 26, 27, 28] ?_
           (simp only [go_sem, simprocAttr, sw0, subsub1 Bo w_near ((so.length) * 8) 8 t28.toNat false (by omega) (by omega), row8 Bo w_near ((so.length) * 8) t28.toNat false (by omega) (by omega), ha0, ha1])
           repeat (refine And.intro (by omega) ?_)
           refine OW.nil ((congrArg K ?_).mpr hKE)
           (first | rfl | (simp only [go_sem, simprocAttr, ha0, ha1]; done) | (simp only [go_sem, simprocAttr, ha0, ha1]; rfl))
          ·
           refine OW.run [0, 1, 2, 7, 8, 9, 22, 23, 26, 27, 28] ?_
           (simp only [go_sem, simprocAttr, sw0, subsub1 Bo w_near ((so.length) * 8) 8 t28.toNat false (by omega) (by omega), row8 Bo w_near ((so.length) * 8) t28.toNat false (by omega) (by omega), ha0, ha1])
           refine OW.nil ((congrArg K ?_).mpr hKE)
           (first | rfl | (simp only [go_sem, simprocAttr, ha0, ha1]; done) | (simp only [go_sem, simprocAttr, ha0, ha1]; rfl))
        clear hK K
        refine PW.regionK fun K hK => OW.run [0, 1, 2, 7, 8, 9, 22, 23, 26, 27, 28] ?_
        simp only [go_sem, simprocAttr, sw0]
        refine OW.nil (hK _ ?_)
        refine hN8 [] ((taken1 || (((so.getD t28.toNat 0) == t23) && (w_near.getD (((so.length : Int).toNat) * 8 + t28.toNat) false))), w64 (t28 + (1 : Int))) _ H (by exact trivial) ?_
        (simp only [sw1, go_sem, simprocAttr]; done)
       ·
        replace H := br_f h9 H
        refine PW.exit ?_
        refine hN7 [] taken1 _ H (by exact trivial) ?_
        (simp only [sw1, go_sem, simprocAttr]; done)
      ·
       rintro taken H
       try simp only [go_sem, simprocAttr]
       refine PW.seq ?_
       refine PW.seq ?_
       refine PW.regionK fun K hK => OW.run [0, 1, 2, 7, 8, 22, 23, 50] ?_
       simp only [go_sem, simprocAttr, sw0]
       refine OW.nil (hK _ ?_)
       refine PW.cond rfl (fun h15 => ?_) (fun h15 => ?_)
       ·
        replace H := br_t h15 H
        refine PW.exit ?_
        refine hN6 [] () _ H (by exact trivial) ?_
        (simp only [sw1, go_sem, simprocAttr]; done)
       ·
        replace H := br_f h15 H
        refine PW.skip ?_
        refine PW.seq ?_
        obtain ⟨x1, e1, H⟩ := bnd_some H
        obtain ⟨c16, H⟩ := chk_some H
        obtain ⟨x2, e2, H⟩ := bnd_some H
        refine PW.regionK fun K hK => OW.run [0, 1, 2, 7, 12, 22, 23] ?_
        simp only [go_sem, simprocAttr, sw0]
        refine OW.call' 4 rfl rfl rfl (by first | exact rfl | ((simp only [go_sem, List.toList_toArray, simprocAttr]); exact rfl)) ?_ (slices_Clone_ii_ok N _ _ e1) ?_ ?_ ?_ ?_
        · rfl
        · exact okD_all rfl
        · exact .inl rfl
        · (simp only [go_sem, Nat.reduceLT])
        refine OW.run [0, 1, 2, 7, 12, 22, 23] ?_
        simp only [go_sem, simprocAttr, sw0]
        repeat (refine And.intro (by omega) ?_)
        refine OW.frz 0 (by exact Nat.le_refl _) (by (simp only [go_sem, isD, allD_mapV]; done)) ?_
        simp only [map_nz_I, map_nz_Bo, map_nz_Sx, map_nz_L, nz_int, nz_bool, nz_str, nz_list, nz_ref, nz_nil, go_sem, simprocAttr]
        refine OW.call' 4 rfl rfl rfl (by first | exact rfl | ((simp only [go_sem, List.toList_toArray, simprocAttr]); exact rfl)) ?_ (ih _ _ _ _ _ e2) ?_ ?_ ?_ ?_
        · (((simp only [go_sem, sw1, simprocAttr]; try simp only [seg, go_sem, simprocAttr])); simp only [take_app1, L_app1]; done)
        · exact okD_all rfl
        · exact .inl rfl
        · (simp only [go_sem, Nat.reduceLT])
        refine OW.run [0, 1, 2, 7, 12, 22, 23] ?_
        simp only [go_sem, simprocAttr, sw0]
        refine OW.nil (hK _ ?_)
        refine PW.seq ?_
        refine PW.regionK fun K hK => ?_
        refine OW.step rfl ?_
        simp only [go_sem, simprocAttr, sw0]
        refine OW.binLN (l := x2) (.inr rfl) rfl rfl se25 rfl rfl (by (simp only [go_sem, Nat.reduceLT])) ?_
        try simp only [go_sem, simprocAttr]
        change OW _ _ _ _ _ _
        refine OW.run [0, 1, 2, 7, 12, 22, 23, 60] ?_
        simp only [go_sem, simprocAttr, sw0]
        refine OW.nil (hK _ ?_)
        refine PW.cond rfl (fun h17 => ?_) (fun h17 => ?_)
        ·
         replace H := br_t h17 H
         refine PW.seq ?_
         refine PW.regionK fun K hK => OW.run [6] ?_
         simp only [go_sem, simprocAttr, sw0]
         refine OW.nil (hK _ ?_)
         refine PW.ret ?_
         change PW.Ends _ _ _ _ _ _
         refine PW.Ends.intro (.inr rfl) ?_
         simp only [go_sem, simprocAttr, sw0]
         obtain rfl := Option.some.inj H
         exact RetOK.keepD
        ·
         replace H := br_f h17 H
         refine PW.skip ?_
         refine hN6 [] () _ H (by exact trivial) ?_
         (simp only [sw1, go_sem, simprocAttr]; done)
     ·
      rintro _ H
      try simp only [go_sem, simprocAttr]
      refine PW.regionK fun K hK => OW.run [0, 1, 2, 7, 22, 23] ?_
      simp only [go_sem, simprocAttr, sw0]
      refine OW.nil (hK _ ?_)
      refine hN4 [] (w64 (t23 + (1 : Int))) _ H (by exact trivial) ?_
      (simp only [sw1, go_sem, simprocAttr]; done)
    ·
     replace H := br_f h5 H
     refine PW.exit ?_
     refine hN3 [] () _ H (by exact trivial) ?_
     (simp only [sw1, go_sem, simprocAttr]; done)
   ·
    rintro _ H
    try simp only [go_sem, simprocAttr]
    refine PW.seq ?_
    refine PW.regionK fun K hK => OW.run [6] ?_
    simp only [go_sem, simprocAttr, sw0]
    refine OW.nil (hK _ ?_)
    refine PW.ret ?_
    change PW.Ends _ _ _ _ _ _
    refine PW.Ends.intro (.inr rfl) ?_
    simp only [go_sem, simprocAttr, sw0]
    obtain rfl := Option.some.inj H
    exact RetOK.keepD
theorem plan_web_kinds_ok (N : Nat) (w_cells : Int) (w_near : List Bool) (so : List Int) (most : Int) (r : List Int) (H : plan_web_kinds N w_cells w_near so most = some r) : CallOK Try.prog 63 [(.ref ((I w_cells) :: w_near.map Bo)), (L so), (I most)] (.d (LN r)) [] := plan_web_kinds_okr N  N w_cells w_near so most r H

theorem plan_FewestKinds_ok (N : Nat) (Zp : Int) (Zq : List (Int × Int)) (r : List Int × Int × Int) (H : plan_FewestKinds N Zp Zq = some r) : CallOK Try.prog 21 [(.agg [(I Zp), (.list Zq.length (Zq.flatMap (fun (x : Int × Int) => [(I x.1), (I x.2)])))])] (.d (.tup [(L r.1), (I r.2.1), (I r.2.2)])) [] := by
 refine CallOK.of_PW Try.func21 rfl (by rw [Try.results21]) Try.ntmps21 Try.call21 ?_
 change PW _ _ _ _ _
 try simp only [go_sem, simprocAttr]
 unfold plan_FewestKinds at H
 refine PW.seq ?_
 refine PW.regionK fun K hK => OW.run [1] ?_
 simp only [go_sem, simprocAttr, sw0]
 refine OW.nil (hK _ ?_); clear hK K
 refine PW.seq ?_
 refine PW.regionK fun K hK => OW.run [5, 6] ?_
 simp only [go_sem, simprocAttr, sw0]
 refine OW.inlineA rfl rfl rfl (by first | exact rfl | ((simp only [go_sem, List.toList_toArray, simprocAttr]); exact rfl)) Try.func54 rfl (by rw [Try.results54]) Try.ntmps54 Try.call54 (by (simp only [go_sem, Nat.reduceLT])) ?_
 intro p G
 change PW _ _ _ _ _
 try simp only [go_sem, simprocAttr]
 refine PW.seq ?_
 refine PW.regionK fun K hK => OW.run [1] ?_
 simp only [go_sem, simprocAttr, sw0]
 refine OW.nil (hK _ ?_); clear hK K
 refine PW.seq ?_
 refine PW.seq ?_
 obtain ⟨⟨x1, x11⟩, e1, H⟩ := bnd_some H
 refine PW.regionK fun K hK => OW.run [1, 5] ?_
 simp only [go_sem, simprocAttr, sw0]
 refine OW.call' 4 rfl rfl rfl (by first | exact rfl | ((simp only [go_sem, List.toList_toArray, simprocAttr]); exact rfl)) ?_ (plan_CheckNet_ok N _ _ _ e1) ?_ ?_ ?_ ?_
 rfl
 · (refine okAll_intro ?_; (simp only [go_sem, sw2, List.length_set, List.length_replicate, and_true, true_and, Nat.le_refl, simprocAttr]; done))
 exact .inl rfl
 (simp only [go_sem, Nat.reduceLT])
 refine OW.run [1, 5] ?_
 simp only [go_sem, simprocAttr, sw0]
 refine OW.nil (hK _ ?_); clear hK K
 refine PW.seq ?_
 refine PW.regionK fun K hK => OW.run [1, 5, 19] ?_
 simp only [go_sem, simprocAttr, sw0]
 refine OW.nil (hK _ ?_); clear hK K
 refine PW.cond rfl (fun h1 => ?_) (fun h1 => ?_)
 replace H := br_t h1 H
 refine PW.seq ?_
 refine PW.regionK fun K hK => OW.run [2, 3] ?_
 simp only [go_sem, simprocAttr, sw0]
 refine OW.nil (hK _ ?_); clear hK K
 refine PW.ret ?_
 refine ⟨.inr rfl, rfl, rfl, ?_⟩
 simp only [go_sem, simprocAttr, sw0]
 change OW _ _ _ _ _ _
 refine OW.run [5, 6] ?_
 simp only [go_sem, simprocAttr, sw0]
 refine OW.nil (hK _ ?_); clear hK K
 refine PW.seq ?_
 refine PW.seq ?_
 refine PW.regionK fun K hK => OW.run [5, 6, 15] ?_
 simp only [go_sem, simprocAttr, sw0]
 refine OW.nil (hK _ ?_); clear hK K
 refine PW.cond rfl (fun h2 => ?_) (fun h2 => ?_)
 refine PW.seq ?_
 refine PW.regionK fun K hK => OW.run [2, 3, 4] ?_
 simp only [go_sem, simprocAttr, sw0]
 refine OW.nil (hK _ ?_); clear hK K
 refine PW.ret ?_
 change PW.Ends _ _ _ _ _ _
 refine PW.Ends.intro (.inr rfl) ?_
 simp only [go_sem, simprocAttr, sw0]
 obtain rfl := Option.some.inj H
 refine RetOK.data' 4 (by exact okD_all rfl) ?_
 rfl
 exact absurd (h2.symm.trans h1) (by decide)
 replace H := br_f h1 H
 refine PW.skip ?_
 refine PW.seq ?_
 refine PW.regionK fun K hK => OW.run [1, 6] ?_
 simp only [go_sem, simprocAttr, sw0]
 repeat (refine And.intro (by omega) ?_)
 refine OW.nil (hK _ ?_); clear hK K
 refine PW.seq ?_
 refine PW.regionK fun K hK => OW.run [1, 6, 7] ?_
 simp only [go_sem, simprocAttr, sw0]
 refine OW.nil (hK _ ?_); clear hK K
 refine PW.joinS (τ := List Bool) [1, 6, 7] 4 (fun b3 => []) (fun b3 => [{ cells := [.d (I Zp), .d (.list Zq.length (Zq.flatMap (fun (x : Int × Int) => [(I x.1), (I x.2)])))], e := 24 }, { cells := [.d (I Zp), .d (.list Zq.length (Zq.flatMap (fun (x : Int × Int) => [(I x.1), (I x.2)])))], e := 24 }, { cells := .d (I Zp) :: ((List.replicate 64 false).map Bo).map .d, e := 106 }, { cells := (b3.map Bo).map .d, e := 104 }]) _ _ r (by (simp only [go_sem]; omega)) H ?_ ?_
 intro K_ H N3 hN3
 refine PW.seq ?_
 refine PW.regionK fun K hK => OW.run [1, 6, 7, 26, 27, 28] ?_
 simp only [go_sem, simprocAttr, sw0]
 repeat (refine And.intro (by omega) ?_)
 refine OW.nil (hK _ ?_); clear hK K
 refine PW.block ?_
 refine PW.loopS (σ := Int × List Bool) [1, 6, 7, 26, 27, 28] 4 (fun (t28, b31) => [(28, .d (I t28))]) (fun (t28, b31) => [{ cells := [.d (I Zp), .d (.list Zq.length (Zq.flatMap (fun (x : Int × Int) => [(I x.1), (I x.2)])))], e := 24 }, { cells := [.d (I Zp), .d (.list Zq.length (Zq.flatMap (fun (x : Int × Int) => [(I x.1), (I x.2)])))], e := 24 }, { cells := .d (I Zp) :: ((List.replicate 64 false).map Bo).map .d, e := 106 }, { cells := (b31.map Bo).map .d, e := 104 }]) (plan_FewestKinds.b1 N Zq K_) r N ((0 : Int), (List.replicate 64 false)) (by (simp only [go_sem]; omega)) H (by (simp only [sw1, go_sem, simprocAttr]; done)) ?_
 rintro n ⟨t28, b31⟩ H N4 hN4
 unfold plan_FewestKinds.b1 at H
 try simp only [go_sem, simprocAttr]
 refine PW.seq ?_
 refine PW.regionK fun K hK => OW.run [1, 6, 7, 26, 27, 28, 29] ?_
 simp only [go_sem, simprocAttr, sw0]
 refine OW.nil (hK _ ?_); clear hK K
 refine PW.seq ?_
 refine PW.cond rfl (fun h5 => ?_) (fun h5 => ?_)
 ·
  replace H := br_t h5 H
  refine PW.skip ?_
  refine PW.seq ?_
  refine PW.block ?_
  refine PW.seq ?_
  obtain ⟨c6, H⟩ := chk_some H
  refine PW.regionK fun K hK => OW.run [1, 6, 7, 9, 26, 27, 28] ?_
  (simp only [go_sem, simprocAttr, sw0, flatMap_length 2 (fun (x : Int × Int) => [(I x.1), (I x.2)]) (fun _ => rfl), sub_el 2 (fun (x : Int × Int) => [(I x.1), (I x.2)]) (fun _ => rfl) Zq t28.toNat (by omega)])
  repeat (refine And.intro (by omega) ?_)
  refine OW.nil (hK _ ?_); clear hK K
  change PW _ _ _ _ _
  obtain ⟨c7, H⟩ := chk_some H
  obtain ⟨c8, H⟩ := chk_some H
  obtain ⟨c9, H⟩ := chk_some H
  obtain ⟨c10, H⟩ := chk_some H
  obtain ⟨c11, H⟩ := chk_some H
  obtain ⟨c12, H⟩ := chk_some H
  refine PW.drawX 12 [10] (fun j => List.getD [[{ cells := [.d (I Zp), .d (.list Zq.length (Zq.flatMap (fun (x : Int × Int) => [(I x.1), (I x.2)])))], e := 24 }, { cells := [.d (I Zp), .d (.list Zq.length (Zq.flatMap (fun (x : Int × Int) => [(I x.1), (I x.2)])))], e := 24 }, { cells := .d (I Zp) :: ((List.replicate 64 false).map Bo).map .d, e := 106 }, { cells := (b31.map Bo).map .d, e := 104 }, { cells := [.d (I ((Zq.getD t28.toNat default).1)), .d (I ((Zq.getD t28.toNat default).2))], e := 42 }], [{ cells := [.d (I Zp), .d (.list Zq.length (Zq.flatMap (fun (x : Int × Int) => [(I x.1), (I x.2)])))], e := 24 }, { cells := [.d (I Zp), .d (.list Zq.length (Zq.flatMap (fun (x : Int × Int) => [(I x.1), (I x.2)])))], e := 24 }, { cells := .d (I Zp) :: ((List.replicate 64 false).map Bo).map .d, e := 106 }, { cells := ((b31.set ((((Zq.getD t28.toNat default).1).toNat) * 8 + (((Zq.getD t28.toNat default).2).toNat)) true).map Bo).map .d, e := 104 }, { cells := [.d (I ((Zq.getD t28.toNat default).1)), .d (I ((Zq.getD t28.toNat default).2))], e := 42 }]] j []) (fun _ v => v) mixed (by kernel_rfl) (by decide) (by ((refine ⟨by decide, ?_⟩; intro k i i' h1 h2 o ho; match k, h1, h2 with | 0, h1, h2 => (simp at h1 h2 <;> first | (cases h2; done) | (subst h1; subst h2; simp at ho; subst ho; simp [Region.binds]; done)) | 1, h1, h2 => (simp at h1 h2 <;> first | (cases h2; done) | (subst h1; subst h2; simp at ho; subst ho; simp [Region.binds]; done)) | 2, h1, h2 => (simp at h1 h2 <;> first | (cases h2; done) | (subst h1; subst h2; simp at ho; subst ho; simp [Region.binds]; done)) | k + 3, h1, h2 => (simp at h2; done)))) (fun _ => rfl) (by decide) (freshL rfl) rfl rfl fun K hK => ?_
  change FWX _ _ _ _ _ _ _ _ _ _
  refine FWX.op (by decide) rfl (.ptr 4 0) 0 0 (.inl rfl) (.inr ⟨_, _, { on := 0, ground := .phase }, rfl, rfl, by simp, rfl, rfl⟩) ?_ ?_ (by (simp only [go_sem, Nat.reduceLT])) ?_
  ·
   intro j hj1 hj2
   have hj : j = 0 := by omega
   subst hj
   all_goals (refine ⟨?_, ?_⟩)
   all_goals (first | rfl | trivial | ((simp only [go_sem, simprocAttr, sw0, set_mapF Bo b31 ((((Zq.getD t28.toNat default).1).toNat) * 8 + (((Zq.getD t28.toNat default).2).toNat)), set_mapF Bo (b31.set ((((Zq.getD t28.toNat default).1).toNat) * 8 + (((Zq.getD t28.toNat default).2).toNat)) true) ((((Zq.getD t28.toNat default).2).toNat) * 8 + (((Zq.getD t28.toNat default).1).toNat))]); first | done | rfl | omega | assumption | decide | (simp only [List.append_assoc, List.cons_append, List.nil_append]; done) | ((repeat (refine And.intro (by first | rfl | omega | assumption | decide) ?_)); first | rfl | omega | assumption | decide)))
  exact KeptX.same fun _ _ => rfl
  try simp only [go_sem, simprocAttr]
  refine FWX.op (by decide) rfl (.d (I ((Zq.getD t28.toNat default).1))) 0 0 (.inl rfl) (.inr ⟨_, _, { on := 1, ground := .phase }, rfl, rfl, by simp, rfl, rfl⟩) ?_ ?_ (by (simp only [go_sem, Nat.reduceLT])) ?_
  ·
   intro j hj1 hj2
   have hj : j = 0 := by omega
   subst hj
   all_goals (refine ⟨?_, ?_⟩)
   all_goals (first | rfl | trivial | ((simp only [go_sem, simprocAttr, sw0, set_mapF Bo b31 ((((Zq.getD t28.toNat default).1).toNat) * 8 + (((Zq.getD t28.toNat default).2).toNat)), set_mapF Bo (b31.set ((((Zq.getD t28.toNat default).1).toNat) * 8 + (((Zq.getD t28.toNat default).2).toNat)) true) ((((Zq.getD t28.toNat default).2).toNat) * 8 + (((Zq.getD t28.toNat default).1).toNat))]); first | done | rfl | omega | assumption | decide | (simp only [List.append_assoc, List.cons_append, List.nil_append]; done) | ((repeat (refine And.intro (by first | rfl | omega | assumption | decide) ?_)); first | rfl | omega | assumption | decide)))
  exact KeptX.same fun _ _ => rfl
  try simp only [go_sem, simprocAttr]
  refine FWX.op (by decide) rfl (.ptr 4 1) 0 0 (.inl rfl) (.inr ⟨_, _, { on := 2, ground := .phase }, rfl, rfl, by simp, rfl, rfl⟩) ?_ ?_ (by (simp only [go_sem, Nat.reduceLT])) ?_
  ·
   intro j hj1 hj2
   have hj : j = 0 := by omega
   subst hj
   all_goals (refine ⟨?_, ?_⟩)
   all_goals (first | rfl | trivial | ((simp only [go_sem, simprocAttr, sw0, set_mapF Bo b31 ((((Zq.getD t28.toNat default).1).toNat) * 8 + (((Zq.getD t28.toNat default).2).toNat)), set_mapF Bo (b31.set ((((Zq.getD t28.toNat default).1).toNat) * 8 + (((Zq.getD t28.toNat default).2).toNat)) true) ((((Zq.getD t28.toNat default).2).toNat) * 8 + (((Zq.getD t28.toNat default).1).toNat))]); first | done | rfl | omega | assumption | decide | (simp only [List.append_assoc, List.cons_append, List.nil_append]; done) | ((repeat (refine And.intro (by first | rfl | omega | assumption | decide) ?_)); first | rfl | omega | assumption | decide)))
  exact KeptX.same fun _ _ => rfl
  try simp only [go_sem, simprocAttr]
  refine FWX.op (by decide) rfl (.d (I ((Zq.getD t28.toNat default).2))) 0 0 (.inl rfl) (.inr ⟨_, _, { on := 3, ground := .phase }, rfl, rfl, by simp, rfl, rfl⟩) ?_ ?_ (by (simp only [go_sem, Nat.reduceLT])) ?_
  ·
   intro j hj1 hj2
   have hj : j = 0 := by omega
   subst hj
   all_goals (refine ⟨?_, ?_⟩)
   all_goals (first | rfl | trivial | ((simp only [go_sem, simprocAttr, sw0, set_mapF Bo b31 ((((Zq.getD t28.toNat default).1).toNat) * 8 + (((Zq.getD t28.toNat default).2).toNat)), set_mapF Bo (b31.set ((((Zq.getD t28.toNat default).1).toNat) * 8 + (((Zq.getD t28.toNat default).2).toNat)) true) ((((Zq.getD t28.toNat default).2).toNat) * 8 + (((Zq.getD t28.toNat default).1).toNat))]); first | done | rfl | omega | assumption | decide | (simp only [List.append_assoc, List.cons_append, List.nil_append]; done) | ((repeat (refine And.intro (by first | rfl | omega | assumption | decide) ?_)); first | rfl | omega | assumption | decide)))
  exact KeptX.same fun _ _ => rfl
  try simp only [go_sem, simprocAttr]
  refine FWX.op (by decide) rfl (.ptr 4 1) 0 1 (.inl rfl) (.inl rfl) ?_ ?_ (by (simp only [go_sem, Nat.reduceLT])) ?_
  ·
   intro j hj1 hj2
   have hj : j = 0 ∨ j = 1 := by omega
   rcases hj with rfl | rfl
   all_goals (refine ⟨?_, ?_⟩)
   all_goals (first | rfl | trivial | ((simp only [go_sem, simprocAttr, sw0, set_mapF Bo b31 ((((Zq.getD t28.toNat default).1).toNat) * 8 + (((Zq.getD t28.toNat default).2).toNat)), set_mapF Bo (b31.set ((((Zq.getD t28.toNat default).1).toNat) * 8 + (((Zq.getD t28.toNat default).2).toNat)) true) ((((Zq.getD t28.toNat default).2).toNat) * 8 + (((Zq.getD t28.toNat default).1).toNat))]); first | done | rfl | omega | assumption | decide | (simp only [List.append_assoc, List.cons_append, List.nil_append]; done) | ((repeat (refine And.intro (by first | rfl | omega | assumption | decide) ?_)); first | rfl | omega | assumption | decide)))
  exact KeptX.same fun _ _ => rfl
  try simp only [go_sem, simprocAttr]
  refine FWX.op (by decide) rfl (.d (I ((Zq.getD t28.toNat default).2))) 0 1 (.inl rfl) (.inl rfl) ?_ ?_ (by (simp only [go_sem, Nat.reduceLT])) ?_
  ·
   intro j hj1 hj2
   have hj : j = 0 ∨ j = 1 := by omega
   rcases hj with rfl | rfl
   all_goals (refine ⟨?_, ?_⟩)
   all_goals (first | rfl | trivial | ((simp only [go_sem, simprocAttr, sw0, set_mapF Bo b31 ((((Zq.getD t28.toNat default).1).toNat) * 8 + (((Zq.getD t28.toNat default).2).toNat)), set_mapF Bo (b31.set ((((Zq.getD t28.toNat default).1).toNat) * 8 + (((Zq.getD t28.toNat default).2).toNat)) true) ((((Zq.getD t28.toNat default).2).toNat) * 8 + (((Zq.getD t28.toNat default).1).toNat))]); first | done | rfl | omega | assumption | decide | (simp only [List.append_assoc, List.cons_append, List.nil_append]; done) | ((repeat (refine And.intro (by first | rfl | omega | assumption | decide) ?_)); first | rfl | omega | assumption | decide)))
  exact KeptX.same fun _ _ => rfl
  try simp only [go_sem, simprocAttr]
  refine FWX.op (by decide) rfl (.ptr 4 0) 0 1 (.inl rfl) (.inl rfl) ?_ ?_ (by (simp only [go_sem, Nat.reduceLT])) ?_
  ·
   intro j hj1 hj2
   have hj : j = 0 ∨ j = 1 := by omega
   rcases hj with rfl | rfl
   all_goals (refine ⟨?_, ?_⟩)
   all_goals (first | rfl | trivial | ((simp only [go_sem, simprocAttr, sw0, set_mapF Bo b31 ((((Zq.getD t28.toNat default).1).toNat) * 8 + (((Zq.getD t28.toNat default).2).toNat)), set_mapF Bo (b31.set ((((Zq.getD t28.toNat default).1).toNat) * 8 + (((Zq.getD t28.toNat default).2).toNat)) true) ((((Zq.getD t28.toNat default).2).toNat) * 8 + (((Zq.getD t28.toNat default).1).toNat))]); first | done | rfl | omega | assumption | decide | (simp only [List.append_assoc, List.cons_append, List.nil_append]; done) | ((repeat (refine And.intro (by first | rfl | omega | assumption | decide) ?_)); first | rfl | omega | assumption | decide)))
  exact KeptX.same fun _ _ => rfl
  try simp only [go_sem, simprocAttr]
  refine FWX.op (by decide) rfl (.d (I ((Zq.getD t28.toNat default).1))) 0 1 (.inl rfl) (.inl rfl) ?_ ?_ (by (simp only [go_sem, Nat.reduceLT])) ?_
  ·
   intro j hj1 hj2
   have hj : j = 0 ∨ j = 1 := by omega
   rcases hj with rfl | rfl
   all_goals (refine ⟨?_, ?_⟩)
   all_goals (first | rfl | trivial | ((simp only [go_sem, simprocAttr, sw0, set_mapF Bo b31 ((((Zq.getD t28.toNat default).1).toNat) * 8 + (((Zq.getD t28.toNat default).2).toNat)), set_mapF Bo (b31.set ((((Zq.getD t28.toNat default).1).toNat) * 8 + (((Zq.getD t28.toNat default).2).toNat)) true) ((((Zq.getD t28.toNat default).2).toNat) * 8 + (((Zq.getD t28.toNat default).1).toNat))]); first | done | rfl | omega | assumption | decide | (simp only [List.append_assoc, List.cons_append, List.nil_append]; done) | ((repeat (refine And.intro (by first | rfl | omega | assumption | decide) ?_)); first | rfl | omega | assumption | decide)))
  exact KeptX.same fun _ _ => rfl
  try simp only [go_sem, simprocAttr]
  refine FWX.op (by decide) rfl (.ptr 3 ((((Zq.getD t28.toNat default).1).toNat) * 8)) 0 1 (.inl rfl) (.inl rfl) ?_ ?_ (by (simp only [go_sem, Nat.reduceLT])) ?_
  ·
   intro j hj1 hj2
   have hj : j = 0 ∨ j = 1 := by omega
   rcases hj with rfl | rfl
   all_goals (refine ⟨?_, ?_⟩)
   all_goals (first | rfl | trivial | ((simp only [go_sem, simprocAttr, sw0, set_mapF Bo b31 ((((Zq.getD t28.toNat default).1).toNat) * 8 + (((Zq.getD t28.toNat default).2).toNat)), set_mapF Bo (b31.set ((((Zq.getD t28.toNat default).1).toNat) * 8 + (((Zq.getD t28.toNat default).2).toNat)) true) ((((Zq.getD t28.toNat default).2).toNat) * 8 + (((Zq.getD t28.toNat default).1).toNat))]); first | done | rfl | omega | assumption | decide | (simp only [List.append_assoc, List.cons_append, List.nil_append]; done) | ((repeat (refine And.intro (by first | rfl | omega | assumption | decide) ?_)); first | rfl | omega | assumption | decide)))
  exact KeptX.same fun _ _ => rfl
  try simp only [go_sem, simprocAttr]
  refine FWX.op (by decide) rfl (.ptr 3 ((((Zq.getD t28.toNat default).1).toNat) * 8 + (((Zq.getD t28.toNat default).2).toNat))) 0 0 (.inl rfl) (.inr ⟨_, _, { on := 9, ground := .data }, rfl, rfl, by simp, rfl, rfl⟩) ?_ ?_ (by (simp only [go_sem, Nat.reduceLT])) ?_
  ·
   intro j hj1 hj2
   have hj : j = 0 := by omega
   subst hj
   all_goals (refine ⟨?_, ?_⟩)
   all_goals (first | rfl | trivial | ((simp only [go_sem, simprocAttr, sw0, set_mapF Bo b31 ((((Zq.getD t28.toNat default).1).toNat) * 8 + (((Zq.getD t28.toNat default).2).toNat)), set_mapF Bo (b31.set ((((Zq.getD t28.toNat default).1).toNat) * 8 + (((Zq.getD t28.toNat default).2).toNat)) true) ((((Zq.getD t28.toNat default).2).toNat) * 8 + (((Zq.getD t28.toNat default).1).toNat))]); first | done | rfl | omega | assumption | decide | (simp only [List.append_assoc, List.cons_append, List.nil_append]; done) | ((repeat (refine And.intro (by first | rfl | omega | assumption | decide) ?_)); first | rfl | omega | assumption | decide)))
  exact KeptX.same fun _ _ => rfl
  try simp only [go_sem, simprocAttr]
  refine FWX.store (q := 0) (by decide) rfl rfl rfl rfl (fun _ => rfl) ?_ ?_ ?_
  · first | trivial | ((simp only [go_sem, simprocAttr, sw0, set_mapF Bo b31 ((((Zq.getD t28.toNat default).1).toNat) * 8 + (((Zq.getD t28.toNat default).2).toNat)), set_mapF Bo (b31.set ((((Zq.getD t28.toNat default).1).toNat) * 8 + (((Zq.getD t28.toNat default).2).toNat)) true) ((((Zq.getD t28.toNat default).2).toNat) * 8 + (((Zq.getD t28.toNat default).1).toNat))]); done) | ((simp only [go_sem, simprocAttr, sw0, set_mapF Bo b31 ((((Zq.getD t28.toNat default).1).toNat) * 8 + (((Zq.getD t28.toNat default).2).toNat)), set_mapF Bo (b31.set ((((Zq.getD t28.toNat default).1).toNat) * 8 + (((Zq.getD t28.toNat default).2).toNat)) true) ((((Zq.getD t28.toNat default).2).toNat) * 8 + (((Zq.getD t28.toNat default).1).toNat))]); first | omega | (repeat (refine And.intro (by (first | omega | assumption | rfl | decide | (simp only [List.length_map, List.length_replicate, List.length_append, List.length_take, List.length_drop, List.length_set, List.length_cons, List.length_nil, Nat.zero_add, Int.toNat_natCast] at *; omega) | (simp only [List.length_map, List.length_replicate, List.length_append, List.length_take, List.length_drop, List.length_set, List.length_cons, List.length_nil, Nat.zero_add, Int.toNat_natCast]; done) | trivial)) ?_); (first | omega | assumption | rfl | decide | (simp only [List.length_map, List.length_replicate, List.length_append, List.length_take, List.length_drop, List.length_set, List.length_cons, List.length_nil, Nat.zero_add, Int.toNat_natCast] at *; omega) | (simp only [List.length_map, List.length_replicate, List.length_append, List.length_take, List.length_drop, List.length_set, List.length_cons, List.length_nil, Nat.zero_add, Int.toNat_natCast]; done) | trivial)))
  · first | rfl | ((simp only [go_sem, simprocAttr, sw0, set_mapF Bo b31 ((((Zq.getD t28.toNat default).1).toNat) * 8 + (((Zq.getD t28.toNat default).2).toNat)), set_mapF Bo (b31.set ((((Zq.getD t28.toNat default).1).toNat) * 8 + (((Zq.getD t28.toNat default).2).toNat)) true) ((((Zq.getD t28.toNat default).2).toNat) * 8 + (((Zq.getD t28.toNat default).1).toNat))]); done) | ((simp only [go_sem, simprocAttr, sw0, set_mapF Bo b31 ((((Zq.getD t28.toNat default).1).toNat) * 8 + (((Zq.getD t28.toNat default).2).toNat)), set_mapF Bo (b31.set ((((Zq.getD t28.toNat default).1).toNat) * 8 + (((Zq.getD t28.toNat default).2).toNat)) true) ((((Zq.getD t28.toNat default).2).toNat) * 8 + (((Zq.getD t28.toNat default).1).toNat))]); rfl) | ((simp only [go_sem, simprocAttr, sw0, set_mapF Bo b31 ((((Zq.getD t28.toNat default).1).toNat) * 8 + (((Zq.getD t28.toNat default).2).toNat)), set_mapF Bo (b31.set ((((Zq.getD t28.toNat default).1).toNat) * 8 + (((Zq.getD t28.toNat default).2).toNat)) true) ((((Zq.getD t28.toNat default).2).toNat) * 8 + (((Zq.getD t28.toNat default).1).toNat))]); simp only [List.append_assoc, List.cons_append, List.nil_append]; done)
  try simp only [go_sem, simprocAttr]
  refine FWX.op (by decide) rfl (.ptr 3 ((((Zq.getD t28.toNat default).2).toNat) * 8)) 0 1 (.inl rfl) (.inl rfl) ?_ ?_ (by (simp only [go_sem, Nat.reduceLT])) ?_
  ·
   intro j hj1 hj2
   have hj : j = 0 ∨ j = 1 := by omega
   rcases hj with rfl | rfl
   all_goals (refine ⟨?_, ?_⟩)
   all_goals (first | rfl | trivial | ((simp only [go_sem, simprocAttr, sw0, set_mapF Bo b31 ((((Zq.getD t28.toNat default).1).toNat) * 8 + (((Zq.getD t28.toNat default).2).toNat)), set_mapF Bo (b31.set ((((Zq.getD t28.toNat default).1).toNat) * 8 + (((Zq.getD t28.toNat default).2).toNat)) true) ((((Zq.getD t28.toNat default).2).toNat) * 8 + (((Zq.getD t28.toNat default).1).toNat))]); first | done | rfl | omega | assumption | decide | (simp only [List.append_assoc, List.cons_append, List.nil_append]; done) | ((repeat (refine And.intro (by first | rfl | omega | assumption | decide) ?_)); first | rfl | omega | assumption | decide)))
  exact KeptX.same fun _ _ => rfl
  try simp only [go_sem, simprocAttr]
  refine FWX.nil ?_
  change OW _ _ _ _ _ _
  change OW _ _ _ _ _ _
  refine OW.run [1, 6, 7, 26, 27, 28] ?_
  (simp only [go_sem, simprocAttr, sw0, set_mapF Bo b31 ((((Zq.getD t28.toNat default).1).toNat) * 8 + (((Zq.getD t28.toNat default).2).toNat)), set_mapF Bo (b31.set ((((Zq.getD t28.toNat default).1).toNat) * 8 + (((Zq.getD t28.toNat default).2).toNat)) true) ((((Zq.getD t28.toNat default).2).toNat) * 8 + (((Zq.getD t28.toNat default).1).toNat))])
  repeat (refine And.intro (by omega) ?_)
  refine OW.nil (hK _ ?_); clear hK K
  refine PW.regionK fun K hK => OW.run [1, 6, 7, 26, 27, 28] ?_
  simp only [go_sem, simprocAttr, sw0]
  refine OW.nil (hK _ ?_); clear hK K
  refine hN4 [] (w64 (t28 + (1 : Int)), ((b31.set ((((Zq.getD t28.toNat default).1).toNat) * 8 + (((Zq.getD t28.toNat default).2).toNat)) true).set ((((Zq.getD t28.toNat default).2).toNat) * 8 + (((Zq.getD t28.toNat default).1).toNat)) true)) _ H (by exact trivial) ?_
  simp only [sw1, go_sem, simprocAttr]
 replace H := br_f h5 H
 refine PW.exit ?_
 refine hN3 [] b31 _ H (by exact trivial) ?_
 simp only [sw1, go_sem, simprocAttr]
 rintro b3 H
 try simp only [go_sem, simprocAttr]
 refine PW.joinS (τ := List Bool) [6] 3 (fun b2 => []) (fun b2 => [{ cells := [.d (I Zp), .d (.list Zq.length (Zq.flatMap (fun (x : Int × Int) => [(I x.1), (I x.2)])))], e := 24 }, { cells := [.d (I Zp), .d (.list Zq.length (Zq.flatMap (fun (x : Int × Int) => [(I x.1), (I x.2)])))], e := 24 }, { cells := .d (I Zp) :: (b2.map Bo).map .d, e := 106 }]) _ _ r (by (simp only [go_sem]; omega)) H ?_ ?_
 intro K_1 H N13 hN13
 refine PW.seq ?_
 refine PW.regionK fun K hK => OW.run [1, 6, 7, 46, 47] ?_
 simp only [go_sem, simprocAttr, sw0]
 repeat (refine And.intro (by omega) ?_)
 refine OW.nil (hK _ ?_); clear hK K
 refine PW.block ?_
 refine PW.loopS (σ := Int × List Bool) [1, 6, 7, 46, 47] 4 (fun (t47, b21) => [(47, .d (I t47))]) (fun (t47, b21) => [{ cells := [.d (I Zp), .d (.list Zq.length (Zq.flatMap (fun (x : Int × Int) => [(I x.1), (I x.2)])))], e := 24 }, { cells := [.d (I Zp), .d (.list Zq.length (Zq.flatMap (fun (x : Int × Int) => [(I x.1), (I x.2)])))], e := 24 }, { cells := .d (I Zp) :: (b21.map Bo).map .d, e := 106 }, { cells := (b3.map Bo).map .d, e := 104 }]) (plan_FewestKinds.b2 N Zp b3 K_1) r N ((0 : Int), (List.replicate 64 false)) (by (simp only [go_sem]; omega)) H (by (simp only [sw1, go_sem, simprocAttr]; done)) ?_
 rintro n ⟨t47, b21⟩ H N14 hN14
 unfold plan_FewestKinds.b2 at H
 try simp only [go_sem, simprocAttr]
 refine PW.seq ?_
 refine PW.regionK fun K hK => OW.run [1, 6, 7, 46, 47, 48] ?_
 simp only [go_sem, simprocAttr, sw0]
 refine OW.nil (hK _ ?_); clear hK K
 refine PW.seq ?_
 refine PW.cond rfl (fun h15 => ?_) (fun h15 => ?_)
 replace H := br_t h15 H
 refine PW.skip ?_
 refine PW.joinS (τ := List Bool) [1, 6, 7, 46, 47] 4 (fun b22 => []) (fun b22 => [{ cells := [.d (I Zp), .d (.list Zq.length (Zq.flatMap (fun (x : Int × Int) => [(I x.1), (I x.2)])))], e := 24 }, { cells := [.d (I Zp), .d (.list Zq.length (Zq.flatMap (fun (x : Int × Int) => [(I x.1), (I x.2)])))], e := 24 }, { cells := .d (I Zp) :: (b22.map Bo).map .d, e := 106 }, { cells := (b3.map Bo).map .d, e := 104 }]) _ _ r (by (simp only [go_sem]; omega)) H ?_ ?_
 intro K_2 H N16 hN16
 refine PW.block ?_
 refine PW.seq ?_
 refine PW.regionK fun K hK => OW.run [1, 6, 7, 10, 46, 47] ?_
 simp only [go_sem, simprocAttr, sw0]
 refine OW.nil (hK _ ?_); clear hK K
 refine PW.seq ?_
 refine PW.regionK fun K hK => OW.run [1, 6, 7, 10, 46, 47, 51, 52] ?_
 simp only [go_sem, simprocAttr, sw0]
 repeat (refine And.intro (by omega) ?_)
 refine OW.nil (hK _ ?_); clear hK K
 refine PW.block ?_
 refine PW.loopS (σ := Int × List Bool) [1, 6, 7, 10, 46, 47, 51, 52] 4 (fun (t52, b23) => [(52, .d (I t52))]) (fun (t52, b23) => [{ cells := [.d (I Zp), .d (.list Zq.length (Zq.flatMap (fun (x : Int × Int) => [(I x.1), (I x.2)])))], e := 24 }, { cells := [.d (I Zp), .d (.list Zq.length (Zq.flatMap (fun (x : Int × Int) => [(I x.1), (I x.2)])))], e := 24 }, { cells := .d (I Zp) :: (b23.map Bo).map .d, e := 106 }, { cells := (b3.map Bo).map .d, e := 104 }]) (plan_FewestKinds.b3 N Zp b3 t47 K_2) r N ((0 : Int), b21) (by (simp only [go_sem]; omega)) H (by (simp only [sw1, go_sem, simprocAttr]; done)) ?_
 rintro n ⟨t52, b23⟩ H N17 hN17
 unfold plan_FewestKinds.b3 at H
 try simp only [go_sem, simprocAttr]
 refine PW.seq ?_
 refine PW.regionK fun K hK => OW.run [1, 6, 7, 10, 46, 47, 51, 52, 53] ?_
 simp only [go_sem, simprocAttr, sw0]
 refine OW.nil (hK _ ?_); clear hK K
 refine PW.seq ?_
 refine PW.cond rfl (fun h18 => ?_) (fun h18 => ?_)
 replace H := br_t h18 H
 refine PW.skip ?_
 refine PW.joinS (τ := List Bool) [1, 6, 7, 10, 46, 47, 51, 52] 4 (fun b24 => []) (fun b24 => [{ cells := [.d (I Zp), .d (.list Zq.length (Zq.flatMap (fun (x : Int × Int) => [(I x.1), (I x.2)])))], e := 24 }, { cells := [.d (I Zp), .d (.list Zq.length (Zq.flatMap (fun (x : Int × Int) => [(I x.1), (I x.2)])))], e := 24 }, { cells := .d (I Zp) :: (b24.map Bo).map .d, e := 106 }, { cells := (b3.map Bo).map .d, e := 104 }]) _ _ r (by (simp only [go_sem]; omega)) H ?_ ?_
 intro K_3 H N19 hN19
 refine PW.block ?_
 refine PW.seq ?_
 refine PW.regionK fun K hK => OW.run [1, 6, 7, 10, 11, 46, 47, 51, 52] ?_
 simp only [go_sem, simprocAttr, sw0]
 refine OW.nil (hK _ ?_); clear hK K
 refine PW.seq ?_
 refine PW.regionK fun K hK => OW.run [1, 6, 7, 10, 11, 46, 47, 51, 52, 56, 57] ?_
 simp only [go_sem, simprocAttr, sw0]
 repeat (refine And.intro (by omega) ?_)
 refine OW.nil (hK _ ?_); clear hK K
 refine PW.block ?_
 refine PW.loopS (σ := Int × List Bool) [1, 6, 7, 10, 11, 46, 47, 51, 52, 56, 57] 4 (fun (t57, b25) => [(57, .d (I t57))]) (fun (t57, b25) => [{ cells := [.d (I Zp), .d (.list Zq.length (Zq.flatMap (fun (x : Int × Int) => [(I x.1), (I x.2)])))], e := 24 }, { cells := [.d (I Zp), .d (.list Zq.length (Zq.flatMap (fun (x : Int × Int) => [(I x.1), (I x.2)])))], e := 24 }, { cells := .d (I Zp) :: (b25.map Bo).map .d, e := 106 }, { cells := (b3.map Bo).map .d, e := 104 }]) (plan_FewestKinds.b4 N Zp b3 t47 t52 K_3) r N ((0 : Int), b23) (by (simp only [go_sem]; omega)) H (by (simp only [sw1, go_sem, simprocAttr]; done)) ?_
 rintro n ⟨t57, b25⟩ H N20 hN20
 unfold plan_FewestKinds.b4 at H
 try simp only [go_sem, simprocAttr]
 refine PW.seq ?_
 refine PW.regionK fun K hK => OW.run [1, 6, 7, 10, 11, 46, 47, 51, 52, 56, 57, 58] ?_
 simp only [go_sem, simprocAttr, sw0]
 refine OW.nil (hK _ ?_); clear hK K
 refine PW.seq ?_
 refine PW.cond rfl (fun h21 => ?_) (fun h21 => ?_)
 replace H := br_t h21 H
 refine PW.skip ?_
 refine PW.seq ?_
 refine PW.block ?_
 refine PW.seq ?_
 refine PW.regionK fun K hK => OW.run [1, 6, 7, 10, 11, 12, 46, 47, 51, 52, 56, 57] ?_
 simp only [go_sem, simprocAttr, sw0]
 refine OW.nil (hK _ ?_); clear hK K
 change PW _ _ _ _ _
 obtain ⟨c22, H⟩ := chk_some H
 obtain ⟨c23, H⟩ := chk_some H
 obtain ⟨c24, H⟩ := chk_some H
 obtain ⟨c25, H⟩ := chk_some H
 obtain ⟨c26, H⟩ := chk_some H
 obtain ⟨c27, H⟩ := chk_some H
 obtain ⟨c28, H⟩ := chk_some H
 obtain ⟨c29, H⟩ := chk_some H
 obtain ⟨c30, H⟩ := chk_some H
 obtain ⟨c31, H⟩ := chk_some H
 obtain ⟨c32, H⟩ := chk_some H
 obtain ⟨c33, H⟩ := chk_some H
 refine PW.drawK 40 mixed (by kernel_rfl) fun K hK => ?_
 change FW _ _ _ _ _
 refine FW.toS [(1, .ptr 1 0), (6, .ptr 2 0), (7, .ptr 3 0), (10, .d (I t47)), (11, .d (I t52)), (46, .d (I Zp)), (47, .d (I t47)), (51, .d (I Zp)), (52, .d (I t52)), (56, .d (I Zp)), (57, .d (I t57))] [{ cells := [.d (I Zp), .d (.list Zq.length (Zq.flatMap (fun (x : Int × Int) => [(I x.1), (I x.2)])))], e := 24 }, { cells := [.d (I Zp), .d (.list Zq.length (Zq.flatMap (fun (x : Int × Int) => [(I x.1), (I x.2)])))], e := 24 }, { cells := .d (I Zp) :: ((b25.set (t47.toNat * 8 + t52.toNat) ((b25.getD (t47.toNat * 8 + t52.toNat) false) || ((t47 != t52) && ((b3.getD (t47.toNat * 8 + t52.toNat) false) || ((b3.getD (t47.toNat * 8 + t57.toNat) false) && (b3.getD (t57.toNat * 8 + t52.toNat) false)))))).map Bo).map .d, e := 106 }, { cells := (b3.map Bo).map .d, e := 104 }] ?_ (hK _ ?_)
 intro K hKE
 rcases Bool.eq_false_or_eq_true ((b25.getD (t47.toNat * 8 + t52.toNat) false)) with ha0 | ha0
 refine FW.run ?_
 (simp only [go_sem, simprocAttr, sw0, show 1 + t47.toNat * 8 + t52.toNat = (t47.toNat * 8 + t52.toNat) + 1 by omega, List.getD_cons_succ, List.set_cons_succ, getD_mapVF Bo b25 (t47.toNat * 8 + t52.toNat) false (by omega), getD_mapVF Bo b3 (t47.toNat * 8 + t52.toNat) false (by omega), getD_mapVF Bo b3 (t47.toNat * 8 + t57.toNat) false (by omega), getD_mapVF Bo b3 (t57.toNat * 8 + t52.toNat) false (by omega), set_mapF Bo b25 (t47.toNat * 8 + t52.toNat), ha0])
 repeat (refine And.intro (by omega) ?_)
 refine FW.nil ?_
 change OW _ _ _ _ _ _
 refine OW.run [1, 6, 7, 10, 11, 46, 47, 51, 52, 56, 57] ?_
 (simp only [go_sem, simprocAttr, sw0, show 1 + t47.toNat * 8 + t52.toNat = (t47.toNat * 8 + t52.toNat) + 1 by omega, List.getD_cons_succ, List.set_cons_succ, getD_mapVF Bo b25 (t47.toNat * 8 + t52.toNat) false (by omega), getD_mapVF Bo b3 (t47.toNat * 8 + t52.toNat) false (by omega), getD_mapVF Bo b3 (t47.toNat * 8 + t57.toNat) false (by omega), getD_mapVF Bo b3 (t57.toNat * 8 + t52.toNat) false (by omega), set_mapF Bo b25 (t47.toNat * 8 + t52.toNat), ha0])
 repeat (refine And.intro (by omega) ?_)
 refine OW.nil ((congrArg K ?_).mpr hKE)
 · (first | rfl | (simp only [go_sem, simprocAttr, ha0]; done) | (simp only [go_sem, simprocAttr, ha0]; rfl))
 rcases Bool.eq_false_or_eq_true ((t47 != t52)) with ha1 | ha1
 rcases Bool.eq_false_or_eq_true ((b3.getD (t47.toNat * 8 + t52.toNat) false)) with ha2 | ha2
 refine FW.run ?_
 (simp only [go_sem, simprocAttr, sw0, show 1 + t47.toNat * 8 + t52.toNat = (t47.toNat * 8 + t52.toNat) + 1 by omega, List.getD_cons_succ, List.set_cons_succ, getD_mapVF Bo b25 (t47.toNat * 8 + t52.toNat) false (by omega), getD_mapVF Bo b3 (t47.toNat * 8 + t52.toNat) false (by omega), getD_mapVF Bo b3 (t47.toNat * 8 + t57.toNat) false (by omega), getD_mapVF Bo b3 (t57.toNat * 8 + t52.toNat) false (by omega), set_mapF Bo b25 (t47.toNat * 8 + t52.toNat), ha0, ha1, ha2])
 repeat (refine And.intro (by omega) ?_)
 refine FW.nil ?_
 change OW _ _ _ _ _ _
 refine OW.run [1, 6, 7, 10, 11, 46, 47, 51, 52, 56, 57] ?_
 (simp only [go_sem, simprocAttr, sw0, show 1 + t47.toNat * 8 + t52.toNat = (t47.toNat * 8 + t52.toNat) + 1 by omega, List.getD_cons_succ, List.set_cons_succ, getD_mapVF Bo b25 (t47.toNat * 8 + t52.toNat) false (by omega), getD_mapVF Bo b3 (t47.toNat * 8 + t52.toNat) false (by omega), getD_mapVF Bo b3 (t47.toNat * 8 + t57.toNat) false (by omega), getD_mapVF Bo b3 (t57.toNat * 8 + t52.toNat) false (by omega), set_mapF Bo b25 (t47.toNat * 8 + t52.toNat), ha0, ha1, ha2])
 repeat (refine And.intro (by omega) ?_)
 refine OW.nil ((congrArg K ?_).mpr hKE)
 · (first | rfl | (simp only [go_sem, simprocAttr, ha0, ha1, ha2]; done) | (simp only [go_sem, simprocAttr, ha0, ha1, ha2]; rfl))
 rcases Bool.eq_false_or_eq_true ((b3.getD (t47.toNat * 8 + t57.toNat) false)) with ha3 | ha3
 refine FW.run ?_
 (simp only [go_sem, simprocAttr, sw0, show 1 + t47.toNat * 8 + t52.toNat = (t47.toNat * 8 + t52.toNat) + 1 by omega, List.getD_cons_succ, List.set_cons_succ, getD_mapVF Bo b25 (t47.toNat * 8 + t52.toNat) false (by omega), getD_mapVF Bo b3 (t47.toNat * 8 + t52.toNat) false (by omega), getD_mapVF Bo b3 (t47.toNat * 8 + t57.toNat) false (by omega), getD_mapVF Bo b3 (t57.toNat * 8 + t52.toNat) false (by omega), set_mapF Bo b25 (t47.toNat * 8 + t52.toNat), ha0, ha1, ha2, ha3])
 repeat (refine And.intro (by omega) ?_)
 refine FW.nil ?_
 change OW _ _ _ _ _ _
 refine OW.run [1, 6, 7, 10, 11, 46, 47, 51, 52, 56, 57] ?_
 (simp only [go_sem, simprocAttr, sw0, show 1 + t47.toNat * 8 + t52.toNat = (t47.toNat * 8 + t52.toNat) + 1 by omega, List.getD_cons_succ, List.set_cons_succ, getD_mapVF Bo b25 (t47.toNat * 8 + t52.toNat) false (by omega), getD_mapVF Bo b3 (t47.toNat * 8 + t52.toNat) false (by omega), getD_mapVF Bo b3 (t47.toNat * 8 + t57.toNat) false (by omega), getD_mapVF Bo b3 (t57.toNat * 8 + t52.toNat) false (by omega), set_mapF Bo b25 (t47.toNat * 8 + t52.toNat), ha0, ha1, ha2, ha3])
 repeat (refine And.intro (by omega) ?_)
 refine OW.nil ((congrArg K ?_).mpr hKE)
 · (first | rfl | (simp only [go_sem, simprocAttr, ha0, ha1, ha2, ha3]; done) | (simp only [go_sem, simprocAttr, ha0, ha1, ha2, ha3]; rfl))
 refine FW.run ?_
 (simp only [go_sem, simprocAttr, sw0, show 1 + t47.toNat * 8 + t52.toNat = (t47.toNat * 8 + t52.toNat) + 1 by omega, List.getD_cons_succ, List.set_cons_succ, getD_mapVF Bo b25 (t47.toNat * 8 + t52.toNat) false (by omega), getD_mapVF Bo b3 (t47.toNat * 8 + t52.toNat) false (by omega), getD_mapVF Bo b3 (t47.toNat * 8 + t57.toNat) false (by omega), getD_mapVF Bo b3 (t57.toNat * 8 + t52.toNat) false (by omega), set_mapF Bo b25 (t47.toNat * 8 + t52.toNat), ha0, ha1, ha2, ha3])
 repeat (refine And.intro (by omega) ?_)
 refine FW.nil ?_
 change OW _ _ _ _ _ _
 refine OW.run [1, 6, 7, 10, 11, 46, 47, 51, 52, 56, 57] ?_
 (simp only [go_sem, simprocAttr, sw0, show 1 + t47.toNat * 8 + t52.toNat = (t47.toNat * 8 + t52.toNat) + 1 by omega, List.getD_cons_succ, List.set_cons_succ, getD_mapVF Bo b25 (t47.toNat * 8 + t52.toNat) false (by omega), getD_mapVF Bo b3 (t47.toNat * 8 + t52.toNat) false (by omega), getD_mapVF Bo b3 (t47.toNat * 8 + t57.toNat) false (by omega), getD_mapVF Bo b3 (t57.toNat * 8 + t52.toNat) false (by omega), set_mapF Bo b25 (t47.toNat * 8 + t52.toNat), ha0, ha1, ha2, ha3])
 repeat (refine And.intro (by omega) ?_)
 refine OW.nil ((congrArg K ?_).mpr hKE)
 · (first | rfl | (simp only [go_sem, simprocAttr, ha0, ha1, ha2, ha3]; done) | (simp only [go_sem, simprocAttr, ha0, ha1, ha2, ha3]; rfl))
 refine FW.run ?_
 (simp only [go_sem, simprocAttr, sw0, show 1 + t47.toNat * 8 + t52.toNat = (t47.toNat * 8 + t52.toNat) + 1 by omega, List.getD_cons_succ, List.set_cons_succ, getD_mapVF Bo b25 (t47.toNat * 8 + t52.toNat) false (by omega), getD_mapVF Bo b3 (t47.toNat * 8 + t52.toNat) false (by omega), getD_mapVF Bo b3 (t47.toNat * 8 + t57.toNat) false (by omega), getD_mapVF Bo b3 (t57.toNat * 8 + t52.toNat) false (by omega), set_mapF Bo b25 (t47.toNat * 8 + t52.toNat), ha0, ha1])
 repeat (refine And.intro (by omega) ?_)
 refine FW.nil ?_
 change OW _ _ _ _ _ _
 refine OW.run [1, 6, 7, 10, 11, 46, 47, 51, 52, 56, 57] ?_
 (simp only [go_sem, simprocAttr, sw0, show 1 + t47.toNat * 8 + t52.toNat = (t47.toNat * 8 + t52.toNat) + 1 by omega, List.getD_cons_succ, List.set_cons_succ, getD_mapVF Bo b25 (t47.toNat * 8 + t52.toNat) false (by omega), getD_mapVF Bo b3 (t47.toNat * 8 + t52.toNat) false (by omega), getD_mapVF Bo b3 (t47.toNat * 8 + t57.toNat) false (by omega), getD_mapVF Bo b3 (t57.toNat * 8 + t52.toNat) false (by omega), set_mapF Bo b25 (t47.toNat * 8 + t52.toNat), ha0, ha1])
 repeat (refine And.intro (by omega) ?_)
 refine OW.nil ((congrArg K ?_).mpr hKE)
 · (first | rfl | (simp only [go_sem, simprocAttr, ha0, ha1]; done) | (simp only [go_sem, simprocAttr, ha0, ha1]; rfl))
 clear hK K
 refine PW.regionK fun K hK => OW.run [1, 6, 7, 10, 11, 46, 47, 51, 52, 56, 57] ?_
 simp only [go_sem, simprocAttr, sw0]
 refine OW.nil (hK _ ?_); clear hK K
 refine hN20 [] (w64 (t57 + (1 : Int)), (b25.set (t47.toNat * 8 + t52.toNat) ((b25.getD (t47.toNat * 8 + t52.toNat) false) || ((t47 != t52) && ((b3.getD (t47.toNat * 8 + t52.toNat) false) || ((b3.getD (t47.toNat * 8 + t57.toNat) false) && (b3.getD (t57.toNat * 8 + t52.toNat) false))))))) _ H (by exact trivial) ?_
 simp only [sw1, go_sem, simprocAttr]
 replace H := br_f h21 H
 refine PW.exit ?_
 refine hN19 [] b25 _ H (by exact trivial) ?_
 simp only [sw1, go_sem, simprocAttr]
 rintro b24 H
 try simp only [go_sem, simprocAttr]
 refine PW.regionK fun K hK => OW.run [1, 6, 7, 10, 46, 47, 51, 52] ?_
 simp only [go_sem, simprocAttr, sw0]
 refine OW.nil (hK _ ?_); clear hK K
 refine hN17 [] (w64 (t52 + (1 : Int)), b24) _ H (by exact trivial) ?_
 simp only [sw1, go_sem, simprocAttr]
 replace H := br_f h18 H
 refine PW.exit ?_
 refine hN16 [] b23 _ H (by exact trivial) ?_
 simp only [sw1, go_sem, simprocAttr]
 rintro b22 H
 try simp only [go_sem, simprocAttr]
 refine PW.regionK fun K hK => OW.run [1, 6, 7, 46, 47] ?_
 simp only [go_sem, simprocAttr, sw0]
 refine OW.nil (hK _ ?_); clear hK K
 refine hN14 [] (w64 (t47 + (1 : Int)), b22) _ H (by exact trivial) ?_
 simp only [sw1, go_sem, simprocAttr]
 replace H := br_f h15 H
 refine PW.exit ?_
 refine hN13 [] b21 _ H (by exact trivial) ?_
 simp only [sw1, go_sem, simprocAttr]
 rintro b2 H
 try simp only [go_sem, simprocAttr]
 refine PW.seq ?_
 refine PW.regionK fun K hK => OW.run [2, 3] ?_
 simp only [go_sem, simprocAttr, sw0]
 refine OW.nil (hK _ ?_); clear hK K
 refine PW.ret ?_
 refine ⟨.inr rfl, rfl, rfl, ?_⟩
 simp only [go_sem, simprocAttr, sw0]
 change OW _ _ _ _ _ _
 refine OW.run [5, 6] ?_
 simp only [go_sem, simprocAttr, sw0]
 refine OW.nil (hK _ ?_); clear hK K
 refine PW.seq ?_
 refine PW.seq ?_
 refine PW.regionK fun K hK => OW.run [5, 6, 15] ?_
 simp only [go_sem, simprocAttr, sw0]
 refine OW.nil (hK _ ?_); clear hK K
 refine PW.cond rfl (fun h34 => ?_) (fun h34 => ?_)
 exact absurd h34 (by decide)
 refine PW.skip ?_
 refine PW.seq ?_
 refine PW.regionK fun K hK => OW.run [5, 7] ?_
 simp only [go_sem, simprocAttr, sw0]
 refine OW.nil (hK _ ?_); clear hK K
 refine PW.seq ?_
 obtain ⟨x2, e2, H⟩ := bnd_some H
 refine PW.regionK fun K hK => OW.run [5, 7, 8] ?_
 simp only [go_sem, simprocAttr, sw0]
 refine OW.frz 2 (by exact Nat.zero_le _) (by exact allD_mapV _) ?_
 simp only [map_nz_I, map_nz_Bo, map_nz_Sx, map_nz_L, nz_int, nz_bool, nz_str, nz_list, nz_ref, nz_nil, go_sem, simprocAttr]
 refine OW.call' 4 rfl rfl rfl (by first | exact rfl | ((simp only [go_sem, List.toList_toArray, simprocAttr]); exact rfl)) ?_ (plan_web_kinds_ok N _ _ _ _ _ e2) ?_ ?_ ?_ ?_
 rfl
 exact okD_all rfl
 exact .inl rfl
 (simp only [go_sem, Nat.reduceLT])
 refine OW.run [5, 7, 8] ?_
 simp only [go_sem, simprocAttr, sw0]
 refine OW.nil (hK _ ?_); clear hK K
 refine PW.joinS (τ := Int × List Int) [7, 8] 0 (fun (most, out) => [(7, .d (I most)), (8, .d (LN out))]) (fun (most, out) => []) _ _ r (by exact Nat.le_refl _) H ?_ ?_
 intro K_4 H N35 hN35
 refine PW.block ?_
 refine PW.loopS (σ := Int × List Int) [5, 7, 8] 3 (fun (most1, out1) => [(7, .d (I most1)), (8, .d (LN out1))]) (fun (most1, out1) => [{ cells := [.d (I Zp), .d (.list Zq.length (Zq.flatMap (fun (x : Int × Int) => [(I x.1), (I x.2)])))], e := 24 }, { cells := [.d (I Zp), .d (.list Zq.length (Zq.flatMap (fun (x : Int × Int) => [(I x.1), (I x.2)])))], e := 24 }, { cells := [], e := 106 }]) (plan_FewestKinds.b5 N Zp b2 K_4) r N ((1 : Int), x2) (by exact Nat.zero_le _) H (by (simp only [sw1, go_sem, simprocAttr]; done)) ?_
 rintro n ⟨most1, out1⟩ H N36 hN36
 unfold plan_FewestKinds.b5 at H
 try simp only [go_sem, simprocAttr]
 refine PW.seq ?_
 refine PW.seq ?_
 refine PW.regionK fun K hK => ?_
 refine OW.step rfl ?_
 simp only [go_sem, simprocAttr, sw0]
 refine OW.binLN (l := out1) (.inl rfl) rfl rfl se25 rfl rfl (by (simp only [go_sem, Nat.reduceLT])) ?_
 try simp only [go_sem, simprocAttr]
 change OW _ _ _ _ _ _
 refine OW.run [5, 7, 8, 21] ?_
 simp only [go_sem, simprocAttr, sw0]
 refine OW.nil (hK _ ?_); clear hK K
 refine PW.cond rfl (fun h37 => ?_) (fun h37 => ?_)
 replace H := br_t h37 H
 refine PW.skip ?_
 refine PW.block ?_
 refine PW.seq ?_
 refine PW.regionK fun K hK => OW.run [5, 7] ?_
 simp only [go_sem, simprocAttr, sw0]
 refine OW.nil (hK _ ?_); clear hK K
 change PW _ _ _ _ _
 obtain ⟨x3, e3, H⟩ := bnd_some H
 refine PW.regionK fun K hK => OW.run [5, 7, 8] ?_
 simp only [go_sem, simprocAttr, sw0]
 refine OW.call' 4 rfl rfl rfl (by first | exact rfl | ((simp only [go_sem, List.toList_toArray, simprocAttr]); exact rfl)) ?_ (plan_web_kinds_ok N _ _ _ _ _ e3) ?_ ?_ ?_ ?_
 rfl
 exact okD_all rfl
 exact .inl rfl
 (simp only [go_sem, Nat.reduceLT])
 refine OW.run [5, 7, 8] ?_
 simp only [go_sem, simprocAttr, sw0]
 refine OW.nil (hK _ ?_); clear hK K
 refine hN36 [] (w64 (most1 + (1 : Int)), x3) _ H (by exact trivial) ?_
 simp only [sw1, go_sem, simprocAttr]
 replace H := br_f h37 H
 refine PW.exit ?_
 refine hN35 [] (most1, out1) _ H (by exact trivial) ?_
 simp only [sw1, go_sem, simprocAttr]
 rintro ⟨most, out⟩ H
 try simp only [go_sem, simprocAttr]
 refine PW.seq ?_
 refine PW.regionK fun K hK => OW.run [2, 3, 4] ?_
 simp only [go_sem, simprocAttr, sw0]
 refine OW.nil (hK _ ?_); clear hK K
 refine PW.ret ?_
 change PW.Ends _ _ _ _ _ _
 refine PW.Ends.intro (.inr rfl) ?_
 simp only [go_sem, simprocAttr, sw0]
 obtain rfl := Option.some.inj H
 refine RetOK.data' 4 (by exact okD_all rfl) ?_
 · (((simp only [go_sem, sw1, simprocAttr]; try simp only [seg, go_sem, simprocAttr])); done)

theorem plan_FirstConfusion_1_ok (N : Nat) (a : Int) (b : Int) (a2 : List Int) (r : Bool) (H : plan_FirstConfusion_1 N a b a2 = some r) : CallOK Try.prog 67 [(I a), (I b), (.ref [(L a2)])] (.d (Bo r)) [] := by
 refine CallOK.of_PW Try.func67 rfl (by rw [Try.results67]) Try.ntmps67 Try.call67 ?_
 change PW _ _ _ _ _
 try simp only [go_sem, simprocAttr]
 unfold plan_FirstConfusion_1 at H
 refine PW.seq ?_
 refine PW.regionK fun K hK => OW.run [0, 1, 2] ?_
 simp only [go_sem, simprocAttr, sw0]
 refine OW.nil (hK _ ?_)
 refine PW.seq ?_
 obtain ⟨c1, H⟩ := chk_some H
 obtain ⟨c2, H⟩ := chk_some H
 refine PW.drawK 8 mixed (by kernel_rfl) fun K hK => ?_
 change FW _ _ _ _ _
 refine FW.run ?_
 simp only [go_sem, simprocAttr, sw0]
 repeat (refine And.intro (by omega) ?_)
 refine FW.nil ?_
 change OW _ _ _ _ _ _
 refine OW.run [5] ?_
 simp only [go_sem, simprocAttr, sw0]
 refine OW.nil (hK _ ?_)
 refine PW.ret ?_
 change PW.Ends _ _ _ _ _ _
 refine PW.Ends.intro (.inr rfl) ?_
 simp only [go_sem, simprocAttr, sw0]
 obtain rfl := Option.some.inj H
 refine RetOK.data' 4 (by exact trivial) ?_
 rfl
end Go.Proofs.Ytklejiafioalnaa
