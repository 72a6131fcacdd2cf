import Derived.Test.YtabojpkmfkjjkaaSsBase
import Derived.Test.YtabojpkmfkjjkaaSsW3
import Derived.Test.YtabojpkmfkjjkaaSsW4
import Derived.Test.YtabojpkmfkjjkaaSsW9
set_option linter.all false
namespace Go.Proofs.Ytabojpkmfkjjkaa
open Go.PW Go.Sh

set_option maxRecDepth 20000
set_option maxHeartbeats 8000000
theorem ref06_BestTurns_ok (N : Nat) (r_ : List (List Int)) (r : List Int × Int) (H : ref06_BestTurns N r_ = some r) : CallOK Try.prog 48 [(.list r_.length (r_.map L))] (.d (.tup [(L r.1), (I r.2)])) [] := by
 refine CallOK.of_PW Try.func48 rfl (by rw [Try.results48]) Try.ntmps48 Try.call48 ?_
 change PW _ _ _ _ _
 try simp only [go_sem, simprocAttr]
 unfold ref06_BestTurns at H
 refine PW.seq ?_
 refine PW.regionK fun K hK => OW.run [0] ?_
 simp only [go_sem, simprocAttr, sw0]
 refine OW.nil (hK _ ?_)
 refine PW.seq ?_
 refine PW.regionK fun K hK => OW.run [0, 4] ?_
 simp only [go_sem, simprocAttr, sw0]
 refine OW.nil (hK _ ?_)
 refine PW.joinS (τ := List (List Int)) [0, 4] 0 (fun all => [(4, .d (.list all.length (all.map L)))]) (fun all => []) _ _ r (by exact Nat.le_refl _) H ?_ ?_
 intro K_ H N1 hN1
 refine PW.seq ?_
 refine PW.regionK fun K hK => OW.run [0, 4, 5] ?_
 simp only [go_sem, simprocAttr, sw0]
 refine OW.nil (hK _ ?_)
 refine PW.block ?_
 refine PW.frz 0 (by exact Nat.le_refl _) (by rfl) ?_
 simp only [map_nz_I, map_nz_Bo, map_nz_Sx, map_nz_L, nz_int, nz_bool, nz_str, nz_list, nz_ref, nz_nil, go_sem, simprocAttr]
 refine PW.loopS (σ := List (List Int) × Int) [0, 4, 5] 1 (fun (all2, t1) => [(4, .d (.list all2.length (all2.map L))), (5, .d (I t1))]) (fun (all2, t1) => [{ cells := [], e := 22 }]) (ref06_BestTurns.b1 N r_ K_) r N (([([] : List Int)] : List (List Int)), (0 : Int)) (by exact Nat.zero_le _) H (by (simp only [sw1, go_sem, simprocAttr]; rfl)) ?_
 rintro n_ ⟨all2, t1⟩ H N2 hN2
 unfold ref06_BestTurns.b1 at H
 try simp only [go_sem, simprocAttr]
 refine PW.seq ?_
 refine PW.seq ?_
 refine PW.regionK fun K hK => OW.run [0, 4, 5, 15] ?_
 simp only [go_sem, simprocAttr, sw0]
 refine OW.nil (hK _ ?_)
 refine PW.cond rfl (fun h3 => ?_) (fun h3 => ?_)
 replace H := br_t h3 H
 refine PW.skip ?_
 refine PW.joinS (τ := List (List Int)) [0, 4, 5] 2 (fun b1 => [(4, .own 1 0 b1.length 1)]) (fun b1 => [{ cells := [], e := 22 }, { cells := (b1.map L).map .d, e := 22 }]) _ _ r (by exact Nat.zero_le _) H ?_ ?_
 intro K_1 H N4 hN4
 refine PW.block ?_
 refine PW.seq ?_
 refine PW.regionK fun K hK => OW.run [0, 4, 5, 6] ?_
 simp only [go_sem, simprocAttr, sw0]
 refine OW.nil (hK _ ?_)
 refine PW.joinS (τ := List (List Int)) [0, 5, 6] 2 (fun b11 => [(6, .own 1 0 b11.length 1)]) (fun b11 => [{ cells := [], e := 22 }, { cells := (b11.map L).map .d, e := 22 }]) _ _ r (by exact Nat.zero_le _) H ?_ ?_
 intro K_2 H N5 hN5
 refine PW.seq ?_
 refine PW.regionK fun K hK => OW.run [0, 4, 5, 6, 7] ?_
 simp only [go_sem, simprocAttr, sw0]
 refine OW.nil (hK _ ?_)
 refine PW.block ?_
 refine PW.virt 6 22 1 rfl ?_
 try simp only [go_sem, simprocAttr]
 refine PW.loopS (σ := Int × List (List Int)) [0, 4, 5, 6, 7] 2 (fun (n, b12) => [(6, .own 1 0 b12.length 1), (7, .d (I n))]) (fun (n, b12) => [{ cells := [], e := 22 }, { cells := (b12.map L).map .d, e := 22 }]) (ref06_BestTurns.b2 N r_ all2 K_2) r N ((0 : Int), ([] : List (List Int))) (by exact Nat.zero_le _) H (by (simp only [sw1, go_sem, simprocAttr]; done)) ?_
 rintro n_ ⟨n, b12⟩ H N6 hN6
 unfold ref06_BestTurns.b2 at H
 try simp only [go_sem, simprocAttr]
 refine PW.seq ?_
 refine PW.seq ?_
 refine PW.regionK fun K hK => OW.run [0, 4, 5, 6, 7, 21] ?_
 simp only [go_sem, simprocAttr, sw0]
 refine OW.nil (hK _ ?_)
 refine PW.cond rfl (fun h7 => ?_) (fun h7 => ?_)
 replace H := br_t h7 H
 refine PW.skip ?_
 refine PW.joinS (τ := List (List Int)) [0, 4, 5, 6, 7] 2 (fun b13 => [(6, .own 1 0 b13.length 1)]) (fun b13 => [{ cells := [], e := 22 }, { cells := (b13.map L).map .d, e := 22 }]) _ _ r (by exact Nat.zero_le _) H ?_ ?_
 intro K_3 H N8 hN8
 refine PW.block ?_
 refine PW.seq ?_
 refine PW.regionK fun K hK => OW.run [0, 4, 5, 6, 7, 8] ?_
 simp only [go_sem, simprocAttr, sw0]
 refine OW.nil (hK _ ?_)
 refine PW.block ?_
 refine PW.loopS (σ := Int × List (List Int)) [0, 4, 5, 6, 7, 8] 2 (fun (i, b14) => [(6, .own 1 0 b14.length 1), (8, .d (I i))]) (fun (i, b14) => [{ cells := [], e := 22 }, { cells := (b14.map L).map .d, e := 22 }]) (ref06_BestTurns.b3 N r_ all2 n K_3) r N ((0 : Int), b12) (by exact Nat.zero_le _) H (by (simp only [sw1, go_sem, simprocAttr]; done)) ?_
 rintro n_ ⟨i, b14⟩ H N9 hN9
 unfold ref06_BestTurns.b3 at H
 try simp only [go_sem, simprocAttr]
 refine PW.seq ?_
 refine PW.seq ?_
 obtain ⟨c10, H⟩ := chk_some H
 refine PW.regionK fun K hK => OW.run [0, 4, 5, 6, 7, 8, 29] ?_
 (simp only [go_sem, simprocAttr, sw0, getD_mapF L r_ 0 default (by omega)])
 repeat (refine And.intro (by omega) ?_)
 refine OW.nil (hK _ ?_)
 refine PW.cond rfl (fun h11 => ?_) (fun h11 => ?_)
 replace H := br_t h11 H
 refine PW.skip ?_
 refine PW.seq ?_
 refine PW.block ?_
 obtain ⟨c12, H⟩ := chk_some H
 obtain ⟨x1, e1, H⟩ := bnd_some H
 obtain ⟨c13, H⟩ := chk_some H
 obtain ⟨c14, H⟩ := chk_some H
 refine PW.regionK fun K hK => OW.run [0, 4, 5, 6, 7, 8] ?_
 (simp only [go_sem, simprocAttr, sw0, getD_mapF L all2 n.toNat default (by omega)])
 repeat (refine And.intro (by omega) ?_)
 refine OW.call' 4 rfl rfl rfl (by ((simp only [go_sem, List.toList_toArray, simprocAttr]); exact rfl)) ?_ (base_CopyInts_ok N _ _ e1) ?_ ?_ ?_ ?_
 rfl
 exact okD_all rfl
 exact .inl rfl
 (simp only [go_sem, Nat.reduceLT])
 refine OW.step rfl ?_
 (simp only [go_sem, simprocAttr, sw0, getD_mapF L all2 n.toNat default (by omega)])
 refine OW.step rfl ?_
 (simp only [go_sem, simprocAttr, sw0, getD_mapF L all2 n.toNat default (by omega)])
 refine OW.step rfl ?_
 (simp only [go_sem, simprocAttr, sw0, getD_mapF L all2 n.toNat default (by omega)])
 repeat (refine And.intro (by omega) ?_)
 refine OW.step rfl ?_
 (simp only [go_sem, simprocAttr, sw0, getD_mapF L all2 n.toNat default (by omega)])
 refine OW.frz 2 (by exact Nat.zero_le _) (by (simp only [go_sem, isD, allD_mapV]; done)) ?_
 simp only [map_nz_I, map_nz_Bo, map_nz_Sx, map_nz_L, nz_int, nz_bool, nz_str, nz_list, nz_ref, nz_nil, go_sem, simprocAttr]
 try simp only [list_snocI]
 refine OW.run [0, 4, 5, 6, 7, 8] ?_
 (simp only [go_sem, simprocAttr, sw0, getD_mapF L all2 n.toNat default (by omega)])
 repeat (refine And.intro (by omega) ?_)
 refine OW.nil (hK _ ?_)
 refine PW.regionK fun K hK => OW.run [0, 4, 5, 6, 7, 8] ?_
 simp only [go_sem, simprocAttr, sw0]
 refine OW.nil (hK _ ?_)
 refine hN9 [] (w64 (i + (1 : Int)), (b14 ++ ([(x1 ++ ([i] : List Int))] : List (List Int)))) _ H (by exact trivial) ?_
 simp only [sw1, go_sem, simprocAttr]
 replace H := br_f h11 H
 refine PW.exit ?_
 refine hN8 [] b14 _ H (by exact trivial) ?_
 simp only [sw1, go_sem, simprocAttr]
 rintro b13 H
 try simp only [go_sem, simprocAttr]
 refine PW.regionK fun K hK => OW.run [0, 4, 5, 6, 7] ?_
 simp only [go_sem, simprocAttr, sw0]
 refine OW.nil (hK _ ?_)
 refine hN6 [] (w64 (n + (1 : Int)), b13) _ H (by exact trivial) ?_
 simp only [sw1, go_sem, simprocAttr]
 replace H := br_f h7 H
 refine PW.exit ?_
 refine hN5 [] b12 _ H (by exact trivial) ?_
 simp only [sw1, go_sem, simprocAttr]
 rintro b11 H
 try simp only [go_sem, simprocAttr]
 refine PW.regionK fun K hK => OW.run [0, 4, 5] ?_
 simp only [go_sem, simprocAttr, sw0]
 refine OW.nil (hK _ ?_)
 refine hN4 [] b11 _ H (by exact trivial) ?_
 simp only [sw1, go_sem, simprocAttr]
 rintro b1 H
 try simp only [go_sem, simprocAttr]
 refine PW.regionK fun K hK => OW.run [0, 4, 5] ?_
 simp only [go_sem, simprocAttr, sw0]
 refine OW.nil (hK _ ?_)
 refine hN2 [1] (b1, w64 (t1 + (1 : Int))) _ H (by exact ⟨⟨by exact Nat.zero_le _, by exact allD_mapV _⟩, trivial⟩) ?_
 simp only [sw1, go_sem, simprocAttr]
 replace H := br_f h3 H
 refine PW.exit ?_
 refine hN1 [] all2 _ H (by exact trivial) ?_
 simp only [sw1, go_sem, simprocAttr]
 rintro all H
 try simp only [go_sem, simprocAttr]
 refine PW.seq ?_
 refine PW.regionK fun K hK => OW.run [0, 4, 9] ?_
 simp only [go_sem, simprocAttr, sw0]
 refine OW.nil (hK _ ?_)
 refine PW.joinS (τ := Int) [0, 4, 9] 0 (fun best => [(9, .d (I best))]) (fun best => []) _ _ r (by exact Nat.le_refl _) H ?_ ?_
 intro K_4 H N15 hN15
 refine PW.seq ?_
 refine PW.regionK fun K hK => OW.run [0, 4, 9, 10] ?_
 simp only [go_sem, simprocAttr, sw0]
 refine OW.nil (hK _ ?_)
 refine PW.block ?_
 refine PW.loopS (σ := Int × Int) [0, 4, 9, 10] 0 (fun (best1, n1) => [(9, .d (I best1)), (10, .d (I n1))]) (fun (best1, n1) => []) (ref06_BestTurns.b4 N r_ all K_4) r N ((0 : Int), (1 : Int)) (by exact Nat.le_refl _) H (by (simp only [sw1, go_sem, simprocAttr]; done)) ?_
 rintro n_ ⟨best1, n1⟩ H N16 hN16
 unfold ref06_BestTurns.b4 at H
 try simp only [go_sem, simprocAttr]
 refine PW.seq ?_
 refine PW.seq ?_
 refine PW.regionK fun K hK => OW.run [0, 4, 9, 10, 47] ?_
 simp only [go_sem, simprocAttr, sw0]
 refine OW.nil (hK _ ?_)
 refine PW.cond rfl (fun h17 => ?_) (fun h17 => ?_)
 replace H := br_t h17 H
 refine PW.skip ?_
 refine PW.seq ?_
 refine PW.block ?_
 refine PW.seq ?_
 obtain ⟨c18, H⟩ := chk_some H
 obtain ⟨x2, e2, H⟩ := bnd_some H
 obtain ⟨c19, H⟩ := chk_some H
 obtain ⟨x3, e3, H⟩ := bnd_some H
 refine PW.drawK 11 mixed (by kernel_rfl) fun K hK => ?_
 change FW _ _ _ _ _
 refine FW.run ?_
 (simp only [go_sem, simprocAttr, sw0, getD_mapF L all n1.toNat default (by omega), getD_mapF L all best1.toNat default (by omega)])
 repeat (refine And.intro (by omega) ?_)
 refine FW.call' 4 rfl rfl rfl (by ((simp only [go_sem, List.toList_toArray, simprocAttr]); exact rfl)) ?_ (ref06_TurnsOf_ok N _ _ _ e2) ?_ ?_ ?_ ?_
 rfl
 exact okD_all rfl
 exact .inl rfl
 (simp only [go_sem, Nat.reduceLT])
 refine FW.run ?_
 (simp only [go_sem, simprocAttr, sw0, getD_mapF L all n1.toNat default (by omega), getD_mapF L all best1.toNat default (by omega)])
 repeat (refine And.intro (by omega) ?_)
 refine FW.nil ?_
 change OW _ _ _ _ _ _
 refine OW.run [0, 4, 9, 10, 62] ?_
 (simp only [go_sem, simprocAttr, sw0, getD_mapF L all n1.toNat default (by omega), getD_mapF L all best1.toNat default (by omega)])
 refine OW.call' 4 rfl rfl rfl (by ((simp only [go_sem, List.toList_toArray, simprocAttr]); exact rfl)) ?_ (ref06_TurnsOf_ok N _ _ _ e3) ?_ ?_ ?_ ?_
 rfl
 exact okD_all rfl
 exact .inl rfl
 (simp only [go_sem, Nat.reduceLT])
 refine OW.run [0, 4, 9, 10, 62] ?_
 (simp only [go_sem, simprocAttr, sw0, getD_mapF L all n1.toNat default (by omega), getD_mapF L all best1.toNat default (by omega)])
 refine OW.nil (hK _ ?_)
 refine PW.cond rfl (fun h20 => ?_) (fun h20 => ?_)
 replace H := br_t h20 H
 refine PW.regionK fun K hK => OW.run [0, 4, 9, 10] ?_
 simp only [go_sem, simprocAttr, sw0]
 refine OW.nil (hK _ ?_)
 refine PW.regionK fun K hK => OW.run [0, 4, 9, 10] ?_
 simp only [go_sem, simprocAttr, sw0]
 refine OW.nil (hK _ ?_)
 refine hN16 [] (n1, w64 (n1 + (1 : Int))) _ H (by exact trivial) ?_
 simp only [sw1, go_sem, simprocAttr]
 replace H := br_f h20 H
 refine PW.skip ?_
 refine PW.regionK fun K hK => OW.run [0, 4, 9, 10] ?_
 simp only [go_sem, simprocAttr, sw0]
 refine OW.nil (hK _ ?_)
 refine hN16 [] (best1, w64 (n1 + (1 : Int))) _ H (by exact trivial) ?_
 simp only [sw1, go_sem, simprocAttr]
 replace H := br_f h17 H
 refine PW.exit ?_
 refine hN15 [] best1 _ H (by exact trivial) ?_
 simp only [sw1, go_sem, simprocAttr]
 rintro best H
 try simp only [go_sem, simprocAttr]
 refine PW.seq ?_
 obtain ⟨c21, H⟩ := chk_some H
 obtain ⟨c22, H⟩ := chk_some H
 obtain ⟨x4, e4, H⟩ := bnd_some H
 refine PW.drawK 10 mixed (by kernel_rfl) fun K hK => ?_
 change FW _ _ _ _ _
 refine FW.run ?_
 (simp only [go_sem, simprocAttr, sw0, getD_mapF L all best.toNat default (by omega)])
 repeat (refine And.intro (by omega) ?_)
 refine FW.call' 4 rfl rfl rfl (by ((simp only [go_sem, List.toList_toArray, simprocAttr]); exact rfl)) ?_ (ref06_TurnsOf_ok N _ _ _ e4) ?_ ?_ ?_ ?_
 rfl
 exact okD_all rfl
 exact .inl rfl
 (simp only [go_sem, Nat.reduceLT])
 refine FW.run ?_
 (simp only [go_sem, simprocAttr, sw0, getD_mapF L all best.toNat default (by omega)])
 refine FW.nil ?_
 change OW _ _ _ _ _ _
 refine OW.run [2, 3] ?_
 (simp only [go_sem, simprocAttr, sw0, getD_mapF L all best.toNat default (by omega)])
 refine OW.nil (hK _ ?_)
 refine PW.ret ?_
 change PW.Ends _ _ _ _ _ _
 refine PW.Ends.intro (.inr rfl) ?_
 simp only [go_sem, simprocAttr, sw0]
 obtain rfl := Option.some.inj H
 refine RetOK.data' 4 (by exact okD_all rfl) ?_
 rfl

theorem law06_SchedTurns_ok (N : Nat) (r_ : List (List Int)) (turns : List Int) (r : Bool) (H : law06_SchedTurns N r_ turns = some r) : CallOK Try.prog 8 [(.list r_.length (r_.map L)), (L turns)] (.d (Bo r)) [] := by
 refine CallOK.of_PW Try.func8 rfl (by rw [Try.results8]) Try.ntmps8 Try.call8 ?_
 change PW _ _ _ _ _
 try simp only [go_sem, simprocAttr]
 unfold law06_SchedTurns at H
 refine PW.seq ?_
 refine PW.regionK fun K hK => OW.run [0, 1] ?_
 simp only [go_sem, simprocAttr, sw0]
 refine OW.nil (hK _ ?_)
 refine PW.seq ?_
 refine PW.seq ?_
 obtain ⟨x1, e1, H⟩ := bnd_some H
 refine PW.regionK fun K hK => OW.run [0, 1, 15] ?_
 simp only [go_sem, simprocAttr, sw0]
 refine OW.call' 4 rfl rfl rfl (by ((simp only [go_sem, List.toList_toArray, simprocAttr]); exact rfl)) ?_ (law06_awake_ok N  _ e1) ?_ ?_ ?_ ?_
 rfl
 exact okD_all rfl
 exact .inl rfl
 (simp only [go_sem, Nat.reduceLT])
 refine OW.run [0, 1, 15] ?_
 simp only [go_sem, simprocAttr, sw0]
 refine OW.nil (hK _ ?_)
 refine PW.cond rfl (fun h1 => ?_) (fun h1 => ?_)
 replace H := br_t h1 H
 refine PW.seq ?_
 refine PW.regionK fun K hK => OW.run [4] ?_
 simp only [go_sem, simprocAttr, sw0]
 refine OW.nil (hK _ ?_)
 refine PW.ret ?_
 change PW.Ends _ _ _ _ _ _
 refine PW.Ends.intro (.inr rfl) ?_
 simp only [go_sem, simprocAttr, sw0]
 obtain rfl := Option.some.inj H
 refine RetOK.data' 4 (by exact trivial) ?_
 rfl
 replace H := br_f h1 H
 refine PW.skip ?_
 refine PW.seq ?_
 refine PW.seq ?_
 obtain ⟨x2, e2, H⟩ := bnd_some H
 refine PW.regionK fun K hK => OW.run [0, 1, 23] ?_
 simp only [go_sem, simprocAttr, sw0]
 refine OW.call' 4 rfl rfl rfl (by ((simp only [go_sem, List.toList_toArray, simprocAttr]); exact rfl)) ?_ (law06_rows_ok N _ _ e2) ?_ ?_ ?_ ?_
 rfl
 exact okD_all rfl
 exact .inl rfl
 (simp only [go_sem, Nat.reduceLT])
 refine OW.run [0, 1, 23] ?_
 simp only [go_sem, simprocAttr, sw0]
 refine OW.nil (hK _ ?_)
 refine PW.cond rfl (fun h2 => ?_) (fun h2 => ?_)
 replace H := br_t h2 H
 refine PW.seq ?_
 refine PW.regionK fun K hK => OW.run [4] ?_
 simp only [go_sem, simprocAttr, sw0]
 refine OW.nil (hK _ ?_)
 refine PW.ret ?_
 change PW.Ends _ _ _ _ _ _
 refine PW.Ends.intro (.inr rfl) ?_
 simp only [go_sem, simprocAttr, sw0]
 obtain rfl := Option.some.inj H
 refine RetOK.data' 4 (by exact trivial) ?_
 rfl
 replace H := br_f h2 H
 refine PW.skip ?_
 refine PW.seq ?_
 obtain ⟨x3, e3, H⟩ := bnd_some H
 obtain ⟨x4, e4, H⟩ := bnd_some H
 obtain ⟨⟨x5, x51⟩, e5, H⟩ := bnd_some H
 refine PW.regionK fun K hK => OW.run [0, 1, 5, 6] ?_
 simp only [go_sem, simprocAttr, sw0]
 refine OW.call' 4 rfl rfl rfl (by ((simp only [go_sem, List.toList_toArray, simprocAttr]); exact rfl)) ?_ (base_CopyLists_ok N _ _ e3) ?_ ?_ ?_ ?_
 rfl
 exact okD_all rfl
 exact .inl rfl
 (simp only [go_sem, Nat.reduceLT])
 refine OW.run [0, 1, 5, 6] ?_
 simp only [go_sem, simprocAttr, sw0]
 refine OW.call' 4 rfl rfl rfl (by ((simp only [go_sem, List.toList_toArray, simprocAttr]); exact rfl)) ?_ (base_CopyInts_okd N _ _ e4) ?_ ?_ ?_ ?_
 rfl
 exact okD_all rfl
 exact .inl rfl
 (simp only [go_sem, Nat.reduceLT])
 refine OW.run [0, 1, 5, 6] ?_
 simp only [go_sem, simprocAttr, sw0]
 refine OW.call' 4 rfl rfl rfl (by ((simp only [go_sem, List.toList_toArray, simprocAttr]); exact rfl)) ?_ (sched_TurnsOf_ok N _ _ _ e5) ?_ ?_ ?_ ?_
 rfl
 exact okD_all rfl
 exact .inl rfl
 (simp only [go_sem, Nat.reduceLT])
 refine OW.run [0, 1, 5, 6] ?_
 simp only [go_sem, simprocAttr, sw0]
 refine OW.nil (hK _ ?_)
 refine PW.seq ?_
 obtain ⟨x6, e6, H⟩ := bnd_some H
 obtain ⟨⟨x7, x71, x72⟩, e7, H⟩ := bnd_some H
 refine PW.regionK fun K hK => OW.run [0, 1, 5, 6, 7, 8, 9] ?_
 simp only [go_sem, simprocAttr, sw0]
 refine OW.call' 4 rfl rfl rfl (by ((simp only [go_sem, List.toList_toArray, simprocAttr]); exact rfl)) ?_ (base_CopyLists_ok N _ _ e6) ?_ ?_ ?_ ?_
 rfl
 exact okD_all rfl
 exact .inl rfl
 (simp only [go_sem, Nat.reduceLT])
 refine OW.run [0, 1, 5, 6, 7, 8, 9] ?_
 simp only [go_sem, simprocAttr, sw0]
 refine OW.call' 4 rfl rfl rfl (by ((simp only [go_sem, List.toList_toArray, simprocAttr]); exact rfl)) ?_ (sched_BestTurns_ok N _ _ e7) ?_ ?_ ?_ ?_
 rfl
 exact okD_all rfl
 exact .inl rfl
 (simp only [go_sem, Nat.reduceLT])
 refine OW.run [0, 1, 5, 6, 7, 8, 9] ?_
 simp only [go_sem, simprocAttr, sw0]
 refine OW.nil (hK _ ?_)
 refine PW.seq ?_
 refine PW.seq ?_
 obtain ⟨x8, e8, H⟩ := bnd_some H
 refine PW.regionK fun K hK => OW.run [0, 1, 5, 6, 7, 8, 9, 10] ?_
 simp only [go_sem, simprocAttr, sw0]
 refine OW.call' 4 rfl rfl rfl (by ((simp only [go_sem, List.toList_toArray, simprocAttr]); exact rfl)) ?_ (ref06_CaseErr_ok N _ _ e8) ?_ ?_ ?_ ?_
 rfl
 exact okD_all rfl
 exact .inl rfl
 (simp only [go_sem, Nat.reduceLT])
 refine OW.run [0, 1, 5, 6, 7, 8, 9, 10] ?_
 simp only [go_sem, simprocAttr, sw0]
 refine OW.nil (hK _ ?_)
 refine PW.seq ?_
 refine PW.regionK fun K hK => OW.run [0, 1, 5, 6, 7, 8, 9, 10, 42] ?_
 simp only [go_sem, simprocAttr, sw0]
 refine OW.nil (hK _ ?_)
 refine PW.cond rfl (fun h3 => ?_) (fun h3 => ?_)
 replace H := br_t h3 H
 refine PW.seq ?_
 refine PW.regionK fun K hK => OW.run [4] ?_
 simp only [go_sem, simprocAttr, sw0]
 refine OW.nil (hK _ ?_)
 refine PW.ret ?_
 change PW.Ends _ _ _ _ _ _
 refine PW.Ends.intro (.inr rfl) ?_
 simp only [go_sem, simprocAttr, sw0]
 obtain rfl := Option.some.inj H
 refine RetOK.data' 4 (by exact trivial) ?_
 rfl
 replace H := br_f h3 H
 refine PW.skip ?_
 refine PW.seq ?_
 obtain ⟨⟨x9, x91⟩, e9, H⟩ := bnd_some H
 refine PW.regionK fun K hK => OW.run [0, 1, 5, 6, 7, 8, 9, 11, 12] ?_
 simp only [go_sem, simprocAttr, sw0]
 refine OW.call' 4 rfl rfl rfl (by ((simp only [go_sem, List.toList_toArray, simprocAttr]); exact rfl)) ?_ (ref06_BestTurns_ok N _ _ e9) ?_ ?_ ?_ ?_
 rfl
 exact okD_all rfl
 exact .inl rfl
 (simp only [go_sem, Nat.reduceLT])
 refine OW.run [0, 1, 5, 6, 7, 8, 9, 11, 12] ?_
 simp only [go_sem, simprocAttr, sw0]
 refine OW.nil (hK _ ?_)
 refine PW.seq ?_
 refine PW.seq ?_
 obtain ⟨x10, e10, H⟩ := bnd_some H
 refine PW.regionK fun K hK => OW.run [0, 1, 5, 6, 81] ?_
 simp only [go_sem, simprocAttr, sw0]
 refine OW.callG' 4 rfl rfl ?_ (fun hg => by first | rfl | (simp only [go_sem, ↓reduceIte]; rfl)) (fun hg => by ((simp only [go_sem, List.toList_toArray, simprocAttr]); exact rfl)) (fun hg => ?_) (fun hg => (base_Ints_ok N _ _ _ (grd_t hg e10))) ?_ ?_ ?_ ?_
 simp only [go_sem, simprocAttr]
 rfl
 exact okD_all rfl
 exact .inl rfl
 (simp only [go_sem, Nat.reduceLT])
 refine OW.run [0, 1, 5, 6, 81] ?_
 simp only [go_sem, simprocAttr, sw0]
 refine OW.nil (hK _ ?_)
 refine PW.cond rfl (fun h4 => ?_) (fun h4 => ?_)
 replace H := br_t h4 H
 refine PW.seq ?_
 refine PW.regionK fun K hK => OW.run [4] ?_
 simp only [go_sem, simprocAttr, sw0]
 refine OW.nil (hK _ ?_)
 refine PW.ret ?_
 change PW.Ends _ _ _ _ _ _
 refine PW.Ends.intro (.inr rfl) ?_
 simp only [go_sem, simprocAttr, sw0]
 obtain rfl := Option.some.inj H
 refine RetOK.data' 4 (by exact trivial) ?_
 rfl
 replace H := br_f h4 H
 refine PW.skip ?_
 refine PW.seq ?_
 refine PW.seq ?_
 obtain ⟨x11, e11, H⟩ := bnd_some H
 refine PW.regionK fun K hK => OW.run [0, 1, 5, 6, 13] ?_
 simp only [go_sem, simprocAttr, sw0]
 refine OW.call' 4 rfl rfl rfl (by ((simp only [go_sem, List.toList_toArray, simprocAttr]); exact rfl)) ?_ (ref06_TurnsErr_ok N _ _ _ e11) ?_ ?_ ?_ ?_
 rfl
 exact okD_all rfl
 exact .inl rfl
 (simp only [go_sem, Nat.reduceLT])
 refine OW.run [0, 1, 5, 6, 13] ?_
 simp only [go_sem, simprocAttr, sw0]
 refine OW.nil (hK _ ?_)
 refine PW.seq ?_
 refine PW.regionK fun K hK => OW.run [0, 1, 5, 6, 13, 86] ?_
 simp only [go_sem, simprocAttr, sw0]
 refine OW.nil (hK _ ?_)
 refine PW.cond rfl (fun h5 => ?_) (fun h5 => ?_)
 replace H := br_t h5 H
 refine PW.seq ?_
 refine PW.regionK fun K hK => OW.run [4] ?_
 simp only [go_sem, simprocAttr, sw0]
 refine OW.nil (hK _ ?_)
 refine PW.ret ?_
 change PW.Ends _ _ _ _ _ _
 refine PW.Ends.intro (.inr rfl) ?_
 simp only [go_sem, simprocAttr, sw0]
 obtain rfl := Option.some.inj H
 refine RetOK.data' 4 (by exact trivial) ?_
 rfl
 replace H := br_f h5 H
 refine PW.skip ?_
 refine PW.seq ?_
 obtain ⟨x12, e12, H⟩ := bnd_some H
 refine PW.regionK fun K hK => OW.run [4] ?_
 simp only [go_sem, simprocAttr, sw0]
 refine OW.callG' 4 rfl rfl ?_ (fun hg => by first | rfl | (simp only [go_sem, ↓reduceIte]; rfl)) (fun hg => by ((simp only [go_sem, List.toList_toArray, simprocAttr]); exact rfl)) (fun hg => ?_) (fun hg => (ref06_TurnsOf_ok N _ _ _ (grd_t hg e12))) ?_ ?_ ?_ ?_
 simp only [go_sem, simprocAttr]
 rfl
 exact okD_all rfl
 exact .inl rfl
 (simp only [go_sem, Nat.reduceLT])
 refine OW.run [4] ?_
 simp only [go_sem, simprocAttr, sw0]
 refine OW.nil (hK _ ?_)
 refine PW.ret ?_
 change PW.Ends _ _ _ _ _ _
 refine PW.Ends.intro (.inr rfl) ?_
 simp only [go_sem, simprocAttr, sw0]
 obtain rfl := Option.some.inj H
 refine RetOK.data' 4 (by exact trivial) ?_
 rfl
end Go.Proofs.Ytabojpkmfkjjkaa
