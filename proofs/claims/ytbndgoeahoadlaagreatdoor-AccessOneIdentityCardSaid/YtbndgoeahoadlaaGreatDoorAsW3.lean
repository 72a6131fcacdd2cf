import Derived.Test.YtbndgoeahoadlaaGreatDoorAsK
import Derived.Test.YtbndgoeahoadlaaGreatDoorAsW1
import Derived.Test.YtbndgoeahoadlaaGreatDoorAsW2
import Derived.Test.YtbndgoeahoadlaaGreatDoorZq
set_option linter.all false
namespace Go.Proofs.YtbndgoeahoadlaaGreatDoor
open Go.PW Go.Sh

set_option maxRecDepth 20000
set_option maxHeartbeats 8000000
theorem ref07_Copy_ok (N : Nat) (Z1k : Int) (Z1o : List (Int × Int × Int × Int × Int × Int × Int)) (r : Int × (List (Int × Int × Int × Int × Int × Int × Int))) (H : ref07_Copy N Z1k Z1o = some r) : CallOK Tryz.prog 29 [(.agg [(I Z1k), (.list Z1o.length (Z1o.flatMap (fun (x : Int × Int × Int × Int × Int × Int × Int) => [(I x.1), (I x.2.1), (I x.2.2.1), (I x.2.2.2.1), (I x.2.2.2.2.1), (I x.2.2.2.2.2.1), (I x.2.2.2.2.2.2)])))])] (.d (.agg [(I r.1), (.list r.2.length (r.2.flatMap (fun (x : Int × Int × Int × Int × Int × Int × Int) => [(I x.1), (I x.2.1), (I x.2.2.1), (I x.2.2.2.1), (I x.2.2.2.2.1), (I x.2.2.2.2.2.1), (I x.2.2.2.2.2.2)])))])) [] := by
 refine CallOK.of_PW Tryz.func29 rfl (by rw [Tryz.results29]) Tryz.ntmps29 Tryz.call29 ?_
 change PW _ _ _ _ _
 with_reducible refine zq0 ?_
 unfold ref07_Copy at H
 refine PW.seq ?_
 refine zq2 (fun _ => OW.run [1, 2]) ?_
 refine PW.seq ?_
 obtain ⟨c1, H⟩ := chk_some H
 refine PW.drawX 6 [2, 5] (fun j => List.getD [[{ cells := [.d (I Z1k), .d (.list Z1o.length (Z1o.flatMap (fun (x : Int × Int × Int × Int × Int × Int × Int) => [(I x.1), (I x.2.1), (I x.2.2.1), (I x.2.2.2.1), (I x.2.2.2.2.1), (I x.2.2.2.2.2.1), (I x.2.2.2.2.2.2)])))], e := 30 }, { cells := [.d (I (0 : Int)), .d (.val (.slice none 0 0))], e := 30 }], [{ cells := [.d (I Z1k), .d (.list Z1o.length (Z1o.flatMap (fun (x : Int × Int × Int × Int × Int × Int × Int) => [(I x.1), (I x.2.1), (I x.2.2.1), (I x.2.2.2.1), (I x.2.2.2.2.1), (I x.2.2.2.2.2.1), (I x.2.2.2.2.2.2)])))], e := 30 }, { cells := [.d (I (0 : Int)), .d (.val (.slice none 0 0))], e := 30 }, { cells := [], e := 71 }], [{ cells := [.d (I Z1k), .d (.list Z1o.length (Z1o.flatMap (fun (x : Int × Int × Int × Int × Int × Int × Int) => [(I x.1), (I x.2.1), (I x.2.2.1), (I x.2.2.2.1), (I x.2.2.2.2.1), (I x.2.2.2.2.2.1), (I x.2.2.2.2.2.2)])))], e := 30 }, { cells := [.d (I (0 : Int)), .d (.val (.slice none 0 0))], e := 30 }, { cells := (Z1o.flatMap (fun (x : Int × Int × Int × Int × Int × Int × Int) => [(I x.1), (I x.2.1), (I x.2.2.1), (I x.2.2.2.1), (I x.2.2.2.2.1), (I x.2.2.2.2.2.1), (I x.2.2.2.2.2.2)])).map .d, e := 71 }]] j []) (κL [(1, 2)]) mixed (by kernel_rfl) (by decide) zqj (κL_dead _) (by decide) (freshL rfl) rfl rfl fun K hK => ?_
 change FWX _ _ _ _ _ _ _ _ _ _
 refine FWX.op (by decide) rfl (.ptr 0 0) 0 2 (.inl rfl) (.inl rfl) zqk ?_ zqc ?_
 refine KeptX.free [5, 8] zql ?_ (by kernel_rfl) ?_
 exact zqm
 exact KeptX.nil
 with_reducible refine zq0 ?_
 refine FWX.op (by decide) rfl (.d (I Z1k)) 0 2 (.inl rfl) (.inl rfl) zqk ?_ zqc ?_
 refine KeptX.free [5, 8] zql ?_ (by kernel_rfl) ?_
 exact zqm
 exact KeptX.nil
 with_reducible refine zq0 ?_
 refine FWX.build (q := 0) (by decide) rfl rfl rfl rfl (Nat.le_of_ble_eq_true rfl) (fun _ => rfl) (.own 2 0 0 7) zqn zqo ?_
 with_reducible refine zq0 ?_
 refine FWX.op (by decide) rfl (.ptr 0 1) 0 2 (.inl rfl) (.inl rfl) zqk ?_ zqc ?_
 refine KeptX.free [5, 8] zql ?_ (by kernel_rfl) ?_
 exact zqm
 exact KeptX.nil
 with_reducible refine zq0 ?_
 refine FWX.op (by decide) rfl (.d (.list Z1o.length (Z1o.flatMap (fun (x : Int × Int × Int × Int × Int × Int × Int) => [(I x.1), (I x.2.1), (I x.2.2.1), (I x.2.2.2.1), (I x.2.2.2.2.1), (I x.2.2.2.2.2.1), (I x.2.2.2.2.2.2)])))) 0 1 (.inl rfl) (.inr ⟨_, _, { on := 4, ground := .data }, rfl, rfl, by simp, rfl, rfl⟩) zqp ?_ zqc ?_
 refine KeptX.dep rfl rfl ⟨{ on := 4, ground := .data }, by simp, rfl, rfl⟩ ?_
 exact KeptX.nil
 with_reducible refine zq0 ?_
 refine FWX.append 2 (q := 1) (by decide) rfl rfl rfl rfl (Nat.le_of_ble_eq_true rfl) rfl zqq (.own 2 0 Z1o.length 7) ?_ rfl ?_ ?_ ?_
 ·
  refine FreeX.of' rfl [5] ?_ (by kernel_rfl)
  · repeat (first | exact fun _ h => absurd h List.not_mem_nil | (refine List.forall_mem_cons.2 (And.intro ?_ ?_); · first | exact .inr rfl | (left; simp; done) | (right; simp only [V.kill, ↓reduceIte]; first | rfl | exact if_neg (by omega) | (simp only [V.kill, V.kill.kills, ↓reduceIte]; done))))
 exact zqn
 exact zqo
 with_reducible refine zqr ?_
 refine FWX.nil ?_
 change OW _ _ _ _ _ _
 change OW _ _ _ _ _ _
 refine zqs (OW.run [2]) ?_
 refine OW.nil (hK _ ?_)
 refine PW.ret ?_
 change PW.Ends _ _ _ _ _ _
 refine PW.Ends.intro (.inr rfl) ?_
 with_reducible refine zq3 ?_
 obtain rfl := Option.some.inj H
 with_reducible refine zq4 ?_
 have hl0 := flatMap_length 7 (fun (x : Int × Int × Int × Int × Int × Int × Int) => [(I x.1), (I x.2.1), (I x.2.2.1), (I x.2.2.2.1), (I x.2.2.2.2.1), (I x.2.2.2.2.2.1), (I x.2.2.2.2.2.2)]) (fun _ => rfl) Z1o
 have hn0 : (Z1o.flatMap (fun (x : Int × Int × Int × Int × Int × Int × Int) => [(I x.1), (I x.2.1), (I x.2.2.1), (I x.2.2.2.1), (I x.2.2.2.2.1), (I x.2.2.2.2.2.1), (I x.2.2.2.2.2.2)])).map nz = Z1o.flatMap (fun (x : Int × Int × Int × Int × Int × Int × Int) => [(I x.1), (I x.2.1), (I x.2.2.1), (I x.2.2.2.1), (I x.2.2.2.2.1), (I x.2.2.2.2.2.1), (I x.2.2.2.2.2.2)]) := map_nz_flat (fun _ => rfl) _
 have ht0 : (Z1o.flatMap (fun (x : Int × Int × Int × Int × Int × Int × Int) => [(I x.1), (I x.2.1), (I x.2.2.1), (I x.2.2.2.1), (I x.2.2.2.2.1), (I x.2.2.2.2.2.1), (I x.2.2.2.2.2.2)])).take (Z1o.length * 7) = Z1o.flatMap (fun (x : Int × Int × Int × Int × Int × Int × Int) => [(I x.1), (I x.2.1), (I x.2.2.1), (I x.2.2.2.1), (I x.2.2.2.2.1), (I x.2.2.2.2.2.1), (I x.2.2.2.2.2.2)]) := take_flat _ (fun _ => rfl) rfl
 refine RetOK.data' 4 zq5 ?_
 exact zqt
theorem access_fits_ok (N : Nat) (Zx : Int) (Zv : Int) (Zw : Int) (Zs : Int) (Zz : Int) (Zy : Int) (Zq : Int) (r : Bool) (H : access_fits N Zx Zv Zw Zs Zz Zy Zq = some r) : CallOK Tryz.prog 152 [(.agg [(I Zx), (I Zv), (I Zw), (I Zs), (I Zz), (I Zy), (I Zq)])] (.d (Bo r)) [] := by
 refine CallOK.of_PW Tryz.func152 rfl (by rw [Tryz.results152]) Tryz.ntmps152 Tryz.call152 ?_
 change PW _ _ _ _ _
 with_reducible refine zq0 ?_
 unfold access_fits at H
 obtain ⟨hsp, H⟩ := chk_some H
 have hsp2 : Zx = 0 ∨ Zx = 1 ∨ Zx = 2 ∨ Zx = 3 ∨ Zx = 4 ∨ Zx = 5 := by omega
 clear hsp
 rcases hsp2 with rfl | rfl | rfl | rfl | rfl | rfl
 replace H := br_t (by decide) H
 refine PW.seq ?_
 refine zq2 (fun _ => OW.run [1]) ?_
 refine PW.seq ?_
 refine PW.drawO 8 [5, 6] [215, 71] mixed (by kernel_rfl) (by decide) rfl fun K hK => ?_
 refine zq8 (FWO.run) ?_
 first | refine FWO.nil ?_ | skip
 change OW _ _ _ _ _ _
 refine zq8 (OW.run [1, 3, 4]) ?_
 refine OW.nil (hK _ ?_)
 refine PW.joinS (τ := Unit) [1, 3, 4] 3 (fun _ => []) (fun _ => [{ cells := [.d (I (0 : Int)), .d (I Zv), .d (I Zw), .d (I Zs), .d (I Zz), .d (I Zy), .d (I Zq)], e := 71 }, { cells := [.d (Bo false), .d (Bo false), .d (Bo false), .d (Bo false)], e := 215 }, { cells := [.d (I (0 : Int)), .d (I (-1 : Int)), .d (I (0 : Int)), .d (I Zs), .d (I Zz), .d (I Zy), .d (I Zq)], e := 71 }]) _ _ r zqd H ?_ ?_
 intro K_ H N1 hN1
 refine PW.seq ?_
 refine zq2 (fun _ => OW.run [1, 3, 4, 12]) ?_
 refine PW.cond rfl (fun h2 => ?_) (fun h2 => ?_)
 replace H := br_t h2 H
 refine zq2 (fun _ => OW.run [1, 3, 4]) ?_
 refine hN1 [] () _ H zqf ?_
 exact zqe
 replace H := br_f h2 H
 cases H
 rintro _ H
 with_reducible refine zq0 ?_
 refine PW.joinS (τ := Unit) [1, 3, 4] 3 (fun _ => []) (fun _ => [{ cells := [.d (I (0 : Int)), .d (I Zv), .d (I Zw), .d (I Zs), .d (I Zz), .d (I Zy), .d (I Zq)], e := 71 }, { cells := [.d (Bo false), .d (Bo false), .d (Bo false), .d (Bo false)], e := 215 }, { cells := [.d (I (0 : Int)), .d (I (-1 : Int)), .d (I (0 : Int)), .d (I (-1 : Int)), .d (I Zz), .d (I Zy), .d (I Zq)], e := 71 }]) _ _ r zqd H ?_ ?_
 intro K_1 H N3 hN3
 refine PW.seq ?_
 refine zq2 (fun _ => OW.run [1, 3, 4, 17]) ?_
 refine PW.cond rfl (fun h4 => ?_) (fun h4 => ?_)
 replace H := br_t h4 H
 refine zq2 (fun _ => OW.run [1, 3, 4]) ?_
 refine hN3 [] () _ H zqf ?_
 exact zqe
 replace H := br_f h4 H
 cases H
 rintro _ H
 with_reducible refine zq0 ?_
 refine PW.joinS (τ := Unit) [1, 3, 4] 3 (fun _ => []) (fun _ => [{ cells := [.d (I (0 : Int)), .d (I Zv), .d (I Zw), .d (I Zs), .d (I Zz), .d (I Zy), .d (I Zq)], e := 71 }, { cells := [.d (Bo false), .d (Bo false), .d (Bo false), .d (Bo false)], e := 215 }, { cells := [.d (I (0 : Int)), .d (I (-1 : Int)), .d (I (0 : Int)), .d (I (-1 : Int)), .d (I (0 : Int)), .d (I Zy), .d (I Zq)], e := 71 }]) _ _ r zqd H ?_ ?_
 intro K_2 H N5 hN5
 refine PW.seq ?_
 refine zq2 (fun _ => OW.run [1, 3, 4, 21]) ?_
 refine PW.cond rfl (fun h6 => ?_) (fun h6 => ?_)
 replace H := br_t h6 H
 refine zq2 (fun _ => OW.run [1, 3, 4]) ?_
 refine hN5 [] () _ H zqf ?_
 exact zqe
 replace H := br_f h6 H
 cases H
 rintro _ H
 with_reducible refine zq0 ?_
 refine PW.seq ?_
 refine PW.seq ?_
 refine zq2 (fun _ => OW.run [1, 4, 25]) ?_
 refine PW.cond rfl (fun h7 => ?_) (fun h7 => ?_)
 replace H := br_t h7 H
 refine zq2 (fun _ => OW.run [1, 4]) ?_
 refine PW.seq ?_
 refine zq2 (fun _ => OW.run [2]) ?_
 change PW _ _ _ _ _
 exact zq7
 replace H := br_f h7 H
 cases H
 replace H := br_f (by decide) H
 replace H := br_t (by decide) H
 refine PW.seq ?_
 refine zq2 (fun _ => OW.run [1]) ?_
 refine PW.seq ?_
 refine PW.drawO 8 [5, 6] [215, 71] mixed (by kernel_rfl) (by decide) rfl fun K hK => ?_
 refine zq8 (FWO.run) ?_
 first | refine FWO.nil ?_ | skip
 change OW _ _ _ _ _ _
 refine zq8 (OW.run [1, 3, 4]) ?_
 refine OW.nil (hK _ ?_)
 refine PW.joinS (τ := Unit) [1, 3, 4] 3 (fun _ => []) (fun _ => [{ cells := [.d (I (1 : Int)), .d (I Zv), .d (I Zw), .d (I Zs), .d (I Zz), .d (I Zy), .d (I Zq)], e := 71 }, { cells := [.d (Bo true), .d (Bo false), .d (Bo true), .d (Bo true)], e := 215 }, { cells := [.d (I (1 : Int)), .d (I Zv), .d (I Zw), .d (I Zs), .d (I Zz), .d (I Zy), .d (I Zq)], e := 71 }]) _ _ r zqd H ?_ ?_
 intro K_3 H N8 hN8
 refine PW.seq ?_
 refine zq2 (fun _ => OW.run [1, 3, 4, 12]) ?_
 refine PW.cond rfl (fun h9 => ?_) (fun h9 => ?_)
 replace H := br_t h9 H
 cases H
 replace H := br_f h9 H
 refine PW.skip ?_
 refine hN8 [] () _ H zqf ?_
 exact zqe
 rintro _ H
 with_reducible refine zq0 ?_
 refine PW.joinS (τ := Unit) [1, 3, 4] 3 (fun _ => []) (fun _ => [{ cells := [.d (I (1 : Int)), .d (I Zv), .d (I Zw), .d (I Zs), .d (I Zz), .d (I Zy), .d (I Zq)], e := 71 }, { cells := [.d (Bo true), .d (Bo false), .d (Bo true), .d (Bo true)], e := 215 }, { cells := [.d (I (1 : Int)), .d (I Zv), .d (I Zw), .d (I (-1 : Int)), .d (I Zz), .d (I Zy), .d (I Zq)], e := 71 }]) _ _ r zqd H ?_ ?_
 intro K_4 H N10 hN10
 refine PW.seq ?_
 refine zq2 (fun _ => OW.run [1, 3, 4, 17]) ?_
 refine PW.cond rfl (fun h11 => ?_) (fun h11 => ?_)
 replace H := br_t h11 H
 refine zq2 (fun _ => OW.run [1, 3, 4]) ?_
 refine hN10 [] () _ H zqf ?_
 exact zqe
 replace H := br_f h11 H
 cases H
 rintro _ H
 with_reducible refine zq0 ?_
 refine PW.joinS (τ := Unit) [1, 3, 4] 3 (fun _ => []) (fun _ => [{ cells := [.d (I (1 : Int)), .d (I Zv), .d (I Zw), .d (I Zs), .d (I Zz), .d (I Zy), .d (I Zq)], e := 71 }, { cells := [.d (Bo true), .d (Bo false), .d (Bo true), .d (Bo true)], e := 215 }, { cells := [.d (I (1 : Int)), .d (I Zv), .d (I Zw), .d (I (-1 : Int)), .d (I Zz), .d (I Zy), .d (I Zq)], e := 71 }]) _ _ r zqd H ?_ ?_
 intro K_5 H N12 hN12
 refine PW.seq ?_
 refine zq2 (fun _ => OW.run [1, 3, 4, 21]) ?_
 refine PW.cond rfl (fun h13 => ?_) (fun h13 => ?_)
 replace H := br_t h13 H
 cases H
 replace H := br_f h13 H
 refine PW.skip ?_
 refine hN12 [] () _ H zqf ?_
 exact zqe
 rintro _ H
 with_reducible refine zq0 ?_
 refine PW.seq ?_
 refine PW.seq ?_
 refine zq2 (fun _ => OW.run [1, 4, 25]) ?_
 refine PW.cond rfl (fun h14 => ?_) (fun h14 => ?_)
 replace H := br_t h14 H
 cases H
 replace H := br_f h14 H
 refine PW.skip ?_
 refine PW.seq ?_
 refine zq2 (fun _ => OW.run [2]) ?_
 change PW _ _ _ _ _
 exact zq7
 replace H := br_f (by decide) H
 replace H := br_f (by decide) H
 replace H := br_t (by decide) H
 refine PW.seq ?_
 refine zq2 (fun _ => OW.run [1]) ?_
 refine PW.seq ?_
 refine PW.drawO 8 [5, 6] [215, 71] mixed (by kernel_rfl) (by decide) rfl fun K hK => ?_
 refine zq8 (FWO.run) ?_
 first | refine FWO.nil ?_ | skip
 change OW _ _ _ _ _ _
 refine zq8 (OW.run [1, 3, 4]) ?_
 refine OW.nil (hK _ ?_)
 refine PW.joinS (τ := Unit) [1, 3, 4] 3 (fun _ => []) (fun _ => [{ cells := [.d (I (2 : Int)), .d (I Zv), .d (I Zw), .d (I Zs), .d (I Zz), .d (I Zy), .d (I Zq)], e := 71 }, { cells := [.d (Bo false), .d (Bo true), .d (Bo true), .d (Bo true)], e := 215 }, { cells := [.d (I (2 : Int)), .d (I (-1 : Int)), .d (I (0 : Int)), .d (I Zs), .d (I Zz), .d (I Zy), .d (I Zq)], e := 71 }]) _ _ r zqd H ?_ ?_
 intro K_6 H N15 hN15
 refine PW.seq ?_
 refine zq2 (fun _ => OW.run [1, 3, 4, 12]) ?_
 refine PW.cond rfl (fun h16 => ?_) (fun h16 => ?_)
 replace H := br_t h16 H
 refine zq2 (fun _ => OW.run [1, 3, 4]) ?_
 refine hN15 [] () _ H zqf ?_
 exact zqe
 replace H := br_f h16 H
 cases H
 rintro _ H
 with_reducible refine zq0 ?_
 refine PW.joinS (τ := Unit) [1, 3, 4] 3 (fun _ => []) (fun _ => [{ cells := [.d (I (2 : Int)), .d (I Zv), .d (I Zw), .d (I Zs), .d (I Zz), .d (I Zy), .d (I Zq)], e := 71 }, { cells := [.d (Bo false), .d (Bo true), .d (Bo true), .d (Bo true)], e := 215 }, { cells := [.d (I (2 : Int)), .d (I (-1 : Int)), .d (I (0 : Int)), .d (I Zs), .d (I Zz), .d (I Zy), .d (I Zq)], e := 71 }]) _ _ r zqd H ?_ ?_
 intro K_7 H N17 hN17
 refine PW.seq ?_
 refine zq2 (fun _ => OW.run [1, 3, 4, 17]) ?_
 refine PW.cond rfl (fun h18 => ?_) (fun h18 => ?_)
 replace H := br_t h18 H
 cases H
 replace H := br_f h18 H
 refine PW.skip ?_
 refine hN17 [] () _ H zqf ?_
 exact zqe
 rintro _ H
 with_reducible refine zq0 ?_
 refine PW.joinS (τ := Unit) [1, 3, 4] 3 (fun _ => []) (fun _ => [{ cells := [.d (I (2 : Int)), .d (I Zv), .d (I Zw), .d (I Zs), .d (I Zz), .d (I Zy), .d (I Zq)], e := 71 }, { cells := [.d (Bo false), .d (Bo true), .d (Bo true), .d (Bo true)], e := 215 }, { cells := [.d (I (2 : Int)), .d (I (-1 : Int)), .d (I (0 : Int)), .d (I Zs), .d (I Zz), .d (I Zy), .d (I Zq)], e := 71 }]) _ _ r zqd H ?_ ?_
 intro K_8 H N19 hN19
 refine PW.seq ?_
 refine zq2 (fun _ => OW.run [1, 3, 4, 21]) ?_
 refine PW.cond rfl (fun h20 => ?_) (fun h20 => ?_)
 replace H := br_t h20 H
 cases H
 replace H := br_f h20 H
 refine PW.skip ?_
 refine hN19 [] () _ H zqf ?_
 exact zqe
 rintro _ H
 with_reducible refine zq0 ?_
 refine PW.seq ?_
 refine PW.seq ?_
 refine zq2 (fun _ => OW.run [1, 4, 25]) ?_
 refine PW.cond rfl (fun h21 => ?_) (fun h21 => ?_)
 replace H := br_t h21 H
 cases H
 replace H := br_f h21 H
 refine PW.skip ?_
 refine PW.seq ?_
 refine zq2 (fun _ => OW.run [2]) ?_
 change PW _ _ _ _ _
 exact zq7
 replace H := br_f (by decide) H
 replace H := br_f (by decide) H
 replace H := br_f (by decide) H
 replace H := br_t (by decide) H
 refine PW.seq ?_
 refine zq2 (fun _ => OW.run [1]) ?_
 refine PW.seq ?_
 refine PW.drawO 8 [5, 6] [215, 71] mixed (by kernel_rfl) (by decide) rfl fun K hK => ?_
 refine zq8 (FWO.run) ?_
 first | refine FWO.nil ?_ | skip
 change OW _ _ _ _ _ _
 refine zq8 (OW.run [1, 3, 4]) ?_
 refine OW.nil (hK _ ?_)
 refine PW.joinS (τ := Unit) [1, 3, 4] 3 (fun _ => []) (fun _ => [{ cells := [.d (I (3 : Int)), .d (I Zv), .d (I Zw), .d (I Zs), .d (I Zz), .d (I Zy), .d (I Zq)], e := 71 }, { cells := [.d (Bo false), .d (Bo false), .d (Bo true), .d (Bo true)], e := 215 }, { cells := [.d (I (3 : Int)), .d (I (-1 : Int)), .d (I (0 : Int)), .d (I Zs), .d (I Zz), .d (I Zy), .d (I Zq)], e := 71 }]) _ _ r zqd H ?_ ?_
 intro K_9 H N22 hN22
 refine PW.seq ?_
 refine zq2 (fun _ => OW.run [1, 3, 4, 12]) ?_
 refine PW.cond rfl (fun h23 => ?_) (fun h23 => ?_)
 replace H := br_t h23 H
 refine zq2 (fun _ => OW.run [1, 3, 4]) ?_
 refine hN22 [] () _ H zqf ?_
 exact zqe
 replace H := br_f h23 H
 cases H
 rintro _ H
 with_reducible refine zq0 ?_
 refine PW.joinS (τ := Unit) [1, 3, 4] 3 (fun _ => []) (fun _ => [{ cells := [.d (I (3 : Int)), .d (I Zv), .d (I Zw), .d (I Zs), .d (I Zz), .d (I Zy), .d (I Zq)], e := 71 }, { cells := [.d (Bo false), .d (Bo false), .d (Bo true), .d (Bo true)], e := 215 }, { cells := [.d (I (3 : Int)), .d (I (-1 : Int)), .d (I (0 : Int)), .d (I (-1 : Int)), .d (I Zz), .d (I Zy), .d (I Zq)], e := 71 }]) _ _ r zqd H ?_ ?_
 intro K_10 H N24 hN24
 refine PW.seq ?_
 refine zq2 (fun _ => OW.run [1, 3, 4, 17]) ?_
 refine PW.cond rfl (fun h25 => ?_) (fun h25 => ?_)
 replace H := br_t h25 H
 refine zq2 (fun _ => OW.run [1, 3, 4]) ?_
 refine hN24 [] () _ H zqf ?_
 exact zqe
 replace H := br_f h25 H
 cases H
 rintro _ H
 with_reducible refine zq0 ?_
 refine PW.joinS (τ := Unit) [1, 3, 4] 3 (fun _ => []) (fun _ => [{ cells := [.d (I (3 : Int)), .d (I Zv), .d (I Zw), .d (I Zs), .d (I Zz), .d (I Zy), .d (I Zq)], e := 71 }, { cells := [.d (Bo false), .d (Bo false), .d (Bo true), .d (Bo true)], e := 215 }, { cells := [.d (I (3 : Int)), .d (I (-1 : Int)), .d (I (0 : Int)), .d (I (-1 : Int)), .d (I Zz), .d (I Zy), .d (I Zq)], e := 71 }]) _ _ r zqd H ?_ ?_
 intro K_11 H N26 hN26
 refine PW.seq ?_
 refine zq2 (fun _ => OW.run [1, 3, 4, 21]) ?_
 refine PW.cond rfl (fun h27 => ?_) (fun h27 => ?_)
 replace H := br_t h27 H
 cases H
 replace H := br_f h27 H
 refine PW.skip ?_
 refine hN26 [] () _ H zqf ?_
 exact zqe
 rintro _ H
 with_reducible refine zq0 ?_
 refine PW.seq ?_
 refine PW.seq ?_
 refine zq2 (fun _ => OW.run [1, 4, 25]) ?_
 refine PW.cond rfl (fun h28 => ?_) (fun h28 => ?_)
 replace H := br_t h28 H
 cases H
 replace H := br_f h28 H
 refine PW.skip ?_
 refine PW.seq ?_
 refine zq2 (fun _ => OW.run [2]) ?_
 change PW _ _ _ _ _
 exact zq7
 replace H := br_f (by decide) H
 replace H := br_f (by decide) H
 replace H := br_f (by decide) H
 replace H := br_f (by decide) H
 replace H := br_t (by decide) H
 refine PW.seq ?_
 refine zq2 (fun _ => OW.run [1]) ?_
 refine PW.seq ?_
 refine PW.drawO 8 [5, 6] [215, 71] mixed (by kernel_rfl) (by decide) rfl fun K hK => ?_
 refine zq8 (FWO.run) ?_
 first | refine FWO.nil ?_ | skip
 change OW _ _ _ _ _ _
 refine zq8 (OW.run [1, 3, 4]) ?_
 refine OW.nil (hK _ ?_)
 refine PW.joinS (τ := Unit) [1, 3, 4] 3 (fun _ => []) (fun _ => [{ cells := [.d (I (4 : Int)), .d (I Zv), .d (I Zw), .d (I Zs), .d (I Zz), .d (I Zy), .d (I Zq)], e := 71 }, { cells := [.d (Bo false), .d (Bo true), .d (Bo false), .d (Bo false)], e := 215 }, { cells := [.d (I (4 : Int)), .d (I (-1 : Int)), .d (I (0 : Int)), .d (I Zs), .d (I Zz), .d (I Zy), .d (I Zq)], e := 71 }]) _ _ r zqd H ?_ ?_
 intro K_12 H N29 hN29
 refine PW.seq ?_
 refine zq2 (fun _ => OW.run [1, 3, 4, 12]) ?_
 refine PW.cond rfl (fun h30 => ?_) (fun h30 => ?_)
 replace H := br_t h30 H
 refine zq2 (fun _ => OW.run [1, 3, 4]) ?_
 refine hN29 [] () _ H zqf ?_
 exact zqe
 replace H := br_f h30 H
 cases H
 rintro _ H
 with_reducible refine zq0 ?_
 refine PW.joinS (τ := Unit) [1, 3, 4] 3 (fun _ => []) (fun _ => [{ cells := [.d (I (4 : Int)), .d (I Zv), .d (I Zw), .d (I Zs), .d (I Zz), .d (I Zy), .d (I Zq)], e := 71 }, { cells := [.d (Bo false), .d (Bo true), .d (Bo false), .d (Bo false)], e := 215 }, { cells := [.d (I (4 : Int)), .d (I (-1 : Int)), .d (I (0 : Int)), .d (I Zs), .d (I Zz), .d (I Zy), .d (I Zq)], e := 71 }]) _ _ r zqd H ?_ ?_
 intro K_13 H N31 hN31
 refine PW.seq ?_
 refine zq2 (fun _ => OW.run [1, 3, 4, 17]) ?_
 refine PW.cond rfl (fun h32 => ?_) (fun h32 => ?_)
 replace H := br_t h32 H
 cases H
 replace H := br_f h32 H
 refine PW.skip ?_
 refine hN31 [] () _ H zqf ?_
 exact zqe
 rintro _ H
 with_reducible refine zq0 ?_
 refine PW.joinS (τ := Unit) [1, 3, 4] 3 (fun _ => []) (fun _ => [{ cells := [.d (I (4 : Int)), .d (I Zv), .d (I Zw), .d (I Zs), .d (I Zz), .d (I Zy), .d (I Zq)], e := 71 }, { cells := [.d (Bo false), .d (Bo true), .d (Bo false), .d (Bo false)], e := 215 }, { cells := [.d (I (4 : Int)), .d (I (-1 : Int)), .d (I (0 : Int)), .d (I Zs), .d (I (0 : Int)), .d (I Zy), .d (I Zq)], e := 71 }]) _ _ r zqd H ?_ ?_
 intro K_14 H N33 hN33
 refine PW.seq ?_
 refine zq2 (fun _ => OW.run [1, 3, 4, 21]) ?_
 refine PW.cond rfl (fun h34 => ?_) (fun h34 => ?_)
 replace H := br_t h34 H
 refine zq2 (fun _ => OW.run [1, 3, 4]) ?_
 refine hN33 [] () _ H zqf ?_
 exact zqe
 replace H := br_f h34 H
 cases H
 rintro _ H
 with_reducible refine zq0 ?_
 refine PW.seq ?_
 refine PW.seq ?_
 refine zq2 (fun _ => OW.run [1, 4, 25]) ?_
 refine PW.cond rfl (fun h35 => ?_) (fun h35 => ?_)
 replace H := br_t h35 H
 refine zq2 (fun _ => OW.run [1, 4]) ?_
 refine PW.seq ?_
 refine zq2 (fun _ => OW.run [2]) ?_
 change PW _ _ _ _ _
 exact zq7
 replace H := br_f h35 H
 cases H
 replace H := br_f (by decide) H
 replace H := br_f (by decide) H
 replace H := br_f (by decide) H
 replace H := br_f (by decide) H
 replace H := br_f (by decide) H
 replace H := br_t (by decide) H
 refine PW.seq ?_
 refine zq2 (fun _ => OW.run [1]) ?_
 refine PW.seq ?_
 refine PW.drawO 8 [5, 6] [215, 71] mixed (by kernel_rfl) (by decide) rfl fun K hK => ?_
 refine zq8 (FWO.run) ?_
 first | refine FWO.nil ?_ | skip
 change OW _ _ _ _ _ _
 refine zq8 (OW.run [1, 3, 4]) ?_
 refine OW.nil (hK _ ?_)
 refine PW.joinS (τ := Unit) [1, 3, 4] 3 (fun _ => []) (fun _ => [{ cells := [.d (I (5 : Int)), .d (I Zv), .d (I Zw), .d (I Zs), .d (I Zz), .d (I Zy), .d (I Zq)], e := 71 }, { cells := [.d (Bo false), .d (Bo false), .d (Bo false), .d (Bo true)], e := 215 }, { cells := [.d (I (5 : Int)), .d (I (-1 : Int)), .d (I (0 : Int)), .d (I Zs), .d (I Zz), .d (I Zy), .d (I Zq)], e := 71 }]) _ _ r zqd H ?_ ?_
 intro K_15 H N36 hN36
 refine PW.seq ?_
 refine zq2 (fun _ => OW.run [1, 3, 4, 12]) ?_
 refine PW.cond rfl (fun h37 => ?_) (fun h37 => ?_)
 replace H := br_t h37 H
 refine zq2 (fun _ => OW.run [1, 3, 4]) ?_
 refine hN36 [] () _ H zqf ?_
 exact zqe
 replace H := br_f h37 H
 cases H
 rintro _ H
 with_reducible refine zq0 ?_
 refine PW.joinS (τ := Unit) [1, 3, 4] 3 (fun _ => []) (fun _ => [{ cells := [.d (I (5 : Int)), .d (I Zv), .d (I Zw), .d (I Zs), .d (I Zz), .d (I Zy), .d (I Zq)], e := 71 }, { cells := [.d (Bo false), .d (Bo false), .d (Bo false), .d (Bo true)], e := 215 }, { cells := [.d (I (5 : Int)), .d (I (-1 : Int)), .d (I (0 : Int)), .d (I (-1 : Int)), .d (I Zz), .d (I Zy), .d (I Zq)], e := 71 }]) _ _ r zqd H ?_ ?_
 intro K_16 H N38 hN38
 refine PW.seq ?_
 refine zq2 (fun _ => OW.run [1, 3, 4, 17]) ?_
 refine PW.cond rfl (fun h39 => ?_) (fun h39 => ?_)
 replace H := br_t h39 H
 refine zq2 (fun _ => OW.run [1, 3, 4]) ?_
 refine hN38 [] () _ H zqf ?_
 exact zqe
 replace H := br_f h39 H
 cases H
 rintro _ H
 with_reducible refine zq0 ?_
 refine PW.joinS (τ := Unit) [1, 3, 4] 3 (fun _ => []) (fun _ => [{ cells := [.d (I (5 : Int)), .d (I Zv), .d (I Zw), .d (I Zs), .d (I Zz), .d (I Zy), .d (I Zq)], e := 71 }, { cells := [.d (Bo false), .d (Bo false), .d (Bo false), .d (Bo true)], e := 215 }, { cells := [.d (I (5 : Int)), .d (I (-1 : Int)), .d (I (0 : Int)), .d (I (-1 : Int)), .d (I (0 : Int)), .d (I Zy), .d (I Zq)], e := 71 }]) _ _ r zqd H ?_ ?_
 intro K_17 H N40 hN40
 refine PW.seq ?_
 refine zq2 (fun _ => OW.run [1, 3, 4, 21]) ?_
 refine PW.cond rfl (fun h41 => ?_) (fun h41 => ?_)
 replace H := br_t h41 H
 refine zq2 (fun _ => OW.run [1, 3, 4]) ?_
 refine hN40 [] () _ H zqf ?_
 exact zqe
 replace H := br_f h41 H
 cases H
 rintro _ H
 with_reducible refine zq0 ?_
 refine PW.seq ?_
 refine PW.seq ?_
 refine zq2 (fun _ => OW.run [1, 4, 25]) ?_
 refine PW.cond rfl (fun h42 => ?_) (fun h42 => ?_)
 replace H := br_t h42 H
 cases H
 replace H := br_f h42 H
 refine PW.skip ?_
 refine PW.seq ?_
 refine zq2 (fun _ => OW.run [2]) ?_
 change PW _ _ _ _ _
 exact zq7
theorem access_site_isChance_ok (N : Nat) (Z1c : Int) (Z1a : Int) (Z1f : Int) (Z1e : Int) (Z1d : Int) (Z19 : Int) (Z1b : Int) (s_at : Int) (s_phones : List (Int × Int × Int × Int × Int × Int × Int)) (tick : Int) (r : Bool) (H : access_site_isChance N Z1c Z1a Z1f Z1e Z1d Z19 Z1b s_at s_phones tick = some r) : CallOK Tryz.prog 153 [(.ref [(I Z1c), (I Z1a), (I Z1f), (I Z1e), (I Z1d), (I Z19), (I Z1b), (I s_at), (.list s_phones.length (s_phones.flatMap (fun (x : Int × Int × Int × Int × Int × Int × Int) => [(I x.1), (I x.2.1), (I x.2.2.1), (I x.2.2.2.1), (I x.2.2.2.2.1), (I x.2.2.2.2.2.1), (I x.2.2.2.2.2.2)])))]), (I tick)] (.d (Bo r)) [] := by
 refine CallOK.of_PW Tryz.func153 rfl (by rw [Tryz.results153]) Tryz.ntmps153 Tryz.call153 ?_
 change PW _ _ _ _ _
 with_reducible refine zq0 ?_
 unfold access_site_isChance at H
 refine PW.seq ?_
 refine zq2 (fun _ => OW.run [0, 1]) ?_
 refine PW.seq ?_
 obtain ⟨c1, H⟩ := chk_some H
 refine zq2 (fun _ => OW.run [4]) ?_
 change PW _ _ _ _ _
 exact zq7
theorem access_site_isPreamble_ok (N : Nat) (Z1c : Int) (Z1a : Int) (Z1f : Int) (Z1e : Int) (Z1d : Int) (Z19 : Int) (Z1b : Int) (s_at : Int) (s_phones : List (Int × Int × Int × Int × Int × Int × Int)) (n : Int) (r : Bool) (H : access_site_isPreamble N Z1c Z1a Z1f Z1e Z1d Z19 Z1b s_at s_phones n = some r) : CallOK Tryz.prog 154 [(.ref [(I Z1c), (I Z1a), (I Z1f), (I Z1e), (I Z1d), (I Z19), (I Z1b), (I s_at), (.list s_phones.length (s_phones.flatMap (fun (x : Int × Int × Int × Int × Int × Int × Int) => [(I x.1), (I x.2.1), (I x.2.2.1), (I x.2.2.2.1), (I x.2.2.2.2.1), (I x.2.2.2.2.2.1), (I x.2.2.2.2.2.2)])))]), (I n)] (.d (Bo r)) [] := by
 refine CallOK.of_PW Tryz.func154 rfl (by rw [Tryz.results154]) Tryz.ntmps154 Tryz.call154 ?_
 change PW _ _ _ _ _
 with_reducible refine zq0 ?_
 unfold access_site_isPreamble at H
 refine PW.seq ?_
 refine zq2 (fun _ => OW.run [0, 1]) ?_
 refine PW.seq ?_
 obtain ⟨x1, e1, H⟩ := bnd_some H
 refine PW.regionK fun K hK => zq8 (OW.run [4]) ?_
 refine OW.call' 4 rfl rfl rfl zq9 zqa (access_within_ok N _ _ _ _ e1) zq5 zqb zqc ?_
 refine zq8 (OW.run [4]) ?_
 refine OW.nil (hK _ ?_)
 change PW _ _ _ _ _
 exact zq7
theorem access_site_isIdentity_ok (N : Nat) (Z1c : Int) (Z1a : Int) (Z1f : Int) (Z1e : Int) (Z1d : Int) (Z19 : Int) (Z1b : Int) (s_at : Int) (s_phones : List (Int × Int × Int × Int × Int × Int × Int)) (n : Int) (r : Bool) (H : access_site_isIdentity N Z1c Z1a Z1f Z1e Z1d Z19 Z1b s_at s_phones n = some r) : CallOK Tryz.prog 138 [(.ref [(I Z1c), (I Z1a), (I Z1f), (I Z1e), (I Z1d), (I Z19), (I Z1b), (I s_at), (.list s_phones.length (s_phones.flatMap (fun (x : Int × Int × Int × Int × Int × Int × Int) => [(I x.1), (I x.2.1), (I x.2.2.1), (I x.2.2.2.1), (I x.2.2.2.2.1), (I x.2.2.2.2.2.1), (I x.2.2.2.2.2.2)])))]), (I n)] (.d (Bo r)) [] := by
 refine CallOK.of_PW Tryz.func138 rfl (by rw [Tryz.results138]) Tryz.ntmps138 Tryz.call138 ?_
 change PW _ _ _ _ _
 with_reducible refine zq0 ?_
 unfold access_site_isIdentity at H
 refine PW.seq ?_
 refine zq2 (fun _ => OW.run [0, 1]) ?_
 refine PW.seq ?_
 obtain ⟨x1, e1, H⟩ := bnd_some H
 refine PW.regionK fun K hK => zq8 (OW.run [4]) ?_
 refine OW.call' 4 rfl rfl rfl zq9 zqa (access_within_ok N _ _ _ _ e1) zq5 zqb zqc ?_
 refine zq8 (OW.run [4]) ?_
 refine OW.nil (hK _ ?_)
 change PW _ _ _ _ _
 exact zq7
theorem access_held_1_ok (N : Nat) (Zx : Int) (Zv : Int) (Zw : Int) (Zs : Int) (Zz : Int) (Zy : Int) (Zq : Int) (a1 : Int) (r : Bool) (H : access_held_1 N Zx Zv Zw Zs Zz Zy Zq a1 = some r) : CallOK Tryz.prog 140 [(.agg [(I Zx), (I Zv), (I Zw), (I Zs), (I Zz), (I Zy), (I Zq)]), (.ref [(I a1)])] (.d (Bo r)) [] := by
 refine CallOK.of_PW Tryz.func140 rfl (by rw [Tryz.results140]) Tryz.ntmps140 Tryz.call140 ?_
 change PW _ _ _ _ _
 with_reducible refine zq0 ?_
 unfold access_held_1 at H
 refine PW.seq ?_
 refine zq2 (fun _ => OW.run [1, 2]) ?_
 refine PW.seq ?_
 refine zq2 (fun _ => OW.run [3]) ?_
 change PW _ _ _ _ _
 exact zq7
theorem slices_IndexFunc_api_AccessPhone_api_AccessPhone_ok (N : Nat) (s : List (Int × Int × Int × Int × Int × Int × Int)) (f_g : FuncId) (f_c : List D) (f : Int → Int → Int → Int → Int → Int → Int → Option Bool) (f_h : ∀ y0 y1 y2 y3 y4 y5 y6 r0, f y0 y1 y2 y3 y4 y5 y6 = some r0 → CallOK Tryz.prog f_g ((.agg [(I y0), (I y1), (I y2), (I y3), (I y4), (I y5), (I y6)]) :: f_c.map nz) (.d (Bo r0)) []) (r : Int) (H : slices_IndexFunc_api_AccessPhone_api_AccessPhone N s f = some r) : CallOK Tryz.prog 158 [(.list s.length (s.flatMap (fun (x : Int × Int × Int × Int × Int × Int × Int) => [(I x.1), (I x.2.1), (I x.2.2.1), (I x.2.2.2.1), (I x.2.2.2.2.1), (I x.2.2.2.2.2.1), (I x.2.2.2.2.2.2)]))), .clo f_g f_c] (.d (I r)) [] := by
 refine CallOK.of_PW Tryz.func158 rfl (by rw [Tryz.results158]) Tryz.ntmps158 Tryz.call158 ?_
 change PW _ _ _ _ _
 with_reducible refine zq0 ?_
 unfold slices_IndexFunc_api_AccessPhone_api_AccessPhone at H
 refine PW.seq ?_
 refine zq2 (fun _ => OW.run [0, 1]) ?_
 refine PW.joinS (τ := Unit) [] 0 (fun _ => []) (fun _ => []) _ _ r zqd H ?_ ?_
 intro K_ H N1 hN1
 refine PW.seq ?_
 refine zq2 (fun _ => OW.run [0, 1, 7, 8]) ?_
 refine PW.block ?_
 refine PW.loopS (σ := Int) [0, 1, 7, 8] 0 (fun t8 => [(8, .d (I t8))]) (fun t8 => []) (slices_IndexFunc_api_AccessPhone_api_AccessPhone.b1 N s f K_) r N (0 : Int) zqd H zqe ?_
 rintro n t8 H N2 hN2
 unfold slices_IndexFunc_api_AccessPhone_api_AccessPhone.b1 at H
 with_reducible refine zq0 ?_
 refine PW.seq ?_
 refine zq2 (fun _ => OW.run [0, 1, 7, 8, 9]) ?_
 refine PW.seq ?_
 refine PW.cond rfl (fun h3 => ?_) (fun h3 => ?_)
 replace H := br_t h3 H
 refine PW.skip ?_
 refine PW.seq ?_
 refine PW.block ?_
 refine PW.seq ?_
 refine zq2 (fun _ => OW.run [0, 1, 5, 7, 8]) ?_
 refine PW.seq ?_
 obtain ⟨c4, H⟩ := chk_some H
 obtain ⟨x1, e1, H⟩ := bnd_some H
 refine PW.regionK fun K hK => zqu (OW.run [0, 1, 5, 7, 8, 16]) ?_
 refine OW.call' 4 rfl rfl rfl zq9 zqa (f_h _ _ _ _ _ _ _ _ e1) zq5 zqb zqc ?_
 refine zqu (OW.run [0, 1, 5, 7, 8, 16]) ?_
 refine OW.nil (hK _ ?_)
 refine PW.cond rfl (fun h5 => ?_) (fun h5 => ?_)
 replace H := br_t h5 H
 refine PW.seq ?_
 refine zq2 (fun _ => OW.run [4]) ?_
 change PW _ _ _ _ _
 exact zq7
 replace H := br_f h5 H
 refine PW.skip ?_
 change PW _ _ _ _ _
 refine zq2 (fun _ => OW.run [0, 1, 7, 8]) ?_
 refine hN2 [] (w64 (t8 + (1 : Int))) _ H zqf ?_
 exact zqe
 replace H := br_f h3 H
 refine PW.exit ?_
 refine hN1 [] () _ H zqf ?_
 exact zqe
 rintro _ H
 with_reducible refine zq0 ?_
 refine PW.seq ?_
 refine zq2 (fun _ => OW.run [4]) ?_
 change PW _ _ _ _ _
 exact zq7
theorem slices_ContainsFunc_api_AccessPhone_api_AccessPhone_ok (N : Nat) (s : List (Int × Int × Int × Int × Int × Int × Int)) (f_g : FuncId) (f_c : List D) (f : Int → Int → Int → Int → Int → Int → Int → Option Bool) (f_h : ∀ y0 y1 y2 y3 y4 y5 y6 r0, f y0 y1 y2 y3 y4 y5 y6 = some r0 → CallOK Tryz.prog f_g ((.agg [(I y0), (I y1), (I y2), (I y3), (I y4), (I y5), (I y6)]) :: f_c.map nz) (.d (Bo r0)) []) (r : Bool) (H : slices_ContainsFunc_api_AccessPhone_api_AccessPhone N s f = some r) : CallOK Tryz.prog 139 [(.list s.length (s.flatMap (fun (x : Int × Int × Int × Int × Int × Int × Int) => [(I x.1), (I x.2.1), (I x.2.2.1), (I x.2.2.2.1), (I x.2.2.2.2.1), (I x.2.2.2.2.2.1), (I x.2.2.2.2.2.2)]))), .clo f_g f_c] (.d (Bo r)) [] := by
 refine CallOK.of_PW Tryz.func139 rfl (by rw [Tryz.results139]) Tryz.ntmps139 Tryz.call139 ?_
 change PW _ _ _ _ _
 with_reducible refine zq0 ?_
 unfold slices_ContainsFunc_api_AccessPhone_api_AccessPhone at H
 refine PW.seq ?_
 refine zq2 (fun _ => OW.run [0, 1]) ?_
 refine PW.seq ?_
 obtain ⟨x1, e1, H⟩ := bnd_some H
 refine PW.regionK fun K hK => zq8 (OW.run [4]) ?_
 refine OW.call' 4 rfl rfl rfl zq9 zqa (slices_IndexFunc_api_AccessPhone_api_AccessPhone_ok N _ f_g f_c f f_h _ e1) zq5 zqb zqc ?_
 refine zq8 (OW.run [4]) ?_
 refine OW.nil (hK _ ?_)
 change PW _ _ _ _ _
 exact zq7
theorem access_held_ok (N : Nat) (l : List (Int × Int × Int × Int × Int × Int × Int)) (identity : Int) (r : Bool) (H : access_held N l identity = some r) : CallOK Tryz.prog 111 [(.list l.length (l.flatMap (fun (x : Int × Int × Int × Int × Int × Int × Int) => [(I x.1), (I x.2.1), (I x.2.2.1), (I x.2.2.2.1), (I x.2.2.2.2.1), (I x.2.2.2.2.2.1), (I x.2.2.2.2.2.2)]))), (I identity)] (.d (Bo r)) [] := by
 refine CallOK.of_PW Tryz.func111 rfl (by rw [Tryz.results111]) Tryz.ntmps111 Tryz.call111 ?_
 change PW _ _ _ _ _
 with_reducible refine zq0 ?_
 unfold access_held at H
 refine PW.seq ?_
 refine zq2 (fun _ => OW.run [0, 3]) ?_
 refine PW.seq ?_
 obtain ⟨x1, e1, H⟩ := bnd_some H
 refine PW.regionK fun K hK => zq8 (OW.run [4]) ?_
 refine OW.call' 4 rfl rfl rfl zq9 zqa (slices_ContainsFunc_api_AccessPhone_api_AccessPhone_ok N _ 140 [(.ref [(I identity)])] (fun y0 y1 y2 y3 y4 y5 y6 => access_held_1 N y0 y1 y2 y3 y4 y5 y6 identity) (fun y0 y1 y2 y3 y4 y5 y6 r h => access_held_1_ok N y0 y1 y2 y3 y4 y5 y6 _ r h) _ e1) zq5 zqb zqc ?_
 refine zq8 (OW.run [4]) ?_
 refine OW.nil (hK _ ?_)
 change PW _ _ _ _ _
 exact zq7
theorem access_had_1_ok (N : Nat) (Zx : Int) (Zv : Int) (Zw : Int) (Zs : Int) (Zz : Int) (Zy : Int) (Zq : Int) (a1 : Int) (r : Bool) (H : access_had_1 N Zx Zv Zw Zs Zz Zy Zq a1 = some r) : CallOK Tryz.prog 164 [(.agg [(I Zx), (I Zv), (I Zw), (I Zs), (I Zz), (I Zy), (I Zq)]), (.ref [(I a1)])] (.d (Bo r)) [] := by
 refine CallOK.of_PW Tryz.func164 rfl (by rw [Tryz.results164]) Tryz.ntmps164 Tryz.call164 ?_
 change PW _ _ _ _ _
 with_reducible refine zq0 ?_
 unfold access_had_1 at H
 refine PW.seq ?_
 refine zq2 (fun _ => OW.run [1, 2]) ?_
 refine PW.seq ?_
 refine zq2 (fun _ => OW.run [3]) ?_
 change PW _ _ _ _ _
 exact zq7
theorem access_had_ok (N : Nat) (l : List (Int × Int × Int × Int × Int × Int × Int)) (identity : Int) (r : Bool) (H : access_had N l identity = some r) : CallOK Tryz.prog 155 [(.list l.length (l.flatMap (fun (x : Int × Int × Int × Int × Int × Int × Int) => [(I x.1), (I x.2.1), (I x.2.2.1), (I x.2.2.2.1), (I x.2.2.2.2.1), (I x.2.2.2.2.2.1), (I x.2.2.2.2.2.2)]))), (I identity)] (.d (Bo r)) [] := by
 refine CallOK.of_PW Tryz.func155 rfl (by rw [Tryz.results155]) Tryz.ntmps155 Tryz.call155 ?_
 change PW _ _ _ _ _
 with_reducible refine zq0 ?_
 unfold access_had at H
 refine PW.seq ?_
 refine zq2 (fun _ => OW.run [0, 3]) ?_
 refine PW.seq ?_
 obtain ⟨x1, e1, H⟩ := bnd_some H
 refine PW.regionK fun K hK => zq8 (OW.run [4]) ?_
 refine OW.call' 4 rfl rfl rfl zq9 zqa (slices_ContainsFunc_api_AccessPhone_api_AccessPhone_ok N _ 164 [(.ref [(I identity)])] (fun y0 y1 y2 y3 y4 y5 y6 => access_had_1 N y0 y1 y2 y3 y4 y5 y6 identity) (fun y0 y1 y2 y3 y4 y5 y6 r h => access_had_1_ok N y0 y1 y2 y3 y4 y5 y6 _ r h) _ e1) zq5 zqb zqc ?_
 refine zq8 (OW.run [4]) ?_
 refine OW.nil (hK _ ?_)
 change PW _ _ _ _ _
 exact zq7
theorem access_site_phoneErr_ok (N : Nat) (Z1c : Int) (Z1a : Int) (Z1f : Int) (Z1e : Int) (Z1d : Int) (Z19 : Int) (Z1b : Int) (s_at : Int) (s_phones : List (Int × Int × Int × Int × Int × Int × Int)) (number : Int) (r : Int) (H : access_site_phoneErr N Z1c Z1a Z1f Z1e Z1d Z19 Z1b s_at s_phones number = some r) : CallOK Tryz.prog 123 [(.ref [(I Z1c), (I Z1a), (I Z1f), (I Z1e), (I Z1d), (I Z19), (I Z1b), (I s_at), (.list s_phones.length (s_phones.flatMap (fun (x : Int × Int × Int × Int × Int × Int × Int) => [(I x.1), (I x.2.1), (I x.2.2.1), (I x.2.2.2.1), (I x.2.2.2.2.1), (I x.2.2.2.2.2.1), (I x.2.2.2.2.2.2)])))]), (I number)] (.d (I r)) [] := by
 refine CallOK.of_PW Tryz.func123 rfl (by rw [Tryz.results123]) Tryz.ntmps123 Tryz.call123 ?_
 change PW _ _ _ _ _
 with_reducible refine zq0 ?_
 unfold access_site_phoneErr at H
 refine PW.seq ?_
 refine zq2 (fun _ => OW.run [0, 1]) ?_
 refine PW.seq ?_
 obtain ⟨c1, H⟩ := chk_some H
 obtain ⟨c2, H⟩ := chk_some H
 refine PW.drawO 15 [13] [71] mixed (by kernel_rfl) (by decide) rfl fun K hK => ?_
 refine zqv (FWO.run) ?_
 first | refine FWO.nil ?_ | skip
 change OW _ _ _ _ _ _
 refine zqv (OW.run [0, 5, 6]) ?_
 refine OW.nil (hK _ ?_)
 refine PW.seq ?_
 refine PW.seq ?_
 obtain ⟨x1, e1, H⟩ := bnd_some H
 refine PW.regionK fun K hK => zq8 (OW.run [0, 5, 6, 26]) ?_
 refine OW.call' 4 rfl rfl rfl zq9 zqa (access_within_ok N _ _ _ _ e1) zq5 zqb zqc ?_
 refine zq8 (OW.run [0, 5, 6, 26]) ?_
 refine OW.nil (hK _ ?_)
 refine PW.cond rfl (fun h3 => ?_) (fun h3 => ?_)
 replace H := br_t h3 H
 refine PW.seq ?_
 refine zq2 (fun _ => OW.run [4]) ?_
 change PW _ _ _ _ _
 exact zq7
 replace H := br_f h3 H
 refine PW.skip ?_
 refine PW.seq ?_
 refine PW.seq ?_
 obtain ⟨x2, e2, H⟩ := bnd_some H
 obtain ⟨x3, e3, H⟩ := bnd_some H
 obtain ⟨x4, e4, H⟩ := bnd_some H
 obtain ⟨x5, e5, H⟩ := bnd_some H
 obtain ⟨x6, e6, H⟩ := bnd_some H
 refine PW.drawK 5 mixed (by kernel_rfl) fun K hK => ?_
 change FW _ _ _ _ _
 refine zq8 (FW.run) ?_
 refine FW.call' 4 rfl rfl rfl zq9 zqa (access_isDraw_ok N _ _ e2) zq5 zqb zqc ?_
 refine zq8 (FW.run) ?_
 refine FW.call' 4 rfl rfl rfl zq9 zqa (access_unless_ok N _ _ _ e3) zq5 zqb zqc ?_
 refine zq8 (FW.run) ?_
 refine FW.nil ?_
 change OW _ _ _ _ _ _
 refine zq8 (OW.run [0, 5, 6, 7]) ?_
 refine OW.call' 4 rfl rfl rfl zq9 zqa (access_fits_ok N _ _ _ _ _ _ _ _ e4) zq5 zqb zqc ?_
 refine zq8 (OW.run [0, 5, 6, 7]) ?_
 refine OW.call' 4 rfl rfl rfl zq9 zqa (access_unless_ok N _ _ _ e5) zq5 zqb zqc ?_
 refine zq8 (OW.run [0, 5, 6, 7]) ?_
 refine OW.call' 4 rfl rfl rfl zq9 zqa (access_first_ok N _ _ e6) zq5 zqb zqc ?_
 refine zq8 (OW.run [0, 5, 6, 7]) ?_
 refine OW.nil (hK _ ?_)
 refine PW.seq ?_
 refine zq2 (fun _ => OW.run [0, 5, 6, 7, 37]) ?_
 refine PW.cond rfl (fun h4 => ?_) (fun h4 => ?_)
 replace H := br_t h4 H
 refine PW.seq ?_
 refine zq2 (fun _ => OW.run [4]) ?_
 change PW _ _ _ _ _
 exact zq7
 replace H := br_f h4 H
 refine PW.skip ?_
 refine PW.seq ?_
 obtain ⟨x7, e7, H⟩ := bnd_some H
 refine PW.drawK 7 mixed (by kernel_rfl) fun K hK => ?_
 change FW _ _ _ _ _
 refine zq8 (FW.run) ?_
 refine FW.nil ?_
 change OW _ _ _ _ _ _
 refine zq8 (OW.run [0, 5, 6, 8]) ?_
 refine OW.call' 4 rfl rfl rfl zq9 zqa (access_within_ok N _ _ _ _ e7) zq5 zqb zqc ?_
 refine zq8 (OW.run [0, 5, 6, 8]) ?_
 refine OW.nil (hK _ ?_)
 refine PW.seq ?_
 refine PW.seq ?_
 refine zq2 (fun _ => OW.run [0, 5, 6, 8, 48]) ?_
 refine PW.block ?_
 refine PW.seq ?_
 refine zq2 (fun _ => OW.run [0, 5, 6, 8, 48, 49]) ?_
 refine PW.cond rfl (fun h5 => ?_) (fun h5 => ?_)
 replace H := br_t h5 H
 refine PW.seq ?_
 obtain ⟨x8, e8, H⟩ := bnd_some H
 obtain ⟨x9, e9, H⟩ := bnd_some H
 refine PW.drawK 33 mixed (by kernel_rfl) fun K hK => ?_
 change FW _ _ _ _ _
 refine zq8 (FW.run) ?_
 refine FW.call' 4 rfl rfl rfl zq9 zqa (access_within_ok N _ _ _ _ e8) zq5 zqb zqc ?_
 refine zq8 (FW.run) ?_
 refine FW.callG' 4 rfl rfl ?_ (fun hg => zqg) (fun hg => zq9) (fun hg => ?_) (fun hg => (access_site_isChance_ok N _ _ _ _ _ _ _ _ _ _ _ (grd_t hg e9))) ?_ ?_ ?_ ?_
 exact zqh
 exact zqa
 exact zq5
 exact zqb
 exact zqc
 refine zq8 (FW.run) ?_
 refine FW.nil ?_
 change OW _ _ _ _ _ _
 refine zq8 (OW.run [0, 5, 8, 9]) ?_
 refine OW.nil (hK _ ?_)
 refine PW.seq ?_
 obtain ⟨x10, e10, H⟩ := bnd_some H
 obtain ⟨x11, e11, H⟩ := bnd_some H
 obtain ⟨x12, e12, H⟩ := bnd_some H
 obtain ⟨x13, e13, H⟩ := bnd_some H
 obtain ⟨x14, e14, H⟩ := bnd_some H
 refine PW.regionK fun K hK => zq8 (OW.run [4]) ?_
 refine OW.call' 4 rfl rfl rfl zq9 zqa (access_site_isPreamble_ok N _ _ _ _ _ _ _ _ _ _ _ e10) zq5 zqb zqc ?_
 refine zq8 (OW.run [4]) ?_
 refine OW.call' 4 rfl rfl rfl zq9 zqa (access_unless_ok N _ _ _ e11) zq5 zqb zqc ?_
 refine zq8 (OW.run [4]) ?_
 refine OW.call' 4 rfl rfl rfl zq9 zqa (access_unless_ok N _ _ _ e12) zq5 zqb zqc ?_
 refine zq8 (OW.run [4]) ?_
 refine OW.call' 4 rfl rfl rfl zq9 zqa (access_unless_ok N _ _ _ e13) zq5 zqb zqc ?_
 refine zq8 (OW.run [4]) ?_
 refine OW.call' 4 rfl rfl rfl zq9 zqa (access_first_ok N _ _ e14) zq5 zqb zqc ?_
 refine zq8 (OW.run [4]) ?_
 refine OW.nil (hK _ ?_)
 change PW _ _ _ _ _
 exact zq7
 replace H := br_f h5 H
 refine PW.seq ?_
 refine zq2 (fun _ => OW.run [0, 5, 6, 8, 48, 97]) ?_
 refine PW.cond rfl (fun h6 => ?_) (fun h6 => ?_)
 replace H := br_t h6 H
 refine PW.seq ?_
 obtain ⟨x15, e15, H⟩ := bnd_some H
 obtain ⟨x16, e16, H⟩ := bnd_some H
 obtain ⟨x17, e17, H⟩ := bnd_some H
 obtain ⟨x18, e18, H⟩ := bnd_some H
 obtain ⟨x19, e19, H⟩ := bnd_some H
 obtain ⟨x20, e20, H⟩ := bnd_some H
 obtain ⟨x21, e21, H⟩ := bnd_some H
 obtain ⟨x22, e22, H⟩ := bnd_some H
 refine PW.drawK 28 mixed (by kernel_rfl) fun K hK => ?_
 change FW _ _ _ _ _
 refine zq8 (FW.run) ?_
 refine FW.call' 4 rfl rfl rfl zq9 zqa (access_site_isIdentity_ok N _ _ _ _ _ _ _ _ _ _ _ e15) zq5 zqb zqc ?_
 refine zq8 (FW.run) ?_
 refine FW.call' 4 rfl rfl rfl zq9 zqa (access_unless_ok N _ _ _ e16) zq5 zqb zqc ?_
 refine zq8 (FW.run) ?_
 refine FW.call' 4 rfl rfl rfl zq9 zqa (access_within_ok N _ _ _ _ e17) zq5 zqb zqc ?_
 refine zq8 (FW.run) ?_
 refine FW.call' 4 rfl rfl rfl zq9 zqa (access_unless_ok N _ _ _ e18) zq5 zqb zqc ?_
 refine zq8 (FW.run) ?_
 refine FW.call' 4 rfl rfl rfl zq9 zqa (access_unless_ok N _ _ _ e19) zq5 zqb zqc ?_
 refine zq8 (FW.run) ?_
 refine FW.nil ?_
 change OW _ _ _ _ _ _
 refine zq8 (OW.run [4]) ?_
 refine OW.call' 4 rfl rfl rfl zq9 zqa (access_held_ok N _ _ _ e20) zq5 zqb zqc ?_
 refine zq8 (OW.run [4]) ?_
 refine OW.call' 4 rfl rfl rfl zq9 zqa (access_unless_ok N _ _ _ e21) zq5 zqb zqc ?_
 refine zq8 (OW.run [4]) ?_
 refine OW.call' 4 rfl rfl rfl zq9 zqa (access_first_ok N _ _ e22) zq5 zqb zqc ?_
 refine zq8 (OW.run [4]) ?_
 refine OW.nil (hK _ ?_)
 change PW _ _ _ _ _
 exact zq7
 replace H := br_f h6 H
 refine PW.seq ?_
 refine zq2 (fun _ => OW.run [0, 5, 6, 8, 48, 132]) ?_
 refine PW.cond rfl (fun h7 => ?_) (fun h7 => ?_)
 replace H := br_t h7 H
 refine PW.seq ?_
 obtain ⟨x23, e23, H⟩ := bnd_some H
 obtain ⟨x24, e24, H⟩ := bnd_some H
 obtain ⟨x25, e25, H⟩ := bnd_some H
 obtain ⟨x26, e26, H⟩ := bnd_some H
 refine PW.drawK 23 mixed (by kernel_rfl) fun K hK => ?_
 change FW _ _ _ _ _
 refine zq8 (FW.run) ?_
 refine FW.call' 4 rfl rfl rfl zq9 zqa (access_within_ok N _ _ _ _ e23) zq5 zqb zqc ?_
 refine zq8 (FW.run) ?_
 refine FW.call' 4 rfl rfl rfl zq9 zqa (access_unless_ok N _ _ _ e24) zq5 zqb zqc ?_
 refine zq8 (FW.run) ?_
 refine FW.nil ?_
 change OW _ _ _ _ _ _
 refine zq8 (OW.run [4]) ?_
 refine OW.call' 4 rfl rfl rfl zq9 zqa (access_unless_ok N _ _ _ e25) zq5 zqb zqc ?_
 refine zq8 (OW.run [4]) ?_
 refine OW.call' 4 rfl rfl rfl zq9 zqa (access_first_ok N _ _ e26) zq5 zqb zqc ?_
 refine zq8 (OW.run [4]) ?_
 refine OW.nil (hK _ ?_)
 change PW _ _ _ _ _
 exact zq7
 replace H := br_f h7 H
 refine PW.seq ?_
 refine zq2 (fun _ => OW.run [0, 5, 6, 48, 162]) ?_
 refine PW.cond rfl (fun h8 => ?_) (fun h8 => ?_)
 replace H := br_t h8 H
 refine PW.seq ?_
 obtain ⟨x27, e27, H⟩ := bnd_some H
 obtain ⟨x28, e28, H⟩ := bnd_some H
 obtain ⟨x29, e29, H⟩ := bnd_some H
 obtain ⟨x30, e30, H⟩ := bnd_some H
 obtain ⟨x31, e31, H⟩ := bnd_some H
 refine PW.drawK 8 mixed (by kernel_rfl) fun K hK => ?_
 change FW _ _ _ _ _
 refine zq8 (FW.run) ?_
 refine FW.call' 4 rfl rfl rfl zq9 zqa (access_site_isIdentity_ok N _ _ _ _ _ _ _ _ _ _ _ e27) zq5 zqb zqc ?_
 refine zq8 (FW.run) ?_
 refine FW.call' 4 rfl rfl rfl zq9 zqa (access_unless_ok N _ _ _ e28) zq5 zqb zqc ?_
 refine zq8 (FW.run) ?_
 refine FW.nil ?_
 change OW _ _ _ _ _ _
 refine zq8 (OW.run [4]) ?_
 refine OW.call' 4 rfl rfl rfl zq9 zqa (access_had_ok N _ _ _ e29) zq5 zqb zqc ?_
 refine zq8 (OW.run [4]) ?_
 refine OW.call' 4 rfl rfl rfl zq9 zqa (access_unless_ok N _ _ _ e30) zq5 zqb zqc ?_
 refine zq8 (OW.run [4]) ?_
 refine OW.call' 4 rfl rfl rfl zq9 zqa (access_first_ok N _ _ e31) zq5 zqb zqc ?_
 refine zq8 (OW.run [4]) ?_
 refine OW.nil (hK _ ?_)
 change PW _ _ _ _ _
 exact zq7
 replace H := br_f h8 H
 refine PW.seq ?_
 refine zq2 (fun _ => OW.run [0, 5, 177]) ?_
 refine PW.cond rfl (fun h9 => ?_) (fun h9 => ?_)
 replace H := br_t h9 H
 refine PW.seq ?_
 obtain ⟨x32, e32, H⟩ := bnd_some H
 refine PW.drawK 7 mixed (by kernel_rfl) fun K hK => ?_
 change FW _ _ _ _ _
 refine zq8 (FW.run) ?_
 refine FW.nil ?_
 change OW _ _ _ _ _ _
 refine zq8 (OW.run [4]) ?_
 refine OW.call' 4 rfl rfl rfl zq9 zqa (access_unless_ok N _ _ _ e32) zq5 zqb zqc ?_
 refine zq8 (OW.run [4]) ?_
 refine OW.nil (hK _ ?_)
 change PW _ _ _ _ _
 exact zq7
 replace H := br_f h9 H
 refine PW.skip ?_
 refine PW.seq ?_
 refine zq2 (fun _ => OW.run [4]) ?_
 change PW _ _ _ _ _
 exact zq7
end Go.Proofs.YtbndgoeahoadlaaGreatDoor
