import Derived.Test.YtbndgoeahoadlaaGreatDoorAsK
import Derived.Test.YtbndgoeahoadlaaGreatDoorAsS2
import Derived.Test.YtbndgoeahoadlaaGreatDoorAsW1
import Derived.Test.YtbndgoeahoadlaaGreatDoorAsW2
import Derived.Test.YtbndgoeahoadlaaGreatDoorAsW4
set_option linter.all false
namespace Go.Proofs.YtbndgoeahoadlaaGreatDoor
open Go.PW Go.Sh

set_option maxRecDepth 20000
set_option maxHeartbeats 8000000
theorem access_eventErr_ok (N : Nat) (Z15 : Int) (Z11 : Int) (Z18 : Int) (Z17 : Int) (Z16 : Int) (Z10 : Int) (Z13 : Int) (phones : Int) (Zl : Int) (Zj : Int) (Zm : Int) (Zn : Int) (Zo : Int) (Zk : Int) (r : Int) (H : A9 N Z15 Z11 Z18 Z17 Z16 Z10 Z13 phones Zl Zj Zm Zn Zo Zk = some r) : CallOK Tryz.prog 87 [(.agg [(I Z15), (I Z11), (I Z18), (I Z17), (I Z16), (I Z10), (I Z13)]), (I phones), (.agg [(I Zl), (I Zj), (I Zm), (I Zn), (I Zo), (I Zk)])] (.d (I r)) [] := by
 refine i7 Tryz.func87 rfl (by rw [Tryz.results87]) Tryz.ntmps87 Tryz.call87 ?_
 change PW _ _ _ _ _
 try simp only [go_sem, simprocAttr]
 unfold A9 at H
 refine b7 ?_
 refine c9 [1, 3, 5] ?_
 simp only [go_sem, simprocAttr, sw0]
 refine b7 ?_
 refine b7 ?_
 obtain ⟨x1, e1, H⟩ := d4 H
 obtain ⟨x2, e2, H⟩ := d4 H
 obtain ⟨x3, e3, H⟩ := d4 H
 obtain ⟨x4, e4, H⟩ := d4 H
 refine j4 6 mixed (by kernel_rfl) fun K hK => ?_
 change FW _ _ _ _ _
 refine FW.run ?_
 simp only [go_sem, simprocAttr, sw0]
 repeat (refine And.intro (by omega) ?_)
 refine o2 4 rfl rfl rfl (by first | exact rfl | ((simp only [go_sem, List.toList_toArray, simprocAttr]); exact rfl)) ?_ (access_isKind_ok N _ _ e1) ?_ ?_ ?_ ?_
 rfl
 exact g8 rfl
 exact .inl rfl
 (simp only [go_sem, Nat.reduceLT])
 refine FW.run ?_
 simp only [go_sem, simprocAttr, sw0]
 refine o2 4 rfl rfl rfl (by first | exact rfl | ((simp only [go_sem, List.toList_toArray, simprocAttr]); exact rfl)) ?_ (i6 N _ _ _ e2) ?_ ?_ ?_ ?_
 rfl
 exact g8 rfl
 exact .inl rfl
 (simp only [go_sem, Nat.reduceLT])
 refine FW.run ?_
 simp only [go_sem, simprocAttr, sw0]
 repeat (refine And.intro (by omega) ?_)
 refine FW.nil ?_
 change OW _ _ _ _ _ _
 refine OW.run [1, 3, 5, 7] ?_
 simp only [go_sem, simprocAttr, sw0]
 refine g9 4 rfl rfl rfl (by first | exact rfl | ((simp only [go_sem, List.toList_toArray, simprocAttr]); exact rfl)) ?_ (access_tickErr_ok N _ _ e3) ?_ ?_ ?_ ?_
 rfl
 exact g8 rfl
 exact .inl rfl
 (simp only [go_sem, Nat.reduceLT])
 refine OW.run [1, 3, 5, 7] ?_
 simp only [go_sem, simprocAttr, sw0]
 refine g9 4 rfl rfl rfl (by first | exact rfl | ((simp only [go_sem, List.toList_toArray, simprocAttr]); exact rfl)) ?_ (m7 N _ _ e4) ?_ ?_ ?_ ?_
 rfl
 · (refine d9 ?_; (simp only [go_sem, sw2, List.length_set, List.length_replicate, and_true, true_and, Nat.le_refl, simprocAttr]; simp only [seg, go_sem, sw2, List.length_set, List.length_replicate, and_true, true_and, Nat.le_refl, simprocAttr]; done))
 exact .inr ⟨rfl, rfl⟩
 (simp only [go_sem, Nat.reduceLT])
 refine OW.run [1, 3, 5, 7] ?_
 simp only [go_sem, simprocAttr, sw0]
 refine OW.nil (hK _ ?_); clear hK K
 refine b7 ?_
 refine c9 [1, 3, 5, 7, 25] ?_
 simp only [go_sem, simprocAttr, sw0]
 refine d5 rfl (fun h1 => ?_) (fun h1 => ?_)
 replace H := n6 h1 H
 refine b7 ?_
 refine c9 [6] ?_
 simp only [go_sem, simprocAttr, sw0]
 refine d7 (PW.Ends.intro (.inr rfl) ?_)
 simp only [go_sem, simprocAttr, sw0]
 obtain rfl := Option.some.inj H
 refine b8 4 (by exact trivial) ?_
 rfl
 replace H := l7 h1 H
 refine d8 ?_
 refine b7 ?_
 obtain ⟨hsp, H⟩ := j6 H
 have hsp2 : Zl = 0 ∨ Zl = 1 ∨ Zl = 2 ∨ Zl = 3 ∨ Zl = 4 := by omega
 clear hsp
 rcases hsp2 with rfl | rfl | rfl | rfl | rfl
 replace H := n6 (by decide) H
 refine d6 fun K hK => OW.run [1, 3, 5, 8] ?_
 simp only [go_sem, simprocAttr, sw0]
 repeat (refine And.intro (by omega) ?_)
 refine k6 rfl rfl rfl (by first | exact rfl | ((simp only [go_sem, List.toList_toArray, simprocAttr]); exact rfl)) Tryz.func122 rfl (by rw [Tryz.results122]) Tryz.ntmps122 Tryz.call122 (by (simp only [go_sem, Nat.reduceLT])) ?_
 intro p G
 change PW _ _ _ _ _
 try simp only [go_sem, simprocAttr]
 refine b7 ?_
 refine c9 [0, 2] ?_
 simp only [go_sem, simprocAttr, sw0]
 refine b7 ?_
 refine c9 [2] ?_
 simp only [go_sem, simprocAttr, sw0]
 repeat (refine And.intro (by omega) ?_)
 refine d7 ?_
 refine ⟨.inr rfl, rfl, rfl, ?_⟩
 simp only [go_sem, simprocAttr, sw0]
 change OW _ _ _ _ _ _
 refine OW.run [1, 3, 5, 8] ?_
 simp only [go_sem, simprocAttr, sw0]
 refine OW.nil (hK _ ?_); clear hK K
 refine b7 ?_
 refine c9 [1, 3, 5, 8, 9] ?_
 simp only [go_sem, simprocAttr, sw0]
 repeat (refine And.intro (by omega) ?_)
 refine k5 (τ := Unit) [1, 3, 5, 8, 9] 9 (fun _ => []) (fun _ => [{ cells := [.d (I Z15), .d (I Z11), .d (I Z18), .d (I Z17), .d (I Z16), .d (I Z10), .d (I Z13)], e := 23 }, { cells := [.d (I (0 : Int)), .d (I Zj), .d (I Zm), .d (I Zn), .d (I Zo), .d (I Zk)], e := 48 }, { cells := [.d (I x2), .d (I x3)], e := 26 }, { cells := [.d (Sx (⟨#[115, 101, 110, 100]⟩ : ByteArray)), .own 4 0 2 1, .d (.clo 147 [])], e := 179 }, { cells := [.d (I (0 : Int)), .d (I (1 : Int))], e := 181 }, { cells := [.d (I (1 : Int)), .d (I (2 : Int))], e := 181 }, { cells := [.d (I (3 : Int)), .d (I (0 : Int))], e := 181 }, { cells := [.d (I (0 : Int))], e := 181 }, { cells := [.d (I (0 : Int)), .d (I Zj), .d (I Zm), .d (I Zn), .d (I (0 : Int)), .d (I (0 : Int))], e := 48 }]) _ _ r (by exact Nat.zero_le _) H ?_ ?_
 intro K_ H N2 hN2
 refine b7 ?_
 refine c9 [1, 3, 5, 8, 9, 36, 37, 38] ?_
 simp only [go_sem, simprocAttr, sw0]
 refine PW.block ?_
 refine H4 3 ?_
 refine b7 ?_
 refine c9 [1, 3, 5, 8, 9, 36, 37, 38, 39] ?_
 simp only [go_sem, simprocAttr, sw0]
 refine b7 ?_
 refine d5 rfl (fun h3 => ?_) (fun h3 => ?_)
 refine d8 ?_
 refine b7 ?_
 refine PW.block ?_
 refine b7 ?_
 obtain ⟨c4, H⟩ := j6 H
 refine c9 [1, 3, 5, 8, 9, 11, 36, 37, 38] ?_
 simp only [go_sem, simprocAttr, sw0]
 repeat (refine And.intro (by omega) ?_)
 refine d6 fun K hK => OW.run [1, 3, 5, 8, 9, 36, 37, 38] ?_
 simp only [go_sem, simprocAttr, sw0]
 refine k6 rfl rfl rfl (by first | exact rfl | ((simp only [go_sem, List.toList_toArray, simprocAttr]); exact rfl)) Tryz.func125 rfl (by rw [Tryz.results125]) Tryz.ntmps125 Tryz.call125 (by (simp only [go_sem, Nat.reduceLT])) ?_
 intro p G
 change PW _ _ _ _ _
 try simp only [go_sem, simprocAttr]
 refine b7 ?_
 refine c9 [0, 1] ?_
 simp only [go_sem, simprocAttr, sw0]
 refine b7 ?_
 refine j4 14 mixed (by kernel_rfl) fun K hK => ?_
 change FW _ _ _ _ _
 refine FW.run ?_
 simp only [go_sem, simprocAttr, sw0]
 repeat (refine And.intro (by omega) ?_)
 refine FW.nil ?_
 change OW _ _ _ _ _ _
 refine OW.run [4] ?_
 simp only [go_sem, simprocAttr, sw0]
 repeat (refine And.intro (by omega) ?_)
 refine OW.nil (hK _ ?_); clear hK K
 refine d7 ?_
 refine ⟨.inr rfl, rfl, rfl, ?_⟩
 simp only [go_sem, simprocAttr, sw0]
 change OW _ _ _ _ _ _
 refine OW.run [1, 3, 5, 8, 9, 36, 37, 38] ?_
 simp only [go_sem, simprocAttr, sw0]
 refine k6 rfl rfl rfl (by first | exact rfl | ((simp only [go_sem, List.toList_toArray, simprocAttr]); exact rfl)) Tryz.func125 rfl (by rw [Tryz.results125]) Tryz.ntmps125 Tryz.call125 (by (simp only [go_sem, Nat.reduceLT])) ?_
 intro p G
 change PW _ _ _ _ _
 try simp only [go_sem, simprocAttr]
 refine b7 ?_
 refine c9 [0, 1] ?_
 simp only [go_sem, simprocAttr, sw0]
 refine b7 ?_
 refine j4 14 mixed (by kernel_rfl) fun K hK => ?_
 change FW _ _ _ _ _
 refine FW.run ?_
 simp only [go_sem, simprocAttr, sw0]
 repeat (refine And.intro (by omega) ?_)
 refine FW.nil ?_
 change OW _ _ _ _ _ _
 refine OW.run [4] ?_
 simp only [go_sem, simprocAttr, sw0]
 repeat (refine And.intro (by omega) ?_)
 refine OW.nil (hK _ ?_); clear hK K
 refine d7 ?_
 refine ⟨.inr rfl, rfl, rfl, ?_⟩
 simp only [go_sem, simprocAttr, sw0]
 change OW _ _ _ _ _ _
 refine OW.run [1, 3, 5, 8, 9, 36, 37, 38] ?_
 simp only [go_sem, simprocAttr, sw0]
 refine OW.nil (hK _ ?_); clear hK K
 refine c9 [1, 3, 5, 8, 9, 36, 37, 38] ?_
 simp only [go_sem, simprocAttr, sw0]
 refine b7 ?_
 refine c9 [1, 3, 5, 8, 9, 36, 37, 38, 39] ?_
 simp only [go_sem, simprocAttr, sw0]
 refine b7 ?_
 refine d5 rfl (fun h5 => ?_) (fun h5 => ?_)
 refine d8 ?_
 refine b7 ?_
 refine PW.block ?_
 refine b7 ?_
 obtain ⟨c6, H⟩ := j6 H
 refine c9 [1, 3, 5, 8, 9, 11, 36, 37, 38] ?_
 simp only [go_sem, simprocAttr, sw0]
 repeat (refine And.intro (by omega) ?_)
 refine d6 fun K hK => OW.run [1, 3, 5, 8, 9, 36, 37, 38] ?_
 simp only [go_sem, simprocAttr, sw0]
 refine k6 rfl rfl rfl (by first | exact rfl | ((simp only [go_sem, List.toList_toArray, simprocAttr]); exact rfl)) Tryz.func125 rfl (by rw [Tryz.results125]) Tryz.ntmps125 Tryz.call125 (by (simp only [go_sem, Nat.reduceLT])) ?_
 intro p G
 change PW _ _ _ _ _
 try simp only [go_sem, simprocAttr]
 refine b7 ?_
 refine c9 [0, 1] ?_
 simp only [go_sem, simprocAttr, sw0]
 refine b7 ?_
 refine j4 14 mixed (by kernel_rfl) fun K hK => ?_
 change FW _ _ _ _ _
 refine FW.run ?_
 simp only [go_sem, simprocAttr, sw0]
 repeat (refine And.intro (by omega) ?_)
 refine FW.nil ?_
 change OW _ _ _ _ _ _
 refine OW.run [4] ?_
 simp only [go_sem, simprocAttr, sw0]
 repeat (refine And.intro (by omega) ?_)
 refine OW.nil (hK _ ?_); clear hK K
 refine d7 ?_
 refine ⟨.inr rfl, rfl, rfl, ?_⟩
 simp only [go_sem, simprocAttr, sw0]
 change OW _ _ _ _ _ _
 refine OW.run [1, 3, 5, 8, 9, 36, 37, 38] ?_
 simp only [go_sem, simprocAttr, sw0]
 refine k6 rfl rfl rfl (by first | exact rfl | ((simp only [go_sem, List.toList_toArray, simprocAttr]); exact rfl)) Tryz.func125 rfl (by rw [Tryz.results125]) Tryz.ntmps125 Tryz.call125 (by (simp only [go_sem, Nat.reduceLT])) ?_
 intro p G
 change PW _ _ _ _ _
 try simp only [go_sem, simprocAttr]
 refine b7 ?_
 refine c9 [0, 1] ?_
 simp only [go_sem, simprocAttr, sw0]
 refine b7 ?_
 refine j4 14 mixed (by kernel_rfl) fun K hK => ?_
 change FW _ _ _ _ _
 refine FW.run ?_
 simp only [go_sem, simprocAttr, sw0]
 repeat (refine And.intro (by omega) ?_)
 refine FW.nil ?_
 change OW _ _ _ _ _ _
 refine OW.run [4] ?_
 simp only [go_sem, simprocAttr, sw0]
 repeat (refine And.intro (by omega) ?_)
 refine OW.nil (hK _ ?_); clear hK K
 refine d7 ?_
 refine ⟨.inr rfl, rfl, rfl, ?_⟩
 simp only [go_sem, simprocAttr, sw0]
 change OW _ _ _ _ _ _
 refine OW.run [1, 3, 5, 8, 9, 36, 37, 38] ?_
 simp only [go_sem, simprocAttr, sw0]
 refine OW.nil (hK _ ?_); clear hK K
 refine c9 [1, 3, 5, 8, 9, 36, 37, 38] ?_
 simp only [go_sem, simprocAttr, sw0]
 refine b7 ?_
 refine c9 [1, 3, 5, 8, 9, 36, 37, 38, 39] ?_
 simp only [go_sem, simprocAttr, sw0]
 refine b7 ?_
 refine d5 rfl (fun h7 => ?_) (fun h7 => ?_)
 exact absurd h7 (by decide)
 refine o6 ?_
 refine hN2 [] () _ H (by exact trivial) ?_
 simp only [sw1, go_sem, simprocAttr]
 exact absurd h5 (by decide)
 exact absurd h3 (by decide)
 rintro _ H
 try simp only [go_sem, simprocAttr]
 refine b7 ?_
 refine b7 ?_
 refine c9 [1, 3, 5, 8, 52] ?_
 simp only [go_sem, simprocAttr, sw0]
 refine d5 rfl (fun h8 => ?_) (fun h8 => ?_)
 replace H := n6 h8 H
 refine b7 ?_
 refine c9 [6] ?_
 simp only [go_sem, simprocAttr, sw0]
 refine d7 (PW.Ends.intro (.inr rfl) ?_)
 simp only [go_sem, simprocAttr, sw0]
 obtain rfl := Option.some.inj H
 refine b8 4 (by exact trivial) ?_
 rfl
 replace H := l7 h8 H
 refine d8 ?_
 refine b7 ?_
 refine c9 [5, 8, 12] ?_
 simp only [go_sem, simprocAttr, sw0]
 repeat (refine And.intro (by omega) ?_)
 refine k5 (τ := Unit) [5] 0 (fun _ => [(5, .d (.ref [(I (0 : Int)), (I Zj), (I Zm), (I Zn), (I Zo), (I Zk)]))]) (fun _ => []) _ _ r (by exact Nat.le_refl _) H ?_ ?_
 intro K_1 H N9 hN9
 refine b7 ?_
 refine c9 [5, 12, 59, 60, 61] ?_
 simp only [go_sem, simprocAttr, sw0]
 refine PW.block ?_
 refine H4 3 ?_
 refine b7 ?_
 refine c9 [5, 12, 59, 60, 61, 62] ?_
 simp only [go_sem, simprocAttr, sw0]
 refine b7 ?_
 refine d5 rfl (fun h10 => ?_) (fun h10 => ?_)
 refine d8 ?_
 refine b7 ?_
 refine PW.block ?_
 refine b7 ?_
 obtain ⟨c11, H⟩ := j6 H
 refine c9 [5, 12, 14, 59, 60, 61] ?_
 simp only [go_sem, simprocAttr, sw0]
 repeat (refine And.intro (by omega) ?_)
 refine b7 ?_
 refine PW.frz 1 (by exact Nat.zero_le _) (by rfl) ?_
 simp only [map_nz_I, map_nz_Bo, map_nz_Sx, map_nz_L, nz_int, nz_bool, nz_str, nz_list, nz_ref, nz_nil, go_sem, simprocAttr]
 change PW _ _ _ _ _
 obtain ⟨x5, e5, H⟩ := d4 H
 obtain ⟨x6, e6, H⟩ := d4 H
 refine j4 11 mixed (by kernel_rfl) fun K hK => ?_
 change FW _ _ _ _ _
 refine FW.run ?_
 simp only [go_sem, simprocAttr, sw0]
 refine FW.callG' 4 rfl rfl ?_ (fun hg => by first | rfl | (simp only [go_sem, ↓reduceIte]; rfl)) (fun hg => by ((simp only [go_sem, List.toList_toArray, simprocAttr]); exact rfl)) (fun hg => ?_) (fun hg => (r9 N _ _ _ _ _ _ _ _ (grd_t hg e5))) ?_ ?_ ?_ ?_
 rfl
 rfl
 exact g8 rfl
 exact .inl rfl
 (simp only [go_sem, Nat.reduceLT])
 refine FW.run ?_
 simp only [go_sem, simprocAttr, sw0]
 repeat (refine And.intro (by omega) ?_)
 refine FW.nil ?_
 change OW _ _ _ _ _ _
 refine OW.run [5, 12, 59, 60, 61, 78] ?_
 simp only [go_sem, simprocAttr, sw0]
 refine p9 4 rfl rfl ?_ (fun hg => by first | rfl | (simp only [go_sem, ↓reduceIte]; rfl)) (fun hg => by ((simp only [go_sem, List.toList_toArray, simprocAttr]); exact rfl)) (fun hg => ?_) (fun hg => (i8 N _ _ _ _ (grd_t hg e6))) ?_ ?_ ?_ ?_
 rfl
 rfl
 exact g8 rfl
 exact .inl rfl
 (simp only [go_sem, Nat.reduceLT])
 refine OW.run [5, 12, 59, 60, 61, 78] ?_
 simp only [go_sem, simprocAttr, sw0]
 refine OW.nil (hK _ ?_); clear hK K
 refine d5 rfl (fun h12 => ?_) (fun h12 => ?_)
 replace H := n6 h12 H
 refine b7 ?_
 refine c9 [6] ?_
 simp only [go_sem, simprocAttr, sw0]
 refine d7 (PW.Ends.intro (.inr rfl) ?_)
 simp only [go_sem, simprocAttr, sw0]
 obtain rfl := Option.some.inj H
 refine b8 4 (by exact trivial) ?_
 rfl
 replace H := l7 h12 H
 refine d8 ?_
 refine c9 [5, 12, 59, 60, 61] ?_
 simp only [go_sem, simprocAttr, sw0]
 refine b7 ?_
 refine c9 [5, 12, 59, 60, 61, 62] ?_
 simp only [go_sem, simprocAttr, sw0]
 refine b7 ?_
 refine d5 rfl (fun h13 => ?_) (fun h13 => ?_)
 refine d8 ?_
 refine b7 ?_
 refine PW.block ?_
 refine b7 ?_
 obtain ⟨c14, H⟩ := j6 H
 refine c9 [5, 12, 14, 59, 60, 61] ?_
 simp only [go_sem, simprocAttr, sw0]
 repeat (refine And.intro (by omega) ?_)
 refine b7 ?_
 obtain ⟨x7, e7, H⟩ := d4 H
 obtain ⟨x8, e8, H⟩ := d4 H
 refine j4 11 mixed (by kernel_rfl) fun K hK => ?_
 change FW _ _ _ _ _
 refine FW.run ?_
 simp only [go_sem, simprocAttr, sw0]
 refine FW.callG' 4 rfl rfl ?_ (fun hg => by first | rfl | (simp only [go_sem, ↓reduceIte]; rfl)) (fun hg => by ((simp only [go_sem, List.toList_toArray, simprocAttr]); exact rfl)) (fun hg => ?_) (fun hg => (r9 N _ _ _ _ _ _ _ _ (grd_t hg e7))) ?_ ?_ ?_ ?_
 rfl
 rfl
 exact g8 rfl
 exact .inl rfl
 (simp only [go_sem, Nat.reduceLT])
 refine FW.run ?_
 simp only [go_sem, simprocAttr, sw0]
 repeat (refine And.intro (by omega) ?_)
 refine FW.nil ?_
 change OW _ _ _ _ _ _
 refine OW.run [5, 12, 59, 60, 61, 78] ?_
 simp only [go_sem, simprocAttr, sw0]
 refine p9 4 rfl rfl ?_ (fun hg => by first | rfl | (simp only [go_sem, ↓reduceIte]; rfl)) (fun hg => by ((simp only [go_sem, List.toList_toArray, simprocAttr]); exact rfl)) (fun hg => ?_) (fun hg => (i8 N _ _ _ _ (grd_t hg e8))) ?_ ?_ ?_ ?_
 rfl
 rfl
 exact g8 rfl
 exact .inl rfl
 (simp only [go_sem, Nat.reduceLT])
 refine OW.run [5, 12, 59, 60, 61, 78] ?_
 simp only [go_sem, simprocAttr, sw0]
 refine OW.nil (hK _ ?_); clear hK K
 refine d5 rfl (fun h15 => ?_) (fun h15 => ?_)
 replace H := n6 h15 H
 refine b7 ?_
 refine c9 [6] ?_
 simp only [go_sem, simprocAttr, sw0]
 refine d7 (PW.Ends.intro (.inr rfl) ?_)
 simp only [go_sem, simprocAttr, sw0]
 obtain rfl := Option.some.inj H
 refine b8 4 (by exact trivial) ?_
 rfl
 replace H := l7 h15 H
 refine d8 ?_
 refine c9 [5, 12, 59, 60, 61] ?_
 simp only [go_sem, simprocAttr, sw0]
 refine b7 ?_
 refine c9 [5, 12, 59, 60, 61, 62] ?_
 simp only [go_sem, simprocAttr, sw0]
 refine b7 ?_
 refine d5 rfl (fun h16 => ?_) (fun h16 => ?_)
 exact absurd h16 (by decide)
 refine o6 ?_
 refine hN9 [] () _ H (by exact trivial) ?_
 simp only [sw1, go_sem, simprocAttr]
 exact absurd h13 (by decide)
 exact absurd h10 (by decide)
 rintro _ H
 try simp only [go_sem, simprocAttr]
 refine b7 ?_
 obtain ⟨x9, e9, H⟩ := d4 H
 obtain ⟨x10, e10, H⟩ := d4 H
 refine d6 fun K hK => OW.run [6] ?_
 simp only [go_sem, simprocAttr, sw0]
 repeat (refine And.intro (by omega) ?_)
 refine g9 4 rfl rfl rfl (by first | exact rfl | ((simp only [go_sem, List.toList_toArray, simprocAttr]); exact rfl)) ?_ (i8 N _ _ _ _ e9) ?_ ?_ ?_ ?_
 rfl
 exact g8 rfl
 exact .inl rfl
 (simp only [go_sem, Nat.reduceLT])
 refine OW.run [6] ?_
 simp only [go_sem, simprocAttr, sw0]
 refine g9 4 rfl rfl rfl (by first | exact rfl | ((simp only [go_sem, List.toList_toArray, simprocAttr]); exact rfl)) ?_ (i6 N _ _ _ e10) ?_ ?_ ?_ ?_
 rfl
 exact g8 rfl
 exact .inl rfl
 (simp only [go_sem, Nat.reduceLT])
 refine OW.run [6] ?_
 simp only [go_sem, simprocAttr, sw0]
 refine OW.nil (hK _ ?_); clear hK K
 refine d7 (PW.Ends.intro (.inr rfl) ?_)
 simp only [go_sem, simprocAttr, sw0]
 obtain rfl := Option.some.inj H
 refine b8 4 (by exact trivial) ?_
 rfl
 replace H := l7 (by decide) H
 replace H := n6 (by decide) H
 refine d6 fun K hK => OW.run [1, 3, 5, 8] ?_
 simp only [go_sem, simprocAttr, sw0]
 repeat (refine And.intro (by omega) ?_)
 refine k6 rfl rfl rfl (by first | exact rfl | ((simp only [go_sem, List.toList_toArray, simprocAttr]); exact rfl)) Tryz.func122 rfl (by rw [Tryz.results122]) Tryz.ntmps122 Tryz.call122 (by (simp only [go_sem, Nat.reduceLT])) ?_
 intro p G
 change PW _ _ _ _ _
 try simp only [go_sem, simprocAttr]
 refine b7 ?_
 refine c9 [0, 2] ?_
 simp only [go_sem, simprocAttr, sw0]
 refine b7 ?_
 refine c9 [2] ?_
 simp only [go_sem, simprocAttr, sw0]
 repeat (refine And.intro (by omega) ?_)
 refine d7 ?_
 refine ⟨.inr rfl, rfl, rfl, ?_⟩
 simp only [go_sem, simprocAttr, sw0]
 change OW _ _ _ _ _ _
 refine OW.run [1, 3, 5, 8] ?_
 simp only [go_sem, simprocAttr, sw0]
 refine OW.nil (hK _ ?_); clear hK K
 refine b7 ?_
 refine c9 [1, 3, 5, 8, 9] ?_
 simp only [go_sem, simprocAttr, sw0]
 repeat (refine And.intro (by omega) ?_)
 refine k5 (τ := Unit) [1, 3, 5, 8, 9] 9 (fun _ => []) (fun _ => [{ cells := [.d (I Z15), .d (I Z11), .d (I Z18), .d (I Z17), .d (I Z16), .d (I Z10), .d (I Z13)], e := 23 }, { cells := [.d (I (1 : Int)), .d (I Zj), .d (I Zm), .d (I Zn), .d (I Zo), .d (I Zk)], e := 48 }, { cells := [.d (I x2), .d (I x3)], e := 26 }, { cells := [.d (Sx (⟨#[97, 110, 115, 119, 101, 114]⟩ : ByteArray)), .own 5 0 2 1, .d (.clo 148 [])], e := 179 }, { cells := [.d (I (0 : Int)), .d (I (1 : Int))], e := 181 }, { cells := [.d (I (1 : Int)), .d (I (2 : Int))], e := 181 }, { cells := [.d (I (3 : Int)), .d (I (0 : Int))], e := 181 }, { cells := [.d (I (0 : Int))], e := 181 }, { cells := [.d (I (1 : Int)), .d (I Zj), .d (I (0 : Int)), .d (I Zn), .d (I Zo), .d (I (0 : Int))], e := 48 }]) _ _ r (by exact Nat.zero_le _) H ?_ ?_
 intro K_2 H N17 hN17
 refine b7 ?_
 refine c9 [1, 3, 5, 8, 9, 36, 37, 38] ?_
 simp only [go_sem, simprocAttr, sw0]
 refine PW.block ?_
 refine H4 3 ?_
 refine b7 ?_
 refine c9 [1, 3, 5, 8, 9, 36, 37, 38, 39] ?_
 simp only [go_sem, simprocAttr, sw0]
 refine b7 ?_
 refine d5 rfl (fun h18 => ?_) (fun h18 => ?_)
 refine d8 ?_
 refine b7 ?_
 refine PW.block ?_
 refine b7 ?_
 obtain ⟨c19, H⟩ := j6 H
 refine c9 [1, 3, 5, 8, 9, 11, 36, 37, 38] ?_
 simp only [go_sem, simprocAttr, sw0]
 repeat (refine And.intro (by omega) ?_)
 refine d6 fun K hK => OW.run [1, 3, 5, 8, 9, 36, 37, 38] ?_
 simp only [go_sem, simprocAttr, sw0]
 refine k6 rfl rfl rfl (by first | exact rfl | ((simp only [go_sem, List.toList_toArray, simprocAttr]); exact rfl)) Tryz.func125 rfl (by rw [Tryz.results125]) Tryz.ntmps125 Tryz.call125 (by (simp only [go_sem, Nat.reduceLT])) ?_
 intro p G
 change PW _ _ _ _ _
 try simp only [go_sem, simprocAttr]
 refine b7 ?_
 refine c9 [0, 1] ?_
 simp only [go_sem, simprocAttr, sw0]
 refine b7 ?_
 refine j4 14 mixed (by kernel_rfl) fun K hK => ?_
 change FW _ _ _ _ _
 refine FW.run ?_
 simp only [go_sem, simprocAttr, sw0]
 repeat (refine And.intro (by omega) ?_)
 refine FW.nil ?_
 change OW _ _ _ _ _ _
 refine OW.run [4] ?_
 simp only [go_sem, simprocAttr, sw0]
 repeat (refine And.intro (by omega) ?_)
 refine OW.nil (hK _ ?_); clear hK K
 refine d7 ?_
 refine ⟨.inr rfl, rfl, rfl, ?_⟩
 simp only [go_sem, simprocAttr, sw0]
 change OW _ _ _ _ _ _
 refine OW.run [1, 3, 5, 8, 9, 36, 37, 38] ?_
 simp only [go_sem, simprocAttr, sw0]
 refine k6 rfl rfl rfl (by first | exact rfl | ((simp only [go_sem, List.toList_toArray, simprocAttr]); exact rfl)) Tryz.func125 rfl (by rw [Tryz.results125]) Tryz.ntmps125 Tryz.call125 (by (simp only [go_sem, Nat.reduceLT])) ?_
 intro p G
 change PW _ _ _ _ _
 try simp only [go_sem, simprocAttr]
 refine b7 ?_
 refine c9 [0, 1] ?_
 simp only [go_sem, simprocAttr, sw0]
 refine b7 ?_
 refine j4 14 mixed (by kernel_rfl) fun K hK => ?_
 change FW _ _ _ _ _
 refine FW.run ?_
 simp only [go_sem, simprocAttr, sw0]
 repeat (refine And.intro (by omega) ?_)
 refine FW.nil ?_
 change OW _ _ _ _ _ _
 refine OW.run [4] ?_
 simp only [go_sem, simprocAttr, sw0]
 repeat (refine And.intro (by omega) ?_)
 refine OW.nil (hK _ ?_); clear hK K
 refine d7 ?_
 refine ⟨.inr rfl, rfl, rfl, ?_⟩
 simp only [go_sem, simprocAttr, sw0]
 change OW _ _ _ _ _ _
 refine OW.run [1, 3, 5, 8, 9, 36, 37, 38] ?_
 simp only [go_sem, simprocAttr, sw0]
 refine OW.nil (hK _ ?_); clear hK K
 refine c9 [1, 3, 5, 8, 9, 36, 37, 38] ?_
 simp only [go_sem, simprocAttr, sw0]
 refine b7 ?_
 refine c9 [1, 3, 5, 8, 9, 36, 37, 38, 39] ?_
 simp only [go_sem, simprocAttr, sw0]
 refine b7 ?_
 refine d5 rfl (fun h20 => ?_) (fun h20 => ?_)
 refine d8 ?_
 refine b7 ?_
 refine PW.block ?_
 refine b7 ?_
 obtain ⟨c21, H⟩ := j6 H
 refine c9 [1, 3, 5, 8, 9, 11, 36, 37, 38] ?_
 simp only [go_sem, simprocAttr, sw0]
 repeat (refine And.intro (by omega) ?_)
 refine d6 fun K hK => OW.run [1, 3, 5, 8, 9, 36, 37, 38] ?_
 simp only [go_sem, simprocAttr, sw0]
 refine k6 rfl rfl rfl (by first | exact rfl | ((simp only [go_sem, List.toList_toArray, simprocAttr]); exact rfl)) Tryz.func125 rfl (by rw [Tryz.results125]) Tryz.ntmps125 Tryz.call125 (by (simp only [go_sem, Nat.reduceLT])) ?_
 intro p G
 change PW _ _ _ _ _
 try simp only [go_sem, simprocAttr]
 refine b7 ?_
 refine c9 [0, 1] ?_
 simp only [go_sem, simprocAttr, sw0]
 refine b7 ?_
 refine j4 14 mixed (by kernel_rfl) fun K hK => ?_
 change FW _ _ _ _ _
 refine FW.run ?_
 simp only [go_sem, simprocAttr, sw0]
 repeat (refine And.intro (by omega) ?_)
 refine FW.nil ?_
 change OW _ _ _ _ _ _
 refine OW.run [4] ?_
 simp only [go_sem, simprocAttr, sw0]
 repeat (refine And.intro (by omega) ?_)
 refine OW.nil (hK _ ?_); clear hK K
 refine d7 ?_
 refine ⟨.inr rfl, rfl, rfl, ?_⟩
 simp only [go_sem, simprocAttr, sw0]
 change OW _ _ _ _ _ _
 refine OW.run [1, 3, 5, 8, 9, 36, 37, 38] ?_
 simp only [go_sem, simprocAttr, sw0]
 refine k6 rfl rfl rfl (by first | exact rfl | ((simp only [go_sem, List.toList_toArray, simprocAttr]); exact rfl)) Tryz.func125 rfl (by rw [Tryz.results125]) Tryz.ntmps125 Tryz.call125 (by (simp only [go_sem, Nat.reduceLT])) ?_
 intro p G
 change PW _ _ _ _ _
 try simp only [go_sem, simprocAttr]
 refine b7 ?_
 refine c9 [0, 1] ?_
 simp only [go_sem, simprocAttr, sw0]
 refine b7 ?_
 refine j4 14 mixed (by kernel_rfl) fun K hK => ?_
 change FW _ _ _ _ _
 refine FW.run ?_
 simp only [go_sem, simprocAttr, sw0]
 repeat (refine And.intro (by omega) ?_)
 refine FW.nil ?_
 change OW _ _ _ _ _ _
 refine OW.run [4] ?_
 simp only [go_sem, simprocAttr, sw0]
 repeat (refine And.intro (by omega) ?_)
 refine OW.nil (hK _ ?_); clear hK K
 refine d7 ?_
 refine ⟨.inr rfl, rfl, rfl, ?_⟩
 simp only [go_sem, simprocAttr, sw0]
 change OW _ _ _ _ _ _
 refine OW.run [1, 3, 5, 8, 9, 36, 37, 38] ?_
 simp only [go_sem, simprocAttr, sw0]
 refine OW.nil (hK _ ?_); clear hK K
 refine c9 [1, 3, 5, 8, 9, 36, 37, 38] ?_
 simp only [go_sem, simprocAttr, sw0]
 refine b7 ?_
 refine c9 [1, 3, 5, 8, 9, 36, 37, 38, 39] ?_
 simp only [go_sem, simprocAttr, sw0]
 refine b7 ?_
 refine d5 rfl (fun h22 => ?_) (fun h22 => ?_)
 exact absurd h22 (by decide)
 refine o6 ?_
 refine hN17 [] () _ H (by exact trivial) ?_
 simp only [sw1, go_sem, simprocAttr]
 exact absurd h20 (by decide)
 exact absurd h18 (by decide)
 rintro _ H
 try simp only [go_sem, simprocAttr]
 refine b7 ?_
 refine b7 ?_
 refine c9 [1, 3, 5, 8, 52] ?_
 simp only [go_sem, simprocAttr, sw0]
 refine d5 rfl (fun h23 => ?_) (fun h23 => ?_)
 replace H := n6 h23 H
 refine b7 ?_
 refine c9 [6] ?_
 simp only [go_sem, simprocAttr, sw0]
 refine d7 (PW.Ends.intro (.inr rfl) ?_)
 simp only [go_sem, simprocAttr, sw0]
 obtain rfl := Option.some.inj H
 refine b8 4 (by exact trivial) ?_
 rfl
 replace H := l7 h23 H
 refine d8 ?_
 refine b7 ?_
 refine c9 [5, 8, 12] ?_
 simp only [go_sem, simprocAttr, sw0]
 repeat (refine And.intro (by omega) ?_)
 refine k5 (τ := Unit) [5] 0 (fun _ => [(5, .d (.ref [(I (1 : Int)), (I Zj), (I Zm), (I Zn), (I Zo), (I Zk)]))]) (fun _ => []) _ _ r (by exact Nat.le_refl _) H ?_ ?_
 intro K_3 H N24 hN24
 refine b7 ?_
 refine c9 [5, 12, 59, 60, 61] ?_
 simp only [go_sem, simprocAttr, sw0]
 refine PW.block ?_
 refine H4 3 ?_
 refine b7 ?_
 refine c9 [5, 12, 59, 60, 61, 62] ?_
 simp only [go_sem, simprocAttr, sw0]
 refine b7 ?_
 refine d5 rfl (fun h25 => ?_) (fun h25 => ?_)
 refine d8 ?_
 refine b7 ?_
 refine PW.block ?_
 refine b7 ?_
 obtain ⟨c26, H⟩ := j6 H
 refine c9 [5, 12, 14, 59, 60, 61] ?_
 simp only [go_sem, simprocAttr, sw0]
 repeat (refine And.intro (by omega) ?_)
 refine b7 ?_
 refine PW.frz 1 (by exact Nat.zero_le _) (by rfl) ?_
 simp only [map_nz_I, map_nz_Bo, map_nz_Sx, map_nz_L, nz_int, nz_bool, nz_str, nz_list, nz_ref, nz_nil, go_sem, simprocAttr]
 change PW _ _ _ _ _
 obtain ⟨x11, e11, H⟩ := d4 H
 obtain ⟨x12, e12, H⟩ := d4 H
 refine j4 11 mixed (by kernel_rfl) fun K hK => ?_
 change FW _ _ _ _ _
 refine FW.run ?_
 simp only [go_sem, simprocAttr, sw0]
 refine FW.callG' 4 rfl rfl ?_ (fun hg => by first | rfl | (simp only [go_sem, ↓reduceIte]; rfl)) (fun hg => by ((simp only [go_sem, List.toList_toArray, simprocAttr]); exact rfl)) (fun hg => ?_) (fun hg => (r9 N _ _ _ _ _ _ _ _ (grd_t hg e11))) ?_ ?_ ?_ ?_
 rfl
 rfl
 exact g8 rfl
 exact .inl rfl
 (simp only [go_sem, Nat.reduceLT])
 refine FW.run ?_
 simp only [go_sem, simprocAttr, sw0]
 repeat (refine And.intro (by omega) ?_)
 refine FW.nil ?_
 change OW _ _ _ _ _ _
 refine OW.run [5, 12, 59, 60, 61, 78] ?_
 simp only [go_sem, simprocAttr, sw0]
 refine p9 4 rfl rfl ?_ (fun hg => by first | rfl | (simp only [go_sem, ↓reduceIte]; rfl)) (fun hg => by ((simp only [go_sem, List.toList_toArray, simprocAttr]); exact rfl)) (fun hg => ?_) (fun hg => (i8 N _ _ _ _ (grd_t hg e12))) ?_ ?_ ?_ ?_
 rfl
 rfl
 exact g8 rfl
 exact .inl rfl
 (simp only [go_sem, Nat.reduceLT])
 refine OW.run [5, 12, 59, 60, 61, 78] ?_
 simp only [go_sem, simprocAttr, sw0]
 refine OW.nil (hK _ ?_); clear hK K
 refine d5 rfl (fun h27 => ?_) (fun h27 => ?_)
 replace H := n6 h27 H
 refine b7 ?_
 refine c9 [6] ?_
 simp only [go_sem, simprocAttr, sw0]
 refine d7 (PW.Ends.intro (.inr rfl) ?_)
 simp only [go_sem, simprocAttr, sw0]
 obtain rfl := Option.some.inj H
 refine b8 4 (by exact trivial) ?_
 rfl
 replace H := l7 h27 H
 refine d8 ?_
 refine c9 [5, 12, 59, 60, 61] ?_
 simp only [go_sem, simprocAttr, sw0]
 refine b7 ?_
 refine c9 [5, 12, 59, 60, 61, 62] ?_
 simp only [go_sem, simprocAttr, sw0]
 refine b7 ?_
 refine d5 rfl (fun h28 => ?_) (fun h28 => ?_)
 refine d8 ?_
 refine b7 ?_
 refine PW.block ?_
 refine b7 ?_
 obtain ⟨c29, H⟩ := j6 H
 refine c9 [5, 12, 14, 59, 60, 61] ?_
 simp only [go_sem, simprocAttr, sw0]
 repeat (refine And.intro (by omega) ?_)
 refine b7 ?_
 obtain ⟨x13, e13, H⟩ := d4 H
 obtain ⟨x14, e14, H⟩ := d4 H
 refine j4 11 mixed (by kernel_rfl) fun K hK => ?_
 change FW _ _ _ _ _
 refine FW.run ?_
 simp only [go_sem, simprocAttr, sw0]
 refine FW.callG' 4 rfl rfl ?_ (fun hg => by first | rfl | (simp only [go_sem, ↓reduceIte]; rfl)) (fun hg => by ((simp only [go_sem, List.toList_toArray, simprocAttr]); exact rfl)) (fun hg => ?_) (fun hg => (r9 N _ _ _ _ _ _ _ _ (grd_t hg e13))) ?_ ?_ ?_ ?_
 rfl
 rfl
 exact g8 rfl
 exact .inl rfl
 (simp only [go_sem, Nat.reduceLT])
 refine FW.run ?_
 simp only [go_sem, simprocAttr, sw0]
 repeat (refine And.intro (by omega) ?_)
 refine FW.nil ?_
 change OW _ _ _ _ _ _
 refine OW.run [5, 12, 59, 60, 61, 78] ?_
 simp only [go_sem, simprocAttr, sw0]
 refine p9 4 rfl rfl ?_ (fun hg => by first | rfl | (simp only [go_sem, ↓reduceIte]; rfl)) (fun hg => by ((simp only [go_sem, List.toList_toArray, simprocAttr]); exact rfl)) (fun hg => ?_) (fun hg => (i8 N _ _ _ _ (grd_t hg e14))) ?_ ?_ ?_ ?_
 rfl
 rfl
 exact g8 rfl
 exact .inl rfl
 (simp only [go_sem, Nat.reduceLT])
 refine OW.run [5, 12, 59, 60, 61, 78] ?_
 simp only [go_sem, simprocAttr, sw0]
 refine OW.nil (hK _ ?_); clear hK K
 refine d5 rfl (fun h30 => ?_) (fun h30 => ?_)
 replace H := n6 h30 H
 refine b7 ?_
 refine c9 [6] ?_
 simp only [go_sem, simprocAttr, sw0]
 refine d7 (PW.Ends.intro (.inr rfl) ?_)
 simp only [go_sem, simprocAttr, sw0]
 obtain rfl := Option.some.inj H
 refine b8 4 (by exact trivial) ?_
 rfl
 replace H := l7 h30 H
 refine d8 ?_
 refine c9 [5, 12, 59, 60, 61] ?_
 simp only [go_sem, simprocAttr, sw0]
 refine b7 ?_
 refine c9 [5, 12, 59, 60, 61, 62] ?_
 simp only [go_sem, simprocAttr, sw0]
 refine b7 ?_
 refine d5 rfl (fun h31 => ?_) (fun h31 => ?_)
 exact absurd h31 (by decide)
 refine o6 ?_
 refine hN24 [] () _ H (by exact trivial) ?_
 simp only [sw1, go_sem, simprocAttr]
 exact absurd h28 (by decide)
 exact absurd h25 (by decide)
 rintro _ H
 try simp only [go_sem, simprocAttr]
 refine b7 ?_
 obtain ⟨x15, e15, H⟩ := d4 H
 obtain ⟨x16, e16, H⟩ := d4 H
 refine d6 fun K hK => OW.run [6] ?_
 simp only [go_sem, simprocAttr, sw0]
 repeat (refine And.intro (by omega) ?_)
 refine g9 4 rfl rfl rfl (by first | exact rfl | ((simp only [go_sem, List.toList_toArray, simprocAttr]); exact rfl)) ?_ (i8 N _ _ _ _ e15) ?_ ?_ ?_ ?_
 rfl
 exact g8 rfl
 exact .inl rfl
 (simp only [go_sem, Nat.reduceLT])
 refine OW.run [6] ?_
 simp only [go_sem, simprocAttr, sw0]
 refine g9 4 rfl rfl rfl (by first | exact rfl | ((simp only [go_sem, List.toList_toArray, simprocAttr]); exact rfl)) ?_ (i6 N _ _ _ e16) ?_ ?_ ?_ ?_
 rfl
 exact g8 rfl
 exact .inl rfl
 (simp only [go_sem, Nat.reduceLT])
 refine OW.run [6] ?_
 simp only [go_sem, simprocAttr, sw0]
 refine OW.nil (hK _ ?_); clear hK K
 refine d7 (PW.Ends.intro (.inr rfl) ?_)
 simp only [go_sem, simprocAttr, sw0]
 obtain rfl := Option.some.inj H
 refine b8 4 (by exact trivial) ?_
 rfl
 replace H := l7 (by decide) H
 replace H := l7 (by decide) H
 replace H := n6 (by decide) H
 refine d6 fun K hK => OW.run [1, 3, 5, 8] ?_
 simp only [go_sem, simprocAttr, sw0]
 repeat (refine And.intro (by omega) ?_)
 refine k6 rfl rfl rfl (by first | exact rfl | ((simp only [go_sem, List.toList_toArray, simprocAttr]); exact rfl)) Tryz.func122 rfl (by rw [Tryz.results122]) Tryz.ntmps122 Tryz.call122 (by (simp only [go_sem, Nat.reduceLT])) ?_
 intro p G
 change PW _ _ _ _ _
 try simp only [go_sem, simprocAttr]
 refine b7 ?_
 refine c9 [0, 2] ?_
 simp only [go_sem, simprocAttr, sw0]
 refine b7 ?_
 refine c9 [2] ?_
 simp only [go_sem, simprocAttr, sw0]
 repeat (refine And.intro (by omega) ?_)
 refine d7 ?_
 refine ⟨.inr rfl, rfl, rfl, ?_⟩
 simp only [go_sem, simprocAttr, sw0]
 change OW _ _ _ _ _ _
 refine OW.run [1, 3, 5, 8] ?_
 simp only [go_sem, simprocAttr, sw0]
 refine OW.nil (hK _ ?_); clear hK K
 refine b7 ?_
 refine c9 [1, 3, 5, 8, 9] ?_
 simp only [go_sem, simprocAttr, sw0]
 repeat (refine And.intro (by omega) ?_)
 refine k5 (τ := Unit) [1, 3, 5, 8, 9] 9 (fun _ => []) (fun _ => [{ cells := [.d (I Z15), .d (I Z11), .d (I Z18), .d (I Z17), .d (I Z16), .d (I Z10), .d (I Z13)], e := 23 }, { cells := [.d (I (2 : Int)), .d (I Zj), .d (I Zm), .d (I Zn), .d (I Zo), .d (I Zk)], e := 48 }, { cells := [.d (I x2), .d (I x3)], e := 26 }, { cells := [.d (Sx (⟨#[114, 101, 115, 111, 108, 118, 101]⟩ : ByteArray)), .own 6 0 2 1, .d (.clo 149 [])], e := 179 }, { cells := [.d (I (0 : Int)), .d (I (1 : Int))], e := 181 }, { cells := [.d (I (1 : Int)), .d (I (2 : Int))], e := 181 }, { cells := [.d (I (3 : Int)), .d (I (0 : Int))], e := 181 }, { cells := [.d (I (0 : Int))], e := 181 }, { cells := [.d (I (2 : Int)), .d (I Zj), .d (I Zm), .d (I (0 : Int)), .d (I (0 : Int)), .d (I Zk)], e := 48 }]) _ _ r (by exact Nat.zero_le _) H ?_ ?_
 intro K_4 H N32 hN32
 refine b7 ?_
 refine c9 [1, 3, 5, 8, 9, 36, 37, 38] ?_
 simp only [go_sem, simprocAttr, sw0]
 refine PW.block ?_
 refine H4 3 ?_
 refine b7 ?_
 refine c9 [1, 3, 5, 8, 9, 36, 37, 38, 39] ?_
 simp only [go_sem, simprocAttr, sw0]
 refine b7 ?_
 refine d5 rfl (fun h33 => ?_) (fun h33 => ?_)
 refine d8 ?_
 refine b7 ?_
 refine PW.block ?_
 refine b7 ?_
 obtain ⟨c34, H⟩ := j6 H
 refine c9 [1, 3, 5, 8, 9, 11, 36, 37, 38] ?_
 simp only [go_sem, simprocAttr, sw0]
 repeat (refine And.intro (by omega) ?_)
 refine d6 fun K hK => OW.run [1, 3, 5, 8, 9, 36, 37, 38] ?_
 simp only [go_sem, simprocAttr, sw0]
 refine k6 rfl rfl rfl (by first | exact rfl | ((simp only [go_sem, List.toList_toArray, simprocAttr]); exact rfl)) Tryz.func125 rfl (by rw [Tryz.results125]) Tryz.ntmps125 Tryz.call125 (by (simp only [go_sem, Nat.reduceLT])) ?_
 intro p G
 change PW _ _ _ _ _
 try simp only [go_sem, simprocAttr]
 refine b7 ?_
 refine c9 [0, 1] ?_
 simp only [go_sem, simprocAttr, sw0]
 refine b7 ?_
 refine j4 14 mixed (by kernel_rfl) fun K hK => ?_
 change FW _ _ _ _ _
 refine FW.run ?_
 simp only [go_sem, simprocAttr, sw0]
 repeat (refine And.intro (by omega) ?_)
 refine FW.nil ?_
 change OW _ _ _ _ _ _
 refine OW.run [4] ?_
 simp only [go_sem, simprocAttr, sw0]
 repeat (refine And.intro (by omega) ?_)
 refine OW.nil (hK _ ?_); clear hK K
 refine d7 ?_
 refine ⟨.inr rfl, rfl, rfl, ?_⟩
 simp only [go_sem, simprocAttr, sw0]
 change OW _ _ _ _ _ _
 refine OW.run [1, 3, 5, 8, 9, 36, 37, 38] ?_
 simp only [go_sem, simprocAttr, sw0]
 refine k6 rfl rfl rfl (by first | exact rfl | ((simp only [go_sem, List.toList_toArray, simprocAttr]); exact rfl)) Tryz.func125 rfl (by rw [Tryz.results125]) Tryz.ntmps125 Tryz.call125 (by (simp only [go_sem, Nat.reduceLT])) ?_
 intro p G
 change PW _ _ _ _ _
 try simp only [go_sem, simprocAttr]
 refine b7 ?_
 refine c9 [0, 1] ?_
 simp only [go_sem, simprocAttr, sw0]
 refine b7 ?_
 refine j4 14 mixed (by kernel_rfl) fun K hK => ?_
 change FW _ _ _ _ _
 refine FW.run ?_
 simp only [go_sem, simprocAttr, sw0]
 repeat (refine And.intro (by omega) ?_)
 refine FW.nil ?_
 change OW _ _ _ _ _ _
 refine OW.run [4] ?_
 simp only [go_sem, simprocAttr, sw0]
 repeat (refine And.intro (by omega) ?_)
 refine OW.nil (hK _ ?_); clear hK K
 refine d7 ?_
 refine ⟨.inr rfl, rfl, rfl, ?_⟩
 simp only [go_sem, simprocAttr, sw0]
 change OW _ _ _ _ _ _
 refine OW.run [1, 3, 5, 8, 9, 36, 37, 38] ?_
 simp only [go_sem, simprocAttr, sw0]
 refine OW.nil (hK _ ?_); clear hK K
 refine c9 [1, 3, 5, 8, 9, 36, 37, 38] ?_
 simp only [go_sem, simprocAttr, sw0]
 refine b7 ?_
 refine c9 [1, 3, 5, 8, 9, 36, 37, 38, 39] ?_
 simp only [go_sem, simprocAttr, sw0]
 refine b7 ?_
 refine d5 rfl (fun h35 => ?_) (fun h35 => ?_)
 refine d8 ?_
 refine b7 ?_
 refine PW.block ?_
 refine b7 ?_
 obtain ⟨c36, H⟩ := j6 H
 refine c9 [1, 3, 5, 8, 9, 11, 36, 37, 38] ?_
 simp only [go_sem, simprocAttr, sw0]
 repeat (refine And.intro (by omega) ?_)
 refine d6 fun K hK => OW.run [1, 3, 5, 8, 9, 36, 37, 38] ?_
 simp only [go_sem, simprocAttr, sw0]
 refine k6 rfl rfl rfl (by first | exact rfl | ((simp only [go_sem, List.toList_toArray, simprocAttr]); exact rfl)) Tryz.func125 rfl (by rw [Tryz.results125]) Tryz.ntmps125 Tryz.call125 (by (simp only [go_sem, Nat.reduceLT])) ?_
 intro p G
 change PW _ _ _ _ _
 try simp only [go_sem, simprocAttr]
 refine b7 ?_
 refine c9 [0, 1] ?_
 simp only [go_sem, simprocAttr, sw0]
 refine b7 ?_
 refine j4 14 mixed (by kernel_rfl) fun K hK => ?_
 change FW _ _ _ _ _
 refine FW.run ?_
 simp only [go_sem, simprocAttr, sw0]
 repeat (refine And.intro (by omega) ?_)
 refine FW.nil ?_
 change OW _ _ _ _ _ _
 refine OW.run [4] ?_
 simp only [go_sem, simprocAttr, sw0]
 repeat (refine And.intro (by omega) ?_)
 refine OW.nil (hK _ ?_); clear hK K
 refine d7 ?_
 refine ⟨.inr rfl, rfl, rfl, ?_⟩
 simp only [go_sem, simprocAttr, sw0]
 change OW _ _ _ _ _ _
 refine OW.run [1, 3, 5, 8, 9, 36, 37, 38] ?_
 simp only [go_sem, simprocAttr, sw0]
 refine k6 rfl rfl rfl (by first | exact rfl | ((simp only [go_sem, List.toList_toArray, simprocAttr]); exact rfl)) Tryz.func125 rfl (by rw [Tryz.results125]) Tryz.ntmps125 Tryz.call125 (by (simp only [go_sem, Nat.reduceLT])) ?_
 intro p G
 change PW _ _ _ _ _
 try simp only [go_sem, simprocAttr]
 refine b7 ?_
 refine c9 [0, 1] ?_
 simp only [go_sem, simprocAttr, sw0]
 refine b7 ?_
 refine j4 14 mixed (by kernel_rfl) fun K hK => ?_
 change FW _ _ _ _ _
 refine FW.run ?_
 simp only [go_sem, simprocAttr, sw0]
 repeat (refine And.intro (by omega) ?_)
 refine FW.nil ?_
 change OW _ _ _ _ _ _
 refine OW.run [4] ?_
 simp only [go_sem, simprocAttr, sw0]
 repeat (refine And.intro (by omega) ?_)
 refine OW.nil (hK _ ?_); clear hK K
 refine d7 ?_
 refine ⟨.inr rfl, rfl, rfl, ?_⟩
 simp only [go_sem, simprocAttr, sw0]
 change OW _ _ _ _ _ _
 refine OW.run [1, 3, 5, 8, 9, 36, 37, 38] ?_
 simp only [go_sem, simprocAttr, sw0]
 refine OW.nil (hK _ ?_); clear hK K
 refine c9 [1, 3, 5, 8, 9, 36, 37, 38] ?_
 simp only [go_sem, simprocAttr, sw0]
 refine b7 ?_
 refine c9 [1, 3, 5, 8, 9, 36, 37, 38, 39] ?_
 simp only [go_sem, simprocAttr, sw0]
 refine b7 ?_
 refine d5 rfl (fun h37 => ?_) (fun h37 => ?_)
 exact absurd h37 (by decide)
 refine o6 ?_
 refine hN32 [] () _ H (by exact trivial) ?_
 simp only [sw1, go_sem, simprocAttr]
 exact absurd h35 (by decide)
 exact absurd h33 (by decide)
 rintro _ H
 try simp only [go_sem, simprocAttr]
 refine b7 ?_
 refine b7 ?_
 refine c9 [1, 3, 5, 8, 52] ?_
 simp only [go_sem, simprocAttr, sw0]
 refine d5 rfl (fun h38 => ?_) (fun h38 => ?_)
 replace H := n6 h38 H
 refine b7 ?_
 refine c9 [6] ?_
 simp only [go_sem, simprocAttr, sw0]
 refine d7 (PW.Ends.intro (.inr rfl) ?_)
 simp only [go_sem, simprocAttr, sw0]
 obtain rfl := Option.some.inj H
 refine b8 4 (by exact trivial) ?_
 rfl
 replace H := l7 h38 H
 refine d8 ?_
 refine b7 ?_
 refine c9 [5, 8, 12] ?_
 simp only [go_sem, simprocAttr, sw0]
 repeat (refine And.intro (by omega) ?_)
 refine k5 (τ := Unit) [5] 0 (fun _ => [(5, .d (.ref [(I (2 : Int)), (I Zj), (I Zm), (I Zn), (I Zo), (I Zk)]))]) (fun _ => []) _ _ r (by exact Nat.le_refl _) H ?_ ?_
 intro K_5 H N39 hN39
 refine b7 ?_
 refine c9 [5, 12, 59, 60, 61] ?_
 simp only [go_sem, simprocAttr, sw0]
 refine PW.block ?_
 refine H4 3 ?_
 refine b7 ?_
 refine c9 [5, 12, 59, 60, 61, 62] ?_
 simp only [go_sem, simprocAttr, sw0]
 refine b7 ?_
 refine d5 rfl (fun h40 => ?_) (fun h40 => ?_)
 refine d8 ?_
 refine b7 ?_
 refine PW.block ?_
 refine b7 ?_
 obtain ⟨c41, H⟩ := j6 H
 refine c9 [5, 12, 14, 59, 60, 61] ?_
 simp only [go_sem, simprocAttr, sw0]
 repeat (refine And.intro (by omega) ?_)
 refine b7 ?_
 refine PW.frz 1 (by exact Nat.zero_le _) (by rfl) ?_
 simp only [map_nz_I, map_nz_Bo, map_nz_Sx, map_nz_L, nz_int, nz_bool, nz_str, nz_list, nz_ref, nz_nil, go_sem, simprocAttr]
 change PW _ _ _ _ _
 obtain ⟨x17, e17, H⟩ := d4 H
 obtain ⟨x18, e18, H⟩ := d4 H
 refine j4 11 mixed (by kernel_rfl) fun K hK => ?_
 change FW _ _ _ _ _
 refine FW.run ?_
 simp only [go_sem, simprocAttr, sw0]
 refine FW.callG' 4 rfl rfl ?_ (fun hg => by first | rfl | (simp only [go_sem, ↓reduceIte]; rfl)) (fun hg => by ((simp only [go_sem, List.toList_toArray, simprocAttr]); exact rfl)) (fun hg => ?_) (fun hg => (r9 N _ _ _ _ _ _ _ _ (grd_t hg e17))) ?_ ?_ ?_ ?_
 rfl
 rfl
 exact g8 rfl
 exact .inl rfl
 (simp only [go_sem, Nat.reduceLT])
 refine FW.run ?_
 simp only [go_sem, simprocAttr, sw0]
 repeat (refine And.intro (by omega) ?_)
 refine FW.nil ?_
 change OW _ _ _ _ _ _
 refine OW.run [5, 12, 59, 60, 61, 78] ?_
 simp only [go_sem, simprocAttr, sw0]
 refine p9 4 rfl rfl ?_ (fun hg => by first | rfl | (simp only [go_sem, ↓reduceIte]; rfl)) (fun hg => by ((simp only [go_sem, List.toList_toArray, simprocAttr]); exact rfl)) (fun hg => ?_) (fun hg => (i8 N _ _ _ _ (grd_t hg e18))) ?_ ?_ ?_ ?_
 rfl
 rfl
 exact g8 rfl
 exact .inl rfl
 (simp only [go_sem, Nat.reduceLT])
 refine OW.run [5, 12, 59, 60, 61, 78] ?_
 simp only [go_sem, simprocAttr, sw0]
 refine OW.nil (hK _ ?_); clear hK K
 refine d5 rfl (fun h42 => ?_) (fun h42 => ?_)
 replace H := n6 h42 H
 refine b7 ?_
 refine c9 [6] ?_
 simp only [go_sem, simprocAttr, sw0]
 refine d7 (PW.Ends.intro (.inr rfl) ?_)
 simp only [go_sem, simprocAttr, sw0]
 obtain rfl := Option.some.inj H
 refine b8 4 (by exact trivial) ?_
 rfl
 replace H := l7 h42 H
 refine d8 ?_
 refine c9 [5, 12, 59, 60, 61] ?_
 simp only [go_sem, simprocAttr, sw0]
 refine b7 ?_
 refine c9 [5, 12, 59, 60, 61, 62] ?_
 simp only [go_sem, simprocAttr, sw0]
 refine b7 ?_
 refine d5 rfl (fun h43 => ?_) (fun h43 => ?_)
 refine d8 ?_
 refine b7 ?_
 refine PW.block ?_
 refine b7 ?_
 obtain ⟨c44, H⟩ := j6 H
 refine c9 [5, 12, 14, 59, 60, 61] ?_
 simp only [go_sem, simprocAttr, sw0]
 repeat (refine And.intro (by omega) ?_)
 refine b7 ?_
 obtain ⟨x19, e19, H⟩ := d4 H
 obtain ⟨x20, e20, H⟩ := d4 H
 refine j4 11 mixed (by kernel_rfl) fun K hK => ?_
 change FW _ _ _ _ _
 refine FW.run ?_
 simp only [go_sem, simprocAttr, sw0]
 refine FW.callG' 4 rfl rfl ?_ (fun hg => by first | rfl | (simp only [go_sem, ↓reduceIte]; rfl)) (fun hg => by ((simp only [go_sem, List.toList_toArray, simprocAttr]); exact rfl)) (fun hg => ?_) (fun hg => (r9 N _ _ _ _ _ _ _ _ (grd_t hg e19))) ?_ ?_ ?_ ?_
 rfl
 rfl
 exact g8 rfl
 exact .inl rfl
 (simp only [go_sem, Nat.reduceLT])
 refine FW.run ?_
 simp only [go_sem, simprocAttr, sw0]
 repeat (refine And.intro (by omega) ?_)
 refine FW.nil ?_
 change OW _ _ _ _ _ _
 refine OW.run [5, 12, 59, 60, 61, 78] ?_
 simp only [go_sem, simprocAttr, sw0]
 refine p9 4 rfl rfl ?_ (fun hg => by first | rfl | (simp only [go_sem, ↓reduceIte]; rfl)) (fun hg => by ((simp only [go_sem, List.toList_toArray, simprocAttr]); exact rfl)) (fun hg => ?_) (fun hg => (i8 N _ _ _ _ (grd_t hg e20))) ?_ ?_ ?_ ?_
 rfl
 rfl
 exact g8 rfl
 exact .inl rfl
 (simp only [go_sem, Nat.reduceLT])
 refine OW.run [5, 12, 59, 60, 61, 78] ?_
 simp only [go_sem, simprocAttr, sw0]
 refine OW.nil (hK _ ?_); clear hK K
 refine d5 rfl (fun h45 => ?_) (fun h45 => ?_)
 replace H := n6 h45 H
 refine b7 ?_
 refine c9 [6] ?_
 simp only [go_sem, simprocAttr, sw0]
 refine d7 (PW.Ends.intro (.inr rfl) ?_)
 simp only [go_sem, simprocAttr, sw0]
 obtain rfl := Option.some.inj H
 refine b8 4 (by exact trivial) ?_
 rfl
 replace H := l7 h45 H
 refine d8 ?_
 refine c9 [5, 12, 59, 60, 61] ?_
 simp only [go_sem, simprocAttr, sw0]
 refine b7 ?_
 refine c9 [5, 12, 59, 60, 61, 62] ?_
 simp only [go_sem, simprocAttr, sw0]
 refine b7 ?_
 refine d5 rfl (fun h46 => ?_) (fun h46 => ?_)
 exact absurd h46 (by decide)
 refine o6 ?_
 refine hN39 [] () _ H (by exact trivial) ?_
 simp only [sw1, go_sem, simprocAttr]
 exact absurd h43 (by decide)
 exact absurd h40 (by decide)
 rintro _ H
 try simp only [go_sem, simprocAttr]
 refine b7 ?_
 obtain ⟨x21, e21, H⟩ := d4 H
 obtain ⟨x22, e22, H⟩ := d4 H
 refine d6 fun K hK => OW.run [6] ?_
 simp only [go_sem, simprocAttr, sw0]
 repeat (refine And.intro (by omega) ?_)
 refine g9 4 rfl rfl rfl (by first | exact rfl | ((simp only [go_sem, List.toList_toArray, simprocAttr]); exact rfl)) ?_ (i8 N _ _ _ _ e21) ?_ ?_ ?_ ?_
 rfl
 exact g8 rfl
 exact .inl rfl
 (simp only [go_sem, Nat.reduceLT])
 refine OW.run [6] ?_
 simp only [go_sem, simprocAttr, sw0]
 refine g9 4 rfl rfl rfl (by first | exact rfl | ((simp only [go_sem, List.toList_toArray, simprocAttr]); exact rfl)) ?_ (i6 N _ _ _ e22) ?_ ?_ ?_ ?_
 rfl
 exact g8 rfl
 exact .inl rfl
 (simp only [go_sem, Nat.reduceLT])
 refine OW.run [6] ?_
 simp only [go_sem, simprocAttr, sw0]
 refine OW.nil (hK _ ?_); clear hK K
 refine d7 (PW.Ends.intro (.inr rfl) ?_)
 simp only [go_sem, simprocAttr, sw0]
 obtain rfl := Option.some.inj H
 refine b8 4 (by exact trivial) ?_
 rfl
 replace H := l7 (by decide) H
 replace H := l7 (by decide) H
 replace H := l7 (by decide) H
 replace H := n6 (by decide) H
 refine d6 fun K hK => OW.run [1, 3, 5, 8] ?_
 simp only [go_sem, simprocAttr, sw0]
 repeat (refine And.intro (by omega) ?_)
 refine k6 rfl rfl rfl (by first | exact rfl | ((simp only [go_sem, List.toList_toArray, simprocAttr]); exact rfl)) Tryz.func122 rfl (by rw [Tryz.results122]) Tryz.ntmps122 Tryz.call122 (by (simp only [go_sem, Nat.reduceLT])) ?_
 intro p G
 change PW _ _ _ _ _
 try simp only [go_sem, simprocAttr]
 refine b7 ?_
 refine c9 [0, 2] ?_
 simp only [go_sem, simprocAttr, sw0]
 refine b7 ?_
 refine c9 [2] ?_
 simp only [go_sem, simprocAttr, sw0]
 repeat (refine And.intro (by omega) ?_)
 refine d7 ?_
 refine ⟨.inr rfl, rfl, rfl, ?_⟩
 simp only [go_sem, simprocAttr, sw0]
 change OW _ _ _ _ _ _
 refine OW.run [1, 3, 5, 8] ?_
 simp only [go_sem, simprocAttr, sw0]
 refine OW.nil (hK _ ?_); clear hK K
 refine b7 ?_
 refine c9 [1, 3, 5, 8, 9] ?_
 simp only [go_sem, simprocAttr, sw0]
 repeat (refine And.intro (by omega) ?_)
 refine k5 (τ := Unit) [1, 3, 5, 8, 9] 9 (fun _ => []) (fun _ => [{ cells := [.d (I Z15), .d (I Z11), .d (I Z18), .d (I Z17), .d (I Z16), .d (I Z10), .d (I Z13)], e := 23 }, { cells := [.d (I (3 : Int)), .d (I Zj), .d (I Zm), .d (I Zn), .d (I Zo), .d (I Zk)], e := 48 }, { cells := [.d (I x2), .d (I x3)], e := 26 }, { cells := [.d (Sx (⟨#[114, 101, 108, 101, 97, 115, 101]⟩ : ByteArray)), .own 7 0 1 1, .d (.clo 150 [])], e := 179 }, { cells := [.d (I (0 : Int)), .d (I (1 : Int))], e := 181 }, { cells := [.d (I (1 : Int)), .d (I (2 : Int))], e := 181 }, { cells := [.d (I (3 : Int)), .d (I (0 : Int))], e := 181 }, { cells := [.d (I (0 : Int))], e := 181 }, { cells := [.d (I (3 : Int)), .d (I Zj), .d (I Zm), .d (I (0 : Int)), .d (I (0 : Int)), .d (I (0 : Int))], e := 48 }]) _ _ r (by exact Nat.zero_le _) H ?_ ?_
 intro K_6 H N47 hN47
 refine b7 ?_
 refine c9 [1, 3, 5, 8, 9, 36, 37, 38] ?_
 simp only [go_sem, simprocAttr, sw0]
 refine PW.block ?_
 refine H4 2 ?_
 refine b7 ?_
 refine c9 [1, 3, 5, 8, 9, 36, 37, 38, 39] ?_
 simp only [go_sem, simprocAttr, sw0]
 refine b7 ?_
 refine d5 rfl (fun h48 => ?_) (fun h48 => ?_)
 refine d8 ?_
 refine b7 ?_
 refine PW.block ?_
 refine b7 ?_
 obtain ⟨c49, H⟩ := j6 H
 refine c9 [1, 3, 5, 8, 9, 11, 36, 37, 38] ?_
 simp only [go_sem, simprocAttr, sw0]
 repeat (refine And.intro (by omega) ?_)
 refine d6 fun K hK => OW.run [1, 3, 5, 8, 9, 36, 37, 38] ?_
 simp only [go_sem, simprocAttr, sw0]
 refine k6 rfl rfl rfl (by first | exact rfl | ((simp only [go_sem, List.toList_toArray, simprocAttr]); exact rfl)) Tryz.func125 rfl (by rw [Tryz.results125]) Tryz.ntmps125 Tryz.call125 (by (simp only [go_sem, Nat.reduceLT])) ?_
 intro p G
 change PW _ _ _ _ _
 try simp only [go_sem, simprocAttr]
 refine b7 ?_
 refine c9 [0, 1] ?_
 simp only [go_sem, simprocAttr, sw0]
 refine b7 ?_
 refine j4 14 mixed (by kernel_rfl) fun K hK => ?_
 change FW _ _ _ _ _
 refine FW.run ?_
 simp only [go_sem, simprocAttr, sw0]
 repeat (refine And.intro (by omega) ?_)
 refine FW.nil ?_
 change OW _ _ _ _ _ _
 refine OW.run [4] ?_
 simp only [go_sem, simprocAttr, sw0]
 repeat (refine And.intro (by omega) ?_)
 refine OW.nil (hK _ ?_); clear hK K
 refine d7 ?_
 refine ⟨.inr rfl, rfl, rfl, ?_⟩
 simp only [go_sem, simprocAttr, sw0]
 change OW _ _ _ _ _ _
 refine OW.run [1, 3, 5, 8, 9, 36, 37, 38] ?_
 simp only [go_sem, simprocAttr, sw0]
 refine k6 rfl rfl rfl (by first | exact rfl | ((simp only [go_sem, List.toList_toArray, simprocAttr]); exact rfl)) Tryz.func125 rfl (by rw [Tryz.results125]) Tryz.ntmps125 Tryz.call125 (by (simp only [go_sem, Nat.reduceLT])) ?_
 intro p G
 change PW _ _ _ _ _
 try simp only [go_sem, simprocAttr]
 refine b7 ?_
 refine c9 [0, 1] ?_
 simp only [go_sem, simprocAttr, sw0]
 refine b7 ?_
 refine j4 14 mixed (by kernel_rfl) fun K hK => ?_
 change FW _ _ _ _ _
 refine FW.run ?_
 simp only [go_sem, simprocAttr, sw0]
 repeat (refine And.intro (by omega) ?_)
 refine FW.nil ?_
 change OW _ _ _ _ _ _
 refine OW.run [4] ?_
 simp only [go_sem, simprocAttr, sw0]
 repeat (refine And.intro (by omega) ?_)
 refine OW.nil (hK _ ?_); clear hK K
 refine d7 ?_
 refine ⟨.inr rfl, rfl, rfl, ?_⟩
 simp only [go_sem, simprocAttr, sw0]
 change OW _ _ _ _ _ _
 refine OW.run [1, 3, 5, 8, 9, 36, 37, 38] ?_
 simp only [go_sem, simprocAttr, sw0]
 refine OW.nil (hK _ ?_); clear hK K
 refine c9 [1, 3, 5, 8, 9, 36, 37, 38] ?_
 simp only [go_sem, simprocAttr, sw0]
 refine b7 ?_
 refine c9 [1, 3, 5, 8, 9, 36, 37, 38, 39] ?_
 simp only [go_sem, simprocAttr, sw0]
 refine b7 ?_
 refine d5 rfl (fun h50 => ?_) (fun h50 => ?_)
 exact absurd h50 (by decide)
 refine o6 ?_
 refine hN47 [] () _ H (by exact trivial) ?_
 simp only [sw1, go_sem, simprocAttr]
 exact absurd h48 (by decide)
 rintro _ H
 try simp only [go_sem, simprocAttr]
 refine b7 ?_
 refine b7 ?_
 refine c9 [1, 3, 5, 8, 52] ?_
 simp only [go_sem, simprocAttr, sw0]
 refine d5 rfl (fun h51 => ?_) (fun h51 => ?_)
 replace H := n6 h51 H
 refine b7 ?_
 refine c9 [6] ?_
 simp only [go_sem, simprocAttr, sw0]
 refine d7 (PW.Ends.intro (.inr rfl) ?_)
 simp only [go_sem, simprocAttr, sw0]
 obtain rfl := Option.some.inj H
 refine b8 4 (by exact trivial) ?_
 rfl
 replace H := l7 h51 H
 refine d8 ?_
 refine b7 ?_
 refine c9 [5, 8, 12] ?_
 simp only [go_sem, simprocAttr, sw0]
 repeat (refine And.intro (by omega) ?_)
 refine k5 (τ := Unit) [5] 0 (fun _ => [(5, .d (.ref [(I (3 : Int)), (I Zj), (I Zm), (I Zn), (I Zo), (I Zk)]))]) (fun _ => []) _ _ r (by exact Nat.le_refl _) H ?_ ?_
 intro K_7 H N52 hN52
 refine b7 ?_
 refine c9 [5, 12, 59, 60, 61] ?_
 simp only [go_sem, simprocAttr, sw0]
 refine PW.block ?_
 refine H4 2 ?_
 refine b7 ?_
 refine c9 [5, 12, 59, 60, 61, 62] ?_
 simp only [go_sem, simprocAttr, sw0]
 refine b7 ?_
 refine d5 rfl (fun h53 => ?_) (fun h53 => ?_)
 refine d8 ?_
 refine b7 ?_
 refine PW.block ?_
 refine b7 ?_
 obtain ⟨c54, H⟩ := j6 H
 refine c9 [5, 12, 14, 59, 60, 61] ?_
 simp only [go_sem, simprocAttr, sw0]
 repeat (refine And.intro (by omega) ?_)
 refine b7 ?_
 refine PW.frz 1 (by exact Nat.zero_le _) (by rfl) ?_
 simp only [map_nz_I, map_nz_Bo, map_nz_Sx, map_nz_L, nz_int, nz_bool, nz_str, nz_list, nz_ref, nz_nil, go_sem, simprocAttr]
 change PW _ _ _ _ _
 obtain ⟨x23, e23, H⟩ := d4 H
 obtain ⟨x24, e24, H⟩ := d4 H
 refine j4 11 mixed (by kernel_rfl) fun K hK => ?_
 change FW _ _ _ _ _
 refine FW.run ?_
 simp only [go_sem, simprocAttr, sw0]
 refine FW.callG' 4 rfl rfl ?_ (fun hg => by first | rfl | (simp only [go_sem, ↓reduceIte]; rfl)) (fun hg => by ((simp only [go_sem, List.toList_toArray, simprocAttr]); exact rfl)) (fun hg => ?_) (fun hg => (r9 N _ _ _ _ _ _ _ _ (grd_t hg e23))) ?_ ?_ ?_ ?_
 rfl
 rfl
 exact g8 rfl
 exact .inl rfl
 (simp only [go_sem, Nat.reduceLT])
 refine FW.run ?_
 simp only [go_sem, simprocAttr, sw0]
 repeat (refine And.intro (by omega) ?_)
 refine FW.nil ?_
 change OW _ _ _ _ _ _
 refine OW.run [5, 12, 59, 60, 61, 78] ?_
 simp only [go_sem, simprocAttr, sw0]
 refine p9 4 rfl rfl ?_ (fun hg => by first | rfl | (simp only [go_sem, ↓reduceIte]; rfl)) (fun hg => by ((simp only [go_sem, List.toList_toArray, simprocAttr]); exact rfl)) (fun hg => ?_) (fun hg => (i8 N _ _ _ _ (grd_t hg e24))) ?_ ?_ ?_ ?_
 rfl
 rfl
 exact g8 rfl
 exact .inl rfl
 (simp only [go_sem, Nat.reduceLT])
 refine OW.run [5, 12, 59, 60, 61, 78] ?_
 simp only [go_sem, simprocAttr, sw0]
 refine OW.nil (hK _ ?_); clear hK K
 refine d5 rfl (fun h55 => ?_) (fun h55 => ?_)
 replace H := n6 h55 H
 refine b7 ?_
 refine c9 [6] ?_
 simp only [go_sem, simprocAttr, sw0]
 refine d7 (PW.Ends.intro (.inr rfl) ?_)
 simp only [go_sem, simprocAttr, sw0]
 obtain rfl := Option.some.inj H
 refine b8 4 (by exact trivial) ?_
 rfl
 replace H := l7 h55 H
 refine d8 ?_
 refine c9 [5, 12, 59, 60, 61] ?_
 simp only [go_sem, simprocAttr, sw0]
 refine b7 ?_
 refine c9 [5, 12, 59, 60, 61, 62] ?_
 simp only [go_sem, simprocAttr, sw0]
 refine b7 ?_
 refine d5 rfl (fun h56 => ?_) (fun h56 => ?_)
 exact absurd h56 (by decide)
 refine o6 ?_
 refine hN52 [] () _ H (by exact trivial) ?_
 simp only [sw1, go_sem, simprocAttr]
 exact absurd h53 (by decide)
 rintro _ H
 try simp only [go_sem, simprocAttr]
 refine b7 ?_
 obtain ⟨x25, e25, H⟩ := d4 H
 obtain ⟨x26, e26, H⟩ := d4 H
 refine d6 fun K hK => OW.run [6] ?_
 simp only [go_sem, simprocAttr, sw0]
 repeat (refine And.intro (by omega) ?_)
 refine g9 4 rfl rfl rfl (by first | exact rfl | ((simp only [go_sem, List.toList_toArray, simprocAttr]); exact rfl)) ?_ (i8 N _ _ _ _ e25) ?_ ?_ ?_ ?_
 rfl
 exact g8 rfl
 exact .inl rfl
 (simp only [go_sem, Nat.reduceLT])
 refine OW.run [6] ?_
 simp only [go_sem, simprocAttr, sw0]
 refine g9 4 rfl rfl rfl (by first | exact rfl | ((simp only [go_sem, List.toList_toArray, simprocAttr]); exact rfl)) ?_ (i6 N _ _ _ e26) ?_ ?_ ?_ ?_
 rfl
 exact g8 rfl
 exact .inl rfl
 (simp only [go_sem, Nat.reduceLT])
 refine OW.run [6] ?_
 simp only [go_sem, simprocAttr, sw0]
 refine OW.nil (hK _ ?_); clear hK K
 refine d7 (PW.Ends.intro (.inr rfl) ?_)
 simp only [go_sem, simprocAttr, sw0]
 obtain rfl := Option.some.inj H
 refine b8 4 (by exact trivial) ?_
 rfl
 replace H := l7 (by decide) H
 replace H := l7 (by decide) H
 replace H := l7 (by decide) H
 replace H := l7 (by decide) H
 replace H := n6 (by decide) H
 refine d6 fun K hK => OW.run [1, 3, 5, 8] ?_
 simp only [go_sem, simprocAttr, sw0]
 repeat (refine And.intro (by omega) ?_)
 refine k6 rfl rfl rfl (by first | exact rfl | ((simp only [go_sem, List.toList_toArray, simprocAttr]); exact rfl)) Tryz.func122 rfl (by rw [Tryz.results122]) Tryz.ntmps122 Tryz.call122 (by (simp only [go_sem, Nat.reduceLT])) ?_
 intro p G
 change PW _ _ _ _ _
 try simp only [go_sem, simprocAttr]
 refine b7 ?_
 refine c9 [0, 2] ?_
 simp only [go_sem, simprocAttr, sw0]
 refine b7 ?_
 refine c9 [2] ?_
 simp only [go_sem, simprocAttr, sw0]
 repeat (refine And.intro (by omega) ?_)
 refine d7 ?_
 refine ⟨.inr rfl, rfl, rfl, ?_⟩
 simp only [go_sem, simprocAttr, sw0]
 change OW _ _ _ _ _ _
 refine OW.run [1, 3, 5, 8] ?_
 simp only [go_sem, simprocAttr, sw0]
 refine OW.nil (hK _ ?_); clear hK K
 refine b7 ?_
 refine c9 [1, 3, 5, 8, 9] ?_
 simp only [go_sem, simprocAttr, sw0]
 repeat (refine And.intro (by omega) ?_)
 refine k5 (τ := Unit) [1, 3, 5, 8, 9] 9 (fun _ => []) (fun _ => [{ cells := [.d (I Z15), .d (I Z11), .d (I Z18), .d (I Z17), .d (I Z16), .d (I Z10), .d (I Z13)], e := 23 }, { cells := [.d (I (4 : Int)), .d (I Zj), .d (I Zm), .d (I Zn), .d (I Zo), .d (I Zk)], e := 48 }, { cells := [.d (I x2), .d (I x3)], e := 26 }, { cells := [.d (Sx (⟨#[112, 97, 115, 115]⟩ : ByteArray)), .d (.val (.slice none 0 0)), .d (.clo 151 [])], e := 179 }, { cells := [.d (I (0 : Int)), .d (I (1 : Int))], e := 181 }, { cells := [.d (I (1 : Int)), .d (I (2 : Int))], e := 181 }, { cells := [.d (I (3 : Int)), .d (I (0 : Int))], e := 181 }, { cells := [.d (I (0 : Int))], e := 181 }, { cells := [.d (I (4 : Int)), .d (I Zj), .d (I (0 : Int)), .d (I (0 : Int)), .d (I (0 : Int)), .d (I (0 : Int))], e := 48 }]) _ _ r (by exact Nat.zero_le _) H ?_ ?_
 intro K_8 H N57 hN57
 refine b7 ?_
 refine c9 [1, 3, 5, 8, 9, 36, 37, 38] ?_
 simp only [go_sem, simprocAttr, sw0]
 refine PW.block ?_
 refine H4 1 ?_
 refine b7 ?_
 refine c9 [1, 3, 5, 8, 9, 36, 37, 38, 39] ?_
 simp only [go_sem, simprocAttr, sw0]
 refine b7 ?_
 refine d5 rfl (fun h58 => ?_) (fun h58 => ?_)
 exact absurd h58 (by decide)
 refine o6 ?_
 refine hN57 [] () _ H (by exact trivial) ?_
 simp only [sw1, go_sem, simprocAttr]
 rintro _ H
 try simp only [go_sem, simprocAttr]
 refine b7 ?_
 refine b7 ?_
 refine c9 [1, 3, 5, 8, 52] ?_
 simp only [go_sem, simprocAttr, sw0]
 refine d5 rfl (fun h59 => ?_) (fun h59 => ?_)
 replace H := n6 h59 H
 refine b7 ?_
 refine c9 [6] ?_
 simp only [go_sem, simprocAttr, sw0]
 refine d7 (PW.Ends.intro (.inr rfl) ?_)
 simp only [go_sem, simprocAttr, sw0]
 obtain rfl := Option.some.inj H
 refine b8 4 (by exact trivial) ?_
 rfl
 replace H := l7 h59 H
 refine d8 ?_
 refine b7 ?_
 refine c9 [5, 8, 12] ?_
 simp only [go_sem, simprocAttr, sw0]
 repeat (refine And.intro (by omega) ?_)
 refine k5 (τ := Unit) [5] 2 (fun _ => []) (fun _ => [{ cells := [.d (I Z15), .d (I Z11), .d (I Z18), .d (I Z17), .d (I Z16), .d (I Z10), .d (I Z13)], e := 23 }, { cells := [.d (I (4 : Int)), .d (I Zj), .d (I Zm), .d (I Zn), .d (I Zo), .d (I Zk)], e := 48 }]) _ _ r (by exact Nat.zero_le _) H ?_ ?_
 intro K_9 H N60 hN60
 refine b7 ?_
 refine c9 [5, 12, 59, 60, 61] ?_
 simp only [go_sem, simprocAttr, sw0]
 refine PW.block ?_
 refine H4 1 ?_
 refine b7 ?_
 refine c9 [5, 12, 59, 60, 61, 62] ?_
 simp only [go_sem, simprocAttr, sw0]
 refine b7 ?_
 refine d5 rfl (fun h61 => ?_) (fun h61 => ?_)
 exact absurd h61 (by decide)
 refine o6 ?_
 refine hN60 [] () _ H (by exact trivial) ?_
 simp only [sw1, go_sem, simprocAttr]
 rintro _ H
 try simp only [go_sem, simprocAttr]
 refine b7 ?_
 obtain ⟨x27, e27, H⟩ := d4 H
 obtain ⟨x28, e28, H⟩ := d4 H
 refine d6 fun K hK => OW.run [6] ?_
 simp only [go_sem, simprocAttr, sw0]
 repeat (refine And.intro (by omega) ?_)
 refine g9 4 rfl rfl rfl (by first | exact rfl | ((simp only [go_sem, List.toList_toArray, simprocAttr]); exact rfl)) ?_ (i8 N _ _ _ _ e27) ?_ ?_ ?_ ?_
 rfl
 exact g8 rfl
 exact .inl rfl
 (simp only [go_sem, Nat.reduceLT])
 refine OW.run [6] ?_
 simp only [go_sem, simprocAttr, sw0]
 refine g9 4 rfl rfl rfl (by first | exact rfl | ((simp only [go_sem, List.toList_toArray, simprocAttr]); exact rfl)) ?_ (i6 N _ _ _ e28) ?_ ?_ ?_ ?_
 rfl
 exact g8 rfl
 exact .inl rfl
 (simp only [go_sem, Nat.reduceLT])
 refine OW.run [6] ?_
 simp only [go_sem, simprocAttr, sw0]
 refine OW.nil (hK _ ?_); clear hK K
 refine d7 (PW.Ends.intro (.inr rfl) ?_)
 simp only [go_sem, simprocAttr, sw0]
 obtain rfl := Option.some.inj H
 refine b8 4 (by exact trivial) ?_
 rfl

end Go.Proofs.YtbndgoeahoadlaaGreatDoor
