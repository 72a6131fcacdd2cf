import Derived.Test.YtbndgoeahoadlaaGreatDoorAsBase
import Derived.Test.YtbndgoeahoadlaaGreatDoorAsX
import Derived.Test.YtbndgoeahoadlaaGreatDoorAsW0
import Derived.Test.YtbndgoeahoadlaaGreatDoorAsW2
import Derived.Test.YtbndgoeahoadlaaGreatDoorAsW3
import Derived.Test.YtbndgoeahoadlaaGreatDoorAsW4
import Derived.Test.YtbndgoeahoadlaaGreatDoorAsW5
set_option linter.all false
namespace Go.Proofs.YtbndgoeahoadlaaGreatDoor
open Go.PW Go.Sh

set_option maxRecDepth 20000
set_option maxHeartbeats 8000000
theorem law07_AccessQuestions_ok (N : Nat) (Zm : Int) (Zi : Int) (Zp : Int) (Zo : Int) (Zn : Int) (Zh : Int) (Zk : Int) (Z11 : Int) (Z15 : List (Int × Int × Int × Int × Int × Int × Int)) (x_0 : Int) (x_1 : Int) (r : Bool) (H : law07_AccessQuestions N Zm Zi Zp Zo Zn Zh Zk Z11 Z15 x_0 x_1 = some r) : CallOK Tryz.prog 13 [(.agg [(I Zm), (I Zi), (I Zp), (I Zo), (I Zn), (I Zh), (I Zk)]), (.agg [(I Z11), (.list Z15.length (Z15.flatMap (fun (x : Int × Int × Int × Int × Int × Int × Int) => [(I x.1), (I x.2.1), (I x.2.2.1), (I x.2.2.2.1), (I x.2.2.2.2.1), (I x.2.2.2.2.2.1), (I x.2.2.2.2.2.2)])))]), (.agg [(I x_0), (I x_1)])] (.d (Bo r)) [] := by
 refine CallOK.of_PW Tryz.func13 rfl (by rw [Tryz.results13]) Tryz.ntmps13 Tryz.call13 ?_
 change PW _ _ _ _ _
 try simp only [go_sem, simprocAttr]
 unfold law07_AccessQuestions at H
 refine PW.seq ?_
 refine PW.regionK fun K hK => OW.run [3, 4, 5] ?_
 simp only [go_sem, simprocAttr, sw0]
 refine OW.nil (hK _ ?_)
 refine PW.seq ?_
 refine PW.seq ?_
 obtain ⟨x1, e1, H⟩ := bnd_some H
 refine PW.regionK fun K hK => OW.run [3, 4, 5, 21] ?_
 simp only [go_sem, simprocAttr, sw0]
 refine OW.call' 4 rfl rfl rfl (by first | exact rfl | ((simp only [go_sem, List.toList_toArray, simprocAttr]); exact rfl)) ?_ (law07_awake_ok N  _ e1) ?_ ?_ ?_ ?_
 rfl
 exact okD_all rfl
 exact .inl rfl
 (simp only [go_sem, Nat.reduceLT])
 refine OW.run [3, 4, 5, 21] ?_
 simp only [go_sem, simprocAttr, sw0]
 refine OW.nil (hK _ ?_)
 refine PW.cond rfl (fun h1 => ?_) (fun h1 => ?_)
 replace H := br_t h1 H
 refine PW.seq ?_
 refine PW.regionK fun K hK => OW.run [6] ?_
 simp only [go_sem, simprocAttr, sw0]
 refine OW.nil (hK _ ?_)
 refine PW.ret ?_
 change PW.Ends _ _ _ _ _ _
 refine PW.Ends.intro (.inr rfl) ?_
 simp only [go_sem, simprocAttr, sw0]
 obtain rfl := Option.some.inj H
 refine RetOK.data' 4 (by exact trivial) ?_
 rfl
 replace H := br_f h1 H
 refine PW.skip ?_
 refine PW.seq ?_
 refine PW.seq ?_
 obtain ⟨x2, e2, H⟩ := bnd_some H
 refine PW.regionK fun K hK => OW.run [3, 4, 5, 24] ?_
 simp only [go_sem, simprocAttr, sw0]
 refine OW.call' 4 rfl rfl rfl (by first | exact rfl | ((simp only [go_sem, List.toList_toArray, simprocAttr]); exact rfl)) ?_ (law07_Few_ok N _ _ _ e2) ?_ ?_ ?_ ?_
 rfl
 · (refine okAll_intro ?_; (simp only [go_sem, sw2, List.length_set, List.length_replicate, and_true, true_and, Nat.le_refl, simprocAttr]; done))
 exact .inl rfl
 (simp only [go_sem, Nat.reduceLT])
 refine OW.run [3, 4, 5, 24] ?_
 simp only [go_sem, simprocAttr, sw0]
 refine OW.nil (hK _ ?_)
 refine PW.cond rfl (fun h2 => ?_) (fun h2 => ?_)
 replace H := br_t h2 H
 refine PW.seq ?_
 refine PW.regionK fun K hK => OW.run [6] ?_
 simp only [go_sem, simprocAttr, sw0]
 refine OW.nil (hK _ ?_)
 refine PW.ret ?_
 change PW.Ends _ _ _ _ _ _
 refine PW.Ends.intro (.inr rfl) ?_
 simp only [go_sem, simprocAttr, sw0]
 obtain rfl := Option.some.inj H
 refine RetOK.data' 4 (by exact trivial) ?_
 rfl
 replace H := br_f h2 H
 refine PW.skip ?_
 refine PW.seq ?_
 obtain ⟨⟨x3, x31⟩, e3, H⟩ := bnd_some H
 refine PW.regionK fun K hK => OW.run [3, 4, 5, 7, 8] ?_
 simp only [go_sem, simprocAttr, sw0]
 repeat (refine And.intro (by omega) ?_)
 refine OW.call' 4 rfl rfl rfl (by first | exact rfl | ((simp only [go_sem, List.toList_toArray, simprocAttr]); exact rfl)) ?_ (access_NextChance_ok N _ _ _ _ _ _ _ _ _ e3) ?_ ?_ ?_ ?_
 rfl
 · (refine okAll_intro ?_; (simp only [go_sem, sw2, List.length_set, List.length_replicate, and_true, true_and, Nat.le_refl, simprocAttr]; done))
 exact .inl rfl
 (simp only [go_sem, Nat.reduceLT])
 refine OW.run [3, 4, 5, 7, 8] ?_
 simp only [go_sem, simprocAttr, sw0]
 refine OW.nil (hK _ ?_)
 refine PW.seq ?_
 obtain ⟨⟨x4, x41⟩, e4, H⟩ := bnd_some H
 obtain ⟨⟨x5, x51⟩, e5, H⟩ := bnd_some H
 refine PW.drawK 10 mixed (by kernel_rfl) fun K hK => ?_
 change FW _ _ _ _ _
 refine FW.run ?_
 simp only [go_sem, simprocAttr, sw0]
 refine FW.call' 4 rfl rfl rfl (by first | exact rfl | ((simp only [go_sem, List.toList_toArray, simprocAttr]); exact rfl)) ?_ (ref07_Copy_ok N _ _ _ e4) ?_ ?_ ?_ ?_
 rfl
 · (refine okAll_intro ?_; (simp only [go_sem, sw2, List.length_set, List.length_replicate, and_true, true_and, Nat.le_refl, simprocAttr]; done))
 exact .inl rfl
 (simp only [go_sem, Nat.reduceLT])
 refine FW.run ?_
 simp only [go_sem, simprocAttr, sw0]
 repeat (refine And.intro (by omega) ?_)
 refine FW.call' 4 rfl rfl rfl (by first | exact rfl | ((simp only [go_sem, List.toList_toArray, simprocAttr]); exact rfl)) ?_ (access_Holder_ok N _ _ _ _ _ _ _ _ _ _ _ e5) ?_ ?_ ?_ ?_
 rfl
 · (refine okAll_intro ?_; (simp only [go_sem, sw2, List.length_set, List.length_replicate, and_true, true_and, Nat.le_refl, simprocAttr]; done))
 exact .inl rfl
 (simp only [go_sem, Nat.reduceLT])
 refine FW.run ?_
 simp only [go_sem, simprocAttr, sw0]
 refine FW.nil ?_
 change OW _ _ _ _ _ _
 refine OW.run [3, 4, 5, 7, 8, 9, 10] ?_
 simp only [go_sem, simprocAttr, sw0]
 refine OW.nil (hK _ ?_)
 refine PW.seq ?_
 obtain ⟨⟨x6, x61⟩, e6, H⟩ := bnd_some H
 obtain ⟨⟨x7, x71⟩, e7, H⟩ := bnd_some H
 refine PW.drawK 10 mixed (by kernel_rfl) fun K hK => ?_
 change FW _ _ _ _ _
 refine FW.run ?_
 simp only [go_sem, simprocAttr, sw0]
 refine FW.call' 4 rfl rfl rfl (by first | exact rfl | ((simp only [go_sem, List.toList_toArray, simprocAttr]); exact rfl)) ?_ (ref07_Copy_ok N _ _ _ e6) ?_ ?_ ?_ ?_
 rfl
 · (refine okAll_intro ?_; (simp only [go_sem, sw2, List.length_set, List.length_replicate, and_true, true_and, Nat.le_refl, simprocAttr]; done))
 exact .inl rfl
 (simp only [go_sem, Nat.reduceLT])
 refine FW.run ?_
 simp only [go_sem, simprocAttr, sw0]
 repeat (refine And.intro (by omega) ?_)
 refine FW.call' 4 rfl rfl rfl (by first | exact rfl | ((simp only [go_sem, List.toList_toArray, simprocAttr]); exact rfl)) ?_ (access_Asking_ok N _ _ _ _ _ _ _ _ _ _ _ e7) ?_ ?_ ?_ ?_
 rfl
 · (refine okAll_intro ?_; (simp only [go_sem, sw2, List.length_set, List.length_replicate, and_true, true_and, Nat.le_refl, simprocAttr]; done))
 exact .inl rfl
 (simp only [go_sem, Nat.reduceLT])
 refine FW.run ?_
 simp only [go_sem, simprocAttr, sw0]
 refine FW.nil ?_
 change OW _ _ _ _ _ _
 refine OW.run [3, 4, 5, 7, 8, 9, 10, 11, 12] ?_
 simp only [go_sem, simprocAttr, sw0]
 refine OW.nil (hK _ ?_)
 refine PW.seq ?_
 obtain ⟨x8, e8, H⟩ := bnd_some H
 refine PW.regionK fun K hK => OW.run [3, 4, 5, 7, 8, 9, 10, 11, 12, 13] ?_
 simp only [go_sem, simprocAttr, sw0]
 refine OW.call' 4 rfl rfl rfl (by first | exact rfl | ((simp only [go_sem, List.toList_toArray, simprocAttr]); exact rfl)) ?_ (ref07_CheckRules_ok N _ _ _ _ _ _ _ _ e8) ?_ ?_ ?_ ?_
 rfl
 · (refine okAll_intro ?_; (simp only [go_sem, sw2, List.length_set, List.length_replicate, and_true, true_and, Nat.le_refl, simprocAttr]; done))
 exact .inl rfl
 (simp only [go_sem, Nat.reduceLT])
 refine OW.run [3, 4, 5, 7, 8, 9, 10, 11, 12, 13] ?_
 simp only [go_sem, simprocAttr, sw0]
 refine OW.nil (hK _ ?_)
 refine PW.seq ?_
 refine PW.regionK fun K hK => OW.run [3, 4, 5, 7, 8, 9, 10, 11, 12, 13, 14] ?_
 simp only [go_sem, simprocAttr, sw0]
 refine OW.nil (hK _ ?_)
 refine PW.joinS (τ := Int) [3, 4, 5, 7, 8, 9, 10, 11, 12, 13, 14] 3 (fun d => [(14, .d (I d))]) (fun d => [{ cells := [.d (I Zm), .d (I Zi), .d (I Zp), .d (I Zo), .d (I Zn), .d (I Zh), .d (I Zk)], e := 23 }, { cells := [.d (I Z11), .d (.list Z15.length (Z15.flatMap (fun (x : Int × Int × Int × Int × Int × Int × Int) => [(I x.1), (I x.2.1), (I x.2.2.1), (I x.2.2.2.1), (I x.2.2.2.2.1), (I x.2.2.2.2.2.1), (I x.2.2.2.2.2.2)])))], e := 30 }, { cells := [.d (I x_0), .d (I x_1)], e := 100 }]) _ _ r (by exact Nat.zero_le _) H ?_ ?_
 intro K_ H N3 hN3
 refine PW.seq ?_
 refine PW.regionK fun K hK => OW.run [3, 4, 5, 7, 8, 9, 10, 11, 12, 13, 14, 54] ?_
 simp only [go_sem, simprocAttr, sw0]
 refine OW.nil (hK _ ?_)
 refine PW.cond rfl (fun h4 => ?_) (fun h4 => ?_)
 replace H := br_t h4 H
 obtain ⟨x9, e9, H⟩ := bnd_some H
 refine PW.regionK fun K hK => OW.run [3, 4, 5, 7, 8, 9, 10, 11, 12, 13, 14] ?_
 simp only [go_sem, simprocAttr, sw0]
 repeat (refine And.intro (by omega) ?_)
 refine OW.call' 4 rfl rfl rfl (by first | exact rfl | ((simp only [go_sem, List.toList_toArray, simprocAttr]); exact rfl)) ?_ (ref07_TickErr_ok N _ _ e9) ?_ ?_ ?_ ?_
 rfl
 exact okD_all rfl
 exact .inl rfl
 (simp only [go_sem, Nat.reduceLT])
 refine OW.run [3, 4, 5, 7, 8, 9, 10, 11, 12, 13, 14] ?_
 simp only [go_sem, simprocAttr, sw0]
 refine OW.nil (hK _ ?_)
 refine hN3 [] x9 _ H (by exact trivial) ?_
 simp only [sw1, go_sem, simprocAttr]
 replace H := br_f h4 H
 refine PW.skip ?_
 refine hN3 [] x8 _ H (by exact trivial) ?_
 simp only [sw1, go_sem, simprocAttr]
 rintro d H
 try simp only [go_sem, simprocAttr]
 refine PW.seq ?_
 refine PW.regionK fun K hK => OW.run [3, 4, 5, 7, 8, 9, 10, 11, 12, 13, 14, 15] ?_
 simp only [go_sem, simprocAttr, sw0]
 refine OW.nil (hK _ ?_)
 refine PW.joinS (τ := Int × Int) [3, 4, 5, 7, 8, 9, 10, 11, 12, 13, 14, 15] 3 (fun (d1, want) => [(14, .d (I d1)), (15, .d (I want))]) (fun (d1, want) => [{ cells := [.d (I Zm), .d (I Zi), .d (I Zp), .d (I Zo), .d (I Zn), .d (I Zh), .d (I Zk)], e := 23 }, { cells := [.d (I Z11), .d (.list Z15.length (Z15.flatMap (fun (x : Int × Int × Int × Int × Int × Int × Int) => [(I x.1), (I x.2.1), (I x.2.2.1), (I x.2.2.2.1), (I x.2.2.2.2.1), (I x.2.2.2.2.2.1), (I x.2.2.2.2.2.2)])))], e := 30 }, { cells := [.d (I x_0), .d (I x_1)], e := 100 }]) _ _ r (by exact Nat.zero_le _) H ?_ ?_
 intro K_1 H N5 hN5
 refine PW.seq ?_
 refine PW.regionK fun K hK => OW.run [3, 4, 5, 7, 8, 9, 10, 11, 12, 13, 14, 15, 59] ?_
 simp only [go_sem, simprocAttr, sw0]
 refine OW.nil (hK _ ?_)
 refine PW.cond rfl (fun h6 => ?_) (fun h6 => ?_)
 replace H := br_t h6 H
 refine PW.seq ?_
 obtain ⟨⟨x10, x101⟩, e10, H⟩ := bnd_some H
 refine PW.regionK fun K hK => OW.run [3, 4, 5, 7, 8, 9, 10, 11, 12, 13, 14, 16, 17] ?_
 simp only [go_sem, simprocAttr, sw0]
 repeat (refine And.intro (by omega) ?_)
 refine OW.call' 4 rfl rfl rfl (by first | exact rfl | ((simp only [go_sem, List.toList_toArray, simprocAttr]); exact rfl)) ?_ (ref07_NextChance_ok N _ _ _ _ _ _ _ _ _ e10) ?_ ?_ ?_ ?_
 rfl
 · (refine okAll_intro ?_; (simp only [go_sem, sw2, List.length_set, List.length_replicate, and_true, true_and, Nat.le_refl, simprocAttr]; done))
 exact .inl rfl
 (simp only [go_sem, Nat.reduceLT])
 refine OW.run [3, 4, 5, 7, 8, 9, 10, 11, 12, 13, 14, 16, 17] ?_
 simp only [go_sem, simprocAttr, sw0]
 refine OW.nil (hK _ ?_)
 refine PW.seq ?_
 refine PW.regionK fun K hK => OW.run [3, 4, 5, 7, 8, 9, 10, 11, 12, 13, 14, 15, 17] ?_
 simp only [go_sem, simprocAttr, sw0]
 refine OW.nil (hK _ ?_)
 refine PW.seq ?_
 refine PW.regionK fun K hK => OW.run [3, 4, 5, 7, 8, 9, 10, 11, 12, 13, 14, 15, 69] ?_
 simp only [go_sem, simprocAttr, sw0]
 refine OW.nil (hK _ ?_)
 refine PW.cond rfl (fun h7 => ?_) (fun h7 => ?_)
 replace H := br_t h7 H
 refine PW.regionK fun K hK => OW.run [3, 4, 5, 7, 8, 9, 10, 11, 12, 13, 14, 15] ?_
 simp only [go_sem, simprocAttr, sw0]
 refine OW.nil (hK _ ?_)
 refine hN5 [] ((12 : Int), (0 : Int)) _ H (by exact trivial) ?_
 simp only [sw1, go_sem, simprocAttr]
 replace H := br_f h7 H
 refine PW.skip ?_
 refine hN5 [] (d, x10) _ H (by exact trivial) ?_
 simp only [sw1, go_sem, simprocAttr]
 replace H := br_f h6 H
 refine PW.skip ?_
 refine hN5 [] (d, (0 : Int)) _ H (by exact trivial) ?_
 simp only [sw1, go_sem, simprocAttr]
 rintro ⟨d1, want⟩ H
 try simp only [go_sem, simprocAttr]
 refine PW.seq ?_
 refine PW.seq ?_
 refine PW.regionK fun K hK => OW.run [3, 4, 5, 9, 10, 11, 12, 13, 77] ?_
 simp only [go_sem, simprocAttr, sw0]
 refine OW.nil (hK _ ?_)
 refine PW.cond rfl (fun h8 => ?_) (fun h8 => ?_)
 replace H := br_t h8 H
 refine PW.seq ?_
 refine PW.regionK fun K hK => OW.run [6] ?_
 simp only [go_sem, simprocAttr, sw0]
 refine OW.nil (hK _ ?_)
 refine PW.ret ?_
 change PW.Ends _ _ _ _ _ _
 refine PW.Ends.intro (.inr rfl) ?_
 simp only [go_sem, simprocAttr, sw0]
 obtain rfl := Option.some.inj H
 refine RetOK.data' 4 (by exact trivial) ?_
 rfl
 replace H := br_f h8 H
 refine PW.skip ?_
 refine PW.joinS (τ := Int) [3, 4, 5, 9, 10, 11, 12, 13] 3 (fun c => [(13, .d (I c))]) (fun c => [{ cells := [.d (I Zm), .d (I Zi), .d (I Zp), .d (I Zo), .d (I Zn), .d (I Zh), .d (I Zk)], e := 23 }, { cells := [.d (I Z11), .d (.list Z15.length (Z15.flatMap (fun (x : Int × Int × Int × Int × Int × Int × Int) => [(I x.1), (I x.2.1), (I x.2.2.1), (I x.2.2.2.1), (I x.2.2.2.2.1), (I x.2.2.2.2.2.1), (I x.2.2.2.2.2.2)])))], e := 30 }, { cells := [.d (I x_0), .d (I x_1)], e := 100 }]) _ _ r (by exact Nat.zero_le _) H ?_ ?_
 intro K_2 H N9 hN9
 refine PW.seq ?_
 refine PW.regionK fun K hK => OW.run [3, 4, 5, 9, 10, 11, 12, 13, 79] ?_
 simp only [go_sem, simprocAttr, sw0]
 refine OW.nil (hK _ ?_)
 refine PW.cond rfl (fun h10 => ?_) (fun h10 => ?_)
 replace H := br_t h10 H
 obtain ⟨x11, e11, H⟩ := bnd_some H
 refine PW.regionK fun K hK => OW.run [3, 4, 5, 9, 10, 11, 12, 13] ?_
 simp only [go_sem, simprocAttr, sw0]
 refine OW.call' 4 rfl rfl rfl (by first | exact rfl | ((simp only [go_sem, List.toList_toArray, simprocAttr]); exact rfl)) ?_ (ref07_CheckState_ok N _ _ _ _ _ _ _ _ _ _ e11) ?_ ?_ ?_ ?_
 rfl
 · (refine okAll_intro ?_; (simp only [go_sem, sw2, List.length_set, List.length_replicate, and_true, true_and, Nat.le_refl, simprocAttr]; done))
 exact .inl rfl
 (simp only [go_sem, Nat.reduceLT])
 refine OW.run [3, 4, 5, 9, 10, 11, 12, 13] ?_
 simp only [go_sem, simprocAttr, sw0]
 refine OW.nil (hK _ ?_)
 refine hN9 [] x11 _ H (by exact trivial) ?_
 simp only [sw1, go_sem, simprocAttr]
 replace H := br_f h10 H
 refine PW.skip ?_
 refine hN9 [] x8 _ H (by exact trivial) ?_
 simp only [sw1, go_sem, simprocAttr]
 rintro c H
 try simp only [go_sem, simprocAttr]
 refine PW.joinS (τ := Int) [4, 5, 9, 10, 11, 12, 13] 3 (fun c1 => [(13, .d (I c1))]) (fun c1 => [{ cells := [.d (I Zm), .d (I Zi), .d (I Zp), .d (I Zo), .d (I Zn), .d (I Zh), .d (I Zk)], e := 23 }, { cells := [.d (I Z11), .d (.list Z15.length (Z15.flatMap (fun (x : Int × Int × Int × Int × Int × Int × Int) => [(I x.1), (I x.2.1), (I x.2.2.1), (I x.2.2.2.1), (I x.2.2.2.2.1), (I x.2.2.2.2.2.1), (I x.2.2.2.2.2.2)])))], e := 30 }, { cells := [.d (I x_0), .d (I x_1)], e := 100 }]) _ _ r (by exact Nat.zero_le _) H ?_ ?_
 intro K_3 H N11 hN11
 refine PW.seq ?_
 refine PW.regionK fun K hK => OW.run [3, 4, 5, 9, 10, 11, 12, 13, 84] ?_
 simp only [go_sem, simprocAttr, sw0]
 refine OW.nil (hK _ ?_)
 refine PW.cond rfl (fun h12 => ?_) (fun h12 => ?_)
 replace H := br_t h12 H
 obtain ⟨x12, e12, H⟩ := bnd_some H
 refine PW.regionK fun K hK => OW.run [4, 5, 9, 10, 11, 12, 13] ?_
 simp only [go_sem, simprocAttr, sw0]
 repeat (refine And.intro (by omega) ?_)
 refine OW.call' 4 rfl rfl rfl (by first | exact rfl | ((simp only [go_sem, List.toList_toArray, simprocAttr]); exact rfl)) ?_ (ref07_IdentityErr_ok N _ _ _ _ _ _ _ _ _ e12) ?_ ?_ ?_ ?_
 rfl
 · (refine okAll_intro ?_; (simp only [go_sem, sw2, List.length_set, List.length_replicate, and_true, true_and, Nat.le_refl, simprocAttr]; done))
 exact .inl rfl
 (simp only [go_sem, Nat.reduceLT])
 refine OW.run [4, 5, 9, 10, 11, 12, 13] ?_
 simp only [go_sem, simprocAttr, sw0]
 refine OW.nil (hK _ ?_)
 refine hN11 [] x12 _ H (by exact trivial) ?_
 simp only [sw1, go_sem, simprocAttr]
 replace H := br_f h12 H
 refine PW.skip ?_
 refine hN11 [] c _ H (by exact trivial) ?_
 simp only [sw1, go_sem, simprocAttr]
 rintro c1 H
 try simp only [go_sem, simprocAttr]
 refine PW.seq ?_
 refine PW.seq ?_
 refine PW.regionK fun K hK => OW.run [4, 5, 9, 10, 11, 12, 13, 90] ?_
 simp only [go_sem, simprocAttr, sw0]
 refine OW.nil (hK _ ?_)
 refine PW.cond rfl (fun h13 => ?_) (fun h13 => ?_)
 replace H := br_t h13 H
 refine PW.seq ?_
 refine PW.regionK fun K hK => OW.run [6] ?_
 simp only [go_sem, simprocAttr, sw0]
 refine OW.nil (hK _ ?_)
 refine PW.ret ?_
 change PW.Ends _ _ _ _ _ _
 refine PW.Ends.intro (.inr rfl) ?_
 simp only [go_sem, simprocAttr, sw0]
 obtain rfl := Option.some.inj H
 refine RetOK.data' 4 (by exact trivial) ?_
 rfl
 replace H := br_f h13 H
 refine PW.skip ?_
 refine PW.seq ?_
 obtain ⟨⟨x13, x131⟩, e13, H⟩ := bnd_some H
 refine PW.regionK fun K hK => OW.run [4, 5, 9, 10, 11, 12, 18, 19] ?_
 simp only [go_sem, simprocAttr, sw0]
 repeat (refine And.intro (by omega) ?_)
 refine OW.call' 4 rfl rfl rfl (by first | exact rfl | ((simp only [go_sem, List.toList_toArray, simprocAttr]); exact rfl)) ?_ (ref07_Holder_ok N _ _ _ _ e13) ?_ ?_ ?_ ?_
 rfl
 · (refine okAll_intro ?_; (simp only [go_sem, sw2, List.length_set, List.length_replicate, and_true, true_and, Nat.le_refl, simprocAttr]; done))
 exact .inl rfl
 (simp only [go_sem, Nat.reduceLT])
 refine OW.run [4, 5, 9, 10, 11, 12, 18, 19] ?_
 simp only [go_sem, simprocAttr, sw0]
 refine OW.nil (hK _ ?_)
 refine PW.seq ?_
 obtain ⟨x14, e14, H⟩ := bnd_some H
 obtain ⟨x15, e15, H⟩ := bnd_some H
 refine PW.regionK fun K hK => ?_
 refine OW.toS [(6, .d (Bo (((x71 == (0 : Int)) && x15) && (((x131 && (x51 == (0 : Int))) && (x5 == x13)) || (((!x131) && (x51 == (12 : Int))) && (x5 == (0 : Int)))))))] [{ cells := [.d (I Zm), .d (I Zi), .d (I Zp), .d (I Zo), .d (I Zn), .d (I Zh), .d (I Zk)], e := 23 }, { cells := [.d (I Z11), .d (.list Z15.length (Z15.flatMap (fun (x : Int × Int × Int × Int × Int × Int × Int) => [(I x.1), (I x.2.1), (I x.2.2.1), (I x.2.2.2.1), (I x.2.2.2.2.1), (I x.2.2.2.2.2.1), (I x.2.2.2.2.2.2)])))], e := 30 }, { cells := [.d (I x_0), .d (I x_1)], e := 100 }] ?_ (hK _ ?_)
 intro K hKE
 rcases Bool.eq_false_or_eq_true ((x71 == (0 : Int))) with ha0 | ha0
 rcases Bool.eq_false_or_eq_true (x15) with ha1 | ha1
 rcases Bool.eq_false_or_eq_true (x131) with ha2 | ha2
 rcases Bool.eq_false_or_eq_true ((x51 == (0 : Int))) with ha3 | ha3
 rcases Bool.eq_false_or_eq_true ((x5 == x13)) with ha4 | ha4
 refine OW.run [6] ?_
 (simp only [go_sem, simprocAttr, sw0, ha0, ha1, ha2, ha3, ha4])
 repeat (refine And.intro (by omega) ?_)
 refine OW.callGh' 4 rfl rfl ?_ (fun hg => by first | rfl | (simp only [go_sem, ↓reduceIte]; rfl)) (fun hg => by (first | ((simp only [go_sem, List.toList_toArray, simprocAttr, ha0, ha1, ha2, ha3, ha4]); exact rfl) | exact rfl)) (fun hg => ?_) (fun hg => (ref07_Asking_ok N _ _ _ _ (grd_t hg e14))) ?_ ?_ ?_ ?_
 · (first | rfl | (simp only [go_sem, simprocAttr, ha0, ha1, ha2, ha3, ha4]; done) | (simp only [go_sem, simprocAttr, ha0, ha1, ha2, ha3, ha4]; rfl))
 · first | (rfl; done) | (exfalso; simp only [ha0, ha1, ha2, ha3, ha4, sb0] at hg)
 · intro hg; first | ((refine okAll_intro ?_; (simp only [go_sem, sw2, List.length_set, List.length_replicate, and_true, true_and, Nat.le_refl, simprocAttr]; done)); done) | (exfalso; simp only [ha0, ha1, ha2, ha3, ha4, sb0] at hg)
 exact .inl rfl
 (simp only [go_sem, Nat.reduceLT])
 refine OW.run [6] ?_
 (simp only [go_sem, simprocAttr, sw0, ha0, ha1, ha2, ha3, ha4])
 refine OW.callGh' 4 rfl rfl ?_ (fun hg => by first | rfl | (simp only [go_sem, ↓reduceIte]; rfl)) (fun hg => by (first | ((simp only [go_sem, List.toList_toArray, simprocAttr, ha0, ha1, ha2, ha3, ha4]); exact rfl) | exact rfl)) (fun hg => ?_) (fun hg => (base_Ints_ok N _ _ _ (grd_t hg e15))) ?_ ?_ ?_ ?_
 · (first | rfl | (simp only [go_sem, simprocAttr, ha0, ha1, ha2, ha3, ha4]; done) | (simp only [go_sem, simprocAttr, ha0, ha1, ha2, ha3, ha4]; rfl))
 · first | (rfl; done) | (exfalso; simp only [ha0, ha1, ha2, ha3, ha4, sb0] at hg)
 · intro hg; first | (exact okD_all rfl; done) | (exfalso; simp only [ha0, ha1, ha2, ha3, ha4, sb0] at hg)
 exact .inl rfl
 (simp only [go_sem, Nat.reduceLT])
 refine OW.run [6] ?_
 (simp only [go_sem, simprocAttr, sw0, ha0, ha1, ha2, ha3, ha4])
 refine OW.nil ((congrArg K ?_).mpr hKE)
 · (first | rfl | (simp only [go_sem, simprocAttr, ha0, ha1, ha2, ha3, ha4]; done) | (simp only [go_sem, simprocAttr, ha0, ha1, ha2, ha3, ha4]; rfl))
 refine OW.run [6] ?_
 (simp only [go_sem, simprocAttr, sw0, ha0, ha1, ha2, ha3, ha4])
 repeat (refine And.intro (by omega) ?_)
 refine OW.callGh' 4 rfl rfl ?_ (fun hg => by first | rfl | (simp only [go_sem, ↓reduceIte]; rfl)) (fun hg => by (first | ((simp only [go_sem, List.toList_toArray, simprocAttr, ha0, ha1, ha2, ha3, ha4]); exact rfl) | exact rfl)) (fun hg => ?_) (fun hg => (ref07_Asking_ok N _ _ _ _ (grd_t hg e14))) ?_ ?_ ?_ ?_
 · (first | rfl | (simp only [go_sem, simprocAttr, ha0, ha1, ha2, ha3, ha4]; done) | (simp only [go_sem, simprocAttr, ha0, ha1, ha2, ha3, ha4]; rfl))
 · first | (rfl; done) | (exfalso; simp only [ha0, ha1, ha2, ha3, ha4, sb0] at hg)
 · intro hg; first | ((refine okAll_intro ?_; (simp only [go_sem, sw2, List.length_set, List.length_replicate, and_true, true_and, Nat.le_refl, simprocAttr]; done)); done) | (exfalso; simp only [ha0, ha1, ha2, ha3, ha4, sb0] at hg)
 exact .inl rfl
 (simp only [go_sem, Nat.reduceLT])
 refine OW.run [6] ?_
 (simp only [go_sem, simprocAttr, sw0, ha0, ha1, ha2, ha3, ha4])
 refine OW.callGh' 4 rfl rfl ?_ (fun hg => by first | rfl | (simp only [go_sem, ↓reduceIte]; rfl)) (fun hg => by (first | ((simp only [go_sem, List.toList_toArray, simprocAttr, ha0, ha1, ha2, ha3, ha4]); exact rfl) | exact rfl)) (fun hg => ?_) (fun hg => (base_Ints_ok N _ _ _ (grd_t hg e15))) ?_ ?_ ?_ ?_
 · (first | rfl | (simp only [go_sem, simprocAttr, ha0, ha1, ha2, ha3, ha4]; done) | (simp only [go_sem, simprocAttr, ha0, ha1, ha2, ha3, ha4]; rfl))
 · first | (rfl; done) | (exfalso; simp only [ha0, ha1, ha2, ha3, ha4, sb0] at hg)
 · intro hg; first | (exact okD_all rfl; done) | (exfalso; simp only [ha0, ha1, ha2, ha3, ha4, sb0] at hg)
 exact .inl rfl
 (simp only [go_sem, Nat.reduceLT])
 refine OW.run [6] ?_
 (simp only [go_sem, simprocAttr, sw0, ha0, ha1, ha2, ha3, ha4])
 refine OW.nil ((congrArg K ?_).mpr hKE)
 · (first | rfl | (simp only [go_sem, simprocAttr, ha0, ha1, ha2, ha3, ha4]; done) | (simp only [go_sem, simprocAttr, ha0, ha1, ha2, ha3, ha4]; rfl))
 refine OW.run [6] ?_
 (simp only [go_sem, simprocAttr, sw0, ha0, ha1, ha2, ha3])
 repeat (refine And.intro (by omega) ?_)
 refine OW.callGh' 4 rfl rfl ?_ (fun hg => by first | rfl | (simp only [go_sem, ↓reduceIte]; rfl)) (fun hg => by (first | ((simp only [go_sem, List.toList_toArray, simprocAttr, ha0, ha1, ha2, ha3]); exact rfl) | exact rfl)) (fun hg => ?_) (fun hg => (ref07_Asking_ok N _ _ _ _ (grd_t hg e14))) ?_ ?_ ?_ ?_
 · (first | rfl | (simp only [go_sem, simprocAttr, ha0, ha1, ha2, ha3]; done) | (simp only [go_sem, simprocAttr, ha0, ha1, ha2, ha3]; rfl))
 · first | (rfl; done) | (exfalso; simp only [ha0, ha1, ha2, ha3, sb0] at hg)
 · intro hg; first | ((refine okAll_intro ?_; (simp only [go_sem, sw2, List.length_set, List.length_replicate, and_true, true_and, Nat.le_refl, simprocAttr]; done)); done) | (exfalso; simp only [ha0, ha1, ha2, ha3, sb0] at hg)
 exact .inl rfl
 (simp only [go_sem, Nat.reduceLT])
 refine OW.run [6] ?_
 (simp only [go_sem, simprocAttr, sw0, ha0, ha1, ha2, ha3])
 refine OW.callGh' 4 rfl rfl ?_ (fun hg => by first | rfl | (simp only [go_sem, ↓reduceIte]; rfl)) (fun hg => by (first | ((simp only [go_sem, List.toList_toArray, simprocAttr, ha0, ha1, ha2, ha3]); exact rfl) | exact rfl)) (fun hg => ?_) (fun hg => (base_Ints_ok N _ _ _ (grd_t hg e15))) ?_ ?_ ?_ ?_
 · (first | rfl | (simp only [go_sem, simprocAttr, ha0, ha1, ha2, ha3]; done) | (simp only [go_sem, simprocAttr, ha0, ha1, ha2, ha3]; rfl))
 · first | (rfl; done) | (exfalso; simp only [ha0, ha1, ha2, ha3, sb0] at hg)
 · intro hg; first | (exact okD_all rfl; done) | (exfalso; simp only [ha0, ha1, ha2, ha3, sb0] at hg)
 exact .inl rfl
 (simp only [go_sem, Nat.reduceLT])
 refine OW.run [6] ?_
 (simp only [go_sem, simprocAttr, sw0, ha0, ha1, ha2, ha3])
 refine OW.nil ((congrArg K ?_).mpr hKE)
 · (first | rfl | (simp only [go_sem, simprocAttr, ha0, ha1, ha2, ha3]; done) | (simp only [go_sem, simprocAttr, ha0, ha1, ha2, ha3]; rfl))
 rcases Bool.eq_false_or_eq_true ((x51 == (0 : Int))) with ha3 | ha3
 rcases Bool.eq_false_or_eq_true ((x5 == x13)) with ha4 | ha4
 rcases Bool.eq_false_or_eq_true ((x51 == (12 : Int))) with ha5 | ha5
 refine OW.run [6] ?_
 (simp only [go_sem, simprocAttr, sw0, ha0, ha1, ha2, ha3, ha4, ha5])
 repeat (refine And.intro (by omega) ?_)
 refine OW.callGh' 4 rfl rfl ?_ (fun hg => by first | rfl | (simp only [go_sem, ↓reduceIte]; rfl)) (fun hg => by (first | ((simp only [go_sem, List.toList_toArray, simprocAttr, ha0, ha1, ha2, ha3, ha4, ha5]); exact rfl) | exact rfl)) (fun hg => ?_) (fun hg => (ref07_Asking_ok N _ _ _ _ (grd_t hg e14))) ?_ ?_ ?_ ?_
 · (first | rfl | (simp only [go_sem, simprocAttr, ha0, ha1, ha2, ha3, ha4, ha5]; done) | (simp only [go_sem, simprocAttr, ha0, ha1, ha2, ha3, ha4, ha5]; rfl))
 · first | (rfl; done) | (exfalso; simp only [ha0, ha1, ha2, ha3, ha4, ha5, sb0] at hg)
 · intro hg; first | ((refine okAll_intro ?_; (simp only [go_sem, sw2, List.length_set, List.length_replicate, and_true, true_and, Nat.le_refl, simprocAttr]; done)); done) | (exfalso; simp only [ha0, ha1, ha2, ha3, ha4, ha5, sb0] at hg)
 exact .inl rfl
 (simp only [go_sem, Nat.reduceLT])
 refine OW.run [6] ?_
 (simp only [go_sem, simprocAttr, sw0, ha0, ha1, ha2, ha3, ha4, ha5])
 refine OW.callGh' 4 rfl rfl ?_ (fun hg => by first | rfl | (simp only [go_sem, ↓reduceIte]; rfl)) (fun hg => by (first | ((simp only [go_sem, List.toList_toArray, simprocAttr, ha0, ha1, ha2, ha3, ha4, ha5]); exact rfl) | exact rfl)) (fun hg => ?_) (fun hg => (base_Ints_ok N _ _ _ (grd_t hg e15))) ?_ ?_ ?_ ?_
 · (first | rfl | (simp only [go_sem, simprocAttr, ha0, ha1, ha2, ha3, ha4, ha5]; done) | (simp only [go_sem, simprocAttr, ha0, ha1, ha2, ha3, ha4, ha5]; rfl))
 · first | (rfl; done) | (exfalso; simp only [ha0, ha1, ha2, ha3, ha4, ha5, sb0] at hg)
 · intro hg; first | (exact okD_all rfl; done) | (exfalso; simp only [ha0, ha1, ha2, ha3, ha4, ha5, sb0] at hg)
 exact .inl rfl
 (simp only [go_sem, Nat.reduceLT])
 refine OW.run [6] ?_
 (simp only [go_sem, simprocAttr, sw0, ha0, ha1, ha2, ha3, ha4, ha5])
 refine OW.nil ((congrArg K ?_).mpr hKE)
 · (first | rfl | (simp only [go_sem, simprocAttr, ha0, ha1, ha2, ha3, ha4, ha5]; done) | (simp only [go_sem, simprocAttr, ha0, ha1, ha2, ha3, ha4, ha5]; rfl))
 refine OW.run [6] ?_
 (simp only [go_sem, simprocAttr, sw0, ha0, ha1, ha2, ha3, ha4, ha5])
 repeat (refine And.intro (by omega) ?_)
 refine OW.callGh' 4 rfl rfl ?_ (fun hg => by first | rfl | (simp only [go_sem, ↓reduceIte]; rfl)) (fun hg => by (first | ((simp only [go_sem, List.toList_toArray, simprocAttr, ha0, ha1, ha2, ha3, ha4, ha5]); exact rfl) | exact rfl)) (fun hg => ?_) (fun hg => (ref07_Asking_ok N _ _ _ _ (grd_t hg e14))) ?_ ?_ ?_ ?_
 · (first | rfl | (simp only [go_sem, simprocAttr, ha0, ha1, ha2, ha3, ha4, ha5]; done) | (simp only [go_sem, simprocAttr, ha0, ha1, ha2, ha3, ha4, ha5]; rfl))
 · first | (rfl; done) | (exfalso; simp only [ha0, ha1, ha2, ha3, ha4, ha5, sb0] at hg)
 · intro hg; first | ((refine okAll_intro ?_; (simp only [go_sem, sw2, List.length_set, List.length_replicate, and_true, true_and, Nat.le_refl, simprocAttr]; done)); done) | (exfalso; simp only [ha0, ha1, ha2, ha3, ha4, ha5, sb0] at hg)
 exact .inl rfl
 (simp only [go_sem, Nat.reduceLT])
 refine OW.run [6] ?_
 (simp only [go_sem, simprocAttr, sw0, ha0, ha1, ha2, ha3, ha4, ha5])
 refine OW.callGh' 4 rfl rfl ?_ (fun hg => by first | rfl | (simp only [go_sem, ↓reduceIte]; rfl)) (fun hg => by (first | ((simp only [go_sem, List.toList_toArray, simprocAttr, ha0, ha1, ha2, ha3, ha4, ha5]); exact rfl) | exact rfl)) (fun hg => ?_) (fun hg => (base_Ints_ok N _ _ _ (grd_t hg e15))) ?_ ?_ ?_ ?_
 · (first | rfl | (simp only [go_sem, simprocAttr, ha0, ha1, ha2, ha3, ha4, ha5]; done) | (simp only [go_sem, simprocAttr, ha0, ha1, ha2, ha3, ha4, ha5]; rfl))
 · first | (rfl; done) | (exfalso; simp only [ha0, ha1, ha2, ha3, ha4, ha5, sb0] at hg)
 · intro hg; first | (exact okD_all rfl; done) | (exfalso; simp only [ha0, ha1, ha2, ha3, ha4, ha5, sb0] at hg)
 exact .inl rfl
 (simp only [go_sem, Nat.reduceLT])
 refine OW.run [6] ?_
 (simp only [go_sem, simprocAttr, sw0, ha0, ha1, ha2, ha3, ha4, ha5])
 refine OW.nil ((congrArg K ?_).mpr hKE)
 · (first | rfl | (simp only [go_sem, simprocAttr, ha0, ha1, ha2, ha3, ha4, ha5]; done) | (simp only [go_sem, simprocAttr, ha0, ha1, ha2, ha3, ha4, ha5]; rfl))
 rcases Bool.eq_false_or_eq_true ((x51 == (12 : Int))) with ha5 | ha5
 refine OW.run [6] ?_
 (simp only [go_sem, simprocAttr, sw0, ha0, ha1, ha2, ha3, ha4, ha5])
 repeat (refine And.intro (by omega) ?_)
 refine OW.callGh' 4 rfl rfl ?_ (fun hg => by first | rfl | (simp only [go_sem, ↓reduceIte]; rfl)) (fun hg => by (first | ((simp only [go_sem, List.toList_toArray, simprocAttr, ha0, ha1, ha2, ha3, ha4, ha5]); exact rfl) | exact rfl)) (fun hg => ?_) (fun hg => (ref07_Asking_ok N _ _ _ _ (grd_t hg e14))) ?_ ?_ ?_ ?_
 · (first | rfl | (simp only [go_sem, simprocAttr, ha0, ha1, ha2, ha3, ha4, ha5]; done) | (simp only [go_sem, simprocAttr, ha0, ha1, ha2, ha3, ha4, ha5]; rfl))
 · first | (rfl; done) | (exfalso; simp only [ha0, ha1, ha2, ha3, ha4, ha5, sb0] at hg)
 · intro hg; first | ((refine okAll_intro ?_; (simp only [go_sem, sw2, List.length_set, List.length_replicate, and_true, true_and, Nat.le_refl, simprocAttr]; done)); done) | (exfalso; simp only [ha0, ha1, ha2, ha3, ha4, ha5, sb0] at hg)
 exact .inl rfl
 (simp only [go_sem, Nat.reduceLT])
 refine OW.run [6] ?_
 (simp only [go_sem, simprocAttr, sw0, ha0, ha1, ha2, ha3, ha4, ha5])
 refine OW.callGh' 4 rfl rfl ?_ (fun hg => by first | rfl | (simp only [go_sem, ↓reduceIte]; rfl)) (fun hg => by (first | ((simp only [go_sem, List.toList_toArray, simprocAttr, ha0, ha1, ha2, ha3, ha4, ha5]); exact rfl) | exact rfl)) (fun hg => ?_) (fun hg => (base_Ints_ok N _ _ _ (grd_t hg e15))) ?_ ?_ ?_ ?_
 · (first | rfl | (simp only [go_sem, simprocAttr, ha0, ha1, ha2, ha3, ha4, ha5]; done) | (simp only [go_sem, simprocAttr, ha0, ha1, ha2, ha3, ha4, ha5]; rfl))
 · first | (rfl; done) | (exfalso; simp only [ha0, ha1, ha2, ha3, ha4, ha5, sb0] at hg)
 · intro hg; first | (exact okD_all rfl; done) | (exfalso; simp only [ha0, ha1, ha2, ha3, ha4, ha5, sb0] at hg)
 exact .inl rfl
 (simp only [go_sem, Nat.reduceLT])
 refine OW.run [6] ?_
 (simp only [go_sem, simprocAttr, sw0, ha0, ha1, ha2, ha3, ha4, ha5])
 refine OW.nil ((congrArg K ?_).mpr hKE)
 · (first | rfl | (simp only [go_sem, simprocAttr, ha0, ha1, ha2, ha3, ha4, ha5]; done) | (simp only [go_sem, simprocAttr, ha0, ha1, ha2, ha3, ha4, ha5]; rfl))
 refine OW.run [6] ?_
 (simp only [go_sem, simprocAttr, sw0, ha0, ha1, ha2, ha3, ha4, ha5])
 repeat (refine And.intro (by omega) ?_)
 refine OW.callGh' 4 rfl rfl ?_ (fun hg => by first | rfl | (simp only [go_sem, ↓reduceIte]; rfl)) (fun hg => by (first | ((simp only [go_sem, List.toList_toArray, simprocAttr, ha0, ha1, ha2, ha3, ha4, ha5]); exact rfl) | exact rfl)) (fun hg => ?_) (fun hg => (ref07_Asking_ok N _ _ _ _ (grd_t hg e14))) ?_ ?_ ?_ ?_
 · (first | rfl | (simp only [go_sem, simprocAttr, ha0, ha1, ha2, ha3, ha4, ha5]; done) | (simp only [go_sem, simprocAttr, ha0, ha1, ha2, ha3, ha4, ha5]; rfl))
 · first | (rfl; done) | (exfalso; simp only [ha0, ha1, ha2, ha3, ha4, ha5, sb0] at hg)
 · intro hg; first | ((refine okAll_intro ?_; (simp only [go_sem, sw2, List.length_set, List.length_replicate, and_true, true_and, Nat.le_refl, simprocAttr]; done)); done) | (exfalso; simp only [ha0, ha1, ha2, ha3, ha4, ha5, sb0] at hg)
 exact .inl rfl
 (simp only [go_sem, Nat.reduceLT])
 refine OW.run [6] ?_
 (simp only [go_sem, simprocAttr, sw0, ha0, ha1, ha2, ha3, ha4, ha5])
 refine OW.callGh' 4 rfl rfl ?_ (fun hg => by first | rfl | (simp only [go_sem, ↓reduceIte]; rfl)) (fun hg => by (first | ((simp only [go_sem, List.toList_toArray, simprocAttr, ha0, ha1, ha2, ha3, ha4, ha5]); exact rfl) | exact rfl)) (fun hg => ?_) (fun hg => (base_Ints_ok N _ _ _ (grd_t hg e15))) ?_ ?_ ?_ ?_
 · (first | rfl | (simp only [go_sem, simprocAttr, ha0, ha1, ha2, ha3, ha4, ha5]; done) | (simp only [go_sem, simprocAttr, ha0, ha1, ha2, ha3, ha4, ha5]; rfl))
 · first | (rfl; done) | (exfalso; simp only [ha0, ha1, ha2, ha3, ha4, ha5, sb0] at hg)
 · intro hg; first | (exact okD_all rfl; done) | (exfalso; simp only [ha0, ha1, ha2, ha3, ha4, ha5, sb0] at hg)
 exact .inl rfl
 (simp only [go_sem, Nat.reduceLT])
 refine OW.run [6] ?_
 (simp only [go_sem, simprocAttr, sw0, ha0, ha1, ha2, ha3, ha4, ha5])
 refine OW.nil ((congrArg K ?_).mpr hKE)
 · (first | rfl | (simp only [go_sem, simprocAttr, ha0, ha1, ha2, ha3, ha4, ha5]; done) | (simp only [go_sem, simprocAttr, ha0, ha1, ha2, ha3, ha4, ha5]; rfl))
 rcases Bool.eq_false_or_eq_true ((x5 == x13)) with ha4 | ha4
 rcases Bool.eq_false_or_eq_true ((x51 == (12 : Int))) with ha5 | ha5
 refine OW.run [6] ?_
 (simp only [go_sem, simprocAttr, sw0, ha0, ha1, ha2, ha3, ha4, ha5])
 repeat (refine And.intro (by omega) ?_)
 refine OW.callGh' 4 rfl rfl ?_ (fun hg => by first | rfl | (simp only [go_sem, ↓reduceIte]; rfl)) (fun hg => by (first | ((simp only [go_sem, List.toList_toArray, simprocAttr, ha0, ha1, ha2, ha3, ha4, ha5]); exact rfl) | exact rfl)) (fun hg => ?_) (fun hg => (ref07_Asking_ok N _ _ _ _ (grd_t hg e14))) ?_ ?_ ?_ ?_
 · (first | rfl | (simp only [go_sem, simprocAttr, ha0, ha1, ha2, ha3, ha4, ha5]; done) | (simp only [go_sem, simprocAttr, ha0, ha1, ha2, ha3, ha4, ha5]; rfl))
 · first | (rfl; done) | (exfalso; simp only [ha0, ha1, ha2, ha3, ha4, ha5, sb0] at hg)
 · intro hg; first | ((refine okAll_intro ?_; (simp only [go_sem, sw2, List.length_set, List.length_replicate, and_true, true_and, Nat.le_refl, simprocAttr]; done)); done) | (exfalso; simp only [ha0, ha1, ha2, ha3, ha4, ha5, sb0] at hg)
 exact .inl rfl
 (simp only [go_sem, Nat.reduceLT])
 refine OW.run [6] ?_
 (simp only [go_sem, simprocAttr, sw0, ha0, ha1, ha2, ha3, ha4, ha5])
 refine OW.callGh' 4 rfl rfl ?_ (fun hg => by first | rfl | (simp only [go_sem, ↓reduceIte]; rfl)) (fun hg => by (first | ((simp only [go_sem, List.toList_toArray, simprocAttr, ha0, ha1, ha2, ha3, ha4, ha5]); exact rfl) | exact rfl)) (fun hg => ?_) (fun hg => (base_Ints_ok N _ _ _ (grd_t hg e15))) ?_ ?_ ?_ ?_
 · (first | rfl | (simp only [go_sem, simprocAttr, ha0, ha1, ha2, ha3, ha4, ha5]; done) | (simp only [go_sem, simprocAttr, ha0, ha1, ha2, ha3, ha4, ha5]; rfl))
 · first | (rfl; done) | (exfalso; simp only [ha0, ha1, ha2, ha3, ha4, ha5, sb0] at hg)
 · intro hg; first | (exact okD_all rfl; done) | (exfalso; simp only [ha0, ha1, ha2, ha3, ha4, ha5, sb0] at hg)
 exact .inl rfl
 (simp only [go_sem, Nat.reduceLT])
 refine OW.run [6] ?_
 (simp only [go_sem, simprocAttr, sw0, ha0, ha1, ha2, ha3, ha4, ha5])
 refine OW.nil ((congrArg K ?_).mpr hKE)
 · (first | rfl | (simp only [go_sem, simprocAttr, ha0, ha1, ha2, ha3, ha4, ha5]; done) | (simp only [go_sem, simprocAttr, ha0, ha1, ha2, ha3, ha4, ha5]; rfl))
 refine OW.run [6] ?_
 (simp only [go_sem, simprocAttr, sw0, ha0, ha1, ha2, ha3, ha4, ha5])
 repeat (refine And.intro (by omega) ?_)
 refine OW.callGh' 4 rfl rfl ?_ (fun hg => by first | rfl | (simp only [go_sem, ↓reduceIte]; rfl)) (fun hg => by (first | ((simp only [go_sem, List.toList_toArray, simprocAttr, ha0, ha1, ha2, ha3, ha4, ha5]); exact rfl) | exact rfl)) (fun hg => ?_) (fun hg => (ref07_Asking_ok N _ _ _ _ (grd_t hg e14))) ?_ ?_ ?_ ?_
 · (first | rfl | (simp only [go_sem, simprocAttr, ha0, ha1, ha2, ha3, ha4, ha5]; done) | (simp only [go_sem, simprocAttr, ha0, ha1, ha2, ha3, ha4, ha5]; rfl))
 · first | (rfl; done) | (exfalso; simp only [ha0, ha1, ha2, ha3, ha4, ha5, sb0] at hg)
 · intro hg; first | ((refine okAll_intro ?_; (simp only [go_sem, sw2, List.length_set, List.length_replicate, and_true, true_and, Nat.le_refl, simprocAttr]; done)); done) | (exfalso; simp only [ha0, ha1, ha2, ha3, ha4, ha5, sb0] at hg)
 exact .inl rfl
 (simp only [go_sem, Nat.reduceLT])
 refine OW.run [6] ?_
 (simp only [go_sem, simprocAttr, sw0, ha0, ha1, ha2, ha3, ha4, ha5])
 refine OW.callGh' 4 rfl rfl ?_ (fun hg => by first | rfl | (simp only [go_sem, ↓reduceIte]; rfl)) (fun hg => by (first | ((simp only [go_sem, List.toList_toArray, simprocAttr, ha0, ha1, ha2, ha3, ha4, ha5]); exact rfl) | exact rfl)) (fun hg => ?_) (fun hg => (base_Ints_ok N _ _ _ (grd_t hg e15))) ?_ ?_ ?_ ?_
 · (first | rfl | (simp only [go_sem, simprocAttr, ha0, ha1, ha2, ha3, ha4, ha5]; done) | (simp only [go_sem, simprocAttr, ha0, ha1, ha2, ha3, ha4, ha5]; rfl))
 · first | (rfl; done) | (exfalso; simp only [ha0, ha1, ha2, ha3, ha4, ha5, sb0] at hg)
 · intro hg; first | (exact okD_all rfl; done) | (exfalso; simp only [ha0, ha1, ha2, ha3, ha4, ha5, sb0] at hg)
 exact .inl rfl
 (simp only [go_sem, Nat.reduceLT])
 refine OW.run [6] ?_
 (simp only [go_sem, simprocAttr, sw0, ha0, ha1, ha2, ha3, ha4, ha5])
 refine OW.nil ((congrArg K ?_).mpr hKE)
 · (first | rfl | (simp only [go_sem, simprocAttr, ha0, ha1, ha2, ha3, ha4, ha5]; done) | (simp only [go_sem, simprocAttr, ha0, ha1, ha2, ha3, ha4, ha5]; rfl))
 rcases Bool.eq_false_or_eq_true ((x51 == (12 : Int))) with ha5 | ha5
 refine OW.run [6] ?_
 (simp only [go_sem, simprocAttr, sw0, ha0, ha1, ha2, ha3, ha4, ha5])
 repeat (refine And.intro (by omega) ?_)
 refine OW.callGh' 4 rfl rfl ?_ (fun hg => by first | rfl | (simp only [go_sem, ↓reduceIte]; rfl)) (fun hg => by (first | ((simp only [go_sem, List.toList_toArray, simprocAttr, ha0, ha1, ha2, ha3, ha4, ha5]); exact rfl) | exact rfl)) (fun hg => ?_) (fun hg => (ref07_Asking_ok N _ _ _ _ (grd_t hg e14))) ?_ ?_ ?_ ?_
 · (first | rfl | (simp only [go_sem, simprocAttr, ha0, ha1, ha2, ha3, ha4, ha5]; done) | (simp only [go_sem, simprocAttr, ha0, ha1, ha2, ha3, ha4, ha5]; rfl))
 · first | (rfl; done) | (exfalso; simp only [ha0, ha1, ha2, ha3, ha4, ha5, sb0] at hg)
 · intro hg; first | ((refine okAll_intro ?_; (simp only [go_sem, sw2, List.length_set, List.length_replicate, and_true, true_and, Nat.le_refl, simprocAttr]; done)); done) | (exfalso; simp only [ha0, ha1, ha2, ha3, ha4, ha5, sb0] at hg)
 exact .inl rfl
 (simp only [go_sem, Nat.reduceLT])
 refine OW.run [6] ?_
 (simp only [go_sem, simprocAttr, sw0, ha0, ha1, ha2, ha3, ha4, ha5])
 refine OW.callGh' 4 rfl rfl ?_ (fun hg => by first | rfl | (simp only [go_sem, ↓reduceIte]; rfl)) (fun hg => by (first | ((simp only [go_sem, List.toList_toArray, simprocAttr, ha0, ha1, ha2, ha3, ha4, ha5]); exact rfl) | exact rfl)) (fun hg => ?_) (fun hg => (base_Ints_ok N _ _ _ (grd_t hg e15))) ?_ ?_ ?_ ?_
 · (first | rfl | (simp only [go_sem, simprocAttr, ha0, ha1, ha2, ha3, ha4, ha5]; done) | (simp only [go_sem, simprocAttr, ha0, ha1, ha2, ha3, ha4, ha5]; rfl))
 · first | (rfl; done) | (exfalso; simp only [ha0, ha1, ha2, ha3, ha4, ha5, sb0] at hg)
 · intro hg; first | (exact okD_all rfl; done) | (exfalso; simp only [ha0, ha1, ha2, ha3, ha4, ha5, sb0] at hg)
 exact .inl rfl
 (simp only [go_sem, Nat.reduceLT])
 refine OW.run [6] ?_
 (simp only [go_sem, simprocAttr, sw0, ha0, ha1, ha2, ha3, ha4, ha5])
 refine OW.nil ((congrArg K ?_).mpr hKE)
 · (first | rfl | (simp only [go_sem, simprocAttr, ha0, ha1, ha2, ha3, ha4, ha5]; done) | (simp only [go_sem, simprocAttr, ha0, ha1, ha2, ha3, ha4, ha5]; rfl))
 refine OW.run [6] ?_
 (simp only [go_sem, simprocAttr, sw0, ha0, ha1, ha2, ha3, ha4, ha5])
 repeat (refine And.intro (by omega) ?_)
 refine OW.callGh' 4 rfl rfl ?_ (fun hg => by first | rfl | (simp only [go_sem, ↓reduceIte]; rfl)) (fun hg => by (first | ((simp only [go_sem, List.toList_toArray, simprocAttr, ha0, ha1, ha2, ha3, ha4, ha5]); exact rfl) | exact rfl)) (fun hg => ?_) (fun hg => (ref07_Asking_ok N _ _ _ _ (grd_t hg e14))) ?_ ?_ ?_ ?_
 · (first | rfl | (simp only [go_sem, simprocAttr, ha0, ha1, ha2, ha3, ha4, ha5]; done) | (simp only [go_sem, simprocAttr, ha0, ha1, ha2, ha3, ha4, ha5]; rfl))
 · first | (rfl; done) | (exfalso; simp only [ha0, ha1, ha2, ha3, ha4, ha5, sb0] at hg)
 · intro hg; first | ((refine okAll_intro ?_; (simp only [go_sem, sw2, List.length_set, List.length_replicate, and_true, true_and, Nat.le_refl, simprocAttr]; done)); done) | (exfalso; simp only [ha0, ha1, ha2, ha3, ha4, ha5, sb0] at hg)
 exact .inl rfl
 (simp only [go_sem, Nat.reduceLT])
 refine OW.run [6] ?_
 (simp only [go_sem, simprocAttr, sw0, ha0, ha1, ha2, ha3, ha4, ha5])
 refine OW.callGh' 4 rfl rfl ?_ (fun hg => by first | rfl | (simp only [go_sem, ↓reduceIte]; rfl)) (fun hg => by (first | ((simp only [go_sem, List.toList_toArray, simprocAttr, ha0, ha1, ha2, ha3, ha4, ha5]); exact rfl) | exact rfl)) (fun hg => ?_) (fun hg => (base_Ints_ok N _ _ _ (grd_t hg e15))) ?_ ?_ ?_ ?_
 · (first | rfl | (simp only [go_sem, simprocAttr, ha0, ha1, ha2, ha3, ha4, ha5]; done) | (simp only [go_sem, simprocAttr, ha0, ha1, ha2, ha3, ha4, ha5]; rfl))
 · first | (rfl; done) | (exfalso; simp only [ha0, ha1, ha2, ha3, ha4, ha5, sb0] at hg)
 · intro hg; first | (exact okD_all rfl; done) | (exfalso; simp only [ha0, ha1, ha2, ha3, ha4, ha5, sb0] at hg)
 exact .inl rfl
 (simp only [go_sem, Nat.reduceLT])
 refine OW.run [6] ?_
 (simp only [go_sem, simprocAttr, sw0, ha0, ha1, ha2, ha3, ha4, ha5])
 refine OW.nil ((congrArg K ?_).mpr hKE)
 · (first | rfl | (simp only [go_sem, simprocAttr, ha0, ha1, ha2, ha3, ha4, ha5]; done) | (simp only [go_sem, simprocAttr, ha0, ha1, ha2, ha3, ha4, ha5]; rfl))
 refine OW.run [6] ?_
 (simp only [go_sem, simprocAttr, sw0, ha0, ha1])
 repeat (refine And.intro (by omega) ?_)
 refine OW.callGh' 4 rfl rfl ?_ (fun hg => by first | rfl | (simp only [go_sem, ↓reduceIte]; rfl)) (fun hg => by (first | ((simp only [go_sem, List.toList_toArray, simprocAttr, ha0, ha1]); exact rfl) | exact rfl)) (fun hg => ?_) (fun hg => (ref07_Asking_ok N _ _ _ _ (grd_t hg e14))) ?_ ?_ ?_ ?_
 · (first | rfl | (simp only [go_sem, simprocAttr, ha0, ha1]; done) | (simp only [go_sem, simprocAttr, ha0, ha1]; rfl))
 · first | (rfl; done) | (exfalso; simp only [ha0, ha1, sb0] at hg)
 · intro hg; first | ((refine okAll_intro ?_; (simp only [go_sem, sw2, List.length_set, List.length_replicate, and_true, true_and, Nat.le_refl, simprocAttr]; done)); done) | (exfalso; simp only [ha0, ha1, sb0] at hg)
 exact .inl rfl
 (simp only [go_sem, Nat.reduceLT])
 refine OW.run [6] ?_
 (simp only [go_sem, simprocAttr, sw0, ha0, ha1])
 refine OW.callGh' 4 rfl rfl ?_ (fun hg => by first | rfl | (simp only [go_sem, ↓reduceIte]; rfl)) (fun hg => by (first | ((simp only [go_sem, List.toList_toArray, simprocAttr, ha0, ha1]); exact rfl) | exact rfl)) (fun hg => ?_) (fun hg => (base_Ints_ok N _ _ _ (grd_t hg e15))) ?_ ?_ ?_ ?_
 · (first | rfl | (simp only [go_sem, simprocAttr, ha0, ha1]; done) | (simp only [go_sem, simprocAttr, ha0, ha1]; rfl))
 · first | (rfl; done) | (exfalso; simp only [ha0, ha1, sb0] at hg)
 · intro hg; first | (exact okD_all rfl; done) | (exfalso; simp only [ha0, ha1, sb0] at hg)
 exact .inl rfl
 (simp only [go_sem, Nat.reduceLT])
 refine OW.run [6] ?_
 (simp only [go_sem, simprocAttr, sw0, ha0, ha1])
 refine OW.nil ((congrArg K ?_).mpr hKE)
 · (first | rfl | (simp only [go_sem, simprocAttr, ha0, ha1]; done) | (simp only [go_sem, simprocAttr, ha0, ha1]; rfl))
 refine OW.run [6] ?_
 (simp only [go_sem, simprocAttr, sw0, ha0])
 refine OW.callGh' 4 rfl rfl ?_ (fun hg => by first | rfl | (simp only [go_sem, ↓reduceIte]; rfl)) (fun hg => by (first | ((simp only [go_sem, List.toList_toArray, simprocAttr, ha0]); exact rfl) | exact rfl)) (fun hg => ?_) (fun hg => (ref07_Asking_ok N _ _ _ _ (grd_t hg e14))) ?_ ?_ ?_ ?_
 · (first | rfl | (simp only [go_sem, simprocAttr, ha0]; done) | (simp only [go_sem, simprocAttr, ha0]; rfl))
 · first | (rfl; done) | (exfalso; simp only [ha0, sb0] at hg)
 · intro hg; first | ((refine okAll_intro ?_; (simp only [go_sem, sw2, List.length_set, List.length_replicate, and_true, true_and, Nat.le_refl, simprocAttr]; done)); done) | (exfalso; simp only [ha0, sb0] at hg)
 exact .inl rfl
 (simp only [go_sem, Nat.reduceLT])
 refine OW.run [6] ?_
 (simp only [go_sem, simprocAttr, sw0, ha0])
 refine OW.callGh' 4 rfl rfl ?_ (fun hg => by first | rfl | (simp only [go_sem, ↓reduceIte]; rfl)) (fun hg => by (first | ((simp only [go_sem, List.toList_toArray, simprocAttr, ha0]); exact rfl) | exact rfl)) (fun hg => ?_) (fun hg => (base_Ints_ok N _ _ _ (grd_t hg e15))) ?_ ?_ ?_ ?_
 · (first | rfl | (simp only [go_sem, simprocAttr, ha0]; done) | (simp only [go_sem, simprocAttr, ha0]; rfl))
 · first | (rfl; done) | (exfalso; simp only [ha0, sb0] at hg)
 · intro hg; first | (exact okD_all rfl; done) | (exfalso; simp only [ha0, sb0] at hg)
 exact .inl rfl
 (simp only [go_sem, Nat.reduceLT])
 refine OW.run [6] ?_
 (simp only [go_sem, simprocAttr, sw0, ha0])
 refine OW.nil ((congrArg K ?_).mpr hKE)
 · (first | rfl | (simp only [go_sem, simprocAttr, ha0]; done) | (simp only [go_sem, simprocAttr, ha0]; rfl))
 clear hK K
 refine PW.ret ?_
 change PW.Ends _ _ _ _ _ _
 refine PW.Ends.intro (.inr rfl) ?_
 simp only [go_sem, simprocAttr, sw0]
 obtain rfl := Option.some.inj H
 refine RetOK.data' 4 (by exact trivial) ?_
 rfl
end Go.Proofs.YtbndgoeahoadlaaGreatDoor
