import Derived.Test.YtklejiafioalnaaGreatZsBase
import Derived.Test.YtklejiafioalnaaGreatZsW0
import Derived.Test.YtklejiafioalnaaGreatZsW1
import Derived.Test.YtklejiafioalnaaGreatZsW2
import Derived.Test.YtklejiafioalnaaGreatZsW3
import Derived.Test.YtklejiafioalnaaGreatZsW4
set_option linter.all false
namespace Go.Proofs.YtklejiafioalnaaGreat
open Go.PW Go.Sh

set_option maxRecDepth 20000
set_option maxHeartbeats 8000000
theorem ref09_Points_ok (N : Nat) (Z10 : List (List Int)) (r : (List (Int × Int))) (H : ref09_Points N Z10 = some r) : CallOK Tryz.prog 66 [(.agg [(.list Z10.length (Z10.map L))])] (.d (.list r.length (r.flatMap (fun (x : Int × Int) => [(I x.1), (I x.2)])))) [] := by
 refine CallOK.of_PW Tryz.func66 rfl (by rw [Tryz.results66]) Tryz.ntmps66 Tryz.call66 ?_
 change PW _ _ _ _ _
 try simp only [go_sem, simprocAttr]
 unfold ref09_Points at H
 refine PW.seq ?_
 refine PW.regionK fun K hK => OW.run [1] ?_
 simp only [go_sem, simprocAttr, sw0]
 refine OW.nil (hK _ ?_)
 refine PW.seq ?_
 refine PW.regionK fun K hK => OW.run [1, 3] ?_
 simp only [go_sem, simprocAttr, sw0]
 refine OW.nil (hK _ ?_)
 refine PW.joinS (τ := (List (Int × Int))) [3] 2 (fun b1 => [(3, .own 1 0 b1.length 2)]) (fun b1 => [{ cells := [.d (.list Z10.length (Z10.map L))], e := 24 }, { cells := (b1.flatMap (fun (x : Int × Int) => [(I x.1), (I x.2)])).map .d, e := 58 }]) _ _ r (by exact Nat.zero_le _) H ?_ ?_
 intro K_ H N1 hN1
 refine PW.seq ?_
 refine PW.regionK fun K hK => OW.run [1, 3, 4] ?_
 simp only [go_sem, simprocAttr, sw0]
 refine OW.nil (hK _ ?_)
 refine PW.block ?_
 refine PW.virt 3 58 2 rfl ?_
 try simp only [go_sem, simprocAttr]
 refine PW.loopS (σ := Int × (List (Int × Int))) [1, 3, 4] 2 (fun (i, b11) => [(3, .own 1 0 b11.length 2), (4, .d (I i))]) (fun (i, b11) => [{ cells := [.d (.list Z10.length (Z10.map L))], e := 24 }, { cells := (b11.flatMap (fun (x : Int × Int) => [(I x.1), (I x.2)])).map .d, e := 58 }]) (ref09_Points.b1 N Z10 K_) r N ((0 : Int), ([] : List (Int × Int))) (by exact Nat.zero_le _) H (by (simp only [sw1, go_sem, simprocAttr]; rfl)) ?_
 rintro n ⟨i, b11⟩ H N2 hN2
 unfold ref09_Points.b1 at H
 try simp only [go_sem, simprocAttr]
 refine PW.seq ?_
 refine PW.seq ?_
 refine PW.regionK fun K hK => OW.run [1, 3, 4, 10] ?_
 simp only [go_sem, simprocAttr, sw0]
 repeat (refine And.intro (by omega) ?_)
 refine OW.nil (hK _ ?_)
 refine PW.cond rfl (fun h3 => ?_) (fun h3 => ?_)
 replace H := br_t h3 H
 refine PW.skip ?_
 refine PW.joinS (τ := (List (Int × Int))) [1, 3, 4] 2 (fun b12 => [(3, .own 1 0 b12.length 2)]) (fun b12 => [{ cells := [.d (.list Z10.length (Z10.map L))], e := 24 }, { cells := (b12.flatMap (fun (x : Int × Int) => [(I x.1), (I x.2)])).map .d, e := 58 }]) _ _ r (by exact Nat.zero_le _) H ?_ ?_
 intro K_1 H N4 hN4
 refine PW.block ?_
 refine PW.seq ?_
 refine PW.regionK fun K hK => OW.run [1, 3, 4, 5] ?_
 simp only [go_sem, simprocAttr, sw0]
 refine OW.nil (hK _ ?_)
 refine PW.block ?_
 refine PW.loopS (σ := Int × (List (Int × Int))) [1, 3, 4, 5] 2 (fun (k, b13) => [(3, .own 1 0 b13.length 2), (5, .d (I k))]) (fun (k, b13) => [{ cells := [.d (.list Z10.length (Z10.map L))], e := 24 }, { cells := (b13.flatMap (fun (x : Int × Int) => [(I x.1), (I x.2)])).map .d, e := 58 }]) (ref09_Points.b2 N Z10 i K_1) r N ((0 : Int), b11) (by exact Nat.zero_le _) H (by (simp only [sw1, go_sem, simprocAttr]; done)) ?_
 rintro n ⟨k, b13⟩ H N5 hN5
 unfold ref09_Points.b2 at H
 try simp only [go_sem, simprocAttr]
 refine PW.seq ?_
 refine PW.seq ?_
 obtain ⟨c6, H⟩ := chk_some H
 refine PW.regionK fun K hK => OW.run [1, 3, 4, 5, 19] ?_
 (simp only [go_sem, simprocAttr, sw0, getD_mapF L Z10 0 default (by omega)])
 repeat (refine And.intro (by omega) ?_)
 refine OW.nil (hK _ ?_)
 refine PW.cond rfl (fun h7 => ?_) (fun h7 => ?_)
 replace H := br_t h7 H
 refine PW.skip ?_
 refine PW.seq ?_
 refine PW.block ?_
 obtain ⟨c8, H⟩ := chk_some H
 refine PW.regionK fun K hK => OW.run [1, 3, 4, 5] ?_
 (simp only [go_sem, simprocAttr, sw0, flatMap_length 2 (fun (x : Int × Int) => [(I x.1), (I x.2)]) (fun _ => rfl)])
 repeat (refine And.intro (by first | rfl | omega) ?_)
 refine OW.nil (hK _ ?_)
 refine PW.regionK fun K hK => OW.run [1, 3, 4, 5] ?_
 simp only [go_sem, simprocAttr, sw0]
 refine OW.nil (hK _ ?_)
 refine hN5 [] (w64 (k + (1 : Int)), (b13 ++ ([(i, k)] : List (Int × Int)))) _ H (by exact trivial) ?_
 (simp only [sw1, go_sem, simprocAttr]; simp only [List.length_set, List.length_append, List.length_cons, List.length_nil, Nat.zero_add, List.map_set, List.map_append, List.map_cons, List.map_nil, List.flatMap_append, List.flatMap_cons, List.flatMap_nil, List.append_nil, List.cons_append, List.nil_append]; rfl)
 replace H := br_f h7 H
 refine PW.exit ?_
 refine hN4 [] b13 _ H (by exact trivial) ?_
 simp only [sw1, go_sem, simprocAttr]
 rintro b12 H
 try simp only [go_sem, simprocAttr]
 refine PW.regionK fun K hK => OW.run [1, 3, 4] ?_
 simp only [go_sem, simprocAttr, sw0]
 refine OW.nil (hK _ ?_)
 refine hN2 [] (w64 (i + (1 : Int)), b12) _ H (by exact trivial) ?_
 simp only [sw1, go_sem, simprocAttr]
 replace H := br_f h3 H
 refine PW.exit ?_
 refine hN1 [] b11 _ H (by exact trivial) ?_
 simp only [sw1, go_sem, simprocAttr]
 ·
  rintro b1 H
  try simp only [go_sem, simprocAttr]
  refine PW.seq ?_
  refine PW.regionK fun K hK => OW.run [2] ?_
  simp only [go_sem, simprocAttr, sw0]
  refine OW.nil (hK _ ?_)
  refine PW.ret ?_
  change PW.Ends _ _ _ _ _ _
  refine PW.Ends.intro (.inr rfl) ?_
  simp only [go_sem, simprocAttr, sw0]
  obtain rfl := Option.some.inj H
  have hl0 := flatMap_length 2 (fun (x : Int × Int) => [(I x.1), (I x.2)]) (fun _ => rfl) b1
  have hn0 : (b1.flatMap (fun (x : Int × Int) => [(I x.1), (I x.2)])).map nz = b1.flatMap (fun (x : Int × Int) => [(I x.1), (I x.2)]) := map_nz_flat (fun _ => rfl) _
  have ht0 : (b1.flatMap (fun (x : Int × Int) => [(I x.1), (I x.2)])).take (b1.length * 2) = b1.flatMap (fun (x : Int × Int) => [(I x.1), (I x.2)]) := take_flat _ (fun _ => rfl) rfl
  refine RetOK.data' 4 (by (simp only [go_sem, sw2, List.length_set, List.length_replicate, and_true, true_and, Nat.le_refl, simprocAttr]; omega)) ?_
  (((simp only [go_sem, sw1, simprocAttr]; try simp only [seg, go_sem, simprocAttr])); (repeat' (first | rfl | (refine list_congr ?_; simp only [List.length_take, List.length_drop, List.length_set, List.length_replicate] <;> omega) | (refine congr (congrArg List.cons ?_) ?_) | (refine congrArg D.agg ?_) | (refine congrArg D.tup ?_) | (refine congrArg D.ref ?_) | (refine congrArg (D.list _) ?_) | (refine congrArg (D.clo _) ?_))))
  all_goals (first | rw [ht0, hn0] | simp only [ht0, hn0])

theorem ref09_SamePairs_ok (N : Nat) (a : List (Int × Int)) (b : List (Int × Int)) (r : Bool) (H : ref09_SamePairs N a b = some r) : CallOK Tryz.prog 20 [(.list a.length (a.flatMap (fun (x : Int × Int) => [(I x.1), (I x.2)]))), (.list b.length (b.flatMap (fun (x : Int × Int) => [(I x.1), (I x.2)])))] (.d (Bo r)) [] := by
 refine CallOK.of_PW Tryz.func20 rfl (by rw [Tryz.results20]) Tryz.ntmps20 Tryz.call20 ?_
 change PW _ _ _ _ _
 try simp only [go_sem, simprocAttr]
 unfold ref09_SamePairs at H
 refine PW.seq ?_
 refine PW.regionK fun K hK => OW.run [0, 1] ?_
 simp only [go_sem, simprocAttr, sw0]
 refine OW.nil (hK _ ?_)
 refine PW.seq ?_
 refine PW.seq ?_
 refine PW.regionK fun K hK => OW.run [0, 1, 10] ?_
 simp only [go_sem, simprocAttr, sw0]
 refine OW.nil (hK _ ?_)
 refine PW.cond rfl (fun h1 => ?_) (fun h1 => ?_)
 replace H := br_t h1 H
 refine PW.seq ?_
 refine PW.regionK fun K hK => OW.run [4] ?_
 simp only [go_sem, simprocAttr, sw0]
 refine OW.nil (hK _ ?_)
 refine PW.ret ?_
 change PW.Ends _ _ _ _ _ _
 refine PW.Ends.intro (.inr rfl) ?_
 simp only [go_sem, simprocAttr, sw0]
 obtain rfl := Option.some.inj H
 refine RetOK.data' 4 (by exact trivial) ?_
 rfl
 replace H := br_f h1 H
 refine PW.skip ?_
 refine PW.joinS (τ := Unit) [] 0 (fun _ => []) (fun _ => []) _ _ r (by exact Nat.le_refl _) H ?_ ?_
 intro K_ H N2 hN2
 refine PW.seq ?_
 refine PW.regionK fun K hK => OW.run [0, 1, 5] ?_
 simp only [go_sem, simprocAttr, sw0]
 refine OW.nil (hK _ ?_)
 refine PW.block ?_
 refine PW.loopS (σ := Int) [0, 1, 5] 0 (fun i => [(5, .d (I i))]) (fun i => []) (ref09_SamePairs.b1 N a b K_) r N (0 : Int) (by exact Nat.le_refl _) H (by (simp only [sw1, go_sem, simprocAttr]; done)) ?_
 rintro n i H N3 hN3
 unfold ref09_SamePairs.b1 at H
 try simp only [go_sem, simprocAttr]
 refine PW.seq ?_
 refine PW.seq ?_
 refine PW.regionK fun K hK => OW.run [0, 1, 5, 14] ?_
 simp only [go_sem, simprocAttr, sw0]
 refine OW.nil (hK _ ?_)
 refine PW.cond rfl (fun h4 => ?_) (fun h4 => ?_)
 replace H := br_t h4 H
 refine PW.skip ?_
 refine PW.seq ?_
 refine PW.block ?_
 refine PW.seq ?_
 obtain ⟨c5, H⟩ := chk_some H
 obtain ⟨c6, H⟩ := chk_some H
 refine PW.drawK 8 mixed (by kernel_rfl) fun K hK => ?_
 change FW _ _ _ _ _
 refine FW.run ?_
 (simp only [go_sem, simprocAttr, sw0, flatMap_length 2 (fun (x : Int × Int) => [(I x.1), (I x.2)]) (fun _ => rfl), sub_el 2 (fun (x : Int × Int) => [(I x.1), (I x.2)]) (fun _ => rfl) a i.toNat (by omega), sub_el 2 (fun (x : Int × Int) => [(I x.1), (I x.2)]) (fun _ => rfl) b i.toNat (by omega)])
 repeat (refine And.intro (by omega) ?_)
 refine FW.nil ?_
 change OW _ _ _ _ _ _
 refine OW.run [0, 1, 5, 25] ?_
 (simp only [go_sem, simprocAttr, sw0, flatMap_length 2 (fun (x : Int × Int) => [(I x.1), (I x.2)]) (fun _ => rfl), sub_el 2 (fun (x : Int × Int) => [(I x.1), (I x.2)]) (fun _ => rfl) a i.toNat (by omega), sub_el 2 (fun (x : Int × Int) => [(I x.1), (I x.2)]) (fun _ => rfl) b i.toNat (by omega)])
 refine OW.nil (hK _ ?_)
 refine PW.cond rfl (fun h7 => ?_) (fun h7 => ?_)
 replace H := br_t h7 H
 refine PW.seq ?_
 refine PW.regionK fun K hK => OW.run [4] ?_
 simp only [go_sem, simprocAttr, sw0]
 refine OW.nil (hK _ ?_)
 refine PW.ret ?_
 change PW.Ends _ _ _ _ _ _
 refine PW.Ends.intro (.inr rfl) ?_
 simp only [go_sem, simprocAttr, sw0]
 obtain rfl := Option.some.inj H
 refine RetOK.data' 4 (by exact trivial) ?_
 rfl
 replace H := br_f h7 H
 refine PW.skip ?_
 refine PW.regionK fun K hK => OW.run [0, 1, 5] ?_
 simp only [go_sem, simprocAttr, sw0]
 refine OW.nil (hK _ ?_)
 refine hN3 [] (w64 (i + (1 : Int))) _ H (by exact trivial) ?_
 simp only [sw1, go_sem, simprocAttr]
 replace H := br_f h4 H
 refine PW.exit ?_
 refine hN2 [] () _ H (by exact trivial) ?_
 simp only [sw1, go_sem, simprocAttr]
 rintro _ H
 try simp only [go_sem, simprocAttr]
 refine PW.seq ?_
 refine PW.regionK fun K hK => OW.run [4] ?_
 simp only [go_sem, simprocAttr, sw0]
 refine OW.nil (hK _ ?_)
 refine PW.ret ?_
 change PW.Ends _ _ _ _ _ _
 refine PW.Ends.intro (.inr rfl) ?_
 simp only [go_sem, simprocAttr, sw0]
 obtain rfl := Option.some.inj H
 refine RetOK.data' 4 (by exact trivial) ?_
 rfl

end Go.Proofs.YtklejiafioalnaaGreat
