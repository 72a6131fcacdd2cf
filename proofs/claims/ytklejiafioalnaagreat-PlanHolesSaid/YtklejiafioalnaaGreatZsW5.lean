import Derived.Test.YtklejiafioalnaaGreatZsBase
import Derived.Test.YtklejiafioalnaaGreatZsW0
import Derived.Test.YtklejiafioalnaaGreatZsW1
import Derived.Test.YtklejiafioalnaaGreatZsW2
import Derived.Test.YtklejiafioalnaaGreatZsW3
import Derived.Test.YtklejiafioalnaaGreatZsW4
set_option linter.all false
namespace Go.Proofs.YtklejiafioalnaaGreat
open Go.PW Go.Sh

set_option maxRecDepth 20000
set_option maxHeartbeats 8000000
def z0W5a := flatMap_length 7 (fun (x : ByteArray × Int × Int × Int × Int × Int × Int) => [(Sx x.1), (I x.2.1), (I x.2.2.1), (I x.2.2.2.1), (I x.2.2.2.2.1), (I x.2.2.2.2.2.1), (I x.2.2.2.2.2.2)]) (fun _ => rfl)
def z1W5a := sub_el 7 (fun (x : ByteArray × Int × Int × Int × Int × Int × Int) => [(Sx x.1), (I x.2.1), (I x.2.2.1), (I x.2.2.2.1), (I x.2.2.2.2.1), (I x.2.2.2.2.2.1), (I x.2.2.2.2.2.2)]) (fun _ => rfl)
theorem plan_CoveredBy_ok (N : Nat) (Zy : List (List Int)) (Zu : List (ByteArray × Int × Int × Int × Int × Int × Int)) (Zx : List (Int × Int)) (Zv : Int) (Zz : Int) (Zw : Int) (r : List Int × Int) (H : plan_CoveredBy N Zy Zu Zx Zv Zz Zw = some r) : CallOK Tryz.prog 19 [(.agg [(.list Zy.length (Zy.map L)), (.list Zu.length (Zu.flatMap (fun (x : ByteArray × Int × Int × Int × Int × Int × Int) => [(Sx x.1), (I x.2.1), (I x.2.2.1), (I x.2.2.2.1), (I x.2.2.2.2.1), (I x.2.2.2.2.2.1), (I x.2.2.2.2.2.2)]))), (.list Zx.length (Zx.flatMap (fun (x : Int × Int) => [(I x.1), (I x.2)]))), (I Zv), (I Zz), (I Zw)])] (.d (.tup [(L r.1), (I r.2)])) [] := by
 refine CallOK.of_PW Tryz.func19 rfl (by rw [Tryz.results19]) Tryz.ntmps19 Tryz.call19 ?_
 change PW _ _ _ _ _
 try simp only [go_sem, simprocAttr]
 unfold plan_CoveredBy at H
 refine PW.seq ?_
 refine PW.regionK fun K hK => OW.run [1] ?_
 simp only [go_sem, simprocAttr, sw0]
 refine OW.nil (hK _ ?_); clear hK K
 refine PW.seq ?_
 refine PW.regionK fun K hK => OW.run [1, 4, 5] ?_
 simp only [go_sem, simprocAttr, sw0]
 refine OW.inline rfl rfl rfl (by first | exact rfl | ((simp only [go_sem, List.toList_toArray, simprocAttr]); exact rfl)) Tryz.func50 rfl (by rw [Tryz.results50]) Tryz.ntmps50 Tryz.call50 (by (simp only [go_sem, Nat.reduceLT])) ?_
 intro us p
 change PW _ _ _ _ _
 try simp only [go_sem, simprocAttr]
 refine PW.seq ?_
 refine PW.regionK fun K hK => OW.run [1] ?_
 simp only [go_sem, simprocAttr, sw0]
 refine OW.nil (hK _ ?_); clear hK K
 refine PW.seq ?_
 refine PW.seq ?_
 obtain ⟨x1, e1, H⟩ := bnd_some H
 refine PW.regionK fun K hK => OW.run [1, 4] ?_
 simp only [go_sem, simprocAttr, sw0]
 refine OW.call' 4 rfl rfl rfl (by first | exact rfl | ((simp only [go_sem, List.toList_toArray, simprocAttr]); exact rfl)) ?_ (plan_planErr_ok N _ _ _ _ _ _ _ e1) ?_ ?_ ?_ ?_
 rfl
 · (refine okAll_intro ?_; (simp only [go_sem, sw2, List.length_set, List.length_replicate, and_true, true_and, Nat.le_refl, simprocAttr]; done))
 exact .inl rfl
 (simp only [go_sem, Nat.reduceLT])
 refine OW.run [1, 4] ?_
 simp only [go_sem, simprocAttr, sw0]
 refine OW.nil (hK _ ?_); clear hK K
 refine PW.seq ?_
 refine PW.regionK fun K hK => OW.run [1, 4, 11] ?_
 simp only [go_sem, simprocAttr, sw0]
 refine OW.nil (hK _ ?_); clear hK K
 refine PW.cond rfl (fun h1 => ?_) (fun h1 => ?_)
 replace H := br_t h1 H
 refine PW.seq ?_
 refine PW.regionK fun K hK => OW.run [2, 3] ?_
 simp only [go_sem, simprocAttr, sw0]
 refine OW.nil (hK _ ?_); clear hK K
 refine PW.ret ?_
 refine ⟨.inr rfl, rfl, rfl, ?_⟩
 simp only [go_sem, simprocAttr, sw0]
 change OW _ _ _ _ _ _
 refine OW.run [1, 4, 5] ?_
 simp only [go_sem, simprocAttr, sw0]
 refine OW.nil (hK _ ?_); clear hK K
 refine PW.seq ?_
 refine PW.seq ?_
 refine PW.regionK fun K hK => OW.run [1, 4, 5, 16] ?_
 simp only [go_sem, simprocAttr, sw0]
 refine OW.nil (hK _ ?_); clear hK K
 refine PW.cond rfl (fun h2 => ?_) (fun h2 => ?_)
 refine PW.seq ?_
 refine PW.regionK fun K hK => OW.run [2, 3] ?_
 simp only [go_sem, simprocAttr, sw0]
 refine OW.nil (hK _ ?_); clear hK K
 refine PW.ret ?_
 change PW.Ends _ _ _ _ _ _
 refine PW.Ends.intro (.inr rfl) ?_
 simp only [go_sem, simprocAttr, sw0]
 obtain rfl := Option.some.inj H
 refine RetOK.data' 4 (by exact okD_all rfl) ?_
 rfl
 exact absurd (h2.symm.trans h1) (by decide)
 replace H := br_f h1 H
 refine PW.skip ?_
 refine PW.seq ?_
 obtain ⟨c3, H⟩ := chk_some H
 refine PW.drawK 7 mixed (by kernel_rfl) fun K hK => ?_
 change FW _ _ _ _ _
 refine FW.run ?_
 (simp only [go_sem, simprocAttr, sw0, getD_mapF L Zy 0 default (by omega)])
 repeat (refine And.intro (by omega) ?_)
 refine FW.nil ?_
 change OW _ _ _ _ _ _
 refine OW.run [1, 5] ?_
 (simp only [go_sem, simprocAttr, sw0, getD_mapF L Zy 0 default (by omega)])
 refine OW.nil (hK _ ?_); clear hK K
 refine PW.joinS (τ := (List (List (Int × Bool)))) [5] 4 (fun b3 => []) (fun b3 => [{ cells := [.d (.list Zy.length (Zy.map L)), .d (.list Zu.length (Zu.flatMap (fun (x : ByteArray × Int × Int × Int × Int × Int × Int) => [(Sx x.1), (I x.2.1), (I x.2.2.1), (I x.2.2.2.1), (I x.2.2.2.2.1), (I x.2.2.2.2.2.1), (I x.2.2.2.2.2.2)]))), .d (.list Zx.length (Zx.flatMap (fun (x : Int × Int) => [(I x.1), (I x.2)]))), .d (I Zv), .d (I Zz), .d (I Zw)], e := 28 }, { cells := [.d (.list Zy.length (Zy.map L)), .d (.list Zu.length (Zu.flatMap (fun (x : ByteArray × Int × Int × Int × Int × Int × Int) => [(Sx x.1), (I x.2.1), (I x.2.2.1), (I x.2.2.2.1), (I x.2.2.2.2.1), (I x.2.2.2.2.2.1), (I x.2.2.2.2.2.2)]))), .d (.list Zx.length (Zx.flatMap (fun (x : Int × Int) => [(I x.1), (I x.2)]))), .d (I Zv), .d (I Zz), .d (I Zw)], e := 28 }, { cells := [.d (.list Zy.length (Zy.map L)), .d (.list Zu.length (Zu.flatMap (fun (x : ByteArray × Int × Int × Int × Int × Int × Int) => [(Sx x.1), (I x.2.1), (I x.2.2.1), (I x.2.2.2.1), (I x.2.2.2.2.1), (I x.2.2.2.2.2.1), (I x.2.2.2.2.2.2)]))), .d (.list Zx.length (Zx.flatMap (fun (x : Int × Int) => [(I x.1), (I x.2)]))), .d (I Zv), .d (I Zz), .d (I Zw), .d (I ((Zy.getD 0 default).length : Int)), .own 3 0 b3.length 1], e := 127 }, { cells := (b3.map (fun (x : List (Int × Bool)) => (.list x.length (x.flatMap (fun (x : Int × Bool) => [(I x.1), (Bo x.2)]))))).map .d, e := 124 }]) _ _ r (by (simp only [go_sem]; omega)) H ?_ ?_
 intro K_ H N4 hN4
 refine PW.seq ?_
 refine PW.regionK fun K hK => OW.run [5, 23, 24, 25] ?_
 simp only [go_sem, simprocAttr, sw0]
 repeat (refine And.intro (by omega) ?_)
 refine OW.nil (hK _ ?_); clear hK K
 refine PW.block ?_
 refine PW.virtC 2 7 124 1 _ rfl rfl ?_
 try simp only [go_sem, simprocAttr]
 refine PW.loopS (σ := Int × (List (List (Int × Bool)))) [5, 23, 24, 25] 4 (fun (t25, b31) => [(25, .d (I t25))]) (fun (t25, b31) => [{ cells := [.d (.list Zy.length (Zy.map L)), .d (.list Zu.length (Zu.flatMap (fun (x : ByteArray × Int × Int × Int × Int × Int × Int) => [(Sx x.1), (I x.2.1), (I x.2.2.1), (I x.2.2.2.1), (I x.2.2.2.2.1), (I x.2.2.2.2.2.1), (I x.2.2.2.2.2.2)]))), .d (.list Zx.length (Zx.flatMap (fun (x : Int × Int) => [(I x.1), (I x.2)]))), .d (I Zv), .d (I Zz), .d (I Zw)], e := 28 }, { cells := [.d (.list Zy.length (Zy.map L)), .d (.list Zu.length (Zu.flatMap (fun (x : ByteArray × Int × Int × Int × Int × Int × Int) => [(Sx x.1), (I x.2.1), (I x.2.2.1), (I x.2.2.2.1), (I x.2.2.2.2.1), (I x.2.2.2.2.2.1), (I x.2.2.2.2.2.2)]))), .d (.list Zx.length (Zx.flatMap (fun (x : Int × Int) => [(I x.1), (I x.2)]))), .d (I Zv), .d (I Zz), .d (I Zw)], e := 28 }, { cells := [.d (.list Zy.length (Zy.map L)), .d (.list Zu.length (Zu.flatMap (fun (x : ByteArray × Int × Int × Int × Int × Int × Int) => [(Sx x.1), (I x.2.1), (I x.2.2.1), (I x.2.2.2.1), (I x.2.2.2.2.1), (I x.2.2.2.2.2.1), (I x.2.2.2.2.2.2)]))), .d (.list Zx.length (Zx.flatMap (fun (x : Int × Int) => [(I x.1), (I x.2)]))), .d (I Zv), .d (I Zz), .d (I Zw), .d (I ((Zy.getD 0 default).length : Int)), .own 3 0 b31.length 1], e := 127 }, { cells := (b31.map (fun (x : List (Int × Bool)) => (.list x.length (x.flatMap (fun (x : Int × Bool) => [(I x.1), (Bo x.2)]))))).map .d, e := 124 }]) (plan_CoveredBy.b1 N Zy Zu Zx Zv Zz Zw K_) r N ((0 : Int), ([] : List (List (Int × Bool)))) (by (simp only [go_sem]; omega)) H (by (simp only [sw1, go_sem, simprocAttr]; done)) ?_
 rintro n ⟨t25, b31⟩ H N5 hN5
 unfold plan_CoveredBy.b1 at H
 try simp only [go_sem, simprocAttr]
 refine PW.seq ?_
 refine PW.regionK fun K hK => OW.run [5, 23, 24, 25, 26] ?_
 simp only [go_sem, simprocAttr, sw0]
 refine OW.nil (hK _ ?_); clear hK K
 refine PW.seq ?_
 refine PW.cond rfl (fun h6 => ?_) (fun h6 => ?_)
 ·
  replace H := br_t h6 H
  refine PW.skip ?_
  refine PW.seq ?_
  refine PW.block ?_
  refine PW.seq ?_
  obtain ⟨c7, H⟩ := chk_some H
  refine PW.regionK fun K hK => OW.run [5, 7, 23, 24, 25] ?_
  (simp only [go_sem, simprocAttr, sw0, z0W5a, z1W5a Zu t25.toNat (by omega)])
  repeat (refine And.intro (by omega) ?_)
  refine OW.nil (hK _ ?_); clear hK K
  change PW _ _ _ _ _
  obtain ⟨x2, e2, H⟩ := bnd_some H
  obtain ⟨c8, H⟩ := chk_some H
  refine PW.drawX 10 [9] (fun j => List.getD [[{ cells := [.d (.list Zy.length (Zy.map L)), .d (.list Zu.length (Zu.flatMap (fun (x : ByteArray × Int × Int × Int × Int × Int × Int) => [(Sx x.1), (I x.2.1), (I x.2.2.1), (I x.2.2.2.1), (I x.2.2.2.2.1), (I x.2.2.2.2.2.1), (I x.2.2.2.2.2.2)]))), .d (.list Zx.length (Zx.flatMap (fun (x : Int × Int) => [(I x.1), (I x.2)]))), .d (I Zv), .d (I Zz), .d (I Zw)], e := 28 }, { cells := [.d (.list Zy.length (Zy.map L)), .d (.list Zu.length (Zu.flatMap (fun (x : ByteArray × Int × Int × Int × Int × Int × Int) => [(Sx x.1), (I x.2.1), (I x.2.2.1), (I x.2.2.2.1), (I x.2.2.2.2.1), (I x.2.2.2.2.2.1), (I x.2.2.2.2.2.2)]))), .d (.list Zx.length (Zx.flatMap (fun (x : Int × Int) => [(I x.1), (I x.2)]))), .d (I Zv), .d (I Zz), .d (I Zw)], e := 28 }, { cells := [.d (.list Zy.length (Zy.map L)), .d (.list Zu.length (Zu.flatMap (fun (x : ByteArray × Int × Int × Int × Int × Int × Int) => [(Sx x.1), (I x.2.1), (I x.2.2.1), (I x.2.2.2.1), (I x.2.2.2.2.1), (I x.2.2.2.2.2.1), (I x.2.2.2.2.2.2)]))), .d (.list Zx.length (Zx.flatMap (fun (x : Int × Int) => [(I x.1), (I x.2)]))), .d (I Zv), .d (I Zz), .d (I Zw), .d (I ((Zy.getD 0 default).length : Int)), .own 3 0 b31.length 1], e := 127 }, { cells := (b31.map (fun (x : List (Int × Bool)) => (.list x.length (x.flatMap (fun (x : Int × Bool) => [(I x.1), (Bo x.2)]))))).map .d, e := 124 }, { cells := [.d (Sx ((Zu.getD t25.toNat default).1)), .d (I ((Zu.getD t25.toNat default).2.1)), .d (I ((Zu.getD t25.toNat default).2.2.1)), .d (I ((Zu.getD t25.toNat default).2.2.2.1)), .d (I ((Zu.getD t25.toNat default).2.2.2.2.1)), .d (I ((Zu.getD t25.toNat default).2.2.2.2.2.1)), .d (I ((Zu.getD t25.toNat default).2.2.2.2.2.2))], e := 78 }], [{ cells := [.d (.list Zy.length (Zy.map L)), .d (.list Zu.length (Zu.flatMap (fun (x : ByteArray × Int × Int × Int × Int × Int × Int) => [(Sx x.1), (I x.2.1), (I x.2.2.1), (I x.2.2.2.1), (I x.2.2.2.2.1), (I x.2.2.2.2.2.1), (I x.2.2.2.2.2.2)]))), .d (.list Zx.length (Zx.flatMap (fun (x : Int × Int) => [(I x.1), (I x.2)]))), .d (I Zv), .d (I Zz), .d (I Zw)], e := 28 }, { cells := [.d (.list Zy.length (Zy.map L)), .d (.list Zu.length (Zu.flatMap (fun (x : ByteArray × Int × Int × Int × Int × Int × Int) => [(Sx x.1), (I x.2.1), (I x.2.2.1), (I x.2.2.2.1), (I x.2.2.2.2.1), (I x.2.2.2.2.2.1), (I x.2.2.2.2.2.2)]))), .d (.list Zx.length (Zx.flatMap (fun (x : Int × Int) => [(I x.1), (I x.2)]))), .d (I Zv), .d (I Zz), .d (I Zw)], e := 28 }, { cells := [.d (.list Zy.length (Zy.map L)), .d (.list Zu.length (Zu.flatMap (fun (x : ByteArray × Int × Int × Int × Int × Int × Int) => [(Sx x.1), (I x.2.1), (I x.2.2.1), (I x.2.2.2.1), (I x.2.2.2.2.1), (I x.2.2.2.2.2.1), (I x.2.2.2.2.2.2)]))), .d (.list Zx.length (Zx.flatMap (fun (x : Int × Int) => [(I x.1), (I x.2)]))), .d (I Zv), .d (I Zz), .d (I Zw), .d (I ((Zy.getD 0 default).length : Int)), .dead], e := 127 }, { cells := ((b31 ++ ([x2] : List (List (Int × Bool)))).map (fun (x : List (Int × Bool)) => (.list x.length (x.flatMap (fun (x : Int × Bool) => [(I x.1), (Bo x.2)]))))).map .d, e := 124 }, { cells := [.d (Sx ((Zu.getD t25.toNat default).1)), .d (I ((Zu.getD t25.toNat default).2.1)), .d (I ((Zu.getD t25.toNat default).2.2.1)), .d (I ((Zu.getD t25.toNat default).2.2.2.1)), .d (I ((Zu.getD t25.toNat default).2.2.2.2.1)), .d (I ((Zu.getD t25.toNat default).2.2.2.2.2.1)), .d (I ((Zu.getD t25.toNat default).2.2.2.2.2.2))], e := 78 }]] j []) (κL [(0, 3)]) mixed (by kernel_rfl) (by decide) (by ((refine ⟨by decide, ?_⟩; intro k i i' h1 h2 o ho; match k, h1, h2 with | 0, h1, h2 => (simp at h1 h2 <;> first | (cases h2; done) | (subst h1; subst h2; simp at ho; subst ho; simp [Region.binds]; done)) | 1, h1, h2 => (simp at h1 h2 <;> first | (cases h2; done) | (subst h1; subst h2; simp at ho; subst ho; simp [Region.binds]; done)) | 2, h1, h2 => (simp at h1 h2 <;> first | (cases h2; done) | (subst h1; subst h2; simp at ho; subst ho; simp [Region.binds]; done)) | k + 3, h1, h2 => (simp at h2; done)))) (κL_dead _) (by decide) (freshL rfl) rfl rfl fun K hK => ?_
  change FWX _ _ _ _ _ _ _ _ _ _
  refine FWX.op (by decide) rfl (.ptr 2 0) 0 1 (.inl rfl) (.inl rfl) ?_ ?_ (by (simp only [go_sem, Nat.reduceLT])) ?_
  ·
   intro j hj1 hj2
   have hj : j = 0 ∨ j = 1 := by omega
   rcases hj with rfl | rfl
   all_goals (refine ⟨?_, ?_⟩)
   all_goals (first | rfl | trivial | ((simp only [go_sem, simprocAttr, sw0, allOne_mapF (fun (x : List (Int × Bool)) => (.list x.length (x.flatMap (fun (x : Int × Bool) => [(I x.1), (Bo x.2)])))) (fun _ => rfl)]); first | done | rfl | omega | assumption | decide | (simp only [List.append_assoc, List.cons_append, List.nil_append]; done) | ((repeat (refine And.intro (by first | rfl | omega | assumption | decide) ?_)); first | rfl | omega | assumption | decide)))
  refine KeptX.free [33, 38] (by first | rfl | (simp only [V.kill]; exact if_neg (by omega))) ?_ (by kernel_rfl) ?_
  · repeat (first | exact fun _ h => absurd h List.not_mem_nil | (refine List.forall_mem_cons.2 (And.intro ?_ ?_); · first | exact .inr rfl | (left; simp; done) | (right; simp only [V.kill, ↓reduceIte]; first | rfl | exact if_neg (by omega) | (simp only [V.kill, V.kill.kills, ↓reduceIte]; done))))
  exact KeptX.nil
  try simp only [go_sem, simprocAttr]
  refine FWX.op (by decide) rfl (.ptr 2 0) 0 1 (.inl rfl) (.inl rfl) ?_ ?_ (by (simp only [go_sem, Nat.reduceLT])) ?_
  ·
   intro j hj1 hj2
   have hj : j = 0 ∨ j = 1 := by omega
   rcases hj with rfl | rfl
   all_goals (refine ⟨?_, ?_⟩)
   all_goals (first | rfl | trivial | ((simp only [go_sem, simprocAttr, sw0, allOne_mapF (fun (x : List (Int × Bool)) => (.list x.length (x.flatMap (fun (x : Int × Bool) => [(I x.1), (Bo x.2)])))) (fun _ => rfl)]); first | done | rfl | omega | assumption | decide | (simp only [List.append_assoc, List.cons_append, List.nil_append]; done) | ((repeat (refine And.intro (by first | rfl | omega | assumption | decide) ?_)); first | rfl | omega | assumption | decide)))
  refine KeptX.free [33, 38] (by first | rfl | (simp only [V.kill]; exact if_neg (by omega))) ?_ (by kernel_rfl) ?_
  · repeat (first | exact fun _ h => absurd h List.not_mem_nil | (refine List.forall_mem_cons.2 (And.intro ?_ ?_); · first | exact .inr rfl | (left; simp; done) | (right; simp only [V.kill, ↓reduceIte]; first | rfl | exact if_neg (by omega) | (simp only [V.kill, V.kill.kills, ↓reduceIte]; done))))
  exact KeptX.nil
  try simp only [go_sem, simprocAttr]
  refine FWX.op (by decide) rfl (.ptr 2 0) 0 1 (.inl rfl) (.inl rfl) ?_ ?_ (by (simp only [go_sem, Nat.reduceLT])) ?_
  ·
   intro j hj1 hj2
   have hj : j = 0 ∨ j = 1 := by omega
   rcases hj with rfl | rfl
   all_goals (refine ⟨?_, ?_⟩)
   all_goals (first | rfl | trivial | ((simp only [go_sem, simprocAttr, sw0, allOne_mapF (fun (x : List (Int × Bool)) => (.list x.length (x.flatMap (fun (x : Int × Bool) => [(I x.1), (Bo x.2)])))) (fun _ => rfl)]); first | done | rfl | omega | assumption | decide | (simp only [List.append_assoc, List.cons_append, List.nil_append]; done) | ((repeat (refine And.intro (by first | rfl | omega | assumption | decide) ?_)); first | rfl | omega | assumption | decide)))
  refine KeptX.free [33, 38] (by first | rfl | (simp only [V.kill]; exact if_neg (by omega))) ?_ (by kernel_rfl) ?_
  · repeat (first | exact fun _ h => absurd h List.not_mem_nil | (refine List.forall_mem_cons.2 (And.intro ?_ ?_); · first | exact .inr rfl | (left; simp; done) | (right; simp only [V.kill, ↓reduceIte]; first | rfl | exact if_neg (by omega) | (simp only [V.kill, V.kill.kills, ↓reduceIte]; done))))
  exact KeptX.nil
  try simp only [go_sem, simprocAttr]
  refine FWX.op (by decide) rfl (.ptr 2 7) 0 1 (.inl rfl) (.inl rfl) ?_ ?_ (by (simp only [go_sem, Nat.reduceLT])) ?_
  ·
   intro j hj1 hj2
   have hj : j = 0 ∨ j = 1 := by omega
   rcases hj with rfl | rfl
   all_goals (refine ⟨?_, ?_⟩)
   all_goals (first | rfl | trivial | ((simp only [go_sem, simprocAttr, sw0, allOne_mapF (fun (x : List (Int × Bool)) => (.list x.length (x.flatMap (fun (x : Int × Bool) => [(I x.1), (Bo x.2)])))) (fun _ => rfl)]); first | done | rfl | omega | assumption | decide | (simp only [List.append_assoc, List.cons_append, List.nil_append]; done) | ((repeat (refine And.intro (by first | rfl | omega | assumption | decide) ?_)); first | rfl | omega | assumption | decide)))
  refine KeptX.free [33, 38] (by first | rfl | (simp only [V.kill]; exact if_neg (by omega))) ?_ (by kernel_rfl) ?_
  · repeat (first | exact fun _ h => absurd h List.not_mem_nil | (refine List.forall_mem_cons.2 (And.intro ?_ ?_); · first | exact .inr rfl | (left; simp; done) | (right; simp only [V.kill, ↓reduceIte]; first | rfl | exact if_neg (by omega) | (simp only [V.kill, V.kill.kills, ↓reduceIte]; done))))
  exact KeptX.nil
  try simp only [go_sem, simprocAttr]
  refine FWX.op (by decide) rfl (.own 3 0 b31.length 1) 0 0 (.inl rfl) (.inr ⟨_, _, { on := 4, ground := .data }, rfl, rfl, by simp, rfl, rfl⟩) ?_ ?_ (by (simp only [go_sem, Nat.reduceLT])) ?_
  ·
   intro j hj1 hj2
   have hj : j = 0 := by omega
   subst hj
   all_goals (refine ⟨?_, ?_⟩)
   all_goals (first | rfl | trivial | ((simp only [go_sem, simprocAttr, sw0, allOne_mapF (fun (x : List (Int × Bool)) => (.list x.length (x.flatMap (fun (x : Int × Bool) => [(I x.1), (Bo x.2)])))) (fun _ => rfl)]); first | done | rfl | omega | assumption | decide | (simp only [List.append_assoc, List.cons_append, List.nil_append]; done) | ((repeat (refine And.intro (by first | rfl | omega | assumption | decide) ?_)); first | rfl | omega | assumption | decide)))
  refine KeptX.dep rfl rfl ⟨{ on := 4, ground := .data }, by simp, rfl, rfl⟩ ?_
  exact KeptX.nil
  try simp only [go_sem, simprocAttr]
  refine FWX.op (by decide) rfl (.ptr 2 0) 0 1 (.inl rfl) (.inl rfl) ?_ ?_ (by (simp only [go_sem, Nat.reduceLT])) ?_
  ·
   intro j hj1 hj2
   have hj : j = 0 ∨ j = 1 := by omega
   rcases hj with rfl | rfl
   all_goals (refine ⟨?_, ?_⟩)
   all_goals (first | rfl | trivial | ((simp only [go_sem, simprocAttr, sw0, allOne_mapF (fun (x : List (Int × Bool)) => (.list x.length (x.flatMap (fun (x : Int × Bool) => [(I x.1), (Bo x.2)])))) (fun _ => rfl)]); first | done | rfl | omega | assumption | decide | (simp only [List.append_assoc, List.cons_append, List.nil_append]; done) | ((repeat (refine And.intro (by first | rfl | omega | assumption | decide) ?_)); first | rfl | omega | assumption | decide)))
  refine KeptX.free [33, 38] (by first | rfl | (simp only [V.kill]; exact if_neg (by omega))) ?_ (by kernel_rfl) ?_
  · repeat (first | exact fun _ h => absurd h List.not_mem_nil | (refine List.forall_mem_cons.2 (And.intro ?_ ?_); · first | exact .inr rfl | (left; simp; done) | (right; simp only [V.kill, ↓reduceIte]; first | rfl | exact if_neg (by omega) | (simp only [V.kill, V.kill.kills, ↓reduceIte]; done))))
  exact KeptX.nil
  try simp only [go_sem, simprocAttr]
  refine FWX.op (by decide) rfl (.agg [.d (Sx ((Zu.getD t25.toNat default).1)), .d (I ((Zu.getD t25.toNat default).2.1)), .d (I ((Zu.getD t25.toNat default).2.2.1)), .d (I ((Zu.getD t25.toNat default).2.2.2.1)), .d (I ((Zu.getD t25.toNat default).2.2.2.2.1)), .d (I ((Zu.getD t25.toNat default).2.2.2.2.2.1)), .d (I ((Zu.getD t25.toNat default).2.2.2.2.2.2))]) 0 1 (.inl rfl) (.inl rfl) ?_ ?_ (by (simp only [go_sem, Nat.reduceLT])) ?_
  ·
   intro j hj1 hj2
   have hj : j = 0 ∨ j = 1 := by omega
   rcases hj with rfl | rfl
   all_goals (refine ⟨?_, ?_⟩)
   all_goals (first | rfl | trivial | ((simp only [go_sem, simprocAttr, sw0, allOne_mapF (fun (x : List (Int × Bool)) => (.list x.length (x.flatMap (fun (x : Int × Bool) => [(I x.1), (Bo x.2)])))) (fun _ => rfl)]); first | done | rfl | omega | assumption | decide | (simp only [List.append_assoc, List.cons_append, List.nil_append]; done) | ((repeat (refine And.intro (by first | rfl | omega | assumption | decide) ?_)); first | rfl | omega | assumption | decide)))
  refine KeptX.free [33, 38] (by first | rfl | (simp only [V.kill]; exact if_neg (by omega))) ?_ (by kernel_rfl) ?_
  · repeat (first | exact fun _ h => absurd h List.not_mem_nil | (refine List.forall_mem_cons.2 (And.intro ?_ ?_); · first | exact .inr rfl | (left; simp; done) | (right; simp only [V.kill, ↓reduceIte]; first | rfl | exact if_neg (by omega) | (simp only [V.kill, V.kill.kills, ↓reduceIte]; done))))
  exact KeptX.nil
  try simp only [go_sem, simprocAttr]
  refine FWX.callF (by decide) rfl rfl 4 0 0 (.inl rfl) (.inr ⟨_, _, { on := 7, ground := .chain }, rfl, rfl, by simp, rfl, rfl⟩) rfl (by first | exact rfl | ((simp only [go_sem, List.toList_toArray, simprocAttr]); exact rfl)) (plan_field_of_okf N _ _ _ _ _ _ _ _ _ _ _ _ _ _ _ _ e2) ?_ ?_ (by (simp only [go_sem, Nat.reduceLT])) ?_
  ·
   intro j hj1 hj2
   have hj : j = 0 := by omega
   subst hj
   all_goals (refine ⟨?_, ?_⟩)
   any_goals try simp only [go_sem, simprocAttr]
   all_goals first | ((refine okAll_intro ?_; (simp only [go_sem, sw2, List.length_set, List.length_replicate, and_true, true_and, Nat.le_refl, simprocAttr]; done)); done) | ((((simp only [go_sem, sw1, simprocAttr]; try simp only [seg, go_sem, simprocAttr])); done); done)
  refine KeptX.dep rfl rfl ⟨{ on := 7, ground := .chain }, by simp, rfl, rfl⟩ ?_
  exact KeptX.nil
  try simp only [go_sem, simprocAttr]
  refine FWX.op (by decide) rfl (.d (.list ([x2] : List (List (Int × Bool))).length (([x2] : List (List (Int × Bool))).map (fun (x : List (Int × Bool)) => (.list x.length (x.flatMap (fun (x : Int × Bool) => [(I x.1), (Bo x.2)]))))))) 0 0 (.inl rfl) (.inr ⟨_, _, { on := 8, ground := .data }, rfl, rfl, by simp, rfl, rfl⟩) ?_ ?_ (by (simp only [go_sem, Nat.reduceLT])) ?_
  ·
   intro j hj1 hj2
   have hj : j = 0 := by omega
   subst hj
   all_goals (refine ⟨?_, ?_⟩)
   all_goals (first | rfl | trivial | ((simp only [go_sem, simprocAttr, sw0, allOne_mapF (fun (x : List (Int × Bool)) => (.list x.length (x.flatMap (fun (x : Int × Bool) => [(I x.1), (Bo x.2)])))) (fun _ => rfl)]); first | done | rfl | omega | assumption | decide | (simp only [List.append_assoc, List.cons_append, List.nil_append]; done) | ((repeat (refine And.intro (by first | rfl | omega | assumption | decide) ?_)); first | rfl | omega | assumption | decide)))
  refine KeptX.dep rfl rfl ⟨{ on := 8, ground := .data }, by simp, rfl, rfl⟩ ?_
  exact KeptX.nil
  try simp only [go_sem, simprocAttr]
  refine FWX.append 3 (q := 0) (by decide) rfl rfl rfl rfl (Nat.le_of_ble_eq_true rfl) rfl (by first | decide | (first | exact Nat.le_refl _ | exact Nat.zero_le _ | (simp only [go_sem]; omega))) (.own 3 0 ((b31 ++ ([x2] : List (List (Int × Bool)))).length) 1) ?_ rfl ?_ ?_ ?_
  ·
   refine FreeX.of' rfl [33] ?_ (by kernel_rfl)
   · repeat (first | exact fun _ h => absurd h List.not_mem_nil | (refine List.forall_mem_cons.2 (And.intro ?_ ?_); · first | exact .inr rfl | (left; simp; done) | (right; simp only [V.kill, ↓reduceIte]; first | rfl | exact if_neg (by omega) | (simp only [V.kill, V.kill.kills, ↓reduceIte]; done))))
  · first | trivial | ((simp only [go_sem, simprocAttr, sw0, allOne_mapF (fun (x : List (Int × Bool)) => (.list x.length (x.flatMap (fun (x : Int × Bool) => [(I x.1), (Bo x.2)])))) (fun _ => rfl)]); done) | ((simp only [go_sem, simprocAttr, sw0, allOne_mapF (fun (x : List (Int × Bool)) => (.list x.length (x.flatMap (fun (x : Int × Bool) => [(I x.1), (Bo x.2)])))) (fun _ => rfl)]); first | omega | (repeat (refine And.intro (by (first | omega | assumption | rfl | decide | (simp only [List.length_map, List.length_replicate, List.length_append, List.length_take, List.length_drop, List.length_set, List.length_cons, List.length_nil, Nat.zero_add, Int.toNat_natCast] at *; omega) | (simp only [List.length_map, List.length_replicate, List.length_append, List.length_take, List.length_drop, List.length_set, List.length_cons, List.length_nil, Nat.zero_add, Int.toNat_natCast]; done) | trivial)) ?_); (first | omega | assumption | rfl | decide | (simp only [List.length_map, List.length_replicate, List.length_append, List.length_take, List.length_drop, List.length_set, List.length_cons, List.length_nil, Nat.zero_add, Int.toNat_natCast] at *; omega) | (simp only [List.length_map, List.length_replicate, List.length_append, List.length_take, List.length_drop, List.length_set, List.length_cons, List.length_nil, Nat.zero_add, Int.toNat_natCast]; done) | trivial)))
  · first | rfl | ((simp only [go_sem, simprocAttr, sw0, allOne_mapF (fun (x : List (Int × Bool)) => (.list x.length (x.flatMap (fun (x : Int × Bool) => [(I x.1), (Bo x.2)])))) (fun _ => rfl)]); done) | ((simp only [go_sem, simprocAttr, sw0, allOne_mapF (fun (x : List (Int × Bool)) => (.list x.length (x.flatMap (fun (x : Int × Bool) => [(I x.1), (Bo x.2)])))) (fun _ => rfl)]); rfl) | ((simp only [go_sem, simprocAttr, sw0, allOne_mapF (fun (x : List (Int × Bool)) => (.list x.length (x.flatMap (fun (x : Int × Bool) => [(I x.1), (Bo x.2)])))) (fun _ => rfl)]); simp only [List.append_assoc, List.cons_append, List.nil_append]; done)
  try (simp only [go_sem, simprocAttr, sw0, allOne_mapF (fun (x : List (Int × Bool)) => (.list x.length (x.flatMap (fun (x : Int × Bool) => [(I x.1), (Bo x.2)])))) (fun _ => rfl)])
  refine FWX.nil ?_
  change OW _ _ _ _ _ _
  change OW _ _ _ _ _ _
  refine OW.run [5, 23, 24, 25] ?_
  (simp only [go_sem, simprocAttr, sw0, allOne_mapF (fun (x : List (Int × Bool)) => (.list x.length (x.flatMap (fun (x : Int × Bool) => [(I x.1), (Bo x.2)])))) (fun _ => rfl)])
  repeat (refine And.intro (by omega) ?_)
  refine OW.nil (hK _ ?_); clear hK K
  refine PW.regionK fun K hK => OW.run [5, 23, 24, 25] ?_
  simp only [go_sem, simprocAttr, sw0]
  refine OW.nil (hK _ ?_); clear hK K
  refine hN5 [] (w64 (t25 + (1 : Int)), (b31 ++ ([x2] : List (List (Int × Bool))))) _ H (by exact trivial) ?_
  simp only [sw1, go_sem, simprocAttr]
 replace H := br_f h6 H
 refine PW.exit ?_
 refine hN4 [] b31 _ H (by exact trivial) ?_
 simp only [sw1, go_sem, simprocAttr]
 rintro b3 H
 try simp only [go_sem, simprocAttr]
 refine PW.seq ?_
 refine PW.regionK fun K hK => OW.run [2, 3] ?_
 simp only [go_sem, simprocAttr, sw0]
 refine OW.nil (hK _ ?_); clear hK K
 refine PW.ret ?_
 refine ⟨.inr rfl, rfl, rfl, ?_⟩
 simp only [go_sem, simprocAttr, sw0]
 change OW _ _ _ _ _ _
 refine OW.run [1, 4, 5] ?_
 simp only [go_sem, simprocAttr, sw0]
 refine OW.nil (hK _ ?_); clear hK K
 refine PW.seq ?_
 refine PW.seq ?_
 refine PW.regionK fun K hK => OW.run [1, 4, 5, 16] ?_
 simp only [go_sem, simprocAttr, sw0]
 refine OW.nil (hK _ ?_); clear hK K
 refine PW.cond rfl (fun h9 => ?_) (fun h9 => ?_)
 exact absurd h9 (by decide)
 refine PW.skip ?_
 refine PW.seq ?_
 obtain ⟨c10, H⟩ := chk_some H
 refine PW.regionK fun K hK => OW.run [4, 6] ?_
 simp only [go_sem, simprocAttr, sw0]
 repeat (refine And.intro (by omega) ?_)
 refine OW.nil (hK _ ?_); clear hK K
 refine PW.joinS (τ := List Int) [6] 5 (fun b4 => [(6, .own 4 0 b4.length 1)]) (fun b4 => [{ cells := [.d (.list Zy.length (Zy.map L)), .d (.list Zu.length (Zu.flatMap (fun (x : ByteArray × Int × Int × Int × Int × Int × Int) => [(Sx x.1), (I x.2.1), (I x.2.2.1), (I x.2.2.2.1), (I x.2.2.2.2.1), (I x.2.2.2.2.2.1), (I x.2.2.2.2.2.2)]))), .d (.list Zx.length (Zx.flatMap (fun (x : Int × Int) => [(I x.1), (I x.2)]))), .d (I Zv), .d (I Zz), .d (I Zw)], e := 28 }, { cells := [.d (.list Zy.length (Zy.map L)), .d (.list Zu.length (Zu.flatMap (fun (x : ByteArray × Int × Int × Int × Int × Int × Int) => [(Sx x.1), (I x.2.1), (I x.2.2.1), (I x.2.2.2.1), (I x.2.2.2.2.1), (I x.2.2.2.2.2.1), (I x.2.2.2.2.2.2)]))), .d (.list Zx.length (Zx.flatMap (fun (x : Int × Int) => [(I x.1), (I x.2)]))), .d (I Zv), .d (I Zz), .d (I Zw)], e := 28 }, { cells := [.d (.list Zy.length (Zy.map L)), .d (.list Zu.length (Zu.flatMap (fun (x : ByteArray × Int × Int × Int × Int × Int × Int) => [(Sx x.1), (I x.2.1), (I x.2.2.1), (I x.2.2.2.1), (I x.2.2.2.2.1), (I x.2.2.2.2.2.1), (I x.2.2.2.2.2.2)]))), .d (.list Zx.length (Zx.flatMap (fun (x : Int × Int) => [(I x.1), (I x.2)]))), .d (I Zv), .d (I Zz), .d (I Zw), .d (I ((Zy.getD 0 default).length : Int)), .own 3 0 b3.length 1], e := 127 }, { cells := (b3.map (fun (x : List (Int × Bool)) => (.list x.length (x.flatMap (fun (x : Int × Bool) => [(I x.1), (Bo x.2)]))))).map .d, e := 124 }, { cells := (b4.map I).map .d, e := 3 }]) _ _ r (by exact Nat.zero_le _) H ?_ ?_
 intro K_1 H N11 hN11
 refine PW.seq ?_
 obtain ⟨x3, e3, H⟩ := bnd_some H
 refine PW.regionK fun K hK => OW.run [4, 6, 23, 24] ?_
 simp only [go_sem, simprocAttr, sw0]
 refine OW.call' 4 rfl rfl rfl (by first | exact rfl | ((simp only [go_sem, List.toList_toArray, simprocAttr]); exact rfl)) ?_ (plan_field_points_ok N _ _ _ _ _ _ _ _ _ e3) ?_ ?_ ?_ ?_
 · (((simp only [go_sem, sw1, simprocAttr]; try simp only [seg, go_sem, simprocAttr])); done)
 · (refine okAll_intro ?_; (simp only [go_sem, sw2, List.length_set, List.length_replicate, and_true, true_and, Nat.le_refl, simprocAttr]; done))
 exact .inr ⟨rfl, rfl⟩
 (simp only [go_sem, Nat.reduceLT])
 refine OW.run [4, 6, 23, 24] ?_
 simp only [go_sem, simprocAttr, sw0]
 refine OW.nil (hK _ ?_); clear hK K
 refine PW.block ?_
 refine PW.loopS (σ := Int × List Int) [4, 6, 23, 24] 5 (fun (t24, b41) => [(6, .own 4 0 b41.length 1), (24, .d (I t24))]) (fun (t24, b41) => [{ cells := [.d (.list Zy.length (Zy.map L)), .d (.list Zu.length (Zu.flatMap (fun (x : ByteArray × Int × Int × Int × Int × Int × Int) => [(Sx x.1), (I x.2.1), (I x.2.2.1), (I x.2.2.2.1), (I x.2.2.2.2.1), (I x.2.2.2.2.2.1), (I x.2.2.2.2.2.2)]))), .d (.list Zx.length (Zx.flatMap (fun (x : Int × Int) => [(I x.1), (I x.2)]))), .d (I Zv), .d (I Zz), .d (I Zw)], e := 28 }, { cells := [.d (.list Zy.length (Zy.map L)), .d (.list Zu.length (Zu.flatMap (fun (x : ByteArray × Int × Int × Int × Int × Int × Int) => [(Sx x.1), (I x.2.1), (I x.2.2.1), (I x.2.2.2.1), (I x.2.2.2.2.1), (I x.2.2.2.2.2.1), (I x.2.2.2.2.2.2)]))), .d (.list Zx.length (Zx.flatMap (fun (x : Int × Int) => [(I x.1), (I x.2)]))), .d (I Zv), .d (I Zz), .d (I Zw)], e := 28 }, { cells := [.d (.list Zy.length (Zy.map L)), .d (.list Zu.length (Zu.flatMap (fun (x : ByteArray × Int × Int × Int × Int × Int × Int) => [(Sx x.1), (I x.2.1), (I x.2.2.1), (I x.2.2.2.1), (I x.2.2.2.2.1), (I x.2.2.2.2.2.1), (I x.2.2.2.2.2.2)]))), .d (.list Zx.length (Zx.flatMap (fun (x : Int × Int) => [(I x.1), (I x.2)]))), .d (I Zv), .d (I Zz), .d (I Zw), .d (I ((Zy.getD 0 default).length : Int)), .own 3 0 b3.length 1], e := 127 }, { cells := (b3.map (fun (x : List (Int × Bool)) => (.list x.length (x.flatMap (fun (x : Int × Bool) => [(I x.1), (Bo x.2)]))))).map .d, e := 124 }, { cells := (b41.map I).map .d, e := 3 }]) (plan_CoveredBy.b2 N Zy Zu Zx Zv Zz Zw b3 K_1 x3) r N ((0 : Int), (List.replicate (Zu.length : Int).toNat (0 : Int))) (by exact Nat.zero_le _) H (by (simp only [sw1, go_sem, simprocAttr]; done)) ?_
 rintro n_ ⟨t24, b41⟩ H N12 hN12
 unfold plan_CoveredBy.b2 at H
 try simp only [go_sem, simprocAttr]
 refine PW.seq ?_
 refine PW.regionK fun K hK => OW.run [4, 6, 23, 24, 25] ?_
 simp only [go_sem, simprocAttr, sw0]
 refine OW.nil (hK _ ?_); clear hK K
 refine PW.seq ?_
 refine PW.cond rfl (fun h13 => ?_) (fun h13 => ?_)
 replace H := br_t h13 H
 refine PW.skip ?_
 refine PW.seq ?_
 refine PW.block ?_
 refine PW.seq ?_
 refine PW.regionK fun K hK => OW.run [4, 6, 7, 23, 24] ?_
 simp only [go_sem, simprocAttr, sw0]
 refine OW.nil (hK _ ?_); clear hK K
 refine PW.seq ?_
 obtain ⟨⟨x4, x41, x42⟩, e4, H⟩ := bnd_some H
 refine PW.regionK fun K hK => OW.run [4, 6, 8, 9, 23, 24] ?_
 simp only [go_sem, simprocAttr, sw0]
 refine OW.call' 4 rfl rfl rfl (by first | exact rfl | ((simp only [go_sem, List.toList_toArray, simprocAttr]); exact rfl)) ?_ (plan_field_server_ok N _ _ _ _ _ _ _ _ _ _ e4) ?_ ?_ ?_ ?_
 · (((simp only [go_sem, sw1, simprocAttr]; try simp only [seg, go_sem, simprocAttr])); done)
 · (refine okAll_intro ?_; (simp only [go_sem, sw2, List.length_set, List.length_replicate, and_true, true_and, Nat.le_refl, simprocAttr]; done))
 exact .inr ⟨rfl, rfl⟩
 (simp only [go_sem, Nat.reduceLT])
 refine OW.run [4, 6, 8, 9, 23, 24] ?_
 simp only [go_sem, simprocAttr, sw0]
 refine OW.nil (hK _ ?_); clear hK K
 refine PW.seq ?_
 obtain ⟨x5, e5, H⟩ := bnd_some H
 refine PW.regionK fun K hK => OW.run [4, 6, 8, 23, 24, 35] ?_
 simp only [go_sem, simprocAttr, sw0]
 refine OW.call' 4 rfl rfl rfl (by first | exact rfl | ((simp only [go_sem, List.toList_toArray, simprocAttr]); exact rfl)) ?_ (plan_field_covers_ok N _ _ _ _ _ _ _ _ _ _ _ e5) ?_ ?_ ?_ ?_
 · (((simp only [go_sem, sw1, simprocAttr]; try simp only [seg, go_sem, simprocAttr])); done)
 · (refine okAll_intro ?_; (simp only [go_sem, sw2, List.length_set, List.length_replicate, and_true, true_and, Nat.le_refl, simprocAttr]; done))
 exact .inr ⟨rfl, rfl⟩
 (simp only [go_sem, Nat.reduceLT])
 refine OW.run [4, 6, 8, 23, 24, 35] ?_
 simp only [go_sem, simprocAttr, sw0]
 refine OW.nil (hK _ ?_); clear hK K
 refine PW.cond rfl (fun h14 => ?_) (fun h14 => ?_)
 replace H := br_t h14 H
 obtain ⟨c15, H⟩ := chk_some H
 obtain ⟨c16, H⟩ := chk_some H
 refine PW.regionK fun K hK => OW.run [4, 6, 23, 24] ?_
 simp only [go_sem, simprocAttr, sw0]
 repeat (refine And.intro (by omega) ?_)
 refine OW.nil (hK _ ?_); clear hK K
 refine PW.regionK fun K hK => OW.run [4, 6, 23, 24] ?_
 simp only [go_sem, simprocAttr, sw0]
 refine OW.nil (hK _ ?_); clear hK K
 refine hN12 [] (w64 (t24 + (1 : Int)), (b41.set x4.toNat (w64 ((b41.getD x4.toNat 0) + (1 : Int))))) _ H (by exact trivial) ?_
 simp only [sw1, go_sem, simprocAttr]
 replace H := br_f h14 H
 refine PW.skip ?_
 refine PW.regionK fun K hK => OW.run [4, 6, 23, 24] ?_
 simp only [go_sem, simprocAttr, sw0]
 refine OW.nil (hK _ ?_); clear hK K
 refine hN12 [] (w64 (t24 + (1 : Int)), b41) _ H (by exact trivial) ?_
 simp only [sw1, go_sem, simprocAttr]
 replace H := br_f h13 H
 refine PW.exit ?_
 refine hN11 [] b41 _ H (by exact trivial) ?_
 simp only [sw1, go_sem, simprocAttr]
 rintro b4 H
 try simp only [go_sem, simprocAttr]
 refine PW.seq ?_
 refine PW.regionK fun K hK => OW.run [2, 3] ?_
 simp only [go_sem, simprocAttr, sw0]
 refine OW.nil (hK _ ?_); clear hK K
 refine PW.ret ?_
 change PW.Ends _ _ _ _ _ _
 refine PW.Ends.intro (.inr rfl) ?_
 simp only [go_sem, simprocAttr, sw0]
 obtain rfl := Option.some.inj H
 refine RetOK.data' 4 (by (refine okAll_intro ?_; (simp only [go_sem, sw2, List.length_set, List.length_replicate, and_true, true_and, Nat.le_refl, simprocAttr]; done))) ?_
 · (((simp only [go_sem, sw1, simprocAttr]; try simp only [seg, go_sem, simprocAttr])); done)

theorem ref09_Points_ok (N : Nat) (Z10 : List (List Int)) (r : (List (Int × Int))) (H : ref09_Points N Z10 = some r) : CallOK Tryz.prog 66 [(.agg [(.list Z10.length (Z10.map L))])] (.d (.list r.length (r.flatMap (fun (x : Int × Int) => [(I x.1), (I x.2)])))) [] := by
 refine CallOK.of_PW Tryz.func66 rfl (by rw [Tryz.results66]) Tryz.ntmps66 Tryz.call66 ?_
 change PW _ _ _ _ _
 try simp only [go_sem, simprocAttr]
 unfold ref09_Points at H
 refine PW.seq ?_
 refine PW.regionK fun K hK => OW.run [1] ?_
 simp only [go_sem, simprocAttr, sw0]
 refine OW.nil (hK _ ?_)
 refine PW.seq ?_
 refine PW.regionK fun K hK => OW.run [1, 3] ?_
 simp only [go_sem, simprocAttr, sw0]
 refine OW.nil (hK _ ?_)
 refine PW.joinS (τ := (List (Int × Int))) [3] 2 (fun b1 => [(3, .own 1 0 b1.length 2)]) (fun b1 => [{ cells := [.d (.list Z10.length (Z10.map L))], e := 24 }, { cells := (b1.flatMap (fun (x : Int × Int) => [(I x.1), (I x.2)])).map .d, e := 58 }]) _ _ r (by exact Nat.zero_le _) H ?_ ?_
 intro K_ H N1 hN1
 refine PW.seq ?_
 refine PW.regionK fun K hK => OW.run [1, 3, 4] ?_
 simp only [go_sem, simprocAttr, sw0]
 refine OW.nil (hK _ ?_)
 refine PW.block ?_
 refine PW.virt 3 58 2 rfl ?_
 try simp only [go_sem, simprocAttr]
 refine PW.loopS (σ := Int × (List (Int × Int))) [1, 3, 4] 2 (fun (i, b11) => [(3, .own 1 0 b11.length 2), (4, .d (I i))]) (fun (i, b11) => [{ cells := [.d (.list Z10.length (Z10.map L))], e := 24 }, { cells := (b11.flatMap (fun (x : Int × Int) => [(I x.1), (I x.2)])).map .d, e := 58 }]) (ref09_Points.b1 N Z10 K_) r N ((0 : Int), ([] : List (Int × Int))) (by exact Nat.zero_le _) H (by (simp only [sw1, go_sem, simprocAttr]; rfl)) ?_
 rintro n ⟨i, b11⟩ H N2 hN2
 unfold ref09_Points.b1 at H
 try simp only [go_sem, simprocAttr]
 refine PW.seq ?_
 refine PW.seq ?_
 refine PW.regionK fun K hK => OW.run [1, 3, 4, 10] ?_
 simp only [go_sem, simprocAttr, sw0]
 repeat (refine And.intro (by omega) ?_)
 refine OW.nil (hK _ ?_)
 refine PW.cond rfl (fun h3 => ?_) (fun h3 => ?_)
 replace H := br_t h3 H
 refine PW.skip ?_
 refine PW.joinS (τ := (List (Int × Int))) [1, 3, 4] 2 (fun b12 => [(3, .own 1 0 b12.length 2)]) (fun b12 => [{ cells := [.d (.list Z10.length (Z10.map L))], e := 24 }, { cells := (b12.flatMap (fun (x : Int × Int) => [(I x.1), (I x.2)])).map .d, e := 58 }]) _ _ r (by exact Nat.zero_le _) H ?_ ?_
 intro K_1 H N4 hN4
 refine PW.block ?_
 refine PW.seq ?_
 refine PW.regionK fun K hK => OW.run [1, 3, 4, 5] ?_
 simp only [go_sem, simprocAttr, sw0]
 refine OW.nil (hK _ ?_)
 refine PW.block ?_
 refine PW.loopS (σ := Int × (List (Int × Int))) [1, 3, 4, 5] 2 (fun (k, b13) => [(3, .own 1 0 b13.length 2), (5, .d (I k))]) (fun (k, b13) => [{ cells := [.d (.list Z10.length (Z10.map L))], e := 24 }, { cells := (b13.flatMap (fun (x : Int × Int) => [(I x.1), (I x.2)])).map .d, e := 58 }]) (ref09_Points.b2 N Z10 i K_1) r N ((0 : Int), b11) (by exact Nat.zero_le _) H (by (simp only [sw1, go_sem, simprocAttr]; done)) ?_
 rintro n ⟨k, b13⟩ H N5 hN5
 unfold ref09_Points.b2 at H
 try simp only [go_sem, simprocAttr]
 refine PW.seq ?_
 refine PW.seq ?_
 obtain ⟨c6, H⟩ := chk_some H
 refine PW.regionK fun K hK => OW.run [1, 3, 4, 5, 19] ?_
 (simp only [go_sem, simprocAttr, sw0, getD_mapF L Z10 0 default (by omega)])
 repeat (refine And.intro (by omega) ?_)
 refine OW.nil (hK _ ?_)
 refine PW.cond rfl (fun h7 => ?_) (fun h7 => ?_)
 replace H := br_t h7 H
 refine PW.skip ?_
 refine PW.seq ?_
 refine PW.block ?_
 obtain ⟨c8, H⟩ := chk_some H
 refine PW.regionK fun K hK => OW.run [1, 3, 4, 5] ?_
 (simp only [go_sem, simprocAttr, sw0, flatMap_length 2 (fun (x : Int × Int) => [(I x.1), (I x.2)]) (fun _ => rfl)])
 repeat (refine And.intro (by first | rfl | omega) ?_)
 refine OW.nil (hK _ ?_)
 refine PW.regionK fun K hK => OW.run [1, 3, 4, 5] ?_
 simp only [go_sem, simprocAttr, sw0]
 refine OW.nil (hK _ ?_)
 refine hN5 [] (w64 (k + (1 : Int)), (b13 ++ ([(i, k)] : List (Int × Int)))) _ H (by exact trivial) ?_
 (simp only [sw1, go_sem, simprocAttr]; simp only [List.length_set, List.length_append, List.length_cons, List.length_nil, Nat.zero_add, List.map_set, List.map_append, List.map_cons, List.map_nil, List.flatMap_append, List.flatMap_cons, List.flatMap_nil, List.append_nil, List.cons_append, List.nil_append]; rfl)
 replace H := br_f h7 H
 refine PW.exit ?_
 refine hN4 [] b13 _ H (by exact trivial) ?_
 simp only [sw1, go_sem, simprocAttr]
 rintro b12 H
 try simp only [go_sem, simprocAttr]
 refine PW.regionK fun K hK => OW.run [1, 3, 4] ?_
 simp only [go_sem, simprocAttr, sw0]
 refine OW.nil (hK _ ?_)
 refine hN2 [] (w64 (i + (1 : Int)), b12) _ H (by exact trivial) ?_
 simp only [sw1, go_sem, simprocAttr]
 replace H := br_f h3 H
 refine PW.exit ?_
 refine hN1 [] b11 _ H (by exact trivial) ?_
 simp only [sw1, go_sem, simprocAttr]
 ·
  rintro b1 H
  try simp only [go_sem, simprocAttr]
  refine PW.seq ?_
  refine PW.regionK fun K hK => OW.run [2] ?_
  simp only [go_sem, simprocAttr, sw0]
  refine OW.nil (hK _ ?_)
  refine PW.ret ?_
  change PW.Ends _ _ _ _ _ _
  refine PW.Ends.intro (.inr rfl) ?_
  simp only [go_sem, simprocAttr, sw0]
  obtain rfl := Option.some.inj H
  have hl0 := flatMap_length 2 (fun (x : Int × Int) => [(I x.1), (I x.2)]) (fun _ => rfl) b1
  have hn0 : (b1.flatMap (fun (x : Int × Int) => [(I x.1), (I x.2)])).map nz = b1.flatMap (fun (x : Int × Int) => [(I x.1), (I x.2)]) := map_nz_flat (fun _ => rfl) _
  have ht0 : (b1.flatMap (fun (x : Int × Int) => [(I x.1), (I x.2)])).take (b1.length * 2) = b1.flatMap (fun (x : Int × Int) => [(I x.1), (I x.2)]) := take_flat _ (fun _ => rfl) rfl
  refine RetOK.data' 4 (by (simp only [go_sem, sw2, List.length_set, List.length_replicate, and_true, true_and, Nat.le_refl, simprocAttr]; omega)) ?_
  (((simp only [go_sem, sw1, simprocAttr]; try simp only [seg, go_sem, simprocAttr])); (repeat' (first | rfl | (refine list_congr ?_; simp only [List.length_take, List.length_drop, List.length_set, List.length_replicate] <;> omega) | (refine congr (congrArg List.cons ?_) ?_) | (refine congrArg D.agg ?_) | (refine congrArg D.tup ?_) | (refine congrArg D.ref ?_) | (refine congrArg (D.list _) ?_) | (refine congrArg (D.clo _) ?_))))
  all_goals (first | rw [ht0, hn0] | simp only [ht0, hn0])

theorem ref09_covered_ok (N : Nat) (Zy : List (List Int)) (Zu : List (ByteArray × Int × Int × Int × Int × Int × Int)) (Zx : List (Int × Int)) (Zv : Int) (Zz : Int) (Zw : Int) (on : List Bool) (at_0 : Int) (at_1 : Int) (r : Bool) (H : ref09_covered N Zy Zu Zx Zv Zz Zw on at_0 at_1 = some r) : CallOK Tryz.prog 67 [(.agg [(.list Zy.length (Zy.map L)), (.list Zu.length (Zu.flatMap (fun (x : ByteArray × Int × Int × Int × Int × Int × Int) => [(Sx x.1), (I x.2.1), (I x.2.2.1), (I x.2.2.2.1), (I x.2.2.2.2.1), (I x.2.2.2.2.2.1), (I x.2.2.2.2.2.2)]))), (.list Zx.length (Zx.flatMap (fun (x : Int × Int) => [(I x.1), (I x.2)]))), (I Zv), (I Zz), (I Zw)]), (.list on.length (on.map Bo)), (.agg [(I at_0), (I at_1)])] (.d (Bo r)) [] := by
 refine CallOK.of_PW Tryz.func67 rfl (by rw [Tryz.results67]) Tryz.ntmps67 Tryz.call67 ?_
 change PW _ _ _ _ _
 try simp only [go_sem, simprocAttr]
 unfold ref09_covered at H
 refine PW.seq ?_
 refine PW.regionK fun K hK => OW.run [1, 3, 5] ?_
 simp only [go_sem, simprocAttr, sw0]
 refine OW.nil (hK _ ?_)
 refine PW.seq ?_
 obtain ⟨⟨x1, x11, x12⟩, e1, H⟩ := bnd_some H
 refine PW.regionK fun K hK => OW.run [3, 8, 9] ?_
 simp only [go_sem, simprocAttr, sw0]
 refine OW.call' 4 rfl rfl rfl (by first | exact rfl | ((simp only [go_sem, List.toList_toArray, simprocAttr]); exact rfl)) ?_ (ref09_ServerAt_ok N _ _ _ _ _ _ _ _ _ _ e1) ?_ ?_ ?_ ?_
 rfl
 · (refine okAll_intro ?_; (simp only [go_sem, sw2, List.length_set, List.length_replicate, and_true, true_and, Nat.le_refl, simprocAttr]; done))
 exact .inl rfl
 (simp only [go_sem, Nat.reduceLT])
 refine OW.run [3, 8, 9] ?_
 simp only [go_sem, simprocAttr, sw0]
 refine OW.nil (hK _ ?_)
 refine PW.seq ?_
 refine PW.regionK fun K hK => OW.run [6] ?_
 simp only [go_sem, simprocAttr, sw0]
 repeat (refine And.intro (by omega) ?_)
 refine OW.nil (hK _ ?_)
 refine PW.ret ?_
 change PW.Ends _ _ _ _ _ _
 refine PW.Ends.intro (.inr rfl) ?_
 simp only [go_sem, simprocAttr, sw0]
 obtain rfl := Option.some.inj H
 refine RetOK.data' 4 (by exact trivial) ?_
 rfl

theorem ref09_Holes_ok (N : Nat) (Zy : List (List Int)) (Zu : List (ByteArray × Int × Int × Int × Int × Int × Int)) (Zx : List (Int × Int)) (Zv : Int) (Zz : Int) (Zw : Int) (r : (List (Int × Int))) (H : ref09_Holes N Zy Zu Zx Zv Zz Zw = some r) : CallOK Tryz.prog 21 [(.agg [(.list Zy.length (Zy.map L)), (.list Zu.length (Zu.flatMap (fun (x : ByteArray × Int × Int × Int × Int × Int × Int) => [(Sx x.1), (I x.2.1), (I x.2.2.1), (I x.2.2.2.1), (I x.2.2.2.2.1), (I x.2.2.2.2.2.1), (I x.2.2.2.2.2.2)]))), (.list Zx.length (Zx.flatMap (fun (x : Int × Int) => [(I x.1), (I x.2)]))), (I Zv), (I Zz), (I Zw)])] (.d (.list r.length (r.flatMap (fun (x : Int × Int) => [(I x.1), (I x.2)])))) [] := by
 refine CallOK.of_PW Tryz.func21 rfl (by rw [Tryz.results21]) Tryz.ntmps21 Tryz.call21 ?_
 change PW _ _ _ _ _
 try simp only [go_sem, simprocAttr]
 unfold ref09_Holes at H
 refine PW.seq ?_
 refine PW.regionK fun K hK => OW.run [1] ?_
 simp only [go_sem, simprocAttr, sw0]
 refine OW.nil (hK _ ?_)
 refine PW.seq ?_
 refine PW.regionK fun K hK => OW.run [1, 3] ?_
 simp only [go_sem, simprocAttr, sw0]
 refine OW.nil (hK _ ?_)
 refine PW.seq ?_
 obtain ⟨x1, e1, H⟩ := bnd_some H
 refine PW.regionK fun K hK => OW.run [1, 3, 4] ?_
 simp only [go_sem, simprocAttr, sw0]
 repeat (refine And.intro (by omega) ?_)
 refine OW.call' 4 rfl rfl rfl (by first | exact rfl | ((simp only [go_sem, List.toList_toArray, simprocAttr]); exact rfl)) ?_ (ref09_Points_ok N _ _ e1) ?_ ?_ ?_ ?_
 rfl
 · (refine okAll_intro ?_; (simp only [go_sem, sw2, List.length_set, List.length_replicate, and_true, true_and, Nat.le_refl, simprocAttr]; done))
 exact .inl rfl
 (simp only [go_sem, Nat.reduceLT])
 refine OW.run [1, 3, 4] ?_
 simp only [go_sem, simprocAttr, sw0]
 refine OW.nil (hK _ ?_)
 refine PW.joinS (τ := (List (Int × Int))) [3] 2 (fun b1 => [(3, .own 1 0 b1.length 2)]) (fun b1 => [{ cells := [.d (.list Zy.length (Zy.map L)), .d (.list Zu.length (Zu.flatMap (fun (x : ByteArray × Int × Int × Int × Int × Int × Int) => [(Sx x.1), (I x.2.1), (I x.2.2.1), (I x.2.2.2.1), (I x.2.2.2.2.1), (I x.2.2.2.2.2.1), (I x.2.2.2.2.2.2)]))), .d (.list Zx.length (Zx.flatMap (fun (x : Int × Int) => [(I x.1), (I x.2)]))), .d (I Zv), .d (I Zz), .d (I Zw)], e := 28 }, { cells := (b1.flatMap (fun (x : Int × Int) => [(I x.1), (I x.2)])).map .d, e := 58 }]) _ _ r (by exact Nat.zero_le _) H ?_ ?_
 intro K_ H N1 hN1
 refine PW.seq ?_
 refine PW.regionK fun K hK => OW.run [1, 3, 4, 5] ?_
 simp only [go_sem, simprocAttr, sw0]
 refine OW.nil (hK _ ?_)
 refine PW.block ?_
 refine PW.virt 3 58 2 rfl ?_
 try simp only [go_sem, simprocAttr]
 refine PW.loopS (σ := Int × (List (Int × Int))) [1, 3, 4, 5] 2 (fun (i, b11) => [(3, .own 1 0 b11.length 2), (5, .d (I i))]) (fun (i, b11) => [{ cells := [.d (.list Zy.length (Zy.map L)), .d (.list Zu.length (Zu.flatMap (fun (x : ByteArray × Int × Int × Int × Int × Int × Int) => [(Sx x.1), (I x.2.1), (I x.2.2.1), (I x.2.2.2.1), (I x.2.2.2.2.1), (I x.2.2.2.2.2.1), (I x.2.2.2.2.2.2)]))), .d (.list Zx.length (Zx.flatMap (fun (x : Int × Int) => [(I x.1), (I x.2)]))), .d (I Zv), .d (I Zz), .d (I Zw)], e := 28 }, { cells := (b11.flatMap (fun (x : Int × Int) => [(I x.1), (I x.2)])).map .d, e := 58 }]) (ref09_Holes.b1 N Zy Zu Zx Zv Zz Zw x1 K_) r N ((0 : Int), ([] : List (Int × Int))) (by exact Nat.zero_le _) H (by (simp only [sw1, go_sem, simprocAttr]; rfl)) ?_
 rintro n ⟨i, b11⟩ H N2 hN2
 unfold ref09_Holes.b1 at H
 try simp only [go_sem, simprocAttr]
 refine PW.seq ?_
 refine PW.seq ?_
 refine PW.regionK fun K hK => OW.run [1, 3, 4, 5, 12] ?_
 simp only [go_sem, simprocAttr, sw0]
 refine OW.nil (hK _ ?_)
 refine PW.cond rfl (fun h3 => ?_) (fun h3 => ?_)
 replace H := br_t h3 H
 refine PW.skip ?_
 refine PW.seq ?_
 refine PW.block ?_
 refine PW.seq ?_
 obtain ⟨x2, e2, H⟩ := bnd_some H
 obtain ⟨c4, H⟩ := chk_some H
 obtain ⟨x3, e3, H⟩ := bnd_some H
 refine PW.drawK 7 mixed (by kernel_rfl) fun K hK => ?_
 change FW _ _ _ _ _
 refine FW.run ?_
 (simp only [go_sem, simprocAttr, sw0, flatMap_length 2 (fun (x : Int × Int) => [(I x.1), (I x.2)]) (fun _ => rfl), sub_el 2 (fun (x : Int × Int) => [(I x.1), (I x.2)]) (fun _ => rfl) x1 i.toNat (by omega)])
 refine FW.call' 4 rfl rfl rfl (by first | exact rfl | ((simp only [go_sem, List.toList_toArray, simprocAttr]); exact rfl)) ?_ (ref09_Without_ok N _ _ _ _ _ _ _ _ e2) ?_ ?_ ?_ ?_
 rfl
 · (refine okAll_intro ?_; (simp only [go_sem, sw2, List.length_set, List.length_replicate, and_true, true_and, Nat.le_refl, simprocAttr]; done))
 exact .inl rfl
 (simp only [go_sem, Nat.reduceLT])
 refine FW.run ?_
 (simp only [go_sem, simprocAttr, sw0, flatMap_length 2 (fun (x : Int × Int) => [(I x.1), (I x.2)]) (fun _ => rfl), sub_el 2 (fun (x : Int × Int) => [(I x.1), (I x.2)]) (fun _ => rfl) x1 i.toNat (by omega)])
 repeat (refine And.intro (by omega) ?_)
 refine FW.nil ?_
 change OW _ _ _ _ _ _
 refine OW.run [1, 3, 4, 5, 23] ?_
 (simp only [go_sem, simprocAttr, sw0, flatMap_length 2 (fun (x : Int × Int) => [(I x.1), (I x.2)]) (fun _ => rfl), sub_el 2 (fun (x : Int × Int) => [(I x.1), (I x.2)]) (fun _ => rfl) x1 i.toNat (by omega)])
 refine OW.call' 4 rfl rfl rfl (by first | exact rfl | ((simp only [go_sem, List.toList_toArray, simprocAttr]); exact rfl)) ?_ (ref09_covered_ok N _ _ _ _ _ _ _ _ _ _ e3) ?_ ?_ ?_ ?_
 rfl
 · (refine okAll_intro ?_; (simp only [go_sem, sw2, List.length_set, List.length_replicate, and_true, true_and, Nat.le_refl, simprocAttr]; done))
 exact .inl rfl
 (simp only [go_sem, Nat.reduceLT])
 refine OW.run [1, 3, 4, 5, 23] ?_
 (simp only [go_sem, simprocAttr, sw0, flatMap_length 2 (fun (x : Int × Int) => [(I x.1), (I x.2)]) (fun _ => rfl), sub_el 2 (fun (x : Int × Int) => [(I x.1), (I x.2)]) (fun _ => rfl) x1 i.toNat (by omega)])
 refine OW.nil (hK _ ?_)
 refine PW.cond rfl (fun h5 => ?_) (fun h5 => ?_)
 replace H := br_t h5 H
 obtain ⟨c6, H⟩ := chk_some H
 obtain ⟨c7, H⟩ := chk_some H
 refine PW.regionK fun K hK => OW.run [1, 3, 4, 5] ?_
 (simp only [go_sem, simprocAttr, sw0, flatMap_length 2 (fun (x : Int × Int) => [(I x.1), (I x.2)]) (fun _ => rfl), sub_el 2 (fun (x : Int × Int) => [(I x.1), (I x.2)]) (fun _ => rfl) x1 i.toNat (by omega)])
 repeat (refine And.intro (by first | omega | rfl) ?_)
 refine OW.nil (hK _ ?_)
 refine PW.regionK fun K hK => OW.run [1, 3, 4, 5] ?_
 simp only [go_sem, simprocAttr, sw0]
 refine OW.nil (hK _ ?_)
 refine hN2 [] (w64 (i + (1 : Int)), (b11 ++ ([((x1.getD i.toNat default).1, (x1.getD i.toNat default).2)] : List (Int × Int)))) _ H (by exact trivial) ?_
 (simp only [sw1, go_sem, simprocAttr]; simp only [List.length_set, List.length_append, List.length_cons, List.length_nil, Nat.zero_add, List.map_set, List.map_append, List.map_cons, List.map_nil, List.flatMap_append, List.flatMap_cons, List.flatMap_nil, List.append_nil, List.cons_append, List.nil_append]; rfl)
 replace H := br_f h5 H
 refine PW.skip ?_
 refine PW.regionK fun K hK => OW.run [1, 3, 4, 5] ?_
 simp only [go_sem, simprocAttr, sw0]
 refine OW.nil (hK _ ?_)
 refine hN2 [] (w64 (i + (1 : Int)), b11) _ H (by exact trivial) ?_
 simp only [sw1, go_sem, simprocAttr]
 replace H := br_f h3 H
 refine PW.exit ?_
 refine hN1 [] b11 _ H (by exact trivial) ?_
 simp only [sw1, go_sem, simprocAttr]
 ·
  rintro b1 H
  try simp only [go_sem, simprocAttr]
  refine PW.seq ?_
  refine PW.regionK fun K hK => OW.run [2] ?_
  simp only [go_sem, simprocAttr, sw0]
  refine OW.nil (hK _ ?_)
  refine PW.ret ?_
  change PW.Ends _ _ _ _ _ _
  refine PW.Ends.intro (.inr rfl) ?_
  simp only [go_sem, simprocAttr, sw0]
  obtain rfl := Option.some.inj H
  have hl0 := flatMap_length 2 (fun (x : Int × Int) => [(I x.1), (I x.2)]) (fun _ => rfl) b1
  have hn0 : (b1.flatMap (fun (x : Int × Int) => [(I x.1), (I x.2)])).map nz = b1.flatMap (fun (x : Int × Int) => [(I x.1), (I x.2)]) := map_nz_flat (fun _ => rfl) _
  have ht0 : (b1.flatMap (fun (x : Int × Int) => [(I x.1), (I x.2)])).take (b1.length * 2) = b1.flatMap (fun (x : Int × Int) => [(I x.1), (I x.2)]) := take_flat _ (fun _ => rfl) rfl
  refine RetOK.data' 4 (by (simp only [go_sem, sw2, List.length_set, List.length_replicate, and_true, true_and, Nat.le_refl, simprocAttr]; omega)) ?_
  (((simp only [go_sem, sw1, simprocAttr]; try simp only [seg, go_sem, simprocAttr])); (repeat' (first | rfl | (refine list_congr ?_; simp only [List.length_take, List.length_drop, List.length_set, List.length_replicate] <;> omega) | (refine congr (congrArg List.cons ?_) ?_) | (refine congrArg D.agg ?_) | (refine congrArg D.tup ?_) | (refine congrArg D.ref ?_) | (refine congrArg (D.list _) ?_) | (refine congrArg (D.clo _) ?_))))
  all_goals (first | rw [ht0, hn0] | simp only [ht0, hn0])

theorem ref09_SamePairs_ok (N : Nat) (a : List (Int × Int)) (b : List (Int × Int)) (r : Bool) (H : ref09_SamePairs N a b = some r) : CallOK Tryz.prog 20 [(.list a.length (a.flatMap (fun (x : Int × Int) => [(I x.1), (I x.2)]))), (.list b.length (b.flatMap (fun (x : Int × Int) => [(I x.1), (I x.2)])))] (.d (Bo r)) [] := by
 refine CallOK.of_PW Tryz.func20 rfl (by rw [Tryz.results20]) Tryz.ntmps20 Tryz.call20 ?_
 change PW _ _ _ _ _
 try simp only [go_sem, simprocAttr]
 unfold ref09_SamePairs at H
 refine PW.seq ?_
 refine PW.regionK fun K hK => OW.run [0, 1] ?_
 simp only [go_sem, simprocAttr, sw0]
 refine OW.nil (hK _ ?_)
 refine PW.seq ?_
 refine PW.seq ?_
 refine PW.regionK fun K hK => OW.run [0, 1, 10] ?_
 simp only [go_sem, simprocAttr, sw0]
 refine OW.nil (hK _ ?_)
 refine PW.cond rfl (fun h1 => ?_) (fun h1 => ?_)
 replace H := br_t h1 H
 refine PW.seq ?_
 refine PW.regionK fun K hK => OW.run [4] ?_
 simp only [go_sem, simprocAttr, sw0]
 refine OW.nil (hK _ ?_)
 refine PW.ret ?_
 change PW.Ends _ _ _ _ _ _
 refine PW.Ends.intro (.inr rfl) ?_
 simp only [go_sem, simprocAttr, sw0]
 obtain rfl := Option.some.inj H
 refine RetOK.data' 4 (by exact trivial) ?_
 rfl
 replace H := br_f h1 H
 refine PW.skip ?_
 refine PW.joinS (τ := Unit) [] 0 (fun _ => []) (fun _ => []) _ _ r (by exact Nat.le_refl _) H ?_ ?_
 intro K_ H N2 hN2
 refine PW.seq ?_
 refine PW.regionK fun K hK => OW.run [0, 1, 5] ?_
 simp only [go_sem, simprocAttr, sw0]
 refine OW.nil (hK _ ?_)
 refine PW.block ?_
 refine PW.loopS (σ := Int) [0, 1, 5] 0 (fun i => [(5, .d (I i))]) (fun i => []) (ref09_SamePairs.b1 N a b K_) r N (0 : Int) (by exact Nat.le_refl _) H (by (simp only [sw1, go_sem, simprocAttr]; done)) ?_
 rintro n i H N3 hN3
 unfold ref09_SamePairs.b1 at H
 try simp only [go_sem, simprocAttr]
 refine PW.seq ?_
 refine PW.seq ?_
 refine PW.regionK fun K hK => OW.run [0, 1, 5, 14] ?_
 simp only [go_sem, simprocAttr, sw0]
 refine OW.nil (hK _ ?_)
 refine PW.cond rfl (fun h4 => ?_) (fun h4 => ?_)
 replace H := br_t h4 H
 refine PW.skip ?_
 refine PW.seq ?_
 refine PW.block ?_
 refine PW.seq ?_
 obtain ⟨c5, H⟩ := chk_some H
 obtain ⟨c6, H⟩ := chk_some H
 refine PW.drawK 8 mixed (by kernel_rfl) fun K hK => ?_
 change FW _ _ _ _ _
 refine FW.run ?_
 (simp only [go_sem, simprocAttr, sw0, flatMap_length 2 (fun (x : Int × Int) => [(I x.1), (I x.2)]) (fun _ => rfl), sub_el 2 (fun (x : Int × Int) => [(I x.1), (I x.2)]) (fun _ => rfl) a i.toNat (by omega), sub_el 2 (fun (x : Int × Int) => [(I x.1), (I x.2)]) (fun _ => rfl) b i.toNat (by omega)])
 repeat (refine And.intro (by omega) ?_)
 refine FW.nil ?_
 change OW _ _ _ _ _ _
 refine OW.run [0, 1, 5, 25] ?_
 (simp only [go_sem, simprocAttr, sw0, flatMap_length 2 (fun (x : Int × Int) => [(I x.1), (I x.2)]) (fun _ => rfl), sub_el 2 (fun (x : Int × Int) => [(I x.1), (I x.2)]) (fun _ => rfl) a i.toNat (by omega), sub_el 2 (fun (x : Int × Int) => [(I x.1), (I x.2)]) (fun _ => rfl) b i.toNat (by omega)])
 refine OW.nil (hK _ ?_)
 refine PW.cond rfl (fun h7 => ?_) (fun h7 => ?_)
 replace H := br_t h7 H
 refine PW.seq ?_
 refine PW.regionK fun K hK => OW.run [4] ?_
 simp only [go_sem, simprocAttr, sw0]
 refine OW.nil (hK _ ?_)
 refine PW.ret ?_
 change PW.Ends _ _ _ _ _ _
 refine PW.Ends.intro (.inr rfl) ?_
 simp only [go_sem, simprocAttr, sw0]
 obtain rfl := Option.some.inj H
 refine RetOK.data' 4 (by exact trivial) ?_
 rfl
 replace H := br_f h7 H
 refine PW.skip ?_
 refine PW.regionK fun K hK => OW.run [0, 1, 5] ?_
 simp only [go_sem, simprocAttr, sw0]
 refine OW.nil (hK _ ?_)
 refine hN3 [] (w64 (i + (1 : Int))) _ H (by exact trivial) ?_
 simp only [sw1, go_sem, simprocAttr]
 replace H := br_f h4 H
 refine PW.exit ?_
 refine hN2 [] () _ H (by exact trivial) ?_
 simp only [sw1, go_sem, simprocAttr]
 rintro _ H
 try simp only [go_sem, simprocAttr]
 refine PW.seq ?_
 refine PW.regionK fun K hK => OW.run [4] ?_
 simp only [go_sem, simprocAttr, sw0]
 refine OW.nil (hK _ ?_)
 refine PW.ret ?_
 change PW.Ends _ _ _ _ _ _
 refine PW.Ends.intro (.inr rfl) ?_
 simp only [go_sem, simprocAttr, sw0]
 obtain rfl := Option.some.inj H
 refine RetOK.data' 4 (by exact trivial) ?_
 rfl

theorem ref09_CoveredBy_ok (N : Nat) (Zy : List (List Int)) (Zu : List (ByteArray × Int × Int × Int × Int × Int × Int)) (Zx : List (Int × Int)) (Zv : Int) (Zz : Int) (Zw : Int) (r : List Int) (H : ref09_CoveredBy N Zy Zu Zx Zv Zz Zw = some r) : CallOK Tryz.prog 23 [(.agg [(.list Zy.length (Zy.map L)), (.list Zu.length (Zu.flatMap (fun (x : ByteArray × Int × Int × Int × Int × Int × Int) => [(Sx x.1), (I x.2.1), (I x.2.2.1), (I x.2.2.2.1), (I x.2.2.2.2.1), (I x.2.2.2.2.2.1), (I x.2.2.2.2.2.2)]))), (.list Zx.length (Zx.flatMap (fun (x : Int × Int) => [(I x.1), (I x.2)]))), (I Zv), (I Zz), (I Zw)])] (.d (L r)) [] := by
 refine CallOK.of_PW Tryz.func23 rfl (by rw [Tryz.results23]) Tryz.ntmps23 Tryz.call23 ?_
 change PW _ _ _ _ _
 try simp only [go_sem, simprocAttr]
 unfold ref09_CoveredBy at H
 refine PW.seq ?_
 refine PW.regionK fun K hK => OW.run [1] ?_
 simp only [go_sem, simprocAttr, sw0]
 refine OW.nil (hK _ ?_)
 refine PW.seq ?_
 obtain ⟨c1, H⟩ := chk_some H
 refine PW.regionK fun K hK => OW.run [1, 3] ?_
 simp only [go_sem, simprocAttr, sw0]
 repeat (refine And.intro (by omega) ?_)
 refine OW.nil (hK _ ?_)
 refine PW.seq ?_
 obtain ⟨x1, e1, H⟩ := bnd_some H
 refine PW.regionK fun K hK => OW.run [1, 3, 4] ?_
 simp only [go_sem, simprocAttr, sw0]
 repeat (refine And.intro (by omega) ?_)
 refine OW.call' 4 rfl rfl rfl (by first | exact rfl | ((simp only [go_sem, List.toList_toArray, simprocAttr]); exact rfl)) ?_ (ref09_Points_ok N _ _ e1) ?_ ?_ ?_ ?_
 rfl
 · (refine okAll_intro ?_; (simp only [go_sem, sw2, List.length_set, List.length_replicate, and_true, true_and, Nat.le_refl, simprocAttr]; done))
 exact .inl rfl
 (simp only [go_sem, Nat.reduceLT])
 refine OW.run [1, 3, 4] ?_
 simp only [go_sem, simprocAttr, sw0]
 refine OW.nil (hK _ ?_)
 refine PW.joinS (τ := List Int) [3] 2 (fun b1 => [(3, .own 1 0 b1.length 1)]) (fun b1 => [{ cells := [.d (.list Zy.length (Zy.map L)), .d (.list Zu.length (Zu.flatMap (fun (x : ByteArray × Int × Int × Int × Int × Int × Int) => [(Sx x.1), (I x.2.1), (I x.2.2.1), (I x.2.2.2.1), (I x.2.2.2.2.1), (I x.2.2.2.2.2.1), (I x.2.2.2.2.2.2)]))), .d (.list Zx.length (Zx.flatMap (fun (x : Int × Int) => [(I x.1), (I x.2)]))), .d (I Zv), .d (I Zz), .d (I Zw)], e := 28 }, { cells := (b1.map I).map .d, e := 3 }]) _ _ r (by exact Nat.zero_le _) H ?_ ?_
 intro K_ H N2 hN2
 refine PW.seq ?_
 refine PW.regionK fun K hK => OW.run [1, 3, 4, 5] ?_
 simp only [go_sem, simprocAttr, sw0]
 refine OW.nil (hK _ ?_)
 refine PW.block ?_
 refine PW.loopS (σ := Int × List Int) [1, 3, 4, 5] 2 (fun (i, b11) => [(3, .own 1 0 b11.length 1), (5, .d (I i))]) (fun (i, b11) => [{ cells := [.d (.list Zy.length (Zy.map L)), .d (.list Zu.length (Zu.flatMap (fun (x : ByteArray × Int × Int × Int × Int × Int × Int) => [(Sx x.1), (I x.2.1), (I x.2.2.1), (I x.2.2.2.1), (I x.2.2.2.2.1), (I x.2.2.2.2.2.1), (I x.2.2.2.2.2.2)]))), .d (.list Zx.length (Zx.flatMap (fun (x : Int × Int) => [(I x.1), (I x.2)]))), .d (I Zv), .d (I Zz), .d (I Zw)], e := 28 }, { cells := (b11.map I).map .d, e := 3 }]) (ref09_CoveredBy.b1 N Zy Zu Zx Zv Zz Zw x1 K_) r N ((0 : Int), (List.replicate (Zu.length : Int).toNat (0 : Int))) (by exact Nat.zero_le _) H (by (simp only [sw1, go_sem, simprocAttr]; done)) ?_
 rintro n ⟨i, b11⟩ H N3 hN3
 unfold ref09_CoveredBy.b1 at H
 try simp only [go_sem, simprocAttr]
 refine PW.seq ?_
 refine PW.seq ?_
 refine PW.regionK fun K hK => OW.run [1, 3, 4, 5, 19] ?_
 simp only [go_sem, simprocAttr, sw0]
 refine OW.nil (hK _ ?_)
 refine PW.cond rfl (fun h4 => ?_) (fun h4 => ?_)
 replace H := br_t h4 H
 refine PW.skip ?_
 refine PW.seq ?_
 refine PW.block ?_
 refine PW.seq ?_
 obtain ⟨x2, e2, H⟩ := bnd_some H
 obtain ⟨c5, H⟩ := chk_some H
 obtain ⟨⟨x3, x31, x32⟩, e3, H⟩ := bnd_some H
 refine PW.drawK 14 mixed (by kernel_rfl) fun K hK => ?_
 change FW _ _ _ _ _
 refine FW.run ?_
 (simp only [go_sem, simprocAttr, sw0, flatMap_length 2 (fun (x : Int × Int) => [(I x.1), (I x.2)]) (fun _ => rfl), sub_el 2 (fun (x : Int × Int) => [(I x.1), (I x.2)]) (fun _ => rfl) x1 i.toNat (by omega)])
 refine FW.call' 4 rfl rfl rfl (by first | exact rfl | ((simp only [go_sem, List.toList_toArray, simprocAttr]); exact rfl)) ?_ (ref09_Without_ok N _ _ _ _ _ _ _ _ e2) ?_ ?_ ?_ ?_
 rfl
 · (refine okAll_intro ?_; (simp only [go_sem, sw2, List.length_set, List.length_replicate, and_true, true_and, Nat.le_refl, simprocAttr]; done))
 exact .inl rfl
 (simp only [go_sem, Nat.reduceLT])
 refine FW.run ?_
 (simp only [go_sem, simprocAttr, sw0, flatMap_length 2 (fun (x : Int × Int) => [(I x.1), (I x.2)]) (fun _ => rfl), sub_el 2 (fun (x : Int × Int) => [(I x.1), (I x.2)]) (fun _ => rfl) x1 i.toNat (by omega)])
 repeat (refine And.intro (by omega) ?_)
 refine FW.call' 4 rfl rfl rfl (by first | exact rfl | ((simp only [go_sem, List.toList_toArray, simprocAttr]); exact rfl)) ?_ (ref09_ServerAt_ok N _ _ _ _ _ _ _ _ _ _ e3) ?_ ?_ ?_ ?_
 rfl
 · (refine okAll_intro ?_; (simp only [go_sem, sw2, List.length_set, List.length_replicate, and_true, true_and, Nat.le_refl, simprocAttr]; done))
 exact .inl rfl
 (simp only [go_sem, Nat.reduceLT])
 refine FW.run ?_
 (simp only [go_sem, simprocAttr, sw0, flatMap_length 2 (fun (x : Int × Int) => [(I x.1), (I x.2)]) (fun _ => rfl), sub_el 2 (fun (x : Int × Int) => [(I x.1), (I x.2)]) (fun _ => rfl) x1 i.toNat (by omega)])
 refine FW.nil ?_
 change OW _ _ _ _ _ _
 refine OW.run [1, 3, 4, 5, 6, 7, 8] ?_
 (simp only [go_sem, simprocAttr, sw0, flatMap_length 2 (fun (x : Int × Int) => [(I x.1), (I x.2)]) (fun _ => rfl), sub_el 2 (fun (x : Int × Int) => [(I x.1), (I x.2)]) (fun _ => rfl) x1 i.toNat (by omega)])
 refine OW.nil (hK _ ?_)
 refine PW.seq ?_
 refine PW.regionK fun K hK => OW.run [1, 3, 4, 5, 6, 40] ?_
 simp only [go_sem, simprocAttr, sw0]
 repeat (refine And.intro (by omega) ?_)
 refine OW.nil (hK _ ?_)
 refine PW.cond rfl (fun h6 => ?_) (fun h6 => ?_)
 replace H := br_t h6 H
 obtain ⟨c7, H⟩ := chk_some H
 obtain ⟨c8, H⟩ := chk_some H
 refine PW.regionK fun K hK => OW.run [1, 3, 4, 5] ?_
 simp only [go_sem, simprocAttr, sw0]
 repeat (refine And.intro (by omega) ?_)
 refine OW.nil (hK _ ?_)
 refine PW.regionK fun K hK => OW.run [1, 3, 4, 5] ?_
 simp only [go_sem, simprocAttr, sw0]
 refine OW.nil (hK _ ?_)
 refine hN3 [] (w64 (i + (1 : Int)), (b11.set x3.toNat (w64 ((b11.getD x3.toNat 0) + (1 : Int))))) _ H (by exact trivial) ?_
 simp only [sw1, go_sem, simprocAttr]
 replace H := br_f h6 H
 refine PW.skip ?_
 refine PW.regionK fun K hK => OW.run [1, 3, 4, 5] ?_
 simp only [go_sem, simprocAttr, sw0]
 refine OW.nil (hK _ ?_)
 refine hN3 [] (w64 (i + (1 : Int)), b11) _ H (by exact trivial) ?_
 simp only [sw1, go_sem, simprocAttr]
 replace H := br_f h4 H
 refine PW.exit ?_
 refine hN2 [] b11 _ H (by exact trivial) ?_
 simp only [sw1, go_sem, simprocAttr]
 rintro b1 H
 try simp only [go_sem, simprocAttr]
 refine PW.seq ?_
 refine PW.regionK fun K hK => OW.run [2] ?_
 simp only [go_sem, simprocAttr, sw0]
 refine OW.nil (hK _ ?_)
 refine PW.ret ?_
 change PW.Ends _ _ _ _ _ _
 refine PW.Ends.intro (.inr rfl) ?_
 simp only [go_sem, simprocAttr, sw0]
 obtain rfl := Option.some.inj H
 refine RetOK.data' 4 (by (simp only [go_sem, sw2, List.length_set, List.length_replicate, and_true, true_and, Nat.le_refl, simprocAttr]; done)) ?_
 · (((simp only [go_sem, sw1, simprocAttr]; try simp only [seg, go_sem, simprocAttr])); done)

theorem base_Ints_ok (N : Nat) (a : List Int) (b : List Int) (r : Bool) (H : base_Ints N a b = some r) : CallOK Tryz.prog 22 [(L a), (L b)] (.d (Bo r)) [] := by
 refine CallOK.of_PW Tryz.func22 rfl (by rw [Tryz.results22]) Tryz.ntmps22 Tryz.call22 ?_
 change PW _ _ _ _ _
 try simp only [go_sem, simprocAttr]
 unfold base_Ints at H
 refine PW.seq ?_
 refine PW.regionK fun K hK => OW.run [0, 1] ?_
 simp only [go_sem, simprocAttr, sw0]
 refine OW.nil (hK _ ?_)
 refine PW.seq ?_
 refine PW.seq ?_
 refine PW.regionK fun K hK => OW.run [0, 1, 10] ?_
 simp only [go_sem, simprocAttr, sw0]
 refine OW.nil (hK _ ?_)
 refine PW.cond rfl (fun h1 => ?_) (fun h1 => ?_)
 replace H := br_t h1 H
 refine PW.seq ?_
 refine PW.regionK fun K hK => OW.run [4] ?_
 simp only [go_sem, simprocAttr, sw0]
 refine OW.nil (hK _ ?_)
 refine PW.ret ?_
 change PW.Ends _ _ _ _ _ _
 refine PW.Ends.intro (.inr rfl) ?_
 simp only [go_sem, simprocAttr, sw0]
 obtain rfl := Option.some.inj H
 refine RetOK.data' 4 (by exact trivial) ?_
 rfl
 replace H := br_f h1 H
 refine PW.skip ?_
 refine PW.joinS (τ := Unit) [] 0 (fun _ => []) (fun _ => []) _ _ r (by exact Nat.le_refl _) H ?_ ?_
 intro K_ H N2 hN2
 refine PW.seq ?_
 refine PW.regionK fun K hK => OW.run [0, 1, 5] ?_
 simp only [go_sem, simprocAttr, sw0]
 refine OW.nil (hK _ ?_)
 refine PW.block ?_
 refine PW.loopS (σ := Int) [0, 1, 5] 0 (fun i => [(5, .d (I i))]) (fun i => []) (base_Ints.b1 N a b K_) r N (0 : Int) (by exact Nat.le_refl _) H (by (simp only [sw1, go_sem, simprocAttr]; done)) ?_
 rintro n i H N3 hN3
 unfold base_Ints.b1 at H
 try simp only [go_sem, simprocAttr]
 refine PW.seq ?_
 refine PW.seq ?_
 refine PW.regionK fun K hK => OW.run [0, 1, 5, 14] ?_
 simp only [go_sem, simprocAttr, sw0]
 refine OW.nil (hK _ ?_)
 refine PW.cond rfl (fun h4 => ?_) (fun h4 => ?_)
 replace H := br_t h4 H
 refine PW.skip ?_
 refine PW.seq ?_
 refine PW.block ?_
 refine PW.seq ?_
 obtain ⟨c5, H⟩ := chk_some H
 obtain ⟨c6, H⟩ := chk_some H
 refine PW.drawK 8 mixed (by kernel_rfl) fun K hK => ?_
 change FW _ _ _ _ _
 refine FW.run ?_
 simp only [go_sem, simprocAttr, sw0]
 repeat (refine And.intro (by omega) ?_)
 refine FW.nil ?_
 change OW _ _ _ _ _ _
 refine OW.run [0, 1, 5, 25] ?_
 simp only [go_sem, simprocAttr, sw0]
 refine OW.nil (hK _ ?_)
 refine PW.cond rfl (fun h7 => ?_) (fun h7 => ?_)
 replace H := br_t h7 H
 refine PW.seq ?_
 refine PW.regionK fun K hK => OW.run [4] ?_
 simp only [go_sem, simprocAttr, sw0]
 refine OW.nil (hK _ ?_)
 refine PW.ret ?_
 change PW.Ends _ _ _ _ _ _
 refine PW.Ends.intro (.inr rfl) ?_
 simp only [go_sem, simprocAttr, sw0]
 obtain rfl := Option.some.inj H
 refine RetOK.data' 4 (by exact trivial) ?_
 rfl
 replace H := br_f h7 H
 refine PW.skip ?_
 refine PW.regionK fun K hK => OW.run [0, 1, 5] ?_
 simp only [go_sem, simprocAttr, sw0]
 refine OW.nil (hK _ ?_)
 refine hN3 [] (w64 (i + (1 : Int))) _ H (by exact trivial) ?_
 simp only [sw1, go_sem, simprocAttr]
 replace H := br_f h4 H
 refine PW.exit ?_
 refine hN2 [] () _ H (by exact trivial) ?_
 simp only [sw1, go_sem, simprocAttr]
 rintro _ H
 try simp only [go_sem, simprocAttr]
 refine PW.seq ?_
 refine PW.regionK fun K hK => OW.run [4] ?_
 simp only [go_sem, simprocAttr, sw0]
 refine OW.nil (hK _ ?_)
 refine PW.ret ?_
 change PW.Ends _ _ _ _ _ _
 refine PW.Ends.intro (.inr rfl) ?_
 simp only [go_sem, simprocAttr, sw0]
 obtain rfl := Option.some.inj H
 refine RetOK.data' 4 (by exact trivial) ?_
 rfl

theorem law09_PlanHoles_ok (N : Nat) (Zy : List (List Int)) (Zu : List (ByteArray × Int × Int × Int × Int × Int × Int)) (Zx : List (Int × Int)) (Zv : Int) (Zz : Int) (Zw : Int) (r : Bool) (H : law09_PlanHoles N Zy Zu Zx Zv Zz Zw = some r) : CallOK Tryz.prog 4 [(.agg [(.list Zy.length (Zy.map L)), (.list Zu.length (Zu.flatMap (fun (x : ByteArray × Int × Int × Int × Int × Int × Int) => [(Sx x.1), (I x.2.1), (I x.2.2.1), (I x.2.2.2.1), (I x.2.2.2.2.1), (I x.2.2.2.2.2.1), (I x.2.2.2.2.2.2)]))), (.list Zx.length (Zx.flatMap (fun (x : Int × Int) => [(I x.1), (I x.2)]))), (I Zv), (I Zz), (I Zw)])] (.d (Bo r)) [] := by
 refine CallOK.of_PW Tryz.func4 rfl (by rw [Tryz.results4]) Tryz.ntmps4 Tryz.call4 ?_
 change PW _ _ _ _ _
 try simp only [go_sem, simprocAttr]
 unfold law09_PlanHoles at H
 refine PW.seq ?_
 refine PW.regionK fun K hK => OW.run [1] ?_
 simp only [go_sem, simprocAttr, sw0]
 refine OW.nil (hK _ ?_)
 refine PW.seq ?_
 refine PW.seq ?_
 obtain ⟨x1, e1, H⟩ := bnd_some H
 refine PW.regionK fun K hK => OW.run [1, 11] ?_
 simp only [go_sem, simprocAttr, sw0]
 refine OW.call' 4 rfl rfl rfl (by first | exact rfl | ((simp only [go_sem, List.toList_toArray, simprocAttr]); exact rfl)) ?_ (law09_awake_ok N  _ e1) ?_ ?_ ?_ ?_
 rfl
 exact okD_all rfl
 exact .inl rfl
 (simp only [go_sem, Nat.reduceLT])
 refine OW.run [1, 11] ?_
 simp only [go_sem, simprocAttr, sw0]
 refine OW.nil (hK _ ?_)
 refine PW.cond rfl (fun h1 => ?_) (fun h1 => ?_)
 replace H := br_t h1 H
 refine PW.seq ?_
 refine PW.regionK fun K hK => OW.run [2] ?_
 simp only [go_sem, simprocAttr, sw0]
 refine OW.nil (hK _ ?_)
 refine PW.ret ?_
 change PW.Ends _ _ _ _ _ _
 refine PW.Ends.intro (.inr rfl) ?_
 simp only [go_sem, simprocAttr, sw0]
 obtain rfl := Option.some.inj H
 refine RetOK.data' 4 (by exact trivial) ?_
 rfl
 replace H := br_f h1 H
 refine PW.skip ?_
 refine PW.seq ?_
 refine PW.seq ?_
 obtain ⟨x2, e2, H⟩ := bnd_some H
 refine PW.regionK fun K hK => OW.run [1, 14] ?_
 simp only [go_sem, simprocAttr, sw0]
 refine OW.call' 4 rfl rfl rfl (by first | exact rfl | ((simp only [go_sem, List.toList_toArray, simprocAttr]); exact rfl)) ?_ (law09_Few_ok N _ _ _ _ _ _ _ e2) ?_ ?_ ?_ ?_
 rfl
 · (refine okAll_intro ?_; (simp only [go_sem, sw2, List.length_set, List.length_replicate, and_true, true_and, Nat.le_refl, simprocAttr]; done))
 exact .inl rfl
 (simp only [go_sem, Nat.reduceLT])
 refine OW.run [1, 14] ?_
 simp only [go_sem, simprocAttr, sw0]
 refine OW.nil (hK _ ?_)
 refine PW.cond rfl (fun h2 => ?_) (fun h2 => ?_)
 replace H := br_t h2 H
 refine PW.seq ?_
 refine PW.regionK fun K hK => OW.run [2] ?_
 simp only [go_sem, simprocAttr, sw0]
 refine OW.nil (hK _ ?_)
 refine PW.ret ?_
 change PW.Ends _ _ _ _ _ _
 refine PW.Ends.intro (.inr rfl) ?_
 simp only [go_sem, simprocAttr, sw0]
 obtain rfl := Option.some.inj H
 refine RetOK.data' 4 (by exact trivial) ?_
 rfl
 replace H := br_f h2 H
 refine PW.skip ?_
 refine PW.seq ?_
 obtain ⟨⟨x3, x31, x32, x33, x34, x35⟩, e3, H⟩ := bnd_some H
 obtain ⟨⟨x4, x41⟩, e4, H⟩ := bnd_some H
 refine PW.regionK fun K hK => OW.run [1, 3, 4] ?_
 simp only [go_sem, simprocAttr, sw0]
 refine OW.call' 4 rfl rfl rfl (by first | exact rfl | ((simp only [go_sem, List.toList_toArray, simprocAttr]); exact rfl)) ?_ (ref09_Copy_ok N _ _ _ _ _ _ _ e3) ?_ ?_ ?_ ?_
 rfl
 · (refine okAll_intro ?_; (simp only [go_sem, sw2, List.length_set, List.length_replicate, and_true, true_and, Nat.le_refl, simprocAttr]; done))
 exact .inl rfl
 (simp only [go_sem, Nat.reduceLT])
 refine OW.run [1, 3, 4] ?_
 simp only [go_sem, simprocAttr, sw0]
 refine OW.call' 4 rfl rfl rfl (by first | exact rfl | ((simp only [go_sem, List.toList_toArray, simprocAttr]); exact rfl)) ?_ (plan_Holes_ok N _ _ _ _ _ _ _ e4) ?_ ?_ ?_ ?_
 rfl
 exact okD_all rfl
 exact .inl rfl
 (simp only [go_sem, Nat.reduceLT])
 refine OW.run [1, 3, 4] ?_
 simp only [go_sem, simprocAttr, sw0]
 refine OW.nil (hK _ ?_)
 refine PW.seq ?_
 obtain ⟨⟨x5, x51, x52, x53, x54, x55⟩, e5, H⟩ := bnd_some H
 obtain ⟨⟨x6, x61⟩, e6, H⟩ := bnd_some H
 refine PW.regionK fun K hK => OW.run [1, 3, 4, 5, 6] ?_
 simp only [go_sem, simprocAttr, sw0]
 refine OW.call' 4 rfl rfl rfl (by first | exact rfl | ((simp only [go_sem, List.toList_toArray, simprocAttr]); exact rfl)) ?_ (ref09_Copy_ok N _ _ _ _ _ _ _ e5) ?_ ?_ ?_ ?_
 rfl
 · (refine okAll_intro ?_; (simp only [go_sem, sw2, List.length_set, List.length_replicate, and_true, true_and, Nat.le_refl, simprocAttr]; done))
 exact .inl rfl
 (simp only [go_sem, Nat.reduceLT])
 refine OW.run [1, 3, 4, 5, 6] ?_
 simp only [go_sem, simprocAttr, sw0]
 refine OW.call' 4 rfl rfl rfl (by first | exact rfl | ((simp only [go_sem, List.toList_toArray, simprocAttr]); exact rfl)) ?_ (plan_CoveredBy_ok N _ _ _ _ _ _ _ e6) ?_ ?_ ?_ ?_
 rfl
 exact okD_all rfl
 exact .inl rfl
 (simp only [go_sem, Nat.reduceLT])
 refine OW.run [1, 3, 4, 5, 6] ?_
 simp only [go_sem, simprocAttr, sw0]
 refine OW.nil (hK _ ?_)
 refine PW.seq ?_
 refine PW.seq ?_
 obtain ⟨x7, e7, H⟩ := bnd_some H
 refine PW.regionK fun K hK => OW.run [1, 3, 4, 5, 6, 7] ?_
 simp only [go_sem, simprocAttr, sw0]
 refine OW.call' 4 rfl rfl rfl (by first | exact rfl | ((simp only [go_sem, List.toList_toArray, simprocAttr]); exact rfl)) ?_ (ref09_PlanErr_ok N _ _ _ _ _ _ _ e7) ?_ ?_ ?_ ?_
 rfl
 · (refine okAll_intro ?_; (simp only [go_sem, sw2, List.length_set, List.length_replicate, and_true, true_and, Nat.le_refl, simprocAttr]; done))
 exact .inl rfl
 (simp only [go_sem, Nat.reduceLT])
 refine OW.run [1, 3, 4, 5, 6, 7] ?_
 simp only [go_sem, simprocAttr, sw0]
 refine OW.nil (hK _ ?_)
 refine PW.seq ?_
 refine PW.regionK fun K hK => OW.run [1, 3, 4, 5, 6, 7, 30] ?_
 simp only [go_sem, simprocAttr, sw0]
 refine OW.nil (hK _ ?_)
 refine PW.cond rfl (fun h3 => ?_) (fun h3 => ?_)
 replace H := br_t h3 H
 refine PW.seq ?_
 refine PW.regionK fun K hK => OW.run [2] ?_
 simp only [go_sem, simprocAttr, sw0]
 refine OW.nil (hK _ ?_)
 refine PW.ret ?_
 change PW.Ends _ _ _ _ _ _
 refine PW.Ends.intro (.inr rfl) ?_
 simp only [go_sem, simprocAttr, sw0]
 obtain rfl := Option.some.inj H
 refine RetOK.data' 4 (by exact trivial) ?_
 rfl
 replace H := br_f h3 H
 refine PW.skip ?_
 refine PW.seq ?_
 refine PW.seq ?_
 obtain ⟨x8, e8, H⟩ := bnd_some H
 obtain ⟨x9, e9, H⟩ := bnd_some H
 obtain ⟨x10, e10, H⟩ := bnd_some H
 obtain ⟨x11, e11, H⟩ := bnd_some H
 refine PW.regionK fun K hK => OW.run [1, 3, 5, 66] ?_
 simp only [go_sem, simprocAttr, sw0]
 refine OW.callG' 4 rfl rfl ?_ (fun hg => by first | rfl | (simp only [go_sem, ↓reduceIte]; rfl)) (fun hg => by ((simp only [go_sem, List.toList_toArray, simprocAttr]); exact rfl)) (fun hg => ?_) (fun hg => (ref09_Holes_ok N _ _ _ _ _ _ _ (grd_t hg e8))) ?_ ?_ ?_ ?_
 simp only [go_sem, simprocAttr]
 rfl
 · (refine okAll_intro ?_; (simp only [go_sem, sw2, List.length_set, List.length_replicate, and_true, true_and, Nat.le_refl, simprocAttr]; done))
 exact .inl rfl
 (simp only [go_sem, Nat.reduceLT])
 refine OW.run [1, 3, 5, 66] ?_
 simp only [go_sem, simprocAttr, sw0]
 refine OW.callG' 4 rfl rfl ?_ (fun hg => by first | rfl | (simp only [go_sem, ↓reduceIte]; rfl)) (fun hg => by ((simp only [go_sem, List.toList_toArray, simprocAttr]); exact rfl)) (fun hg => ?_) (fun hg => (ref09_SamePairs_ok N _ _ _ (grd_t hg e9))) ?_ ?_ ?_ ?_
 simp only [go_sem, simprocAttr]
 rfl
 exact okD_all rfl
 exact .inl rfl
 (simp only [go_sem, Nat.reduceLT])
 refine OW.run [1, 3, 5, 66] ?_
 simp only [go_sem, simprocAttr, sw0]
 refine OW.callG' 4 rfl rfl ?_ (fun hg => by first | rfl | (simp only [go_sem, ↓reduceIte]; rfl)) (fun hg => by ((simp only [go_sem, List.toList_toArray, simprocAttr]); exact rfl)) (fun hg => ?_) (fun hg => (ref09_CoveredBy_ok N _ _ _ _ _ _ _ (grd_t hg e10))) ?_ ?_ ?_ ?_
 simp only [go_sem, simprocAttr]
 rfl
 · (refine okAll_intro ?_; (simp only [go_sem, sw2, List.length_set, List.length_replicate, and_true, true_and, Nat.le_refl, simprocAttr]; done))
 exact .inl rfl
 (simp only [go_sem, Nat.reduceLT])
 refine OW.run [1, 3, 5, 66] ?_
 simp only [go_sem, simprocAttr, sw0]
 refine OW.callG' 4 rfl rfl ?_ (fun hg => by first | rfl | (simp only [go_sem, ↓reduceIte]; rfl)) (fun hg => by ((simp only [go_sem, List.toList_toArray, simprocAttr]); exact rfl)) (fun hg => ?_) (fun hg => (base_Ints_ok N _ _ _ (grd_t hg e11))) ?_ ?_ ?_ ?_
 simp only [go_sem, simprocAttr]
 rfl
 exact okD_all rfl
 exact .inl rfl
 (simp only [go_sem, Nat.reduceLT])
 refine OW.run [1, 3, 5, 66] ?_
 simp only [go_sem, simprocAttr, sw0]
 refine OW.nil (hK _ ?_)
 refine PW.cond rfl (fun h4 => ?_) (fun h4 => ?_)
 replace H := br_t h4 H
 refine PW.seq ?_
 refine PW.regionK fun K hK => OW.run [2] ?_
 simp only [go_sem, simprocAttr, sw0]
 refine OW.nil (hK _ ?_)
 refine PW.ret ?_
 change PW.Ends _ _ _ _ _ _
 refine PW.Ends.intro (.inr rfl) ?_
 simp only [go_sem, simprocAttr, sw0]
 obtain rfl := Option.some.inj H
 refine RetOK.data' 4 (by exact trivial) ?_
 rfl
 replace H := br_f h4 H
 refine PW.skip ?_
 refine PW.seq ?_
 refine PW.regionK fun K hK => OW.run [1, 5, 8] ?_
 simp only [go_sem, simprocAttr, sw0]
 refine OW.nil (hK _ ?_)
 refine PW.joinS (τ := Int) [1, 8] 1 (fun sum => [(8, .d (I sum))]) (fun sum => [{ cells := [.d (.list Zy.length (Zy.map L)), .d (.list Zu.length (Zu.flatMap (fun (x : ByteArray × Int × Int × Int × Int × Int × Int) => [(Sx x.1), (I x.2.1), (I x.2.2.1), (I x.2.2.2.1), (I x.2.2.2.2.1), (I x.2.2.2.2.2.1), (I x.2.2.2.2.2.2)]))), .d (.list Zx.length (Zx.flatMap (fun (x : Int × Int) => [(I x.1), (I x.2)]))), .d (I Zv), .d (I Zz), .d (I Zw)], e := 28 }]) _ _ r (by exact Nat.zero_le _) H ?_ ?_
 intro K_ H N5 hN5
 refine PW.seq ?_
 refine PW.regionK fun K hK => OW.run [1, 5, 8, 9] ?_
 simp only [go_sem, simprocAttr, sw0]
 refine OW.nil (hK _ ?_)
 refine PW.block ?_
 refine PW.loopS (σ := Int × Int) [1, 5, 8, 9] 1 (fun (sum1, i) => [(8, .d (I sum1)), (9, .d (I i))]) (fun (sum1, i) => [{ cells := [.d (.list Zy.length (Zy.map L)), .d (.list Zu.length (Zu.flatMap (fun (x : ByteArray × Int × Int × Int × Int × Int × Int) => [(Sx x.1), (I x.2.1), (I x.2.2.1), (I x.2.2.2.1), (I x.2.2.2.2.1), (I x.2.2.2.2.2.1), (I x.2.2.2.2.2.2)]))), .d (.list Zx.length (Zx.flatMap (fun (x : Int × Int) => [(I x.1), (I x.2)]))), .d (I Zv), .d (I Zz), .d (I Zw)], e := 28 }]) (law09_PlanHoles.b1 N x6 K_) r N ((x4.length : Int), (0 : Int)) (by exact Nat.zero_le _) H (by (simp only [sw1, go_sem, simprocAttr]; done)) ?_
 rintro n ⟨sum1, i⟩ H N6 hN6
 unfold law09_PlanHoles.b1 at H
 try simp only [go_sem, simprocAttr]
 refine PW.seq ?_
 refine PW.seq ?_
 refine PW.regionK fun K hK => OW.run [1, 5, 8, 9, 72] ?_
 simp only [go_sem, simprocAttr, sw0]
 refine OW.nil (hK _ ?_)
 refine PW.cond rfl (fun h7 => ?_) (fun h7 => ?_)
 replace H := br_t h7 H
 refine PW.skip ?_
 refine PW.seq ?_
 refine PW.block ?_
 obtain ⟨c8, H⟩ := chk_some H
 refine PW.regionK fun K hK => OW.run [1, 5, 8, 9] ?_
 simp only [go_sem, simprocAttr, sw0]
 repeat (refine And.intro (by omega) ?_)
 refine OW.nil (hK _ ?_)
 refine PW.regionK fun K hK => OW.run [1, 5, 8, 9] ?_
 simp only [go_sem, simprocAttr, sw0]
 refine OW.nil (hK _ ?_)
 refine hN6 [] (w64 (sum1 + (x6.getD i.toNat 0)), w64 (i + (1 : Int))) _ H (by exact trivial) ?_
 simp only [sw1, go_sem, simprocAttr]
 replace H := br_f h7 H
 refine PW.exit ?_
 refine hN5 [] sum1 _ H (by exact trivial) ?_
 simp only [sw1, go_sem, simprocAttr]
 rintro sum H
 try simp only [go_sem, simprocAttr]
 refine PW.seq ?_
 obtain ⟨c9, H⟩ := chk_some H
 refine PW.drawK 12 mixed (by kernel_rfl) fun K hK => ?_
 change FW _ _ _ _ _
 refine FW.run ?_
 (simp only [go_sem, simprocAttr, sw0, getD_mapF L Zy 0 default (by omega)])
 repeat (refine And.intro (by omega) ?_)
 refine FW.nil ?_
 change OW _ _ _ _ _ _
 refine OW.run [2] ?_
 (simp only [go_sem, simprocAttr, sw0, getD_mapF L Zy 0 default (by omega)])
 refine OW.nil (hK _ ?_)
 refine PW.ret ?_
 change PW.Ends _ _ _ _ _ _
 refine PW.Ends.intro (.inr rfl) ?_
 simp only [go_sem, simprocAttr, sw0]
 obtain rfl := Option.some.inj H
 refine RetOK.data' 4 (by exact trivial) ?_
 rfl
end Go.Proofs.YtklejiafioalnaaGreat
