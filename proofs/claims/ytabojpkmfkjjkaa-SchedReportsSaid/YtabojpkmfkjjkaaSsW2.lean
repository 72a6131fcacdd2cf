import Derived.Test.YtabojpkmfkjjkaaSsBase
import Derived.Test.YtabojpkmfkjjkaaSsW0
import Derived.Test.YtabojpkmfkjjkaaSsW1
set_option linter.all false
namespace Go.Proofs.Ytabojpkmfkjjkaa
open Go.PW Go.Sh

set_option maxRecDepth 20000
set_option maxHeartbeats 8000000
def z0W2a := j5 9 (fun (x : ByteArray × Int × Int × Int × Int × Int × Int × Int × Int) => [(Sx x.1), (I x.2.1), (I x.2.2.1), (I x.2.2.2.1), (I x.2.2.2.2.1), (I x.2.2.2.2.2.1), (I x.2.2.2.2.2.2.1), (I x.2.2.2.2.2.2.2.1), (I x.2.2.2.2.2.2.2.2)]) (fun _ => rfl)
def z1W2a := sub_el 9 (fun (x : ByteArray × Int × Int × Int × Int × Int × Int × Int × Int) => [(Sx x.1), (I x.2.1), (I x.2.2.1), (I x.2.2.2.1), (I x.2.2.2.2.1), (I x.2.2.2.2.2.1), (I x.2.2.2.2.2.2.1), (I x.2.2.2.2.2.2.2.1), (I x.2.2.2.2.2.2.2.2)]) (fun _ => rfl)
theorem sched_Run_m1_ok (N : Nat) (x1 : Int) (x11 : Int) (x12 : Int) (x13 : List Int) (l : List TB) (o0_4 : LowL 4) (t0_4 : TypeId) (o1_4 : LowL 4) (t1_4 : TypeId) (o2_4 : LowL 4) (t2_4 : TypeId) (o3_4 : LowL 4) (t3_4 : TypeId) (b7 : List TU)  (e2 : sched_Run.m1 N l x1 x11 x12 x13 = some b7) : CallM Try.prog 138 [.agg [.d (I x1), .d (I x11), .d (I x12), .d (L x13)], .d (.list l.length (l.flatMap (fun (x : ByteArray × Int × Int × Int × Int × Int × Int × Int × Int) => [(Sx x.1), (I x.2.1), (I x.2.2.1), (I x.2.2.2.1), (I x.2.2.2.2.1), (I x.2.2.2.2.2.1), (I x.2.2.2.2.2.2.1), (I x.2.2.2.2.2.2.2.1), (I x.2.2.2.2.2.2.2.2)])))] [{ cells := o0_4.1, e := t0_4 }, { cells := o1_4.1, e := t1_4 }, { cells := o2_4.1, e := t2_4 }, { cells := o3_4.1, e := t3_4 }] (.ptr 5 0) ({ cells := o0_4.1, e := t0_4 } :: { cells := o1_4.1, e := t1_4 } :: { cells := o2_4.1, e := t2_4 } :: { cells := o3_4.1, e := t3_4 } :: { cells := [], e := 141 } :: { cells := [.d (I x1), .d (I x11), .d (I x12), .d (L x13), .own 6 0 b7.length 1], e := 163 } :: { cells := p9 7 b7.length, e := 164 } :: l6 b7.length a9 b7) [] := by
 refine CallM.of_PW0 Try.func138 rfl (by rw [Try.results138]) Try.ntmps138 Try.call138 ?_
 intro gs p
 have H := e2
 unfold sched_Run.m1 at H
 change PW _ _ _ _ _
 try simp only [go_sem, simprocAttr]
 refine a5 ?_
 refine a0 fun K hK => OW.run [1, 2] ?_
 simp only [go_sem, simprocAttr, sw0]
 refine OW.nil (hK _ ?_)
 refine a5 ?_
 refine a0 fun K hK => OW.run [1, 2, 5] ?_
 simp only [go_sem, simprocAttr, sw0]
 refine OW.nil (hK _ ?_)
 refine PW.joinM (τ := (List TU)) [5] (fun b71 => (b71.length + 7)) [] (fun b71 => [(5, .ptr 5 0)]) (fun b71 => { cells := o0_4.1, e := t0_4 } :: { cells := o1_4.1, e := t1_4 } :: { cells := o2_4.1, e := t2_4 } :: { cells := o3_4.1, e := t3_4 } :: { cells := [.d (I x1), .d (I x11), .d (I x12), .d (L x13)], e := 141 } :: { cells := [.d (I x1), .d (I x11), .d (I x12), .d (L x13), .own 6 0 b71.length 1], e := 163 } :: { cells := p9 7 b71.length, e := 164 } :: l6 b71.length a9 b71) _ _ b7 (fun _ => by (simp only [go_sem]; omega)) H ?_ ?_
 intro K_ H N3 hN3
 refine a5 ?_
 refine a0 fun K hK => OW.run [2, 5, 11, 12, 13] ?_
 simp only [go_sem, simprocAttr, sw0]
 refine OW.nil (hK _ ?_)
 refine PW.block ?_
 refine PW.virtC 5 4 164 1 _ rfl rfl ?_
 try simp only [go_sem, simprocAttr]
 refine PW.loopM (σ := Int × (List TU)) [2, 5, 11, 12, 13] (fun (t13, b72) => (b72.length + 7)) (fun (t13, b72) => [(13, .d (I t13))]) (fun (t13, b72) => { cells := o0_4.1, e := t0_4 } :: { cells := o1_4.1, e := t1_4 } :: { cells := o2_4.1, e := t2_4 } :: { cells := o3_4.1, e := t3_4 } :: { cells := [.d (I x1), .d (I x11), .d (I x12), .d (L x13)], e := 141 } :: { cells := [.d (I x1), .d (I x11), .d (I x12), .d (L x13), .own 6 0 b72.length 1], e := 163 } :: { cells := p9 7 b72.length, e := 164 } :: l6 b72.length a9 b72) (sched_Run.b1 N l x1 x11 x12 x13 K_) b7 N ((0 : Int), ([] : List TU)) (fun _ => by (simp only [go_sem]; omega)) H (by (simp only [sw1, go_sem, simprocAttr]; done)) ?_
 rintro n ⟨t13, b72⟩ H N4 hN4
 unfold sched_Run.b1 at H
 try simp only [go_sem, simprocAttr]
 refine a5 ?_
 refine a0 fun K hK => OW.run [2, 5, 11, 12, 13, 14] ?_
 simp only [go_sem, simprocAttr, sw0]
 refine OW.nil (hK _ ?_)
 refine a5 ?_
 refine d9 rfl (fun h5 => ?_) (fun h5 => ?_)
 ·
  replace H := k7 h5 H
  refine f0 ?_
  refine a5 ?_
  refine PW.block ?_
  refine a5 ?_
  obtain ⟨c6, H⟩ := d7 H
  refine a0 fun K hK => OW.run [2, 5, 7, 11, 12, 13] ?_
  (simp only [go_sem, simprocAttr, sw0, z0W2a, z1W2a l t13.toNat (by omega)])
  repeat (refine And.intro (by omega) ?_)
  refine OW.nil (hK _ ?_)
  change PW _ _ _ _ _
  obtain ⟨⟨x3, x31, x32⟩, e3, H⟩ := a8 H
  obtain ⟨c7, H⟩ := d7 H
  refine PW.drawX 14 [11, 12, 13] (fun j => List.getD [({ cells := o0_4.1, e := t0_4 } :: { cells := o1_4.1, e := t1_4 } :: { cells := o2_4.1, e := t2_4 } :: { cells := o3_4.1, e := t3_4 } :: { cells := [.d (I x1), .d (I x11), .d (I x12), .d (L x13)], e := 141 } :: { cells := [.d (I x1), .d (I x11), .d (I x12), .d (L x13), .own 6 0 b72.length 1], e := 163 } :: { cells := p9 7 b72.length, e := 164 } :: (l6 b72.length a9 b72 ++ [{ cells := [.d (Sx ((l.getD t13.toNat default).1)), .d (I ((l.getD t13.toNat default).2.1)), .d (I ((l.getD t13.toNat default).2.2.1)), .d (I ((l.getD t13.toNat default).2.2.2.1)), .d (I ((l.getD t13.toNat default).2.2.2.2.1)), .d (I ((l.getD t13.toNat default).2.2.2.2.2.1)), .d (I ((l.getD t13.toNat default).2.2.2.2.2.2.1)), .d (I ((l.getD t13.toNat default).2.2.2.2.2.2.2.1)), .d (I ((l.getD t13.toNat default).2.2.2.2.2.2.2.2))], e := 27 }])), ({ cells := o0_4.1, e := t0_4 } :: { cells := o1_4.1, e := t1_4 } :: { cells := o2_4.1, e := t2_4 } :: { cells := o3_4.1, e := t3_4 } :: { cells := [.d (I x1), .d (I x11), .d (I x12), .d (L x13)], e := 141 } :: { cells := [.d (I x1), .d (I x11), .d (I x12), .d (L x13), .own 6 0 b72.length 1], e := 163 } :: { cells := p9 7 b72.length, e := 164 } :: (l6 b72.length a9 b72 ++ [{ cells := [.d (Sx ((l.getD t13.toNat default).1)), .d (I ((l.getD t13.toNat default).2.1)), .d (I ((l.getD t13.toNat default).2.2.1)), .d (I ((l.getD t13.toNat default).2.2.2.1)), .d (I ((l.getD t13.toNat default).2.2.2.2.1)), .d (I ((l.getD t13.toNat default).2.2.2.2.2.1)), .d (I ((l.getD t13.toNat default).2.2.2.2.2.2.1)), .d (I ((l.getD t13.toNat default).2.2.2.2.2.2.2.1)), .d (I ((l.getD t13.toNat default).2.2.2.2.2.2.2.2))], e := 27 }, { cells := [.d (Sx ((l.getD t13.toNat default).1)), .d (I ((l.getD t13.toNat default).2.1)), .d (I ((l.getD t13.toNat default).2.2.1)), .d (I ((l.getD t13.toNat default).2.2.2.1)), .d (I ((l.getD t13.toNat default).2.2.2.2.1)), .d (I ((l.getD t13.toNat default).2.2.2.2.2.1)), .d (I ((l.getD t13.toNat default).2.2.2.2.2.2.1)), .d (I ((l.getD t13.toNat default).2.2.2.2.2.2.2.1)), .d (I ((l.getD t13.toNat default).2.2.2.2.2.2.2.2)), .d (I x3), .d (I (0 : Int)), .d (I (0 : Int)), .d (I (0 : Int)), .d (I (0 : Int))], e := 166 }])), ({ cells := o0_4.1, e := t0_4 } :: { cells := o1_4.1, e := t1_4 } :: { cells := o2_4.1, e := t2_4 } :: { cells := o3_4.1, e := t3_4 } :: { cells := [.d (I x1), .d (I x11), .d (I x12), .d (L x13)], e := 141 } :: { cells := [.d (I x1), .d (I x11), .d (I x12), .d (L x13), .own 6 0 b72.length 1], e := 163 } :: { cells := p9 7 b72.length, e := 164 } :: (l6 b72.length a9 b72 ++ [{ cells := [.d (Sx ((l.getD t13.toNat default).1)), .d (I ((l.getD t13.toNat default).2.1)), .d (I ((l.getD t13.toNat default).2.2.1)), .d (I ((l.getD t13.toNat default).2.2.2.1)), .d (I ((l.getD t13.toNat default).2.2.2.2.1)), .d (I ((l.getD t13.toNat default).2.2.2.2.2.1)), .d (I ((l.getD t13.toNat default).2.2.2.2.2.2.1)), .d (I ((l.getD t13.toNat default).2.2.2.2.2.2.2.1)), .d (I ((l.getD t13.toNat default).2.2.2.2.2.2.2.2))], e := 27 }, { cells := [.d (Sx ((l.getD t13.toNat default).1)), .d (I ((l.getD t13.toNat default).2.1)), .d (I ((l.getD t13.toNat default).2.2.1)), .d (I ((l.getD t13.toNat default).2.2.2.1)), .d (I ((l.getD t13.toNat default).2.2.2.2.1)), .d (I ((l.getD t13.toNat default).2.2.2.2.2.1)), .d (I ((l.getD t13.toNat default).2.2.2.2.2.2.1)), .d (I ((l.getD t13.toNat default).2.2.2.2.2.2.2.1)), .d (I ((l.getD t13.toNat default).2.2.2.2.2.2.2.2)), .d (I x3), .d (I (0 : Int)), .d (I (0 : Int)), .d (I (0 : Int)), .d (I (0 : Int))], e := 166 }, { cells := [.ptr (b72.length + 8) 0], e := 164 }])), ({ cells := o0_4.1, e := t0_4 } :: { cells := o1_4.1, e := t1_4 } :: { cells := o2_4.1, e := t2_4 } :: { cells := o3_4.1, e := t3_4 } :: { cells := [.d (I x1), .d (I x11), .d (I x12), .d (L x13)], e := 141 } :: { cells := [.d (I x1), .d (I x11), .d (I x12), .d (L x13), .dead], e := 163 } :: { cells := p9 7 b72.length ++ [.ptr (b72.length + 8) 0], e := 164 } :: (l6 b72.length a9 b72 ++ [{ cells := [.d (Sx ((l.getD t13.toNat default).1)), .d (I ((l.getD t13.toNat default).2.1)), .d (I ((l.getD t13.toNat default).2.2.1)), .d (I ((l.getD t13.toNat default).2.2.2.1)), .d (I ((l.getD t13.toNat default).2.2.2.2.1)), .d (I ((l.getD t13.toNat default).2.2.2.2.2.1)), .d (I ((l.getD t13.toNat default).2.2.2.2.2.2.1)), .d (I ((l.getD t13.toNat default).2.2.2.2.2.2.2.1)), .d (I ((l.getD t13.toNat default).2.2.2.2.2.2.2.2))], e := 27 }, { cells := [.d (Sx ((l.getD t13.toNat default).1)), .d (I ((l.getD t13.toNat default).2.1)), .d (I ((l.getD t13.toNat default).2.2.1)), .d (I ((l.getD t13.toNat default).2.2.2.1)), .d (I ((l.getD t13.toNat default).2.2.2.2.1)), .d (I ((l.getD t13.toNat default).2.2.2.2.2.1)), .d (I ((l.getD t13.toNat default).2.2.2.2.2.2.1)), .d (I ((l.getD t13.toNat default).2.2.2.2.2.2.2.1)), .d (I ((l.getD t13.toNat default).2.2.2.2.2.2.2.2)), .d (I x3), .d (I (0 : Int)), .d (I (0 : Int)), .d (I (0 : Int)), .d (I (0 : Int))], e := 166 }, { cells := [.ptr (b72.length + 8) 0], e := 164 }]))] j []) (κL [(2, 6)]) n9 (by kernel_rfl) (by decide) (by ((refine ⟨by decide, ?_⟩; intro k i i' h1 h2 o ho; match k, h1, h2 with | 0, h1, h2 => (simp at h1 h2 <;> first | (cases h2; done) | (subst h1; subst h2; simp at ho; subst ho; simp [Region.binds]; done)) | 1, h1, h2 => (simp at h1 h2 <;> first | (cases h2; done) | (subst h1; subst h2; simp at ho; subst ho; simp [Region.binds]; done)) | 2, h1, h2 => (simp at h1 h2 <;> first | (cases h2; done) | (subst h1; subst h2; simp at ho; subst ho; simp [Region.binds]; done)) | k + 3, h1, h2 => (simp at h2; done)))) (κL_dead _) (by decide) (freshL rfl) rfl rfl fun K hK => ?_
  change FWX _ _ _ _ _ _ _ _ _ _
  refine FWX.op (by decide) rfl (.ptr 5 0) 0 3 (.inl rfl) (.inl rfl) ?_ ?_ (by (simp only [go_sem, Nat.reduceLT])) ?_
  ·
   intro j hj1 hj2
   have hj : j = 0 ∨ j = 1 ∨ j = 2 ∨ j = 3 := by omega
   rcases hj with rfl | rfl | rfl | rfl
   all_goals (refine ⟨?_, ?_⟩)
   all_goals (first | rfl | trivial | (simp only [go_sem, simprocAttr, sw0]; first | done | rfl | omega | assumption | decide | (simp only [List.append_assoc, List.cons_append, List.nil_append]; done) | ((repeat (refine And.intro (by first | rfl | omega | assumption | decide) ?_)); first | rfl | omega | assumption | decide)))
  refine f8 [21, 30] (by first | rfl | (simp only [V.kill]; exact if_neg (by omega))) ?_ (by kernel_rfl) ?_
  · repeat (first | exact fun _ h => absurd h List.not_mem_nil | (refine List.forall_mem_cons.2 (And.intro ?_ ?_); · first | exact .inr rfl | (left; simp; done) | (right; simp only [V.kill, ↓reduceIte]; first | rfl | exact if_neg (by omega) | (simp only [V.kill, V.kill.kills, ↓reduceIte]; done))))
  exact KeptX.nil
  try simp only [go_sem, simprocAttr]
  refine FWX.op (by decide) rfl (.ptr 5 0) 0 3 (.inl rfl) (.inl rfl) ?_ ?_ (by (simp only [go_sem, Nat.reduceLT])) ?_
  ·
   intro j hj1 hj2
   have hj : j = 0 ∨ j = 1 ∨ j = 2 ∨ j = 3 := by omega
   rcases hj with rfl | rfl | rfl | rfl
   all_goals (refine ⟨?_, ?_⟩)
   all_goals (first | rfl | trivial | (simp only [go_sem, simprocAttr, sw0]; first | done | rfl | omega | assumption | decide | (simp only [List.append_assoc, List.cons_append, List.nil_append]; done) | ((repeat (refine And.intro (by first | rfl | omega | assumption | decide) ?_)); first | rfl | omega | assumption | decide)))
  refine f8 [21, 30] (by first | rfl | (simp only [V.kill]; exact if_neg (by omega))) ?_ (by kernel_rfl) ?_
  · repeat (first | exact fun _ h => absurd h List.not_mem_nil | (refine List.forall_mem_cons.2 (And.intro ?_ ?_); · first | exact .inr rfl | (left; simp; done) | (right; simp only [V.kill, ↓reduceIte]; first | rfl | exact if_neg (by omega) | (simp only [V.kill, V.kill.kills, ↓reduceIte]; done))))
  exact KeptX.nil
  try simp only [go_sem, simprocAttr]
  refine FWX.op (by decide) rfl (.ptr 5 0) 0 3 (.inl rfl) (.inl rfl) ?_ ?_ (by (simp only [go_sem, Nat.reduceLT])) ?_
  ·
   intro j hj1 hj2
   have hj : j = 0 ∨ j = 1 ∨ j = 2 ∨ j = 3 := by omega
   rcases hj with rfl | rfl | rfl | rfl
   all_goals (refine ⟨?_, ?_⟩)
   all_goals (first | rfl | trivial | (simp only [go_sem, simprocAttr, sw0]; first | done | rfl | omega | assumption | decide | (simp only [List.append_assoc, List.cons_append, List.nil_append]; done) | ((repeat (refine And.intro (by first | rfl | omega | assumption | decide) ?_)); first | rfl | omega | assumption | decide)))
  refine f8 [21, 30] (by first | rfl | (simp only [V.kill]; exact if_neg (by omega))) ?_ (by kernel_rfl) ?_
  · repeat (first | exact fun _ h => absurd h List.not_mem_nil | (refine List.forall_mem_cons.2 (And.intro ?_ ?_); · first | exact .inr rfl | (left; simp; done) | (right; simp only [V.kill, ↓reduceIte]; first | rfl | exact if_neg (by omega) | (simp only [V.kill, V.kill.kills, ↓reduceIte]; done))))
  exact KeptX.nil
  try simp only [go_sem, simprocAttr]
  refine FWX.op (by decide) rfl (.ptr 5 4) 0 3 (.inl rfl) (.inl rfl) ?_ ?_ (by (simp only [go_sem, Nat.reduceLT])) ?_
  ·
   intro j hj1 hj2
   have hj : j = 0 ∨ j = 1 ∨ j = 2 ∨ j = 3 := by omega
   rcases hj with rfl | rfl | rfl | rfl
   all_goals (refine ⟨?_, ?_⟩)
   all_goals (first | rfl | trivial | (simp only [go_sem, simprocAttr, sw0]; first | done | rfl | omega | assumption | decide | (simp only [List.append_assoc, List.cons_append, List.nil_append]; done) | ((repeat (refine And.intro (by first | rfl | omega | assumption | decide) ?_)); first | rfl | omega | assumption | decide)))
  refine f8 [21, 30] (by first | rfl | (simp only [V.kill]; exact if_neg (by omega))) ?_ (by kernel_rfl) ?_
  · repeat (first | exact fun _ h => absurd h List.not_mem_nil | (refine List.forall_mem_cons.2 (And.intro ?_ ?_); · first | exact .inr rfl | (left; simp; done) | (right; simp only [V.kill, ↓reduceIte]; first | rfl | exact if_neg (by omega) | (simp only [V.kill, V.kill.kills, ↓reduceIte]; done))))
  exact KeptX.nil
  try simp only [go_sem, simprocAttr]
  refine FWX.op (by decide) rfl (.own 6 0 b72.length 1) 0 2 (.inl rfl) (.inr ⟨_, _, { on := 4, ground := .data }, rfl, rfl, by simp, rfl, rfl⟩) ?_ ?_ (by (simp only [go_sem, Nat.reduceLT])) ?_
  ·
   intro j hj1 hj2
   have hj : j = 0 ∨ j = 1 ∨ j = 2 := by omega
   rcases hj with rfl | rfl | rfl
   all_goals (refine ⟨?_, ?_⟩)
   all_goals (first | rfl | trivial | (simp only [go_sem, simprocAttr, sw0]; first | done | rfl | omega | assumption | decide | (simp only [List.append_assoc, List.cons_append, List.nil_append]; done) | ((repeat (refine And.intro (by first | rfl | omega | assumption | decide) ?_)); first | rfl | omega | assumption | decide)))
  refine KeptX.dep rfl rfl ⟨{ on := 4, ground := .data }, by simp, rfl, rfl⟩ ?_
  exact KeptX.nil
  try simp only [go_sem, simprocAttr]
  refine FWX.op (by decide) rfl (.agg [.d (Sx ((l.getD t13.toNat default).1)), .d (I ((l.getD t13.toNat default).2.1)), .d (I ((l.getD t13.toNat default).2.2.1)), .d (I ((l.getD t13.toNat default).2.2.2.1)), .d (I ((l.getD t13.toNat default).2.2.2.2.1)), .d (I ((l.getD t13.toNat default).2.2.2.2.2.1)), .d (I ((l.getD t13.toNat default).2.2.2.2.2.2.1)), .d (I ((l.getD t13.toNat default).2.2.2.2.2.2.2.1)), .d (I ((l.getD t13.toNat default).2.2.2.2.2.2.2.2))]) 0 3 (.inl rfl) (.inl rfl) ?_ ?_ (by (simp only [go_sem, Nat.reduceLT])) ?_
  ·
   intro j hj1 hj2
   have hj : j = 0 ∨ j = 1 ∨ j = 2 ∨ j = 3 := by omega
   rcases hj with rfl | rfl | rfl | rfl
   all_goals (refine ⟨?_, ?_⟩)
   all_goals (first | rfl | trivial | (simp only [go_sem, simprocAttr, sw0]; first | done | rfl | omega | assumption | decide | (simp only [List.append_assoc, List.cons_append, List.nil_append]; done) | ((repeat (refine And.intro (by first | rfl | omega | assumption | decide) ?_)); first | rfl | omega | assumption | decide)))
  refine f8 [21, 30] (by first | rfl | (simp only [V.kill]; exact if_neg (by omega))) ?_ (by kernel_rfl) ?_
  · repeat (first | exact fun _ h => absurd h List.not_mem_nil | (refine List.forall_mem_cons.2 (And.intro ?_ ?_); · first | exact .inr rfl | (left; simp; done) | (right; simp only [V.kill, ↓reduceIte]; first | rfl | exact if_neg (by omega) | (simp only [V.kill, V.kill.kills, ↓reduceIte]; done))))
  exact KeptX.nil
  try simp only [go_sem, simprocAttr]
  refine FWX.op (by decide) rfl (.agg [.d (I x1), .d (I x11), .d (I x12), .d (L x13)]) 0 3 (.inl rfl) (.inl rfl) ?_ ?_ (by (simp only [go_sem, Nat.reduceLT])) ?_
  ·
   intro j hj1 hj2
   have hj : j = 0 ∨ j = 1 ∨ j = 2 ∨ j = 3 := by omega
   rcases hj with rfl | rfl | rfl | rfl
   all_goals (refine ⟨?_, ?_⟩)
   all_goals (first | rfl | trivial | (simp only [go_sem, simprocAttr, sw0]; first | done | rfl | omega | assumption | decide | (simp only [List.append_assoc, List.cons_append, List.nil_append]; done) | ((repeat (refine And.intro (by first | rfl | omega | assumption | decide) ?_)); first | rfl | omega | assumption | decide)))
  refine f8 [21, 30] (by first | rfl | (simp only [V.kill]; exact if_neg (by omega))) ?_ (by kernel_rfl) ?_
  · repeat (first | exact fun _ h => absurd h List.not_mem_nil | (refine List.forall_mem_cons.2 (And.intro ?_ ?_); · first | exact .inr rfl | (left; simp; done) | (right; simp only [V.kill, ↓reduceIte]; first | rfl | exact if_neg (by omega) | (simp only [V.kill, V.kill.kills, ↓reduceIte]; done))))
  exact KeptX.nil
  try simp only [go_sem, simprocAttr]
  refine FWX.op (by decide) rfl (.agg [.d (Sx ((l.getD t13.toNat default).1)), .d (I ((l.getD t13.toNat default).2.1)), .d (I ((l.getD t13.toNat default).2.2.1)), .d (I ((l.getD t13.toNat default).2.2.2.1)), .d (I ((l.getD t13.toNat default).2.2.2.2.1)), .d (I ((l.getD t13.toNat default).2.2.2.2.2.1)), .d (I ((l.getD t13.toNat default).2.2.2.2.2.2.1)), .d (I ((l.getD t13.toNat default).2.2.2.2.2.2.2.1)), .d (I ((l.getD t13.toNat default).2.2.2.2.2.2.2.2))]) 0 3 (.inl rfl) (.inl rfl) ?_ ?_ (by (simp only [go_sem, Nat.reduceLT])) ?_
  ·
   intro j hj1 hj2
   have hj : j = 0 ∨ j = 1 ∨ j = 2 ∨ j = 3 := by omega
   rcases hj with rfl | rfl | rfl | rfl
   all_goals (refine ⟨?_, ?_⟩)
   all_goals (first | rfl | trivial | (simp only [go_sem, simprocAttr, sw0]; first | done | rfl | omega | assumption | decide | (simp only [List.append_assoc, List.cons_append, List.nil_append]; done) | ((repeat (refine And.intro (by first | rfl | omega | assumption | decide) ?_)); first | rfl | omega | assumption | decide)))
  refine f8 [21, 30] (by first | rfl | (simp only [V.kill]; exact if_neg (by omega))) ?_ (by kernel_rfl) ?_
  · repeat (first | exact fun _ h => absurd h List.not_mem_nil | (refine List.forall_mem_cons.2 (And.intro ?_ ?_); · first | exact .inr rfl | (left; simp; done) | (right; simp only [V.kill, ↓reduceIte]; first | rfl | exact if_neg (by omega) | (simp only [V.kill, V.kill.kills, ↓reduceIte]; done))))
  exact KeptX.nil
  try simp only [go_sem, simprocAttr]
  refine FWX.call (by decide) rfl rfl 4 0 2 (.inl rfl) (.inr ⟨_, _, { on := 8, ground := .chain }, rfl, rfl, by simp, rfl, rfl⟩) rfl (by ((simp only [go_sem, List.toList_toArray, simprocAttr]); exact rfl)) (z4 N _ _ _ _ _ _ _ _ _ _ _ _ _ _ e3) ?_ ?_ ?_ (by (simp only [go_sem, Nat.reduceLT])) ?_
  ·
   intro j hj1 hj2
   have hj : j = 0 ∨ j = 1 ∨ j = 2 := by omega
   rcases hj with rfl | rfl | rfl
   all_goals (refine ⟨?_, ?_⟩)
   any_goals try simp only [go_sem, simprocAttr]
   all_goals first | ((refine a7 ?_; (simp only [go_sem, sw2, List.length_set, List.length_replicate, and_true, true_and, Nat.le_refl, simprocAttr]; done)); done) | (rfl; done)
  refine KeptX.dep rfl rfl ⟨{ on := 8, ground := .chain }, by simp, rfl, rfl⟩ ?_
  exact KeptX.nil
  exact .inl rfl
  try simp only [go_sem, simprocAttr]
  refine FWX.op (by decide) rfl (.d (I x3)) 0 3 (.inl rfl) (.inl rfl) ?_ ?_ (by (simp only [go_sem, Nat.reduceLT])) ?_
  ·
   intro j hj1 hj2
   have hj : j = 0 ∨ j = 1 ∨ j = 2 ∨ j = 3 := by omega
   rcases hj with rfl | rfl | rfl | rfl
   all_goals (refine ⟨?_, ?_⟩)
   all_goals (first | rfl | trivial | (simp only [go_sem, simprocAttr, sw0]; first | done | rfl | omega | assumption | decide | (simp only [List.append_assoc, List.cons_append, List.nil_append]; done) | ((repeat (refine And.intro (by first | rfl | omega | assumption | decide) ?_)); first | rfl | omega | assumption | decide)))
  refine f8 [21, 30] (by first | rfl | (simp only [V.kill]; exact if_neg (by omega))) ?_ (by kernel_rfl) ?_
  · repeat (first | exact fun _ h => absurd h List.not_mem_nil | (refine List.forall_mem_cons.2 (And.intro ?_ ?_); · first | exact .inr rfl | (left; simp; done) | (right; simp only [V.kill, ↓reduceIte]; first | rfl | exact if_neg (by omega) | (simp only [V.kill, V.kill.kills, ↓reduceIte]; done))))
  exact KeptX.nil
  try simp only [go_sem, simprocAttr]
  refine FWX.op (by decide) rfl (.agg [.d (Sx ((l.getD t13.toNat default).1)), .d (I ((l.getD t13.toNat default).2.1)), .d (I ((l.getD t13.toNat default).2.2.1)), .d (I ((l.getD t13.toNat default).2.2.2.1)), .d (I ((l.getD t13.toNat default).2.2.2.2.1)), .d (I ((l.getD t13.toNat default).2.2.2.2.2.1)), .d (I ((l.getD t13.toNat default).2.2.2.2.2.2.1)), .d (I ((l.getD t13.toNat default).2.2.2.2.2.2.2.1)), .d (I ((l.getD t13.toNat default).2.2.2.2.2.2.2.2)), .d (I x3), .d (I (0 : Int)), .d (I (0 : Int)), .d (I (0 : Int)), .d (I (0 : Int))]) 0 0 (.inl rfl) (.inr ⟨_, _, { on := 10, ground := .data }, rfl, rfl, by simp, rfl, rfl⟩) ?_ ?_ (by (simp only [go_sem, Nat.reduceLT])) ?_
  ·
   intro j hj1 hj2
   have hj : j = 0 := by omega
   subst hj
   all_goals (refine ⟨?_, ?_⟩)
   all_goals (first | rfl | trivial | (simp only [go_sem, simprocAttr, sw0]; first | done | rfl | omega | assumption | decide | (simp only [List.append_assoc, List.cons_append, List.nil_append]; done) | ((repeat (refine And.intro (by first | rfl | omega | assumption | decide) ?_)); first | rfl | omega | assumption | decide)))
  refine f8 [21, 30] (by first | rfl | (simp only [V.kill]; exact if_neg (by omega))) ?_ (by kernel_rfl) ?_
  · repeat (first | exact fun _ h => absurd h List.not_mem_nil | (refine List.forall_mem_cons.2 (And.intro ?_ ?_); · first | exact .inr rfl | (left; simp; done) | (right; simp only [V.kill, ↓reduceIte]; first | rfl | exact if_neg (by omega) | (simp only [V.kill, V.kill.kills, ↓reduceIte]; done))))
  exact KeptX.nil
  try simp only [go_sem, simprocAttr]
  refine FWX.box (q := 0) (by decide) rfl rfl rfl rfl (Nat.le_of_ble_eq_true rfl) (fun _ => rfl) ?_ ?_ ?_
  · first | rfl | trivial | (simp only [go_sem, simprocAttr, sw0]; first | done | rfl | omega | assumption | decide | (simp only [List.append_assoc, List.cons_append, List.nil_append]; done) | ((repeat (refine And.intro (by first | rfl | omega | assumption | decide) ?_)); first | rfl | omega | assumption | decide))
  · first | rfl | trivial | (simp only [go_sem, simprocAttr, sw0]; first | done | rfl | omega | assumption | decide | (simp only [List.append_assoc, List.cons_append, List.nil_append]; done) | ((repeat (refine And.intro (by first | rfl | omega | assumption | decide) ?_)); first | rfl | omega | assumption | decide))
  try simp only [go_sem, simprocAttr, sw0]
  refine FWX.build (q := 1) (by decide) rfl rfl rfl rfl (Nat.le_of_ble_eq_true rfl) (fun _ => rfl) (.own (b72.length + 9) 0 1 1) ?_ ?_ ?_
  · first | rfl | trivial | (simp only [go_sem, simprocAttr, sw0]; first | done | rfl | omega | assumption | decide | (simp only [List.append_assoc, List.cons_append, List.nil_append]; done) | ((repeat (refine And.intro (by first | rfl | omega | assumption | decide) ?_)); first | rfl | omega | assumption | decide))
  · first | rfl | trivial | (simp only [go_sem, simprocAttr, sw0]; first | done | rfl | omega | assumption | decide | (simp only [List.append_assoc, List.cons_append, List.nil_append]; done) | ((repeat (refine And.intro (by first | rfl | omega | assumption | decide) ?_)); first | rfl | omega | assumption | decide))
  try simp only [go_sem, simprocAttr]
  refine FWX.append 6 (q := 2) (by decide) rfl rfl rfl rfl (Nat.le_of_ble_eq_true rfl) rfl (by first | decide | (first | exact Nat.le_refl _ | exact Nat.zero_le _ | (simp only [go_sem]; omega))) (.own 6 0 (b72.length + 1) 1) ?_ rfl ?_ ?_ ?_
  ·
   refine FreeX.of' rfl [21] ?_ (by kernel_rfl)
   · repeat (first | exact fun _ h => absurd h List.not_mem_nil | (refine List.forall_mem_cons.2 (And.intro ?_ ?_); · first | exact .inr rfl | (left; simp; done) | (right; simp only [V.kill, ↓reduceIte]; first | rfl | exact if_neg (by omega) | (simp only [V.kill, V.kill.kills, ↓reduceIte]; done))))
  · first | rfl | trivial | (simp only [go_sem, simprocAttr, sw0]; first | done | rfl | omega | assumption | decide | (simp only [List.append_assoc, List.cons_append, List.nil_append]; done) | ((repeat (refine And.intro (by first | rfl | omega | assumption | decide) ?_)); first | rfl | omega | assumption | decide))
  · first | rfl | trivial | (simp only [go_sem, simprocAttr, sw0]; first | done | rfl | omega | assumption | decide | (simp only [List.append_assoc, List.cons_append, List.nil_append]; done) | ((repeat (refine And.intro (by first | rfl | omega | assumption | decide) ?_)); first | rfl | omega | assumption | decide))
  try simp only [go_sem, simprocAttr, sw0]
  refine FWX.nil ?_
  change OW _ _ _ _ _ _
  change OW _ _ _ _ _ _
  refine OW.run [2, 5, 11, 12, 13] ?_
  simp only [go_sem, simprocAttr, sw0]
  repeat (refine And.intro (by omega) ?_)
  refine OW.nil (hK _ ?_)
  refine PW.del (b72.length + 7) ({ cells := o0_4.1, e := t0_4 } :: { cells := o1_4.1, e := t1_4 } :: { cells := o2_4.1, e := t2_4 } :: { cells := o3_4.1, e := t3_4 } :: { cells := [.d (I x1), .d (I x11), .d (I x12), .d (L x13)], e := 141 } :: { cells := [.d (I x1), .d (I x11), .d (I x12), .d (L x13), .own 6 0 (b72.length + 1) 1], e := 163 } :: { cells := p9 7 b72.length ++ [.ptr (b72.length + 8) 0], e := 164 } :: l6 b72.length a9 b72) [{ cells := [.d (Sx ((l.getD t13.toNat default).1)), .d (I ((l.getD t13.toNat default).2.1)), .d (I ((l.getD t13.toNat default).2.2.1)), .d (I ((l.getD t13.toNat default).2.2.2.1)), .d (I ((l.getD t13.toNat default).2.2.2.2.1)), .d (I ((l.getD t13.toNat default).2.2.2.2.2.1)), .d (I ((l.getD t13.toNat default).2.2.2.2.2.2.1)), .d (I ((l.getD t13.toNat default).2.2.2.2.2.2.2.1)), .d (I ((l.getD t13.toNat default).2.2.2.2.2.2.2.2)), .d (I x3), .d (I (0 : Int)), .d (I (0 : Int)), .d (I (0 : Int)), .d (I (0 : Int))], e := 166 }, { cells := [.ptr (b72.length + 8) 0], e := 164 }] { cells := [.d (Sx ((l.getD t13.toNat default).1)), .d (I ((l.getD t13.toNat default).2.1)), .d (I ((l.getD t13.toNat default).2.2.1)), .d (I ((l.getD t13.toNat default).2.2.2.1)), .d (I ((l.getD t13.toNat default).2.2.2.2.1)), .d (I ((l.getD t13.toNat default).2.2.2.2.2.1)), .d (I ((l.getD t13.toNat default).2.2.2.2.2.2.1)), .d (I ((l.getD t13.toNat default).2.2.2.2.2.2.2.1)), .d (I ((l.getD t13.toNat default).2.2.2.2.2.2.2.2))], e := 27 } (by simp only [List.length_cons, List.length_append, List.length_nil, n4] <;> omega) rfl (by (simp only [go_sem]; omega)) ?_
  simp only [List.cons_append, List.nil_append, List.append_assoc, List.append_nil, List.map_cons, List.map_append, List.map_nil, Ob.del, V.delD, V.delDead, V.delAgg, V.delTup, V.delClo, V.del_mapD, V.del_map, FamD.del calmF166 (b72.length + 7) b72.length b72, ctrP_del 7 b72.length (b72.length + 7) (by omega), V.stayOwn (b72.length + 7) 6 _ _ _ (by omega), V.stayPtr (b72.length + 7) 0 _ (by omega), V.stayPtr (b72.length + 7) 1 _ (by omega), V.stayPtr (b72.length + 7) 3 _ (by omega), V.stayPtr (b72.length + 7) 4 _ (by omega), V.stayPtr (b72.length + 7) 5 _ (by omega), V.delPtr (b72.length + 7) (b72.length + 8) (b72.length + 7) _ (by omega) (by omega)]
  change PW _ _ _ _ _
  refine a0 fun K hK => OW.run [2, 5, 11, 12, 13] ?_
  simp only [go_sem, simprocAttr, sw0]
  refine OW.nil (hK _ ?_)
  refine hN4 [] (w64 (t13 + (1 : Int)), (b72 ++ [((l.getD t13.toNat default).1, (l.getD t13.toNat default).2.1, (l.getD t13.toNat default).2.2.1, (l.getD t13.toNat default).2.2.2.1, (l.getD t13.toNat default).2.2.2.2.1, (l.getD t13.toNat default).2.2.2.2.2.1, (l.getD t13.toNat default).2.2.2.2.2.2.1, (l.getD t13.toNat default).2.2.2.2.2.2.2.1, (l.getD t13.toNat default).2.2.2.2.2.2.2.2, x3, (0 : Int), (0 : Int), (0 : Int), (0 : Int))])) _ H (by exact trivial) ?_
  simp only [sw1, go_sem, simprocAttr]
 replace H := k8 h5 H
 refine j3 ?_
 refine hN3 [] b72 _ H (by exact trivial) ?_
 simp only [sw1, go_sem, simprocAttr]
 rintro b71 H
 try simp only [go_sem, simprocAttr]
 refine a5 ?_
 refine a0 fun K hK => OW.run [4] ?_
 simp only [go_sem, simprocAttr, sw0]
 refine OW.nil (hK _ ?_)
 refine PW.fit [4] (b71.length + 7) (by (simp only [go_sem]; omega)) ?_
 try simp only [go_sem, simprocAttr]
 refine PW.shrink 4 0 ?_
 simp only [Env.shrink]
 try simp only [go_sem, simprocAttr]
 refine f4 ?_
 change PW.EndsM _ _ _ _ _ _ _ _
 refine PW.EndsM.intro (.inr rfl) ?_
 try simp only [go_sem, simprocAttr]
 obtain rfl := Option.some.inj H
 repeat' (first | trivial | rfl | (simp only [segMap]; rfl) | refine And.intro ?_ ?_)

theorem sched_Run_m134_ok (N : Nat) (x1 : Int) (x11 : Int) (x12 : Int) (x13 : List Int) (b7 : List TU) (b76 : List TU) (o0_11 : LowL (b7.length + 10)) (t0_11 : TypeId) (o1_11 : LowL (b7.length + 10)) (t1_11 : TypeId) (o2_11 : LowL (b7.length + 10)) (t2_11 : TypeId) (o3_11 : LowL (b7.length + 10)) (t3_11 : TypeId) (o4_11 : LowL (b7.length + 10)) (t4_11 : TypeId) (o8_11 : LowL (b7.length + 10)) (t8_11 : TypeId) (o9_11 : LowL (b7.length + 10)) (t9_11 : TypeId) (o10_11 : LowL (b7.length + 10)) (t10_11 : TypeId) (r_ : Int)  (e8 : u5 N x1 x11 x12 x13 b7 b76 = some r_) : CallM Try.prog 140 [.ptr 5 0] ({ cells := o0_11.1, e := t0_11 } :: { cells := o1_11.1, e := t1_11 } :: { cells := o2_11.1, e := t2_11 } :: { cells := o3_11.1, e := t3_11 } :: { cells := o4_11.1, e := t4_11 } :: { cells := [.d (I x1), .d (I x11), .d (I x12), .d (L x13), .own 6 0 b7.length 1], e := 163 } :: { cells := p9 7 b7.length, e := 164 } :: (l6 b7.length a9 b76 ++ [{ cells := o8_11.1, e := t8_11 }, { cells := o9_11.1, e := t9_11 }, { cells := o10_11.1, e := t10_11 }])) (ptrO 7 r_) ({ cells := o0_11.1, e := t0_11 } :: { cells := o1_11.1, e := t1_11 } :: { cells := o2_11.1, e := t2_11 } :: { cells := o3_11.1, e := t3_11 } :: { cells := o4_11.1, e := t4_11 } :: { cells := [.d (I x1), .d (I x11), .d (I x12), .d (L x13), .own 6 0 b7.length 1], e := 163 } :: { cells := p9 7 b7.length, e := 164 } :: (l6 b7.length a9 b76 ++ [{ cells := o8_11.1, e := t8_11 }, { cells := o9_11.1, e := t9_11 }, { cells := o10_11.1, e := t10_11 }])) [] := by
 refine CallM.of_PW0 Try.func140 rfl (by rw [Try.results140]) Try.ntmps140 Try.call140 ?_
 intro gs p
 have H := e8
 unfold u5 at H
 change PW _ _ _ _ _
 try simp only [go_sem, simprocAttr]
 refine a5 ?_
 refine a0 fun K hK => OW.run [0] ?_
 simp only [go_sem, simprocAttr, sw0]
 refine OW.nil (hK _ ?_)
 refine a5 ?_
 obtain ⟨c28, H⟩ := d7 H
 obtain ⟨⟨x9, x91, x92⟩, e9, H⟩ := a8 H
 refine a0 fun K hK => OW.run [0, 3] ?_
 simp only [go_sem, simprocAttr, sw0]
 refine d5 4 rfl rfl rfl (by ((simp only [go_sem, List.toList_toArray, simprocAttr]); exact rfl)) ?_ (sched_run_left_ok N _ _ _ _ _ _ e9) ?_ ?_ ?_ ?_
 · (first | rfl | (simp only [go_sem, sw1, simprocAttr, c28, q4 a9 calmF166 b76 b7.length c28, A6 a9 calmF166 b76 b7.length]; done) | (simp only [go_sem, sw1, simprocAttr, c28, q4 a9 calmF166 b76 b7.length c28, A6 a9 calmF166 b76 b7.length]; rfl) | (simp only [go_sem, sw1, simprocAttr, c28, q4 a9 calmF166 b76 b7.length c28, A6 a9 calmF166 b76 b7.length]; simp only [seg, asD, go_sem, sw1, simprocAttr, c28, q4 a9 calmF166 b76 b7.length c28, A6 a9 calmF166 b76 b7.length]; done) | (simp only [go_sem, sw1, simprocAttr, c28, q4 a9 calmF166 b76 b7.length c28, A6 a9 calmF166 b76 b7.length]; simp only [seg, asD, go_sem, sw1, simprocAttr, c28, q4 a9 calmF166 b76 b7.length c28, A6 a9 calmF166 b76 b7.length]; rfl) | ((try simp only [go_sem, sw1, simprocAttr, c28, q4 a9 calmF166 b76 b7.length c28, A6 a9 calmF166 b76 b7.length]); (repeat' (first | rfl | (refine i9 ?_; simp only [List.length_take, List.length_drop, List.length_set, List.length_replicate] <;> omega) | (refine congr (congrArg List.cons ?_) ?_) | (refine congrArg D.agg ?_) | (refine congrArg D.tup ?_) | (refine congrArg D.ref ?_) | (refine congrArg (D.list _) ?_) | (refine congrArg (D.clo _) ?_)))))
 · (first | exact trivial | exact d8 rfl | (refine a7 ?_; simp only [go_sem, sw2, List.length_set, List.length_replicate, and_true, true_and, Nat.le_refl, simprocAttr, c28, q4 a9 calmF166 b76 b7.length c28, A6 a9 calmF166 b76 b7.length]; done) | (refine a7 ?_; simp only [go_sem, sw2, List.length_set, List.length_replicate, and_true, true_and, Nat.le_refl, simprocAttr, c28, q4 a9 calmF166 b76 b7.length c28, A6 a9 calmF166 b76 b7.length]; omega))
 exact .inr ⟨rfl, rfl⟩
 (simp only [go_sem, Nat.reduceLT])
 refine OW.run [0, 3] ?_
 simp only [go_sem, simprocAttr, sw0]
 refine OW.nil (hK _ ?_)
 refine a5 ?_
 refine a5 ?_
 refine a0 fun K hK => OW.run [0, 3, 12] ?_
 simp only [go_sem, simprocAttr, sw0]
 repeat (refine And.intro (by omega) ?_)
 refine OW.nil (hK _ ?_)
 refine d9 rfl (fun h29 => ?_) (fun h29 => ?_)
 replace H := k7 h29 H
 refine a5 ?_
 refine a0 fun K hK => OW.run [2] ?_
 simp only [go_sem, simprocAttr, sw0]
 refine OW.nil (hK _ ?_)
 refine PW.fit [2] (b7.length + 10) (by exact Nat.le_refl _) ?_
 try simp only [go_sem, simprocAttr]
 refine f4 ?_
 change PW.EndsM _ _ _ _ _ _ _ _
 refine PW.EndsM.intro (.inr rfl) ?_
 try simp only [go_sem, simprocAttr]
 obtain rfl := Option.some.inj H
 repeat' (first | trivial | rfl | (simp only [segMap]; rfl) | refine And.intro ?_ ?_)
 replace H := k8 h29 H
 refine f0 ?_
 refine a5 ?_
 refine a0 fun K hK => OW.run [0, 3, 4] ?_
 simp only [go_sem, simprocAttr, sw0]
 refine OW.nil (hK _ ?_)
 refine i4 (τ := Int) [4] (b7.length + 10) (fun best => [(4, ptrO 7 best)]) (fun best => { cells := o0_11.1, e := t0_11 } :: { cells := o1_11.1, e := t1_11 } :: { cells := o2_11.1, e := t2_11 } :: { cells := o3_11.1, e := t3_11 } :: { cells := o4_11.1, e := t4_11 } :: { cells := [.d (I x1), .d (I x11), .d (I x12), .d (L x13), .own 6 0 b7.length 1], e := 163 } :: { cells := p9 7 b7.length, e := 164 } :: (l6 b7.length a9 b76 ++ [{ cells := o8_11.1, e := t8_11 }, { cells := o9_11.1, e := t9_11 }, { cells := o10_11.1, e := t10_11 }])) _ _ r_ (by exact Nat.le_refl _) H ?_ ?_
 intro K_4 H N30 hN30
 refine a5 ?_
 refine a0 fun K hK => OW.run [3, 4, 16, 17, 18] ?_
 simp only [go_sem, simprocAttr, sw0]
 repeat (refine And.intro (by omega) ?_)
 refine OW.nil (hK _ ?_)
 refine PW.block ?_
 refine i8 (σ := Int × Int) [3, 4, 16, 17, 18] (b7.length + 11) (fun (best1, t18) => [(4, ptrO 7 best1), (18, .d (I t18))]) (fun (best1, t18) => { cells := o0_11.1, e := t0_11 } :: { cells := o1_11.1, e := t1_11 } :: { cells := o2_11.1, e := t2_11 } :: { cells := o3_11.1, e := t3_11 } :: { cells := o4_11.1, e := t4_11 } :: { cells := [.d (I x1), .d (I x11), .d (I x12), .d (L x13), .own 6 0 b7.length 1], e := 163 } :: { cells := p9 7 b7.length, e := 164 } :: (l6 b7.length a9 b76 ++ [{ cells := o8_11.1, e := t8_11 }, { cells := o9_11.1, e := t9_11 }, { cells := o10_11.1, e := t10_11 }, { cells := [.d (I x9), .d (I x91), .d (I x92)], e := 62 }])) (sched_Run.b4 N b7 b76 x91 x92 K_4) r_ N ((-1 : Int), (0 : Int)) (by (simp only [go_sem]; omega)) H (by (simp only [sw1, go_sem, simprocAttr]; done)) ?_
 rintro n ⟨best1, t18⟩ H N31 hN31
 unfold sched_Run.b4 at H
 try simp only [go_sem, simprocAttr]
 try simp only [cutO (b := 7) (n := b7.length) (c := 11) (i := best1) (by omega) (by decide)]
 refine a5 ?_
 refine a0 fun K hK => OW.run [3, 4, 16, 17, 18, 19] ?_
 simp only [go_sem, simprocAttr, sw0]
 refine OW.nil (hK _ ?_)
 refine a5 ?_
 refine d9 rfl (fun h32 => ?_) (fun h32 => ?_)
 replace H := k7 h32 H
 refine f0 ?_
 refine a5 ?_
 refine PW.block ?_
 refine a5 ?_
 obtain ⟨c33, H⟩ := d7 H
 refine a0 fun K hK => OW.run [3, 4, 6, 16, 17, 18] ?_
 (simp only [go_sem, simprocAttr, sw0, ctrP_getD 7 b7.length t18.toNat (by omega)])
 repeat (refine And.intro (by omega) ?_)
 refine OW.nil (hK _ ?_)
 refine a5 ?_
 obtain ⟨x10, e10, H⟩ := a8 H
 refine j0 22 n9 (by kernel_rfl) fun K hK => ?_
 change FW _ _ _ _ _
 refine FW.toS [(3, .ptr (b7.length + 10) 0), (4, ptrO 7 best1), (6, .ptr (t18.toNat + 7) 0), (7, .d (Bo ((((decide ((b76.getD t18.toNat default).2.2.2.2.2.2.2.2.2.2.2.2.1 > (0 : Int))) && (decide ((b76.getD t18.toNat default).2.2.2.2.2.2.2.2.2.2.1 > x10))) && (decide ((b76.getD t18.toNat default).2.2.2.2.1 ≤ x92))) && ((decide ((b76.getD t18.toNat default).2.2.2.2.2.2.2.2.2.2.2.2.2 > (0 : Int))) || (decide (x91 > (0 : Int))))))), (16, .own 6 0 b7.length 1), (17, .d (I (b7.length : Int))), (18, .d (I t18))] ({ cells := o0_11.1, e := t0_11 } :: { cells := o1_11.1, e := t1_11 } :: { cells := o2_11.1, e := t2_11 } :: { cells := o3_11.1, e := t3_11 } :: { cells := o4_11.1, e := t4_11 } :: { cells := [.d (I x1), .d (I x11), .d (I x12), .d (L x13), .own 6 0 b7.length 1], e := 163 } :: { cells := p9 7 b7.length, e := 164 } :: (l6 b7.length a9 b76 ++ [{ cells := o8_11.1, e := t8_11 }, { cells := o9_11.1, e := t9_11 }, { cells := o10_11.1, e := t10_11 }, { cells := [.d (I x9), .d (I x91), .d (I x92)], e := 62 }])) ?_ (hK _ ?_)
 intro K hKE
 rcases Bool.eq_false_or_eq_true ((decide ((b76.getD t18.toNat default).2.2.2.2.2.2.2.2.2.2.2.2.1 > (0 : Int)))) with ha0 | ha0
 rcases Bool.eq_false_or_eq_true ((decide ((b76.getD t18.toNat default).2.2.2.2.2.2.2.2.2.2.1 > x10))) with ha1 | ha1
 rcases Bool.eq_false_or_eq_true ((decide ((b76.getD t18.toNat default).2.2.2.2.1 ≤ x92))) with ha2 | ha2
 rcases Bool.eq_false_or_eq_true ((decide ((b76.getD t18.toNat default).2.2.2.2.2.2.2.2.2.2.2.2.2 > (0 : Int)))) with ha3 | ha3
 refine FW.run ?_
 (simp only [go_sem, simprocAttr, sw0, d4 b7.length a9 b76 _ t18.toNat (by omega), ha0, ha1, ha2, ha3])
 repeat (refine And.intro (by omega) ?_)
 refine n2 4 rfl rfl ?_ (fun hg => by first | rfl | (simp only [go_sem, ↓reduceIte]; rfl)) (fun hg => by (first | ((simp only [go_sem, List.toList_toArray, simprocAttr, ha0, ha1, ha2, ha3]); exact rfl) | exact rfl)) (fun hg => ?_) (fun hg => (g8 N _ _ _ _ _ _ _ _ _ _ _ _ _ _ _ (p8 hg e10))) ?_ ?_ ?_ ?_
 · (first | rfl | (simp only [go_sem, simprocAttr, ha0, ha1, ha2, ha3]; done) | (simp only [go_sem, simprocAttr, ha0, ha1, ha2, ha3]; rfl))
 · first | ((first | rfl | (simp only [go_sem, sw1, simprocAttr, d4 b7.length a9 b76 _ t18.toNat (by omega)]; done) | (simp only [go_sem, sw1, simprocAttr, d4 b7.length a9 b76 _ t18.toNat (by omega)]; rfl) | (simp only [go_sem, sw1, simprocAttr, d4 b7.length a9 b76 _ t18.toNat (by omega)]; simp only [seg, asD, go_sem, sw1, simprocAttr, d4 b7.length a9 b76 _ t18.toNat (by omega)]; done) | (simp only [go_sem, sw1, simprocAttr, d4 b7.length a9 b76 _ t18.toNat (by omega)]; simp only [seg, asD, go_sem, sw1, simprocAttr, d4 b7.length a9 b76 _ t18.toNat (by omega)]; rfl) | ((try simp only [go_sem, sw1, simprocAttr, d4 b7.length a9 b76 _ t18.toNat (by omega)]); (repeat' (first | rfl | (refine i9 ?_; simp only [List.length_take, List.length_drop, List.length_set, List.length_replicate] <;> omega) | (refine congr (congrArg List.cons ?_) ?_) | (refine congrArg D.agg ?_) | (refine congrArg D.tup ?_) | (refine congrArg D.ref ?_) | (refine congrArg (D.list _) ?_) | (refine congrArg (D.clo _) ?_))))); done) | (exfalso; simp only [ha0, ha1, ha2, ha3, sb0] at hg)
 · intro hg; first | ((first | exact trivial | exact d8 rfl | (refine a7 ?_; simp only [go_sem, sw2, List.length_set, List.length_replicate, and_true, true_and, Nat.le_refl, simprocAttr, d4 b7.length a9 b76 _ t18.toNat (by omega)]; done) | (refine a7 ?_; simp only [go_sem, sw2, List.length_set, List.length_replicate, and_true, true_and, Nat.le_refl, simprocAttr, d4 b7.length a9 b76 _ t18.toNat (by omega)]; omega)); done) | (exfalso; simp only [ha0, ha1, ha2, ha3, sb0] at hg)
 exact .inr rfl
 (simp only [go_sem, Nat.reduceLT])
 refine FW.run ?_
 (simp only [go_sem, simprocAttr, sw0, d4 b7.length a9 b76 _ t18.toNat (by omega), ha0, ha1, ha2, ha3])
 repeat (refine And.intro (by omega) ?_)
 refine FW.nil ?_
 change OW _ _ _ _ _ _
 refine OW.run [3, 4, 6, 7, 16, 17, 18] ?_
 (simp only [go_sem, simprocAttr, sw0, d4 b7.length a9 b76 _ t18.toNat (by omega), ha0, ha1, ha2, ha3])
 repeat (refine And.intro (by omega) ?_)
 refine OW.nil ((congrArg K ?_).mpr hKE)
 · (first | rfl | (simp only [go_sem, simprocAttr, ha0, ha1, ha2, ha3]; done) | (simp only [go_sem, simprocAttr, ha0, ha1, ha2, ha3]; rfl))
 refine FW.run ?_
 (simp only [go_sem, simprocAttr, sw0, d4 b7.length a9 b76 _ t18.toNat (by omega), ha0, ha1, ha2, ha3])
 repeat (refine And.intro (by omega) ?_)
 refine n2 4 rfl rfl ?_ (fun hg => by first | rfl | (simp only [go_sem, ↓reduceIte]; rfl)) (fun hg => by (first | ((simp only [go_sem, List.toList_toArray, simprocAttr, ha0, ha1, ha2, ha3]); exact rfl) | exact rfl)) (fun hg => ?_) (fun hg => (g8 N _ _ _ _ _ _ _ _ _ _ _ _ _ _ _ (p8 hg e10))) ?_ ?_ ?_ ?_
 · (first | rfl | (simp only [go_sem, simprocAttr, ha0, ha1, ha2, ha3]; done) | (simp only [go_sem, simprocAttr, ha0, ha1, ha2, ha3]; rfl))
 · first | ((first | rfl | (simp only [go_sem, sw1, simprocAttr, d4 b7.length a9 b76 _ t18.toNat (by omega)]; done) | (simp only [go_sem, sw1, simprocAttr, d4 b7.length a9 b76 _ t18.toNat (by omega)]; rfl) | (simp only [go_sem, sw1, simprocAttr, d4 b7.length a9 b76 _ t18.toNat (by omega)]; simp only [seg, asD, go_sem, sw1, simprocAttr, d4 b7.length a9 b76 _ t18.toNat (by omega)]; done) | (simp only [go_sem, sw1, simprocAttr, d4 b7.length a9 b76 _ t18.toNat (by omega)]; simp only [seg, asD, go_sem, sw1, simprocAttr, d4 b7.length a9 b76 _ t18.toNat (by omega)]; rfl) | ((try simp only [go_sem, sw1, simprocAttr, d4 b7.length a9 b76 _ t18.toNat (by omega)]); (repeat' (first | rfl | (refine i9 ?_; simp only [List.length_take, List.length_drop, List.length_set, List.length_replicate] <;> omega) | (refine congr (congrArg List.cons ?_) ?_) | (refine congrArg D.agg ?_) | (refine congrArg D.tup ?_) | (refine congrArg D.ref ?_) | (refine congrArg (D.list _) ?_) | (refine congrArg (D.clo _) ?_))))); done) | (exfalso; simp only [ha0, ha1, ha2, ha3, sb0] at hg)
 · intro hg; first | ((first | exact trivial | exact d8 rfl | (refine a7 ?_; simp only [go_sem, sw2, List.length_set, List.length_replicate, and_true, true_and, Nat.le_refl, simprocAttr, d4 b7.length a9 b76 _ t18.toNat (by omega)]; done) | (refine a7 ?_; simp only [go_sem, sw2, List.length_set, List.length_replicate, and_true, true_and, Nat.le_refl, simprocAttr, d4 b7.length a9 b76 _ t18.toNat (by omega)]; omega)); done) | (exfalso; simp only [ha0, ha1, ha2, ha3, sb0] at hg)
 exact .inr rfl
 (simp only [go_sem, Nat.reduceLT])
 refine FW.run ?_
 (simp only [go_sem, simprocAttr, sw0, d4 b7.length a9 b76 _ t18.toNat (by omega), ha0, ha1, ha2, ha3])
 repeat (refine And.intro (by omega) ?_)
 refine FW.nil ?_
 change OW _ _ _ _ _ _
 refine OW.run [3, 4, 6, 7, 16, 17, 18] ?_
 (simp only [go_sem, simprocAttr, sw0, d4 b7.length a9 b76 _ t18.toNat (by omega), ha0, ha1, ha2, ha3])
 repeat (refine And.intro (by omega) ?_)
 refine OW.nil ((congrArg K ?_).mpr hKE)
 · (first | rfl | (simp only [go_sem, simprocAttr, ha0, ha1, ha2, ha3]; done) | (simp only [go_sem, simprocAttr, ha0, ha1, ha2, ha3]; rfl))
 refine FW.run ?_
 (simp only [go_sem, simprocAttr, sw0, d4 b7.length a9 b76 _ t18.toNat (by omega), ha0, ha1, ha2])
 repeat (refine And.intro (by omega) ?_)
 refine n2 4 rfl rfl ?_ (fun hg => by first | rfl | (simp only [go_sem, ↓reduceIte]; rfl)) (fun hg => by (first | ((simp only [go_sem, List.toList_toArray, simprocAttr, ha0, ha1, ha2]); exact rfl) | exact rfl)) (fun hg => ?_) (fun hg => (g8 N _ _ _ _ _ _ _ _ _ _ _ _ _ _ _ (p8 hg e10))) ?_ ?_ ?_ ?_
 · (first | rfl | (simp only [go_sem, simprocAttr, ha0, ha1, ha2]; done) | (simp only [go_sem, simprocAttr, ha0, ha1, ha2]; rfl))
 · first | ((first | rfl | (simp only [go_sem, sw1, simprocAttr, d4 b7.length a9 b76 _ t18.toNat (by omega)]; done) | (simp only [go_sem, sw1, simprocAttr, d4 b7.length a9 b76 _ t18.toNat (by omega)]; rfl) | (simp only [go_sem, sw1, simprocAttr, d4 b7.length a9 b76 _ t18.toNat (by omega)]; simp only [seg, asD, go_sem, sw1, simprocAttr, d4 b7.length a9 b76 _ t18.toNat (by omega)]; done) | (simp only [go_sem, sw1, simprocAttr, d4 b7.length a9 b76 _ t18.toNat (by omega)]; simp only [seg, asD, go_sem, sw1, simprocAttr, d4 b7.length a9 b76 _ t18.toNat (by omega)]; rfl) | ((try simp only [go_sem, sw1, simprocAttr, d4 b7.length a9 b76 _ t18.toNat (by omega)]); (repeat' (first | rfl | (refine i9 ?_; simp only [List.length_take, List.length_drop, List.length_set, List.length_replicate] <;> omega) | (refine congr (congrArg List.cons ?_) ?_) | (refine congrArg D.agg ?_) | (refine congrArg D.tup ?_) | (refine congrArg D.ref ?_) | (refine congrArg (D.list _) ?_) | (refine congrArg (D.clo _) ?_))))); done) | (exfalso; simp only [ha0, ha1, ha2, sb0] at hg)
 · intro hg; first | ((first | exact trivial | exact d8 rfl | (refine a7 ?_; simp only [go_sem, sw2, List.length_set, List.length_replicate, and_true, true_and, Nat.le_refl, simprocAttr, d4 b7.length a9 b76 _ t18.toNat (by omega)]; done) | (refine a7 ?_; simp only [go_sem, sw2, List.length_set, List.length_replicate, and_true, true_and, Nat.le_refl, simprocAttr, d4 b7.length a9 b76 _ t18.toNat (by omega)]; omega)); done) | (exfalso; simp only [ha0, ha1, ha2, sb0] at hg)
 exact .inr rfl
 (simp only [go_sem, Nat.reduceLT])
 refine FW.run ?_
 (simp only [go_sem, simprocAttr, sw0, d4 b7.length a9 b76 _ t18.toNat (by omega), ha0, ha1, ha2])
 repeat (refine And.intro (by omega) ?_)
 refine FW.nil ?_
 change OW _ _ _ _ _ _
 refine OW.run [3, 4, 6, 7, 16, 17, 18] ?_
 (simp only [go_sem, simprocAttr, sw0, d4 b7.length a9 b76 _ t18.toNat (by omega), ha0, ha1, ha2])
 refine OW.nil ((congrArg K ?_).mpr hKE)
 · (first | rfl | (simp only [go_sem, simprocAttr, ha0, ha1, ha2]; done) | (simp only [go_sem, simprocAttr, ha0, ha1, ha2]; rfl))
 refine FW.run ?_
 (simp only [go_sem, simprocAttr, sw0, d4 b7.length a9 b76 _ t18.toNat (by omega), ha0, ha1])
 repeat (refine And.intro (by omega) ?_)
 refine n2 4 rfl rfl ?_ (fun hg => by first | rfl | (simp only [go_sem, ↓reduceIte]; rfl)) (fun hg => by (first | ((simp only [go_sem, List.toList_toArray, simprocAttr, ha0, ha1]); exact rfl) | exact rfl)) (fun hg => ?_) (fun hg => (g8 N _ _ _ _ _ _ _ _ _ _ _ _ _ _ _ (p8 hg e10))) ?_ ?_ ?_ ?_
 · (first | rfl | (simp only [go_sem, simprocAttr, ha0, ha1]; done) | (simp only [go_sem, simprocAttr, ha0, ha1]; rfl))
 · first | ((first | rfl | (simp only [go_sem, sw1, simprocAttr, d4 b7.length a9 b76 _ t18.toNat (by omega)]; done) | (simp only [go_sem, sw1, simprocAttr, d4 b7.length a9 b76 _ t18.toNat (by omega)]; rfl) | (simp only [go_sem, sw1, simprocAttr, d4 b7.length a9 b76 _ t18.toNat (by omega)]; simp only [seg, asD, go_sem, sw1, simprocAttr, d4 b7.length a9 b76 _ t18.toNat (by omega)]; done) | (simp only [go_sem, sw1, simprocAttr, d4 b7.length a9 b76 _ t18.toNat (by omega)]; simp only [seg, asD, go_sem, sw1, simprocAttr, d4 b7.length a9 b76 _ t18.toNat (by omega)]; rfl) | ((try simp only [go_sem, sw1, simprocAttr, d4 b7.length a9 b76 _ t18.toNat (by omega)]); (repeat' (first | rfl | (refine i9 ?_; simp only [List.length_take, List.length_drop, List.length_set, List.length_replicate] <;> omega) | (refine congr (congrArg List.cons ?_) ?_) | (refine congrArg D.agg ?_) | (refine congrArg D.tup ?_) | (refine congrArg D.ref ?_) | (refine congrArg (D.list _) ?_) | (refine congrArg (D.clo _) ?_))))); done) | (exfalso; simp only [ha0, ha1, sb0] at hg)
 · intro hg; first | ((first | exact trivial | exact d8 rfl | (refine a7 ?_; simp only [go_sem, sw2, List.length_set, List.length_replicate, and_true, true_and, Nat.le_refl, simprocAttr, d4 b7.length a9 b76 _ t18.toNat (by omega)]; done) | (refine a7 ?_; simp only [go_sem, sw2, List.length_set, List.length_replicate, and_true, true_and, Nat.le_refl, simprocAttr, d4 b7.length a9 b76 _ t18.toNat (by omega)]; omega)); done) | (exfalso; simp only [ha0, ha1, sb0] at hg)
 exact .inr rfl
 (simp only [go_sem, Nat.reduceLT])
 refine FW.run ?_
 (simp only [go_sem, simprocAttr, sw0, d4 b7.length a9 b76 _ t18.toNat (by omega), ha0, ha1])
 refine FW.nil ?_
 change OW _ _ _ _ _ _
 refine OW.run [3, 4, 6, 7, 16, 17, 18] ?_
 (simp only [go_sem, simprocAttr, sw0, d4 b7.length a9 b76 _ t18.toNat (by omega), ha0, ha1])
 refine OW.nil ((congrArg K ?_).mpr hKE)
 · (first | rfl | (simp only [go_sem, simprocAttr, ha0, ha1]; done) | (simp only [go_sem, simprocAttr, ha0, ha1]; rfl))
 refine FW.run ?_
 (simp only [go_sem, simprocAttr, sw0, d4 b7.length a9 b76 _ t18.toNat (by omega), ha0])
 repeat (refine And.intro (by omega) ?_)
 refine n2 4 rfl rfl ?_ (fun hg => by first | rfl | (simp only [go_sem, ↓reduceIte]; rfl)) (fun hg => by (first | ((simp only [go_sem, List.toList_toArray, simprocAttr, ha0]); exact rfl) | exact rfl)) (fun hg => ?_) (fun hg => (g8 N _ _ _ _ _ _ _ _ _ _ _ _ _ _ _ (p8 hg e10))) ?_ ?_ ?_ ?_
 · (first | rfl | (simp only [go_sem, simprocAttr, ha0]; done) | (simp only [go_sem, simprocAttr, ha0]; rfl))
 · first | ((((simp only [go_sem, sw1, simprocAttr]; try simp only [seg, go_sem, simprocAttr])); (repeat' (first | rfl | (refine i9 ?_; simp only [List.length_take, List.length_drop, List.length_set, List.length_replicate] <;> omega) | (refine congr (congrArg List.cons ?_) ?_) | (refine congrArg D.agg ?_) | (refine congrArg D.tup ?_) | (refine congrArg D.ref ?_) | (refine congrArg (D.list _) ?_) | (refine congrArg (D.clo _) ?_)))); done) | (exfalso; simp only [ha0, sb0] at hg)
 · intro hg; first | ((first | exact trivial | exact d8 rfl | (refine a7 ?_; (first | (simp only [go_sem, sw2, List.length_set, List.length_replicate, and_true, true_and, Nat.le_refl, simprocAttr]; done) | (simp only [go_sem, sw2, List.length_set, List.length_replicate, and_true, true_and, Nat.le_refl, simprocAttr]; omega) | (simp only [go_sem, sw2, List.length_set, List.length_replicate, and_true, true_and, Nat.le_refl, simprocAttr]; simp only [seg, go_sem, sw2, List.length_set, List.length_replicate, and_true, true_and, Nat.le_refl, simprocAttr]; done) | (simp only [go_sem, sw2, List.length_set, List.length_replicate, and_true, true_and, Nat.le_refl, simprocAttr]; simp only [seg, go_sem, sw2, List.length_set, List.length_replicate, and_true, true_and, Nat.le_refl, simprocAttr]; omega) | (simp only [go_sem, sw2, List.length_set, List.length_replicate, and_true, true_and, Nat.le_refl, simprocAttr, List.length_take, List.length_drop]; omega) | (simp only [go_sem, sw2, List.length_append, List.length_map, List.length_cons, List.length_nil, List.length_set, List.length_replicate, and_true, true_and, Nat.le_refl, Nat.zero_add, simprocAttr]; done) | (simp only [go_sem, sw2, List.length_append, List.length_map, List.length_cons, List.length_nil, List.length_set, List.length_replicate, and_true, true_and, Nat.le_refl, Nat.zero_add, simprocAttr]; omega))) | (first | (simp only [go_sem, sw2, List.length_set, List.length_replicate, and_true, true_and, Nat.le_refl, simprocAttr]; done) | (simp only [go_sem, sw2, List.length_set, List.length_replicate, and_true, true_and, Nat.le_refl, simprocAttr]; omega) | (simp only [go_sem, sw2, List.length_set, List.length_replicate, and_true, true_and, Nat.le_refl, simprocAttr]; simp only [seg, go_sem, sw2, List.length_set, List.length_replicate, and_true, true_and, Nat.le_refl, simprocAttr]; done) | (simp only [go_sem, sw2, List.length_set, List.length_replicate, and_true, true_and, Nat.le_refl, simprocAttr]; simp only [seg, go_sem, sw2, List.length_set, List.length_replicate, and_true, true_and, Nat.le_refl, simprocAttr]; omega) | (simp only [go_sem, sw2, List.length_set, List.length_replicate, and_true, true_and, Nat.le_refl, simprocAttr, List.length_take, List.length_drop]; omega) | (simp only [go_sem, sw2, List.length_append, List.length_map, List.length_cons, List.length_nil, List.length_set, List.length_replicate, and_true, true_and, Nat.le_refl, Nat.zero_add, simprocAttr]; done) | (simp only [go_sem, sw2, List.length_append, List.length_map, List.length_cons, List.length_nil, List.length_set, List.length_replicate, and_true, true_and, Nat.le_refl, Nat.zero_add, simprocAttr]; omega))); done) | (exfalso; simp only [ha0, sb0] at hg)
 exact .inr rfl
 (simp only [go_sem, Nat.reduceLT])
 refine FW.run ?_
 (simp only [go_sem, simprocAttr, sw0, d4 b7.length a9 b76 _ t18.toNat (by omega), ha0])
 refine FW.nil ?_
 change OW _ _ _ _ _ _
 refine OW.run [3, 4, 6, 7, 16, 17, 18] ?_
 (simp only [go_sem, simprocAttr, sw0, d4 b7.length a9 b76 _ t18.toNat (by omega), ha0])
 refine OW.nil ((congrArg K ?_).mpr hKE)
 · (first | rfl | (simp only [go_sem, simprocAttr, ha0]; done) | (simp only [go_sem, simprocAttr, ha0]; rfl))
 clear hK K
 try simp only [go_sem, simprocAttr]
 obtain ⟨q, hq, H⟩ := a8 H
 simp only [Option.some.inj hq]
 refine a5 ?_
 obtain ⟨x111, e11, H⟩ := a8 H
 obtain ⟨c34, H⟩ := d7 H
 obtain ⟨c35, H⟩ := d7 H
 obtain ⟨c36, H⟩ := d7 H
 obtain ⟨x121, e12, H⟩ := a8 H
 refine j0 31 n9 (by kernel_rfl) fun K hK => ?_
 change FW _ _ _ _ _
 refine FW.toS [(3, .ptr (b7.length + 10) 0), (4, ptrO 7 best1), (6, .ptr (t18.toNat + 7) 0), (16, .own 6 0 b7.length 1), (17, .d (I (b7.length : Int))), (18, .d (I t18)), (91, .d (Bo (q && ((decide (best1 < 0)) || (decide (w64 ((w64 (((b76.getD t18.toNat default).2.2.2.2.2.2.2.2.2.2.2.1) + x111)) * ((b76.getD best1.toNat default).2.2.2.1)) < w64 ((w64 (((b76.getD best1.toNat default).2.2.2.2.2.2.2.2.2.2.2.1) + x121)) * ((b76.getD t18.toNat default).2.2.2.1))))))))] ({ cells := o0_11.1, e := t0_11 } :: { cells := o1_11.1, e := t1_11 } :: { cells := o2_11.1, e := t2_11 } :: { cells := o3_11.1, e := t3_11 } :: { cells := o4_11.1, e := t4_11 } :: { cells := [.d (I x1), .d (I x11), .d (I x12), .d (L x13), .own 6 0 b7.length 1], e := 163 } :: { cells := p9 7 b7.length, e := 164 } :: (l6 b7.length a9 b76 ++ [{ cells := o8_11.1, e := t8_11 }, { cells := o9_11.1, e := t9_11 }, { cells := o10_11.1, e := t10_11 }, { cells := [.d (I x9), .d (I x91), .d (I x92)], e := 62 }])) ?_ (hK _ ?_)
 intro K hKE
 rcases Bool.eq_false_or_eq_true (q) with ha0 | ha0
 rcases Bool.eq_false_or_eq_true ((decide (best1 < 0))) with ha1 | ha1
 ·
  try simp only [ha0, ha1, sb0, true_implies, false_implies, forall_const] at c34
  try simp only [ha0, ha1, sb0, true_implies, false_implies, forall_const] at c35
  try simp only [ha0, ha1, sb0, true_implies, false_implies, forall_const] at c36
  refine FW.run ?_
  (simp only [go_sem, simprocAttr, sw0, ha0, ha1, i6 (b := 7) ha1])
  repeat (refine And.intro (by first | omega | (intro hg; have hq := c34 (by first | exact hg | simpa using hg); first | omega | exact hq | (simp only [List.length_map]; omega)) | (intro hg; have hq := c35 (by first | exact hg | simpa using hg); first | omega | exact hq | (simp only [List.length_map]; omega)) | (intro hg; have hq := c36 (by first | exact hg | simpa using hg); first | omega | exact hq | (simp only [List.length_map]; omega)) | assumption | rfl) ?_)
  refine n2 4 rfl rfl ?_ (fun hg => by first | rfl | (simp only [go_sem, ↓reduceIte]; rfl)) (fun hg => by (first | ((simp only [go_sem, List.toList_toArray, simprocAttr, ha0, ha1, i6 (b := 7) ha1]); exact rfl) | exact rfl)) (fun hg => ?_) (fun hg => (g8 N _ _ _ _ _ _ _ _ _ _ _ _ _ _ _ (p8 hg e11))) ?_ ?_ ?_ ?_
  · (first | rfl | (simp only [go_sem, simprocAttr, ha0, ha1, i6 (b := 7) ha1]; done) | (simp only [go_sem, simprocAttr, ha0, ha1, i6 (b := 7) ha1]; rfl))
  · first | ((first | rfl | (simp only [go_sem, sw1, simprocAttr, i6 (b := 7) ha1]; done) | (simp only [go_sem, sw1, simprocAttr, i6 (b := 7) ha1]; rfl) | (simp only [go_sem, sw1, simprocAttr, i6 (b := 7) ha1]; simp only [seg, asD, go_sem, sw1, simprocAttr, i6 (b := 7) ha1]; done) | (simp only [go_sem, sw1, simprocAttr, i6 (b := 7) ha1]; simp only [seg, asD, go_sem, sw1, simprocAttr, i6 (b := 7) ha1]; rfl) | ((try simp only [go_sem, sw1, simprocAttr, i6 (b := 7) ha1]); (repeat' (first | rfl | (refine i9 ?_; simp only [List.length_take, List.length_drop, List.length_set, List.length_replicate] <;> omega) | (refine congr (congrArg List.cons ?_) ?_) | (refine congrArg D.agg ?_) | (refine congrArg D.tup ?_) | (refine congrArg D.ref ?_) | (refine congrArg (D.list _) ?_) | (refine congrArg (D.clo _) ?_))))); done) | (exfalso; simp only [ha0, ha1, i6 (b := 7) ha1, sb0] at hg)
  · intro hg; first | ((first | exact trivial | exact d8 rfl | (refine a7 ?_; simp only [go_sem, sw2, List.length_set, List.length_replicate, and_true, true_and, Nat.le_refl, simprocAttr, i6 (b := 7) ha1]; done) | (refine a7 ?_; simp only [go_sem, sw2, List.length_set, List.length_replicate, and_true, true_and, Nat.le_refl, simprocAttr, i6 (b := 7) ha1]; omega)); done) | (exfalso; simp only [ha0, ha1, i6 (b := 7) ha1, sb0] at hg)
  exact .inr rfl
  (simp only [go_sem, Nat.reduceLT])
  refine FW.run ?_
  (simp only [go_sem, simprocAttr, sw0, ha0, ha1, i6 (b := 7) ha1])
  repeat (refine And.intro (by first | omega | (intro hg; have hq := c34 (by first | exact hg | simpa using hg); first | omega | exact hq | (simp only [List.length_map]; omega)) | (intro hg; have hq := c35 (by first | exact hg | simpa using hg); first | omega | exact hq | (simp only [List.length_map]; omega)) | (intro hg; have hq := c36 (by first | exact hg | simpa using hg); first | omega | exact hq | (simp only [List.length_map]; omega)) | assumption | rfl) ?_)
  refine n2 4 rfl rfl ?_ (fun hg => by first | rfl | (simp only [go_sem, ↓reduceIte]; rfl)) (fun hg => by (first | ((simp only [go_sem, List.toList_toArray, simprocAttr, ha0, ha1, i6 (b := 7) ha1]); exact rfl) | exact rfl)) (fun hg => ?_) (fun hg => (g8 N _ _ _ _ _ _ _ _ _ _ _ _ _ _ _ (p8 hg e12))) ?_ ?_ ?_ ?_
  · (first | rfl | (simp only [go_sem, simprocAttr, ha0, ha1, i6 (b := 7) ha1]; done) | (simp only [go_sem, simprocAttr, ha0, ha1, i6 (b := 7) ha1]; rfl))
  · first | ((first | rfl | (simp only [go_sem, sw1, simprocAttr, i6 (b := 7) ha1]; done) | (simp only [go_sem, sw1, simprocAttr, i6 (b := 7) ha1]; rfl) | (simp only [go_sem, sw1, simprocAttr, i6 (b := 7) ha1]; simp only [seg, asD, go_sem, sw1, simprocAttr, i6 (b := 7) ha1]; done) | (simp only [go_sem, sw1, simprocAttr, i6 (b := 7) ha1]; simp only [seg, asD, go_sem, sw1, simprocAttr, i6 (b := 7) ha1]; rfl) | ((try simp only [go_sem, sw1, simprocAttr, i6 (b := 7) ha1]); (repeat' (first | rfl | (refine i9 ?_; simp only [List.length_take, List.length_drop, List.length_set, List.length_replicate] <;> omega) | (refine congr (congrArg List.cons ?_) ?_) | (refine congrArg D.agg ?_) | (refine congrArg D.tup ?_) | (refine congrArg D.ref ?_) | (refine congrArg (D.list _) ?_) | (refine congrArg (D.clo _) ?_))))); done) | (exfalso; simp only [ha0, ha1, i6 (b := 7) ha1, sb0] at hg)
  · intro hg; first | ((first | exact trivial | exact d8 rfl | (refine a7 ?_; simp only [go_sem, sw2, List.length_set, List.length_replicate, and_true, true_and, Nat.le_refl, simprocAttr, i6 (b := 7) ha1]; done) | (refine a7 ?_; simp only [go_sem, sw2, List.length_set, List.length_replicate, and_true, true_and, Nat.le_refl, simprocAttr, i6 (b := 7) ha1]; omega)); done) | (exfalso; simp only [ha0, ha1, i6 (b := 7) ha1, sb0] at hg)
  exact .inl rfl
  (simp only [go_sem, Nat.reduceLT])
  refine FW.run ?_
  (simp only [go_sem, simprocAttr, sw0, ha0, ha1, i6 (b := 7) ha1])
  repeat (refine And.intro (by first | omega | (intro hg; have hq := c34 (by first | exact hg | simpa using hg); first | omega | exact hq | (simp only [List.length_map]; omega)) | (intro hg; have hq := c35 (by first | exact hg | simpa using hg); first | omega | exact hq | (simp only [List.length_map]; omega)) | (intro hg; have hq := c36 (by first | exact hg | simpa using hg); first | omega | exact hq | (simp only [List.length_map]; omega)) | assumption | rfl) ?_)
  refine FW.nil ?_
  change OW _ _ _ _ _ _
  refine OW.run [3, 4, 6, 16, 17, 18, 91] ?_
  (simp only [go_sem, simprocAttr, sw0, ha0, ha1, i6 (b := 7) ha1])
  repeat (refine And.intro (by first | omega | (intro hg; have hq := c34 (by first | exact hg | simpa using hg); first | omega | exact hq | (simp only [List.length_map]; omega)) | (intro hg; have hq := c35 (by first | exact hg | simpa using hg); first | omega | exact hq | (simp only [List.length_map]; omega)) | (intro hg; have hq := c36 (by first | exact hg | simpa using hg); first | omega | exact hq | (simp only [List.length_map]; omega)) | assumption | rfl) ?_)
  refine OW.nil ((congrArg K ?_).mpr hKE)
  · (first | rfl | (simp only [go_sem, simprocAttr, ha0, ha1, i6 (b := 7) ha1]; done) | (simp only [go_sem, simprocAttr, ha0, ha1, i6 (b := 7) ha1]; rfl))
 ·
  try simp only [ha0, ha1, sb0, true_implies, false_implies, forall_const] at c34
  try simp only [ha0, ha1, sb0, true_implies, false_implies, forall_const] at c35
  try simp only [ha0, ha1, sb0, true_implies, false_implies, forall_const] at c36
  refine FW.run ?_
  (simp only [go_sem, simprocAttr, sw0, d4 b7.length a9 b76 _ t18.toNat (by omega), d4 b7.length a9 b76 _ best1.toNat (by omega), ha0, ha1, i7 (b := 7) ha1])
  repeat (refine And.intro (by first | omega | (intro hg; have hq := c34 (by first | exact hg | simpa using hg); first | omega | exact hq | (simp only [List.length_map]; omega)) | (intro hg; have hq := c35 (by first | exact hg | simpa using hg); first | omega | exact hq | (simp only [List.length_map]; omega)) | (intro hg; have hq := c36 (by first | exact hg | simpa using hg); first | omega | exact hq | (simp only [List.length_map]; omega)) | assumption | rfl) ?_)
  refine n2 4 rfl rfl ?_ (fun hg => by first | rfl | (simp only [go_sem, ↓reduceIte]; rfl)) (fun hg => by (first | ((simp only [go_sem, List.toList_toArray, simprocAttr, ha0, ha1, i7 (b := 7) ha1]); exact rfl) | exact rfl)) (fun hg => ?_) (fun hg => (g8 N _ _ _ _ _ _ _ _ _ _ _ _ _ _ _ (p8 hg e11))) ?_ ?_ ?_ ?_
  · (first | rfl | (simp only [go_sem, simprocAttr, ha0, ha1, i7 (b := 7) ha1]; done) | (simp only [go_sem, simprocAttr, ha0, ha1, i7 (b := 7) ha1]; rfl))
  · first | ((first | rfl | (simp only [go_sem, sw1, simprocAttr, d4 b7.length a9 b76 _ t18.toNat (by omega), i7 (b := 7) ha1]; done) | (simp only [go_sem, sw1, simprocAttr, d4 b7.length a9 b76 _ t18.toNat (by omega), i7 (b := 7) ha1]; rfl) | (simp only [go_sem, sw1, simprocAttr, d4 b7.length a9 b76 _ t18.toNat (by omega), i7 (b := 7) ha1]; simp only [seg, asD, go_sem, sw1, simprocAttr, d4 b7.length a9 b76 _ t18.toNat (by omega), i7 (b := 7) ha1]; done) | (simp only [go_sem, sw1, simprocAttr, d4 b7.length a9 b76 _ t18.toNat (by omega), i7 (b := 7) ha1]; simp only [seg, asD, go_sem, sw1, simprocAttr, d4 b7.length a9 b76 _ t18.toNat (by omega), i7 (b := 7) ha1]; rfl) | ((try simp only [go_sem, sw1, simprocAttr, d4 b7.length a9 b76 _ t18.toNat (by omega), i7 (b := 7) ha1]); (repeat' (first | rfl | (refine i9 ?_; simp only [List.length_take, List.length_drop, List.length_set, List.length_replicate] <;> omega) | (refine congr (congrArg List.cons ?_) ?_) | (refine congrArg D.agg ?_) | (refine congrArg D.tup ?_) | (refine congrArg D.ref ?_) | (refine congrArg (D.list _) ?_) | (refine congrArg (D.clo _) ?_))))); done) | (exfalso; simp only [ha0, ha1, i7 (b := 7) ha1, sb0] at hg)
  · intro hg; first | ((first | exact trivial | exact d8 rfl | (refine a7 ?_; simp only [go_sem, sw2, List.length_set, List.length_replicate, and_true, true_and, Nat.le_refl, simprocAttr, d4 b7.length a9 b76 _ t18.toNat (by omega), i7 (b := 7) ha1]; done) | (refine a7 ?_; simp only [go_sem, sw2, List.length_set, List.length_replicate, and_true, true_and, Nat.le_refl, simprocAttr, d4 b7.length a9 b76 _ t18.toNat (by omega), i7 (b := 7) ha1]; omega)); done) | (exfalso; simp only [ha0, ha1, i7 (b := 7) ha1, sb0] at hg)
  exact .inr rfl
  (simp only [go_sem, Nat.reduceLT])
  refine FW.run ?_
  (simp only [go_sem, simprocAttr, sw0, d4 b7.length a9 b76 _ t18.toNat (by omega), d4 b7.length a9 b76 _ best1.toNat (by omega), ha0, ha1, i7 (b := 7) ha1])
  repeat (refine And.intro (by first | omega | (intro hg; have hq := c34 (by first | exact hg | simpa using hg); first | omega | exact hq | (simp only [List.length_map]; omega)) | (intro hg; have hq := c35 (by first | exact hg | simpa using hg); first | omega | exact hq | (simp only [List.length_map]; omega)) | (intro hg; have hq := c36 (by first | exact hg | simpa using hg); first | omega | exact hq | (simp only [List.length_map]; omega)) | assumption | rfl) ?_)
  refine n2 4 rfl rfl ?_ (fun hg => by first | rfl | (simp only [go_sem, ↓reduceIte]; rfl)) (fun hg => by (first | ((simp only [go_sem, List.toList_toArray, simprocAttr, ha0, ha1, i7 (b := 7) ha1]); exact rfl) | exact rfl)) (fun hg => ?_) (fun hg => (g8 N _ _ _ _ _ _ _ _ _ _ _ _ _ _ _ (p8 hg e12))) ?_ ?_ ?_ ?_
  · (first | rfl | (simp only [go_sem, simprocAttr, ha0, ha1, i7 (b := 7) ha1]; done) | (simp only [go_sem, simprocAttr, ha0, ha1, i7 (b := 7) ha1]; rfl))
  · first | ((first | rfl | (simp only [go_sem, sw1, simprocAttr, d4 b7.length a9 b76 _ best1.toNat (by omega), i7 (b := 7) ha1]; done) | (simp only [go_sem, sw1, simprocAttr, d4 b7.length a9 b76 _ best1.toNat (by omega), i7 (b := 7) ha1]; rfl) | (simp only [go_sem, sw1, simprocAttr, d4 b7.length a9 b76 _ best1.toNat (by omega), i7 (b := 7) ha1]; simp only [seg, asD, go_sem, sw1, simprocAttr, d4 b7.length a9 b76 _ best1.toNat (by omega), i7 (b := 7) ha1]; done) | (simp only [go_sem, sw1, simprocAttr, d4 b7.length a9 b76 _ best1.toNat (by omega), i7 (b := 7) ha1]; simp only [seg, asD, go_sem, sw1, simprocAttr, d4 b7.length a9 b76 _ best1.toNat (by omega), i7 (b := 7) ha1]; rfl) | ((try simp only [go_sem, sw1, simprocAttr, d4 b7.length a9 b76 _ best1.toNat (by omega), i7 (b := 7) ha1]); (repeat' (first | rfl | (refine i9 ?_; simp only [List.length_take, List.length_drop, List.length_set, List.length_replicate] <;> omega) | (refine congr (congrArg List.cons ?_) ?_) | (refine congrArg D.agg ?_) | (refine congrArg D.tup ?_) | (refine congrArg D.ref ?_) | (refine congrArg (D.list _) ?_) | (refine congrArg (D.clo _) ?_))))); done) | (exfalso; simp only [ha0, ha1, i7 (b := 7) ha1, sb0] at hg)
  · intro hg; first | ((first | exact trivial | exact d8 rfl | (refine a7 ?_; simp only [go_sem, sw2, List.length_set, List.length_replicate, and_true, true_and, Nat.le_refl, simprocAttr, d4 b7.length a9 b76 _ best1.toNat (by omega), i7 (b := 7) ha1]; done) | (refine a7 ?_; simp only [go_sem, sw2, List.length_set, List.length_replicate, and_true, true_and, Nat.le_refl, simprocAttr, d4 b7.length a9 b76 _ best1.toNat (by omega), i7 (b := 7) ha1]; omega)); done) | (exfalso; simp only [ha0, ha1, i7 (b := 7) ha1, sb0] at hg)
  exact .inr rfl
  (simp only [go_sem, Nat.reduceLT])
  refine FW.run ?_
  (simp only [go_sem, simprocAttr, sw0, d4 b7.length a9 b76 _ t18.toNat (by omega), d4 b7.length a9 b76 _ best1.toNat (by omega), ha0, ha1, i7 (b := 7) ha1])
  repeat (refine And.intro (by first | omega | (intro hg; have hq := c34 (by first | exact hg | simpa using hg); first | omega | exact hq | (simp only [List.length_map]; omega)) | (intro hg; have hq := c35 (by first | exact hg | simpa using hg); first | omega | exact hq | (simp only [List.length_map]; omega)) | (intro hg; have hq := c36 (by first | exact hg | simpa using hg); first | omega | exact hq | (simp only [List.length_map]; omega)) | assumption | rfl) ?_)
  refine FW.nil ?_
  change OW _ _ _ _ _ _
  refine OW.run [3, 4, 6, 16, 17, 18, 91] ?_
  (simp only [go_sem, simprocAttr, sw0, d4 b7.length a9 b76 _ t18.toNat (by omega), d4 b7.length a9 b76 _ best1.toNat (by omega), ha0, ha1, i7 (b := 7) ha1])
  repeat (refine And.intro (by first | omega | (intro hg; have hq := c34 (by first | exact hg | simpa using hg); first | omega | exact hq | (simp only [List.length_map]; omega)) | (intro hg; have hq := c35 (by first | exact hg | simpa using hg); first | omega | exact hq | (simp only [List.length_map]; omega)) | (intro hg; have hq := c36 (by first | exact hg | simpa using hg); first | omega | exact hq | (simp only [List.length_map]; omega)) | assumption | rfl) ?_)
  refine OW.nil ((congrArg K ?_).mpr hKE)
  · (first | rfl | (simp only [go_sem, simprocAttr, ha0, ha1, i7 (b := 7) ha1]; done) | (simp only [go_sem, simprocAttr, ha0, ha1, i7 (b := 7) ha1]; rfl))
 rcases Bool.eq_false_or_eq_true ((decide (best1 < 0))) with ha1 | ha1
 ·
  try simp only [ha0, ha1, sb0, true_implies, false_implies, forall_const] at c34
  try simp only [ha0, ha1, sb0, true_implies, false_implies, forall_const] at c35
  try simp only [ha0, ha1, sb0, true_implies, false_implies, forall_const] at c36
  refine FW.run ?_
  (simp only [go_sem, simprocAttr, sw0, ha0, ha1, i6 (b := 7) ha1])
  repeat (refine And.intro (by first | omega | (intro hg; have hq := c34 (by first | exact hg | simpa using hg); first | omega | exact hq | (simp only [List.length_map]; omega)) | (intro hg; have hq := c35 (by first | exact hg | simpa using hg); first | omega | exact hq | (simp only [List.length_map]; omega)) | (intro hg; have hq := c36 (by first | exact hg | simpa using hg); first | omega | exact hq | (simp only [List.length_map]; omega)) | assumption | rfl) ?_)
  refine n2 4 rfl rfl ?_ (fun hg => by first | rfl | (simp only [go_sem, ↓reduceIte]; rfl)) (fun hg => by (first | ((simp only [go_sem, List.toList_toArray, simprocAttr, ha0, ha1, i6 (b := 7) ha1]); exact rfl) | exact rfl)) (fun hg => ?_) (fun hg => (g8 N _ _ _ _ _ _ _ _ _ _ _ _ _ _ _ (p8 hg e11))) ?_ ?_ ?_ ?_
  · (first | rfl | (simp only [go_sem, simprocAttr, ha0, ha1, i6 (b := 7) ha1]; done) | (simp only [go_sem, simprocAttr, ha0, ha1, i6 (b := 7) ha1]; rfl))
  · first | ((first | rfl | (simp only [go_sem, sw1, simprocAttr, i6 (b := 7) ha1]; done) | (simp only [go_sem, sw1, simprocAttr, i6 (b := 7) ha1]; rfl) | (simp only [go_sem, sw1, simprocAttr, i6 (b := 7) ha1]; simp only [seg, asD, go_sem, sw1, simprocAttr, i6 (b := 7) ha1]; done) | (simp only [go_sem, sw1, simprocAttr, i6 (b := 7) ha1]; simp only [seg, asD, go_sem, sw1, simprocAttr, i6 (b := 7) ha1]; rfl) | ((try simp only [go_sem, sw1, simprocAttr, i6 (b := 7) ha1]); (repeat' (first | rfl | (refine i9 ?_; simp only [List.length_take, List.length_drop, List.length_set, List.length_replicate] <;> omega) | (refine congr (congrArg List.cons ?_) ?_) | (refine congrArg D.agg ?_) | (refine congrArg D.tup ?_) | (refine congrArg D.ref ?_) | (refine congrArg (D.list _) ?_) | (refine congrArg (D.clo _) ?_))))); done) | (exfalso; simp only [ha0, ha1, i6 (b := 7) ha1, sb0] at hg)
  · intro hg; first | ((first | exact trivial | exact d8 rfl | (refine a7 ?_; simp only [go_sem, sw2, List.length_set, List.length_replicate, and_true, true_and, Nat.le_refl, simprocAttr, i6 (b := 7) ha1]; done) | (refine a7 ?_; simp only [go_sem, sw2, List.length_set, List.length_replicate, and_true, true_and, Nat.le_refl, simprocAttr, i6 (b := 7) ha1]; omega)); done) | (exfalso; simp only [ha0, ha1, i6 (b := 7) ha1, sb0] at hg)
  exact .inr rfl
  (simp only [go_sem, Nat.reduceLT])
  refine FW.run ?_
  (simp only [go_sem, simprocAttr, sw0, ha0, ha1, i6 (b := 7) ha1])
  repeat (refine And.intro (by first | omega | (intro hg; have hq := c34 (by first | exact hg | simpa using hg); first | omega | exact hq | (simp only [List.length_map]; omega)) | (intro hg; have hq := c35 (by first | exact hg | simpa using hg); first | omega | exact hq | (simp only [List.length_map]; omega)) | (intro hg; have hq := c36 (by first | exact hg | simpa using hg); first | omega | exact hq | (simp only [List.length_map]; omega)) | assumption | rfl) ?_)
  refine n2 4 rfl rfl ?_ (fun hg => by first | rfl | (simp only [go_sem, ↓reduceIte]; rfl)) (fun hg => by (first | ((simp only [go_sem, List.toList_toArray, simprocAttr, ha0, ha1, i6 (b := 7) ha1]); exact rfl) | exact rfl)) (fun hg => ?_) (fun hg => (g8 N _ _ _ _ _ _ _ _ _ _ _ _ _ _ _ (p8 hg e12))) ?_ ?_ ?_ ?_
  · (first | rfl | (simp only [go_sem, simprocAttr, ha0, ha1, i6 (b := 7) ha1]; done) | (simp only [go_sem, simprocAttr, ha0, ha1, i6 (b := 7) ha1]; rfl))
  · first | ((first | rfl | (simp only [go_sem, sw1, simprocAttr, i6 (b := 7) ha1]; done) | (simp only [go_sem, sw1, simprocAttr, i6 (b := 7) ha1]; rfl) | (simp only [go_sem, sw1, simprocAttr, i6 (b := 7) ha1]; simp only [seg, asD, go_sem, sw1, simprocAttr, i6 (b := 7) ha1]; done) | (simp only [go_sem, sw1, simprocAttr, i6 (b := 7) ha1]; simp only [seg, asD, go_sem, sw1, simprocAttr, i6 (b := 7) ha1]; rfl) | ((try simp only [go_sem, sw1, simprocAttr, i6 (b := 7) ha1]); (repeat' (first | rfl | (refine i9 ?_; simp only [List.length_take, List.length_drop, List.length_set, List.length_replicate] <;> omega) | (refine congr (congrArg List.cons ?_) ?_) | (refine congrArg D.agg ?_) | (refine congrArg D.tup ?_) | (refine congrArg D.ref ?_) | (refine congrArg (D.list _) ?_) | (refine congrArg (D.clo _) ?_))))); done) | (exfalso; simp only [ha0, ha1, i6 (b := 7) ha1, sb0] at hg)
  · intro hg; first | ((first | exact trivial | exact d8 rfl | (refine a7 ?_; simp only [go_sem, sw2, List.length_set, List.length_replicate, and_true, true_and, Nat.le_refl, simprocAttr, i6 (b := 7) ha1]; done) | (refine a7 ?_; simp only [go_sem, sw2, List.length_set, List.length_replicate, and_true, true_and, Nat.le_refl, simprocAttr, i6 (b := 7) ha1]; omega)); done) | (exfalso; simp only [ha0, ha1, i6 (b := 7) ha1, sb0] at hg)
  exact .inl rfl
  (simp only [go_sem, Nat.reduceLT])
  refine FW.run ?_
  (simp only [go_sem, simprocAttr, sw0, ha0, ha1, i6 (b := 7) ha1])
  repeat (refine And.intro (by first | omega | (intro hg; have hq := c34 (by first | exact hg | simpa using hg); first | omega | exact hq | (simp only [List.length_map]; omega)) | (intro hg; have hq := c35 (by first | exact hg | simpa using hg); first | omega | exact hq | (simp only [List.length_map]; omega)) | (intro hg; have hq := c36 (by first | exact hg | simpa using hg); first | omega | exact hq | (simp only [List.length_map]; omega)) | assumption | rfl) ?_)
  refine FW.nil ?_
  change OW _ _ _ _ _ _
  refine OW.run [3, 4, 6, 16, 17, 18, 91] ?_
  (simp only [go_sem, simprocAttr, sw0, ha0, ha1, i6 (b := 7) ha1])
  repeat (refine And.intro (by first | omega | (intro hg; have hq := c34 (by first | exact hg | simpa using hg); first | omega | exact hq | (simp only [List.length_map]; omega)) | (intro hg; have hq := c35 (by first | exact hg | simpa using hg); first | omega | exact hq | (simp only [List.length_map]; omega)) | (intro hg; have hq := c36 (by first | exact hg | simpa using hg); first | omega | exact hq | (simp only [List.length_map]; omega)) | assumption | rfl) ?_)
  refine OW.nil ((congrArg K ?_).mpr hKE)
  · (first | rfl | (simp only [go_sem, simprocAttr, ha0, ha1, i6 (b := 7) ha1]; done) | (simp only [go_sem, simprocAttr, ha0, ha1, i6 (b := 7) ha1]; rfl))
 ·
  try simp only [ha0, ha1, sb0, true_implies, false_implies, forall_const] at c34
  try simp only [ha0, ha1, sb0, true_implies, false_implies, forall_const] at c35
  try simp only [ha0, ha1, sb0, true_implies, false_implies, forall_const] at c36
  refine FW.run ?_
  (simp only [go_sem, simprocAttr, sw0, ha0, ha1, i7 (b := 7) ha1])
  repeat (refine And.intro (by first | omega | (intro hg; have hq := c34 (by first | exact hg | simpa using hg); first | omega | exact hq | (simp only [List.length_map]; omega)) | (intro hg; have hq := c35 (by first | exact hg | simpa using hg); first | omega | exact hq | (simp only [List.length_map]; omega)) | (intro hg; have hq := c36 (by first | exact hg | simpa using hg); first | omega | exact hq | (simp only [List.length_map]; omega)) | assumption | rfl) ?_)
  refine n2 4 rfl rfl ?_ (fun hg => by first | rfl | (simp only [go_sem, ↓reduceIte]; rfl)) (fun hg => by (first | ((simp only [go_sem, List.toList_toArray, simprocAttr, ha0, ha1, i7 (b := 7) ha1]); exact rfl) | exact rfl)) (fun hg => ?_) (fun hg => (g8 N _ _ _ _ _ _ _ _ _ _ _ _ _ _ _ (p8 hg e11))) ?_ ?_ ?_ ?_
  · (first | rfl | (simp only [go_sem, simprocAttr, ha0, ha1, i7 (b := 7) ha1]; done) | (simp only [go_sem, simprocAttr, ha0, ha1, i7 (b := 7) ha1]; rfl))
  · first | ((first | rfl | (simp only [go_sem, sw1, simprocAttr, i7 (b := 7) ha1]; done) | (simp only [go_sem, sw1, simprocAttr, i7 (b := 7) ha1]; rfl) | (simp only [go_sem, sw1, simprocAttr, i7 (b := 7) ha1]; simp only [seg, asD, go_sem, sw1, simprocAttr, i7 (b := 7) ha1]; done) | (simp only [go_sem, sw1, simprocAttr, i7 (b := 7) ha1]; simp only [seg, asD, go_sem, sw1, simprocAttr, i7 (b := 7) ha1]; rfl) | ((try simp only [go_sem, sw1, simprocAttr, i7 (b := 7) ha1]); (repeat' (first | rfl | (refine i9 ?_; simp only [List.length_take, List.length_drop, List.length_set, List.length_replicate] <;> omega) | (refine congr (congrArg List.cons ?_) ?_) | (refine congrArg D.agg ?_) | (refine congrArg D.tup ?_) | (refine congrArg D.ref ?_) | (refine congrArg (D.list _) ?_) | (refine congrArg (D.clo _) ?_))))); done) | (exfalso; simp only [ha0, ha1, i7 (b := 7) ha1, sb0] at hg)
  · intro hg; first | ((first | exact trivial | exact d8 rfl | (refine a7 ?_; simp only [go_sem, sw2, List.length_set, List.length_replicate, and_true, true_and, Nat.le_refl, simprocAttr, i7 (b := 7) ha1]; done) | (refine a7 ?_; simp only [go_sem, sw2, List.length_set, List.length_replicate, and_true, true_and, Nat.le_refl, simprocAttr, i7 (b := 7) ha1]; omega)); done) | (exfalso; simp only [ha0, ha1, i7 (b := 7) ha1, sb0] at hg)
  exact .inr rfl
  (simp only [go_sem, Nat.reduceLT])
  refine FW.run ?_
  (simp only [go_sem, simprocAttr, sw0, ha0, ha1, i7 (b := 7) ha1])
  repeat (refine And.intro (by first | omega | (intro hg; have hq := c34 (by first | exact hg | simpa using hg); first | omega | exact hq | (simp only [List.length_map]; omega)) | (intro hg; have hq := c35 (by first | exact hg | simpa using hg); first | omega | exact hq | (simp only [List.length_map]; omega)) | (intro hg; have hq := c36 (by first | exact hg | simpa using hg); first | omega | exact hq | (simp only [List.length_map]; omega)) | assumption | rfl) ?_)
  refine n2 4 rfl rfl ?_ (fun hg => by first | rfl | (simp only [go_sem, ↓reduceIte]; rfl)) (fun hg => by (first | ((simp only [go_sem, List.toList_toArray, simprocAttr, ha0, ha1, i7 (b := 7) ha1]); exact rfl) | exact rfl)) (fun hg => ?_) (fun hg => (g8 N _ _ _ _ _ _ _ _ _ _ _ _ _ _ _ (p8 hg e12))) ?_ ?_ ?_ ?_
  · (first | rfl | (simp only [go_sem, simprocAttr, ha0, ha1, i7 (b := 7) ha1]; done) | (simp only [go_sem, simprocAttr, ha0, ha1, i7 (b := 7) ha1]; rfl))
  · first | ((first | rfl | (simp only [go_sem, sw1, simprocAttr, i7 (b := 7) ha1]; done) | (simp only [go_sem, sw1, simprocAttr, i7 (b := 7) ha1]; rfl) | (simp only [go_sem, sw1, simprocAttr, i7 (b := 7) ha1]; simp only [seg, asD, go_sem, sw1, simprocAttr, i7 (b := 7) ha1]; done) | (simp only [go_sem, sw1, simprocAttr, i7 (b := 7) ha1]; simp only [seg, asD, go_sem, sw1, simprocAttr, i7 (b := 7) ha1]; rfl) | ((try simp only [go_sem, sw1, simprocAttr, i7 (b := 7) ha1]); (repeat' (first | rfl | (refine i9 ?_; simp only [List.length_take, List.length_drop, List.length_set, List.length_replicate] <;> omega) | (refine congr (congrArg List.cons ?_) ?_) | (refine congrArg D.agg ?_) | (refine congrArg D.tup ?_) | (refine congrArg D.ref ?_) | (refine congrArg (D.list _) ?_) | (refine congrArg (D.clo _) ?_))))); done) | (exfalso; simp only [ha0, ha1, i7 (b := 7) ha1, sb0] at hg)
  · intro hg; first | ((first | exact trivial | exact d8 rfl | (refine a7 ?_; simp only [go_sem, sw2, List.length_set, List.length_replicate, and_true, true_and, Nat.le_refl, simprocAttr, i7 (b := 7) ha1]; done) | (refine a7 ?_; simp only [go_sem, sw2, List.length_set, List.length_replicate, and_true, true_and, Nat.le_refl, simprocAttr, i7 (b := 7) ha1]; omega)); done) | (exfalso; simp only [ha0, ha1, i7 (b := 7) ha1, sb0] at hg)
  exact .inr rfl
  (simp only [go_sem, Nat.reduceLT])
  refine FW.run ?_
  (simp only [go_sem, simprocAttr, sw0, ha0, ha1, i7 (b := 7) ha1])
  repeat (refine And.intro (by first | omega | (intro hg; have hq := c34 (by first | exact hg | simpa using hg); first | omega | exact hq | (simp only [List.length_map]; omega)) | (intro hg; have hq := c35 (by first | exact hg | simpa using hg); first | omega | exact hq | (simp only [List.length_map]; omega)) | (intro hg; have hq := c36 (by first | exact hg | simpa using hg); first | omega | exact hq | (simp only [List.length_map]; omega)) | assumption | rfl) ?_)
  refine FW.nil ?_
  change OW _ _ _ _ _ _
  refine OW.run [3, 4, 6, 16, 17, 18, 91] ?_
  (simp only [go_sem, simprocAttr, sw0, ha0, ha1, i7 (b := 7) ha1])
  repeat (refine And.intro (by first | omega | (intro hg; have hq := c34 (by first | exact hg | simpa using hg); first | omega | exact hq | (simp only [List.length_map]; omega)) | (intro hg; have hq := c35 (by first | exact hg | simpa using hg); first | omega | exact hq | (simp only [List.length_map]; omega)) | (intro hg; have hq := c36 (by first | exact hg | simpa using hg); first | omega | exact hq | (simp only [List.length_map]; omega)) | assumption | rfl) ?_)
  refine OW.nil ((congrArg K ?_).mpr hKE)
  · (first | rfl | (simp only [go_sem, simprocAttr, ha0, ha1, i7 (b := 7) ha1]; done) | (simp only [go_sem, simprocAttr, ha0, ha1, i7 (b := 7) ha1]; rfl))
 clear hK K
 try simp only [go_sem, simprocAttr]
 refine d9 rfl (fun h37 => ?_) (fun h37 => ?_)
 replace H := k7 h37 H
 refine a0 fun K hK => OW.run [3, 4, 16, 17, 18] ?_
 simp only [go_sem, simprocAttr, sw0]
 refine OW.nil (hK _ ?_)
 refine a0 fun K hK => OW.run [3, 4, 16, 17, 18] ?_
 simp only [go_sem, simprocAttr, sw0]
 refine OW.nil (hK _ ?_)
 refine hN31 [] (((t18.toNat : Nat) : Int), w64 (t18 + (1 : Int))) _ H (by exact trivial) ?_
 · (first | (simp only [sw1, go_sem, simprocAttr, eq_true (show t18.toNat + 7 < b7.length + 11 by omega)]; done) | (simp only [sw1, go_sem, simprocAttr, eq_true (show t18.toNat + 7 < b7.length + 11 by omega)]; rfl) | (simp only [sw1, go_sem, simprocAttr, eq_true (show t18.toNat + 7 < b7.length + 11 by omega)]; simp only [List.length_set, List.length_append, List.length_cons, List.length_nil, Nat.zero_add, List.map_set, List.map_append, List.map_cons, List.map_nil]; done) | (simp only [sw1, go_sem, simprocAttr, eq_true (show t18.toNat + 7 < b7.length + 11 by omega)]; simp only [List.length_set, List.length_append, List.length_cons, List.length_nil, Nat.zero_add, List.map_set, List.map_append, List.map_cons, List.map_nil]; simp only [cut_mapD, V.cut]; done))
 replace H := k8 h37 H
 refine f0 ?_
 refine a0 fun K hK => OW.run [3, 4, 16, 17, 18] ?_
 simp only [go_sem, simprocAttr, sw0]
 refine OW.nil (hK _ ?_)
 obtain ⟨c38, H⟩ := d7 H
 refine hN31 [] (best1, w64 (t18 + (1 : Int))) _ H (by exact trivial) ?_
 · (first | (simp only [sw1, go_sem, simprocAttr, cutO (b := 7) (n := b7.length) (c := 11) (i := best1) (by omega) (by decide)]; done) | (simp only [sw1, go_sem, simprocAttr, cutO (b := 7) (n := b7.length) (c := 11) (i := best1) (by omega) (by decide)]; rfl) | (simp only [sw1, go_sem, simprocAttr, cutO (b := 7) (n := b7.length) (c := 11) (i := best1) (by omega) (by decide)]; simp only [List.length_set, List.length_append, List.length_cons, List.length_nil, Nat.zero_add, List.map_set, List.map_append, List.map_cons, List.map_nil]; done) | (simp only [sw1, go_sem, simprocAttr, cutO (b := 7) (n := b7.length) (c := 11) (i := best1) (by omega) (by decide)]; simp only [List.length_set, List.length_append, List.length_cons, List.length_nil, Nat.zero_add, List.map_set, List.map_append, List.map_cons, List.map_nil]; simp only [cut_mapD, V.cut]; done))
 replace H := k8 h32 H
 refine j3 ?_
 obtain ⟨c39, H⟩ := d7 H
 refine hN30 [] best1 _ H (by exact trivial) ?_
 · (first | (simp only [sw1, go_sem, simprocAttr, cutO (b := 7) (n := b7.length) (c := 10) (i := best1) (by omega) (by decide)]; done) | (simp only [sw1, go_sem, simprocAttr, cutO (b := 7) (n := b7.length) (c := 10) (i := best1) (by omega) (by decide)]; rfl) | (simp only [sw1, go_sem, simprocAttr, cutO (b := 7) (n := b7.length) (c := 10) (i := best1) (by omega) (by decide)]; simp only [List.length_set, List.length_append, List.length_cons, List.length_nil, Nat.zero_add, List.map_set, List.map_append, List.map_cons, List.map_nil]; done) | (simp only [sw1, go_sem, simprocAttr, cutO (b := 7) (n := b7.length) (c := 10) (i := best1) (by omega) (by decide)]; simp only [List.length_set, List.length_append, List.length_cons, List.length_nil, Nat.zero_add, List.map_set, List.map_append, List.map_cons, List.map_nil]; simp only [cut_mapD, V.cut]; done))
 rintro best H
 try simp only [go_sem, simprocAttr]
 try simp only [cutO (b := 7) (n := b7.length) (c := 10) (i := best) (by omega) (by decide)]
 refine a5 ?_
 refine a0 fun K hK => OW.run [2] ?_
 simp only [go_sem, simprocAttr, sw0]
 refine OW.nil (hK _ ?_)
 change PW _ _ _ _ _
 obtain ⟨c41, H⟩ := d7 H
 refine PW.fit [2] (b7.length + 10) (by exact Nat.le_refl _) ?_
 try simp only [go_sem, simprocAttr]
 try simp only [cutO (b := 7) (n := b7.length) (c := 10) (i := best) (by omega) (by decide)]
 refine f4 ?_
 change PW.EndsM _ _ _ _ _ _ _ _
 refine PW.EndsM.intro (.inr rfl) ?_
 try simp only [go_sem, simprocAttr]
 obtain rfl := Option.some.inj H
 repeat' (first | trivial | rfl | (simp only [segMap]; rfl) | refine And.intro ?_ ?_)

theorem sched_Run_m129_ok (N : Nat) (slots : List (List Int × List Int)) (t28 : Int) (x1 : Int) (x11 : Int) (x12 : Int) (x13 : List Int) (b7 : List TU) (b74 : List TU) (o0_11 : LowL (b7.length + 10)) (t0_11 : TypeId) (o1_11 : LowL (b7.length + 10)) (t1_11 : TypeId) (o2_11 : LowL (b7.length + 10)) (t2_11 : TypeId) (o3_11 : LowL (b7.length + 10)) (t3_11 : TypeId) (o4_11 : LowL (b7.length + 10)) (t4_11 : TypeId) (o8_11 : LowL (b7.length + 10)) (t8_11 : TypeId) (o9_11 : LowL (b7.length + 10)) (t9_11 : TypeId) (o10_11 : LowL (b7.length + 10)) (t10_11 : TypeId) (l1 : List Int) (b75 : List TU) (c12 : 0 ≤ t28 ∧ t28 < (slots.length : Int)) (e5 : sched_Run.m129 N slots x1 x11 x12 x13 b7 t28 b74 = some (l1, b75)) : CallM Try.prog 105 [.ptr 5 0, .agg [.d (L ((slots.getD t28.toNat default).1)), .d (L ((slots.getD t28.toNat default).2))]] ({ cells := o0_11.1, e := t0_11 } :: { cells := o1_11.1, e := t1_11 } :: { cells := o2_11.1, e := t2_11 } :: { cells := o3_11.1, e := t3_11 } :: { cells := o4_11.1, e := t4_11 } :: { cells := [.d (I x1), .d (I x11), .d (I x12), .d (L x13), .own 6 0 b7.length 1], e := 163 } :: { cells := p9 7 b7.length, e := 164 } :: (l6 b7.length a9 b74 ++ [{ cells := o8_11.1, e := t8_11 }, { cells := o9_11.1, e := t9_11 }, { cells := o10_11.1, e := t10_11 }])) (.d (L l1)) ({ cells := o0_11.1, e := t0_11 } :: { cells := o1_11.1, e := t1_11 } :: { cells := o2_11.1, e := t2_11 } :: { cells := o3_11.1, e := t3_11 } :: { cells := o4_11.1, e := t4_11 } :: { cells := [.d (I x1), .d (I x11), .d (I x12), .d (L x13), .own 6 0 b7.length 1], e := 163 } :: { cells := p9 7 b7.length, e := 164 } :: (l6 b7.length a9 b75 ++ [{ cells := o8_11.1, e := t8_11 }, { cells := o9_11.1, e := t9_11 }, { cells := o10_11.1, e := t10_11 }])) [] := by
 refine CallM.of_PW0 Try.func105 rfl (by rw [Try.results105]) Try.ntmps105 Try.call105 ?_
 intro gs p
 have H := e5
 unfold sched_Run.m129 at H
 change PW _ _ _ _ _
 try simp only [go_sem, simprocAttr]
 refine a5 ?_
 refine a0 fun K hK => OW.run [0, 3] ?_
 simp only [go_sem, simprocAttr, sw0]
 refine OW.nil (hK _ ?_)
 refine i4 (τ := (List TU)) [0] (b7.length + 10) (fun b76 => []) (fun b76 => { cells := o0_11.1, e := t0_11 } :: { cells := o1_11.1, e := t1_11 } :: { cells := o2_11.1, e := t2_11 } :: { cells := o3_11.1, e := t3_11 } :: { cells := o4_11.1, e := t4_11 } :: { cells := [.d (I x1), .d (I x11), .d (I x12), .d (L x13), .own 6 0 b7.length 1], e := 163 } :: { cells := p9 7 b7.length, e := 164 } :: (l6 b7.length a9 b76 ++ [{ cells := o8_11.1, e := t8_11 }, { cells := o9_11.1, e := t9_11 }, { cells := o10_11.1, e := t10_11 }])) _ _ (l1, b75) (by exact Nat.le_refl _) H ?_ ?_
 intro K_2 H N13 hN13
 refine a5 ?_
 refine a0 fun K hK => OW.run [0, 3, 15, 16, 17] ?_
 simp only [go_sem, simprocAttr, sw0]
 repeat (refine And.intro (by omega) ?_)
 refine OW.nil (hK _ ?_)
 refine PW.block ?_
 refine i8 (σ := Int × (List TU)) [0, 3, 15, 16, 17] (b7.length + 11) (fun (t17, b77) => [(17, .d (I t17))]) (fun (t17, b77) => { cells := o0_11.1, e := t0_11 } :: { cells := o1_11.1, e := t1_11 } :: { cells := o2_11.1, e := t2_11 } :: { cells := o3_11.1, e := t3_11 } :: { cells := o4_11.1, e := t4_11 } :: { cells := [.d (I x1), .d (I x11), .d (I x12), .d (L x13), .own 6 0 b7.length 1], e := 163 } :: { cells := p9 7 b7.length, e := 164 } :: (l6 b7.length a9 b77 ++ [{ cells := o8_11.1, e := t8_11 }, { cells := o9_11.1, e := t9_11 }, { cells := o10_11.1, e := t10_11 }, { cells := [.d (L ((slots.getD t28.toNat default).1)), .d (L ((slots.getD t28.toNat default).2))], e := 57 }])) (sched_Run.b3 N slots x13 b7 t28 K_2) (l1, b75) N ((0 : Int), b74) (by (simp only [go_sem]; omega)) H (by (simp only [sw1, go_sem, simprocAttr]; done)) ?_
 rintro n ⟨t17, b77⟩ H N14 hN14
 unfold sched_Run.b3 at H
 try simp only [go_sem, simprocAttr]
 refine a5 ?_
 refine a0 fun K hK => OW.run [0, 3, 15, 16, 17, 18] ?_
 simp only [go_sem, simprocAttr, sw0]
 refine OW.nil (hK _ ?_)
 refine a5 ?_
 refine d9 rfl (fun h15 => ?_) (fun h15 => ?_)
 ·
  replace H := k7 h15 H
  refine f0 ?_
  refine a5 ?_
  refine PW.block ?_
  refine a5 ?_
  obtain ⟨c16, H⟩ := d7 H
  refine a0 fun K hK => OW.run [0, 3, 5, 6, 15, 16, 17] ?_
  (simp only [go_sem, simprocAttr, sw0, ctrP_getD 7 b7.length t17.toNat (by omega)])
  repeat (refine And.intro (by omega) ?_)
  refine OW.nil (hK _ ?_)
  refine a5 ?_
  obtain ⟨c17, H⟩ := d7 H
  obtain ⟨c18, H⟩ := d7 H
  obtain ⟨c19, H⟩ := d7 H
  obtain ⟨c20, H⟩ := d7 H
  refine PW.drawX 32 [28, 31] (fun j => List.getD [({ cells := o0_11.1, e := t0_11 } :: { cells := o1_11.1, e := t1_11 } :: { cells := o2_11.1, e := t2_11 } :: { cells := o3_11.1, e := t3_11 } :: { cells := o4_11.1, e := t4_11 } :: { cells := [.d (I x1), .d (I x11), .d (I x12), .d (L x13), .own 6 0 b7.length 1], e := 163 } :: { cells := p9 7 b7.length, e := 164 } :: (l6 b7.length a9 b77 ++ [{ cells := o8_11.1, e := t8_11 }, { cells := o9_11.1, e := t9_11 }, { cells := o10_11.1, e := t10_11 }, { cells := [.d (L ((slots.getD t28.toNat default).1)), .d (L ((slots.getD t28.toNat default).2))], e := 57 }])), ({ cells := o0_11.1, e := t0_11 } :: { cells := o1_11.1, e := t1_11 } :: { cells := o2_11.1, e := t2_11 } :: { cells := o3_11.1, e := t3_11 } :: { cells := o4_11.1, e := t4_11 } :: { cells := [.d (I x1), .d (I x11), .d (I x12), .d (L x13), .own 6 0 b7.length 1], e := 163 } :: { cells := p9 7 b7.length, e := 164 } :: (l6 b7.length a9 (b77.set t17.toNat ((b77.getD t17.toNat default).1, (b77.getD t17.toNat default).2.1, (b77.getD t17.toNat default).2.2.1, (b77.getD t17.toNat default).2.2.2.1, (b77.getD t17.toNat default).2.2.2.2.1, (b77.getD t17.toNat default).2.2.2.2.2.1, (b77.getD t17.toNat default).2.2.2.2.2.2.1, (b77.getD t17.toNat default).2.2.2.2.2.2.2.1, (b77.getD t17.toNat default).2.2.2.2.2.2.2.2.1, (b77.getD t17.toNat default).2.2.2.2.2.2.2.2.2.1, (b77.getD t17.toNat default).2.2.2.2.2.2.2.2.2.2.1, (b77.getD t17.toNat default).2.2.2.2.2.2.2.2.2.2.2.1, (x13.getD ((((slots.getD t28.toNat default).1).getD t17.toNat 0).toNat) 0), (b77.getD t17.toNat default).2.2.2.2.2.2.2.2.2.2.2.2.2)) ++ [{ cells := o8_11.1, e := t8_11 }, { cells := o9_11.1, e := t9_11 }, { cells := o10_11.1, e := t10_11 }, { cells := [.d (L ((slots.getD t28.toNat default).1)), .d (L ((slots.getD t28.toNat default).2))], e := 57 }])), ({ cells := o0_11.1, e := t0_11 } :: { cells := o1_11.1, e := t1_11 } :: { cells := o2_11.1, e := t2_11 } :: { cells := o3_11.1, e := t3_11 } :: { cells := o4_11.1, e := t4_11 } :: { cells := [.d (I x1), .d (I x11), .d (I x12), .d (L x13), .own 6 0 b7.length 1], e := 163 } :: { cells := p9 7 b7.length, e := 164 } :: (l6 b7.length a9 (b77.set t17.toNat ((b77.getD t17.toNat default).1, (b77.getD t17.toNat default).2.1, (b77.getD t17.toNat default).2.2.1, (b77.getD t17.toNat default).2.2.2.1, (b77.getD t17.toNat default).2.2.2.2.1, (b77.getD t17.toNat default).2.2.2.2.2.1, (b77.getD t17.toNat default).2.2.2.2.2.2.1, (b77.getD t17.toNat default).2.2.2.2.2.2.2.1, (b77.getD t17.toNat default).2.2.2.2.2.2.2.2.1, (b77.getD t17.toNat default).2.2.2.2.2.2.2.2.2.1, (b77.getD t17.toNat default).2.2.2.2.2.2.2.2.2.2.1, (b77.getD t17.toNat default).2.2.2.2.2.2.2.2.2.2.2.1, (x13.getD ((((slots.getD t28.toNat default).1).getD t17.toNat 0).toNat) 0), (0 : Int))) ++ [{ cells := o8_11.1, e := t8_11 }, { cells := o9_11.1, e := t9_11 }, { cells := o10_11.1, e := t10_11 }, { cells := [.d (L ((slots.getD t28.toNat default).1)), .d (L ((slots.getD t28.toNat default).2))], e := 57 }]))] j []) (fun _ v => v) n9 (by kernel_rfl) (by decide) (by ((refine ⟨by decide, ?_⟩; intro k i i' h1 h2 o ho; match k, h1, h2 with | 0, h1, h2 => (simp at h1 h2 <;> first | (cases h2; done) | (subst h1; subst h2; simp at ho; subst ho; simp [Region.binds]; done)) | 1, h1, h2 => (simp at h1 h2 <;> first | (cases h2; done) | (subst h1; subst h2; simp at ho; subst ho; simp [Region.binds]; done)) | 2, h1, h2 => (simp at h1 h2 <;> first | (cases h2; done) | (subst h1; subst h2; simp at ho; subst ho; simp [Region.binds]; done)) | k + 3, h1, h2 => (simp at h2; done)))) (fun _ => rfl) (by decide) (freshL rfl) rfl rfl fun K hK => ?_
  change FWX _ _ _ _ _ _ _ _ _ _
  have gx21 := fun y0 => d4 b7.length a9 b77 y0 t17.toNat (by omega)
  have gx22 := fun y0 y1 => famN_getSR b7.length a9 b77 y0 t17.toNat y1 (by first | omega | assumption) (by first | omega | assumption)
  have gx23 := @famSR166 b7.length b77 t17.toNat (by omega) (by omega)
  have gx24 := @famSSR166 b7.length b77 t17.toNat (by omega) (by omega)
  refine FWX.op (by decide) rfl (.ptr (t17.toNat + 7) 0) 0 0 (.inl rfl) (.inr ⟨_, _, { on := 0, ground := .phase }, rfl, rfl, by simp, rfl, rfl⟩) ?_ ?_ (by (simp only [go_sem, Nat.reduceLT])) ?_
  ·
   intro j hj1 hj2
   have hj : j = 0 := by omega
   subst hj
   all_goals (refine ⟨?_, ?_⟩)
   all_goals (first | rfl | trivial | ((simp only [go_sem, simprocAttr, sw0, gx21, gx23, gx22, gx24]); first | done | rfl | omega | assumption | decide | (simp only [List.append_assoc, List.cons_append, List.nil_append]; done) | ((repeat (refine And.intro (by first | rfl | omega | assumption | decide) ?_)); first | rfl | omega | assumption | decide)))
  exact KeptX.same fun _ _ => rfl
  try simp only [go_sem, simprocAttr]
  refine FWX.op (by decide) rfl (.ptr (t17.toNat + 7) 0) 0 1 (.inl rfl) (.inr ⟨_, _, { on := 1, ground := .phase }, rfl, rfl, by simp, rfl, rfl⟩) ?_ ?_ (by (simp only [go_sem, Nat.reduceLT])) ?_
  ·
   intro j hj1 hj2
   have hj : j = 0 ∨ j = 1 := by omega
   rcases hj with rfl | rfl
   all_goals (refine ⟨?_, ?_⟩)
   all_goals (first | rfl | trivial | ((simp only [go_sem, simprocAttr, sw0, gx21, gx23, gx22, gx24]); first | done | rfl | omega | assumption | decide | (simp only [List.append_assoc, List.cons_append, List.nil_append]; done) | ((repeat (refine And.intro (by first | rfl | omega | assumption | decide) ?_)); first | rfl | omega | assumption | decide)))
  exact KeptX.same fun _ _ => rfl
  try simp only [go_sem, simprocAttr]
  refine FWX.op (by decide) rfl (.ptr (t17.toNat + 7) 0) 0 2 (.inl rfl) (.inl rfl) ?_ ?_ (by (simp only [go_sem, Nat.reduceLT])) ?_
  ·
   intro j hj1 hj2
   have hj : j = 0 ∨ j = 1 ∨ j = 2 := by omega
   rcases hj with rfl | rfl | rfl
   all_goals (refine ⟨?_, ?_⟩)
   all_goals (first | rfl | trivial | ((simp only [go_sem, simprocAttr, sw0, gx21, gx23, gx22, gx24]); first | done | rfl | omega | assumption | decide | (simp only [List.append_assoc, List.cons_append, List.nil_append]; done) | ((repeat (refine And.intro (by first | rfl | omega | assumption | decide) ?_)); first | rfl | omega | assumption | decide)))
  exact KeptX.same fun _ _ => rfl
  try simp only [go_sem, simprocAttr]
  refine FWX.op (by decide) rfl (.ptr 5 0) 0 0 (.inl rfl) (.inr ⟨_, _, { on := 3, ground := .phase }, rfl, rfl, by simp, rfl, rfl⟩) ?_ ?_ (by (simp only [go_sem, Nat.reduceLT])) ?_
  ·
   intro j hj1 hj2
   have hj : j = 0 := by omega
   subst hj
   all_goals (refine ⟨?_, ?_⟩)
   all_goals (first | rfl | trivial | ((simp only [go_sem, simprocAttr, sw0, gx21, gx23, gx22, gx24]); first | done | rfl | omega | assumption | decide | (simp only [List.append_assoc, List.cons_append, List.nil_append]; done) | ((repeat (refine And.intro (by first | rfl | omega | assumption | decide) ?_)); first | rfl | omega | assumption | decide)))
  exact KeptX.same fun _ _ => rfl
  try simp only [go_sem, simprocAttr]
  refine FWX.op (by decide) rfl (.ptr 5 0) 0 0 (.inl rfl) (.inr ⟨_, _, { on := 4, ground := .phase }, rfl, rfl, by simp, rfl, rfl⟩) ?_ ?_ (by (simp only [go_sem, Nat.reduceLT])) ?_
  ·
   intro j hj1 hj2
   have hj : j = 0 := by omega
   subst hj
   all_goals (refine ⟨?_, ?_⟩)
   all_goals (first | rfl | trivial | ((simp only [go_sem, simprocAttr, sw0, gx21, gx23, gx22, gx24]); first | done | rfl | omega | assumption | decide | (simp only [List.append_assoc, List.cons_append, List.nil_append]; done) | ((repeat (refine And.intro (by first | rfl | omega | assumption | decide) ?_)); first | rfl | omega | assumption | decide)))
  exact KeptX.same fun _ _ => rfl
  try simp only [go_sem, simprocAttr]
  refine FWX.op (by decide) rfl (.ptr 5 0) 0 0 (.inl rfl) (.inr ⟨_, _, { on := 5, ground := .phase }, rfl, rfl, by simp, rfl, rfl⟩) ?_ ?_ (by (simp only [go_sem, Nat.reduceLT])) ?_
  ·
   intro j hj1 hj2
   have hj : j = 0 := by omega
   subst hj
   all_goals (refine ⟨?_, ?_⟩)
   all_goals (first | rfl | trivial | ((simp only [go_sem, simprocAttr, sw0, gx21, gx23, gx22, gx24]); first | done | rfl | omega | assumption | decide | (simp only [List.append_assoc, List.cons_append, List.nil_append]; done) | ((repeat (refine And.intro (by first | rfl | omega | assumption | decide) ?_)); first | rfl | omega | assumption | decide)))
  exact KeptX.same fun _ _ => rfl
  try simp only [go_sem, simprocAttr]
  refine FWX.op (by decide) rfl (.ptr 5 0) 0 0 (.inl rfl) (.inr ⟨_, _, { on := 6, ground := .phase }, rfl, rfl, by simp, rfl, rfl⟩) ?_ ?_ (by (simp only [go_sem, Nat.reduceLT])) ?_
  ·
   intro j hj1 hj2
   have hj : j = 0 := by omega
   subst hj
   all_goals (refine ⟨?_, ?_⟩)
   all_goals (first | rfl | trivial | ((simp only [go_sem, simprocAttr, sw0, gx21, gx23, gx22, gx24]); first | done | rfl | omega | assumption | decide | (simp only [List.append_assoc, List.cons_append, List.nil_append]; done) | ((repeat (refine And.intro (by first | rfl | omega | assumption | decide) ?_)); first | rfl | omega | assumption | decide)))
  exact KeptX.same fun _ _ => rfl
  try simp only [go_sem, simprocAttr]
  refine FWX.op (by decide) rfl (.ptr 5 3) 0 0 (.inl rfl) (.inr ⟨_, _, { on := 7, ground := .phase }, rfl, rfl, by simp, rfl, rfl⟩) ?_ ?_ (by (simp only [go_sem, Nat.reduceLT])) ?_
  ·
   intro j hj1 hj2
   have hj : j = 0 := by omega
   subst hj
   all_goals (refine ⟨?_, ?_⟩)
   all_goals (first | rfl | trivial | ((simp only [go_sem, simprocAttr, sw0, gx21, gx23, gx22, gx24]); first | done | rfl | omega | assumption | decide | (simp only [List.append_assoc, List.cons_append, List.nil_append]; done) | ((repeat (refine And.intro (by first | rfl | omega | assumption | decide) ?_)); first | rfl | omega | assumption | decide)))
  exact KeptX.same fun _ _ => rfl
  try simp only [go_sem, simprocAttr]
  refine FWX.op (by decide) rfl (.d (L x13)) 0 0 (.inl rfl) (.inr ⟨_, _, { on := 8, ground := .phase }, rfl, rfl, by simp, rfl, rfl⟩) ?_ ?_ (by (simp only [go_sem, Nat.reduceLT])) ?_
  ·
   intro j hj1 hj2
   have hj : j = 0 := by omega
   subst hj
   all_goals (refine ⟨?_, ?_⟩)
   all_goals (first | rfl | trivial | ((simp only [go_sem, simprocAttr, sw0, gx21, gx23, gx22, gx24]); first | done | rfl | omega | assumption | decide | (simp only [List.append_assoc, List.cons_append, List.nil_append]; done) | ((repeat (refine And.intro (by first | rfl | omega | assumption | decide) ?_)); first | rfl | omega | assumption | decide)))
  exact KeptX.same fun _ _ => rfl
  try simp only [go_sem, simprocAttr]
  refine FWX.op (by decide) rfl (.ptr (b7.length + 10) 0) 0 0 (.inl rfl) (.inr ⟨_, _, { on := 9, ground := .phase }, rfl, rfl, by simp, rfl, rfl⟩) ?_ ?_ (by (simp only [go_sem, Nat.reduceLT])) ?_
  ·
   intro j hj1 hj2
   have hj : j = 0 := by omega
   subst hj
   all_goals (refine ⟨?_, ?_⟩)
   all_goals (first | rfl | trivial | ((simp only [go_sem, simprocAttr, sw0, gx21, gx23, gx22, gx24]); first | done | rfl | omega | assumption | decide | (simp only [List.append_assoc, List.cons_append, List.nil_append]; done) | ((repeat (refine And.intro (by first | rfl | omega | assumption | decide) ?_)); first | rfl | omega | assumption | decide)))
  exact KeptX.same fun _ _ => rfl
  try simp only [go_sem, simprocAttr]
  refine FWX.op (by decide) rfl (.d (L ((slots.getD t28.toNat default).1))) 0 0 (.inl rfl) (.inr ⟨_, _, { on := 10, ground := .phase }, rfl, rfl, by simp, rfl, rfl⟩) ?_ ?_ (by (simp only [go_sem, Nat.reduceLT])) ?_
  ·
   intro j hj1 hj2
   have hj : j = 0 := by omega
   subst hj
   all_goals (refine ⟨?_, ?_⟩)
   all_goals (first | rfl | trivial | ((simp only [go_sem, simprocAttr, sw0, gx21, gx23, gx22, gx24]); first | done | rfl | omega | assumption | decide | (simp only [List.append_assoc, List.cons_append, List.nil_append]; done) | ((repeat (refine And.intro (by first | rfl | omega | assumption | decide) ?_)); first | rfl | omega | assumption | decide)))
  exact KeptX.same fun _ _ => rfl
  try simp only [go_sem, simprocAttr]
  refine FWX.op (by decide) rfl (.d (I t17)) 0 0 (.inl rfl) (.inr ⟨_, _, { on := 11, ground := .phase }, rfl, rfl, by simp, rfl, rfl⟩) ?_ ?_ (by (simp only [go_sem, Nat.reduceLT])) ?_
  ·
   intro j hj1 hj2
   have hj : j = 0 := by omega
   subst hj
   all_goals (refine ⟨?_, ?_⟩)
   all_goals (first | rfl | trivial | ((simp only [go_sem, simprocAttr, sw0, gx21, gx23, gx22, gx24]); first | done | rfl | omega | assumption | decide | (simp only [List.append_assoc, List.cons_append, List.nil_append]; done) | ((repeat (refine And.intro (by first | rfl | omega | assumption | decide) ?_)); first | rfl | omega | assumption | decide)))
  exact KeptX.same fun _ _ => rfl
  try simp only [go_sem, simprocAttr]
  refine FWX.op (by decide) rfl (.d (.ref [(I (((slots.getD t28.toNat default).1).getD t17.toNat 0))])) 0 0 (.inl rfl) (.inr ⟨_, _, { on := 12, ground := .phase }, rfl, rfl, by simp, rfl, rfl⟩) ?_ ?_ (by (simp only [go_sem, Nat.reduceLT])) ?_
  ·
   intro j hj1 hj2
   have hj : j = 0 := by omega
   subst hj
   all_goals (refine ⟨?_, ?_⟩)
   all_goals (first | rfl | trivial | ((simp only [go_sem, simprocAttr, sw0, gx21, gx23, gx22, gx24]); first | done | rfl | omega | assumption | decide | (simp only [List.append_assoc, List.cons_append, List.nil_append]; done) | ((repeat (refine And.intro (by first | rfl | omega | assumption | decide) ?_)); first | rfl | omega | assumption | decide)))
  exact KeptX.same fun _ _ => rfl
  try simp only [go_sem, simprocAttr]
  refine FWX.op (by decide) rfl (.d (I (((slots.getD t28.toNat default).1).getD t17.toNat 0))) 0 0 (.inl rfl) (.inr ⟨_, _, { on := 13, ground := .phase }, rfl, rfl, by simp, rfl, rfl⟩) ?_ ?_ (by (simp only [go_sem, Nat.reduceLT])) ?_
  ·
   intro j hj1 hj2
   have hj : j = 0 := by omega
   subst hj
   all_goals (refine ⟨?_, ?_⟩)
   all_goals (first | rfl | trivial | ((simp only [go_sem, simprocAttr, sw0, gx21, gx23, gx22, gx24]); first | done | rfl | omega | assumption | decide | (simp only [List.append_assoc, List.cons_append, List.nil_append]; done) | ((repeat (refine And.intro (by first | rfl | omega | assumption | decide) ?_)); first | rfl | omega | assumption | decide)))
  exact KeptX.same fun _ _ => rfl
  try simp only [go_sem, simprocAttr]
  refine FWX.op (by decide) rfl (.d (.ref [(I (x13.getD ((((slots.getD t28.toNat default).1).getD t17.toNat 0).toNat) 0))])) 0 0 (.inl rfl) (.inr ⟨_, _, { on := 14, ground := .phase }, rfl, rfl, by simp, rfl, rfl⟩) ?_ ?_ (by (simp only [go_sem, Nat.reduceLT])) ?_
  ·
   intro j hj1 hj2
   have hj : j = 0 := by omega
   subst hj
   all_goals (refine ⟨?_, ?_⟩)
   all_goals (first | rfl | trivial | ((simp only [go_sem, simprocAttr, sw0, gx21, gx23, gx22, gx24]); first | done | rfl | omega | assumption | decide | (simp only [List.append_assoc, List.cons_append, List.nil_append]; done) | ((repeat (refine And.intro (by first | rfl | omega | assumption | decide) ?_)); first | rfl | omega | assumption | decide)))
  exact KeptX.same fun _ _ => rfl
  try simp only [go_sem, simprocAttr]
  refine FWX.op (by decide) rfl (.d (I (x13.getD ((((slots.getD t28.toNat default).1).getD t17.toNat 0).toNat) 0))) 0 0 (.inl rfl) (.inr ⟨_, _, { on := 15, ground := .data }, rfl, rfl, by simp, rfl, rfl⟩) ?_ ?_ (by (simp only [go_sem, Nat.reduceLT])) ?_
  ·
   intro j hj1 hj2
   have hj : j = 0 := by omega
   subst hj
   all_goals (refine ⟨?_, ?_⟩)
   all_goals (first | rfl | trivial | ((simp only [go_sem, simprocAttr, sw0, gx21, gx23, gx22, gx24]); first | done | rfl | omega | assumption | decide | (simp only [List.append_assoc, List.cons_append, List.nil_append]; done) | ((repeat (refine And.intro (by first | rfl | omega | assumption | decide) ?_)); first | rfl | omega | assumption | decide)))
  exact KeptX.same fun _ _ => rfl
  try simp only [go_sem, simprocAttr]
  refine FWX.op (by decide) rfl (.ptr (t17.toNat + 7) 0) 0 2 (.inl rfl) (.inl rfl) ?_ ?_ (by (simp only [go_sem, Nat.reduceLT])) ?_
  ·
   intro j hj1 hj2
   have hj : j = 0 ∨ j = 1 ∨ j = 2 := by omega
   rcases hj with rfl | rfl | rfl
   all_goals (refine ⟨?_, ?_⟩)
   all_goals (first | rfl | trivial | ((simp only [go_sem, simprocAttr, sw0, gx21, gx23, gx22, gx24]); first | done | rfl | omega | assumption | decide | (simp only [List.append_assoc, List.cons_append, List.nil_append]; done) | ((repeat (refine And.intro (by first | rfl | omega | assumption | decide) ?_)); first | rfl | omega | assumption | decide)))
  exact KeptX.same fun _ _ => rfl
  try simp only [go_sem, simprocAttr]
  refine FWX.op (by decide) rfl (.ptr (t17.toNat + 7) 0) 0 2 (.inl rfl) (.inl rfl) ?_ ?_ (by (simp only [go_sem, Nat.reduceLT])) ?_
  ·
   intro j hj1 hj2
   have hj : j = 0 ∨ j = 1 ∨ j = 2 := by omega
   rcases hj with rfl | rfl | rfl
   all_goals (refine ⟨?_, ?_⟩)
   all_goals (first | rfl | trivial | ((simp only [go_sem, simprocAttr, sw0, gx21, gx23, gx22, gx24]); first | done | rfl | omega | assumption | decide | (simp only [List.append_assoc, List.cons_append, List.nil_append]; done) | ((repeat (refine And.intro (by first | rfl | omega | assumption | decide) ?_)); first | rfl | omega | assumption | decide)))
  exact KeptX.same fun _ _ => rfl
  try simp only [go_sem, simprocAttr]
  refine FWX.op (by decide) rfl (.ptr (t17.toNat + 7) 10) 0 2 (.inl rfl) (.inl rfl) ?_ ?_ (by (simp only [go_sem, Nat.reduceLT])) ?_
  ·
   intro j hj1 hj2
   have hj : j = 0 ∨ j = 1 ∨ j = 2 := by omega
   rcases hj with rfl | rfl | rfl
   all_goals (refine ⟨?_, ?_⟩)
   all_goals (first | rfl | trivial | ((simp only [go_sem, simprocAttr, sw0, gx21, gx23, gx22, gx24]); first | done | rfl | omega | assumption | decide | (simp only [List.append_assoc, List.cons_append, List.nil_append]; done) | ((repeat (refine And.intro (by first | rfl | omega | assumption | decide) ?_)); first | rfl | omega | assumption | decide)))
  exact KeptX.same fun _ _ => rfl
  try simp only [go_sem, simprocAttr]
  refine FWX.op (by decide) rfl (.d (I ((b77.getD t17.toNat default).2.2.2.2.2.2.2.2.2.2.1))) 0 0 (.inl rfl) (.inr ⟨_, _, { on := 19, ground := .phase }, rfl, rfl, by simp, rfl, rfl⟩) ?_ ?_ (by (simp only [go_sem, Nat.reduceLT])) ?_
  ·
   intro j hj1 hj2
   have hj : j = 0 := by omega
   subst hj
   all_goals (refine ⟨?_, ?_⟩)
   all_goals (first | rfl | trivial | ((simp only [go_sem, simprocAttr, sw0, gx21, gx23, gx22, gx24]); first | done | rfl | omega | assumption | decide | (simp only [List.append_assoc, List.cons_append, List.nil_append]; done) | ((repeat (refine And.intro (by first | rfl | omega | assumption | decide) ?_)); first | rfl | omega | assumption | decide)))
  exact KeptX.same fun _ _ => rfl
  try simp only [go_sem, simprocAttr]
  refine FWX.op (by decide) rfl (.ptr (b7.length + 10) 1) 0 2 (.inl rfl) (.inl rfl) ?_ ?_ (by (simp only [go_sem, Nat.reduceLT])) ?_
  ·
   intro j hj1 hj2
   have hj : j = 0 ∨ j = 1 ∨ j = 2 := by omega
   rcases hj with rfl | rfl | rfl
   all_goals (refine ⟨?_, ?_⟩)
   all_goals (first | rfl | trivial | ((simp only [go_sem, simprocAttr, sw0, gx21, gx23, gx22, gx24]); first | done | rfl | omega | assumption | decide | (simp only [List.append_assoc, List.cons_append, List.nil_append]; done) | ((repeat (refine And.intro (by first | rfl | omega | assumption | decide) ?_)); first | rfl | omega | assumption | decide)))
  exact KeptX.same fun _ _ => rfl
  try simp only [go_sem, simprocAttr]
  refine FWX.op (by decide) rfl (.d (L ((slots.getD t28.toNat default).2))) 0 2 (.inl rfl) (.inl rfl) ?_ ?_ (by (simp only [go_sem, Nat.reduceLT])) ?_
  ·
   intro j hj1 hj2
   have hj : j = 0 ∨ j = 1 ∨ j = 2 := by omega
   rcases hj with rfl | rfl | rfl
   all_goals (refine ⟨?_, ?_⟩)
   all_goals (first | rfl | trivial | ((simp only [go_sem, simprocAttr, sw0, gx21, gx23, gx22, gx24]); first | done | rfl | omega | assumption | decide | (simp only [List.append_assoc, List.cons_append, List.nil_append]; done) | ((repeat (refine And.intro (by first | rfl | omega | assumption | decide) ?_)); first | rfl | omega | assumption | decide)))
  exact KeptX.same fun _ _ => rfl
  try simp only [go_sem, simprocAttr]
  refine FWX.op (by decide) rfl (.d (I t17)) 0 2 (.inl rfl) (.inl rfl) ?_ ?_ (by (simp only [go_sem, Nat.reduceLT])) ?_
  ·
   intro j hj1 hj2
   have hj : j = 0 ∨ j = 1 ∨ j = 2 := by omega
   rcases hj with rfl | rfl | rfl
   all_goals (refine ⟨?_, ?_⟩)
   all_goals (first | rfl | trivial | ((simp only [go_sem, simprocAttr, sw0, gx21, gx23, gx22, gx24]); first | done | rfl | omega | assumption | decide | (simp only [List.append_assoc, List.cons_append, List.nil_append]; done) | ((repeat (refine And.intro (by first | rfl | omega | assumption | decide) ?_)); first | rfl | omega | assumption | decide)))
  exact KeptX.same fun _ _ => rfl
  try simp only [go_sem, simprocAttr]
  refine FWX.op (by decide) rfl (.d (.ref [(I (((slots.getD t28.toNat default).2).getD t17.toNat 0))])) 0 2 (.inl rfl) (.inl rfl) ?_ ?_ (by (simp only [go_sem, Nat.reduceLT])) ?_
  ·
   intro j hj1 hj2
   have hj : j = 0 ∨ j = 1 ∨ j = 2 := by omega
   rcases hj with rfl | rfl | rfl
   all_goals (refine ⟨?_, ?_⟩)
   all_goals (first | rfl | trivial | ((simp only [go_sem, simprocAttr, sw0, gx21, gx23, gx22, gx24]); first | done | rfl | omega | assumption | decide | (simp only [List.append_assoc, List.cons_append, List.nil_append]; done) | ((repeat (refine And.intro (by first | rfl | omega | assumption | decide) ?_)); first | rfl | omega | assumption | decide)))
  exact KeptX.same fun _ _ => rfl
  try simp only [go_sem, simprocAttr]
  refine FWX.op (by decide) rfl (.d (I (((slots.getD t28.toNat default).2).getD t17.toNat 0))) 0 0 (.inl rfl) (.inr ⟨_, _, { on := 24, ground := .phase }, rfl, rfl, by simp, rfl, rfl⟩) ?_ ?_ (by (simp only [go_sem, Nat.reduceLT])) ?_
  ·
   intro j hj1 hj2
   have hj : j = 0 := by omega
   subst hj
   all_goals (refine ⟨?_, ?_⟩)
   all_goals (first | rfl | trivial | ((simp only [go_sem, simprocAttr, sw0, gx21, gx23, gx22, gx24]); first | done | rfl | omega | assumption | decide | (simp only [List.append_assoc, List.cons_append, List.nil_append]; done) | ((repeat (refine And.intro (by first | rfl | omega | assumption | decide) ?_)); first | rfl | omega | assumption | decide)))
  exact KeptX.same fun _ _ => rfl
  try simp only [go_sem, simprocAttr]
  refine FWX.op (by decide) rfl (.d (I (w64 (((b77.getD t17.toNat default).2.2.2.2.2.2.2.2.2.2.1) + (((slots.getD t28.toNat default).2).getD t17.toNat 0))))) 0 2 (.inl rfl) (.inl rfl) ?_ ?_ (by (simp only [go_sem, Nat.reduceLT])) ?_
  ·
   intro j hj1 hj2
   have hj : j = 0 ∨ j = 1 ∨ j = 2 := by omega
   rcases hj with rfl | rfl | rfl
   all_goals (refine ⟨?_, ?_⟩)
   all_goals (first | rfl | trivial | ((simp only [go_sem, simprocAttr, sw0, gx21, gx23, gx22, gx24]); first | done | rfl | omega | assumption | decide | (simp only [List.append_assoc, List.cons_append, List.nil_append]; done) | ((repeat (refine And.intro (by first | rfl | omega | assumption | decide) ?_)); first | rfl | omega | assumption | decide)))
  exact KeptX.same fun _ _ => rfl
  try simp only [go_sem, simprocAttr]
  refine FWX.op (by decide) rfl (.ptr (t17.toNat + 7) 0) 0 1 (.inl rfl) (.inr ⟨_, _, { on := 26, ground := .phase }, rfl, rfl, by simp, rfl, rfl⟩) ?_ ?_ (by (simp only [go_sem, Nat.reduceLT])) ?_
  ·
   intro j hj1 hj2
   have hj : j = 0 ∨ j = 1 := by omega
   rcases hj with rfl | rfl
   all_goals (refine ⟨?_, ?_⟩)
   all_goals (first | rfl | trivial | ((simp only [go_sem, simprocAttr, sw0, gx21, gx23, gx22, gx24]); first | done | rfl | omega | assumption | decide | (simp only [List.append_assoc, List.cons_append, List.nil_append]; done) | ((repeat (refine And.intro (by first | rfl | omega | assumption | decide) ?_)); first | rfl | omega | assumption | decide)))
  exact KeptX.same fun _ _ => rfl
  try simp only [go_sem, simprocAttr]
  refine FWX.op (by decide) rfl (.ptr (t17.toNat + 7) 12) 0 0 (.inl rfl) (.inr ⟨_, _, { on := 27, ground := .data }, rfl, rfl, by simp, rfl, rfl⟩) ?_ ?_ (by (simp only [go_sem, Nat.reduceLT])) ?_
  ·
   intro j hj1 hj2
   have hj : j = 0 := by omega
   subst hj
   all_goals (refine ⟨?_, ?_⟩)
   all_goals (first | rfl | trivial | ((simp only [go_sem, simprocAttr, sw0, gx21, gx23, gx22, gx24]); first | done | rfl | omega | assumption | decide | (simp only [List.append_assoc, List.cons_append, List.nil_append]; done) | ((repeat (refine And.intro (by first | rfl | omega | assumption | decide) ?_)); first | rfl | omega | assumption | decide)))
  exact KeptX.same fun _ _ => rfl
  try simp only [go_sem, simprocAttr]
  refine FWX.store (q := 0) (by decide) rfl rfl rfl rfl (fun _ => rfl) ?_ ?_ ?_
  · first | rfl | trivial | ((simp only [go_sem, simprocAttr, sw0, gx21, gx23, gx22, gx24]); first | done | rfl | omega | assumption | decide | (simp only [List.append_assoc, List.cons_append, List.nil_append]; done) | ((repeat (refine And.intro (by first | rfl | omega | assumption | decide) ?_)); first | rfl | omega | assumption | decide))
  · first | rfl | trivial | ((simp only [go_sem, simprocAttr, sw0, gx21, gx23, gx22, gx24]); first | done | rfl | omega | assumption | decide | (simp only [List.append_assoc, List.cons_append, List.nil_append]; done) | ((repeat (refine And.intro (by first | rfl | omega | assumption | decide) ?_)); first | rfl | omega | assumption | decide))
  try simp only [go_sem, simprocAttr]
  refine FWX.op (by decide) rfl (.ptr (t17.toNat + 7) 0) 1 2 (.inr ⟨{ on := 28, ground := .phase }, by simp, rfl, rfl⟩) (.inl rfl) ?_ ?_ (by (simp only [go_sem, Nat.reduceLT])) ?_
  ·
   intro j hj1 hj2
   have hj : j = 1 ∨ j = 2 := by omega
   rcases hj with rfl | rfl
   all_goals (refine ⟨?_, ?_⟩)
   all_goals (first | rfl | trivial | ((simp only [go_sem, simprocAttr, sw0, gx21, gx23, gx22, gx24]); first | done | rfl | omega | assumption | decide | (simp only [List.append_assoc, List.cons_append, List.nil_append]; done) | ((repeat (refine And.intro (by first | rfl | omega | assumption | decide) ?_)); first | rfl | omega | assumption | decide)))
  exact KeptX.same fun _ _ => rfl
  try simp only [go_sem, simprocAttr]
  refine FWX.op (by decide) rfl (.ptr (t17.toNat + 7) 13) 1 1 (.inr ⟨{ on := 28, ground := .phase }, by simp, rfl, rfl⟩) (.inr ⟨_, _, { on := 30, ground := .data }, rfl, rfl, by simp, rfl, rfl⟩) ?_ ?_ (by (simp only [go_sem, Nat.reduceLT])) ?_
  ·
   intro j hj1 hj2
   have hj : j = 1 := by omega
   subst hj
   all_goals (refine ⟨?_, ?_⟩)
   all_goals (first | rfl | trivial | ((simp only [go_sem, simprocAttr, sw0, gx21, gx23, gx22, gx24]); first | done | rfl | omega | assumption | decide | (simp only [List.append_assoc, List.cons_append, List.nil_append]; done) | ((repeat (refine And.intro (by first | rfl | omega | assumption | decide) ?_)); first | rfl | omega | assumption | decide)))
  exact KeptX.same fun _ _ => rfl
  try simp only [go_sem, simprocAttr]
  refine FWX.store (q := 1) (by decide) rfl rfl rfl rfl (fun _ => rfl) ?_ ?_ ?_
  · first | rfl | trivial | ((simp only [go_sem, simprocAttr, sw0, gx21, gx23, gx22, gx24]); first | done | rfl | omega | assumption | decide | (simp only [List.append_assoc, List.cons_append, List.nil_append]; done) | ((repeat (refine And.intro (by first | rfl | omega | assumption | decide) ?_)); first | rfl | omega | assumption | decide))
  · first | rfl | trivial | ((simp only [go_sem, simprocAttr, sw0, gx21, gx23, gx22, gx24]); first | done | rfl | omega | assumption | decide | (simp only [List.append_assoc, List.cons_append, List.nil_append]; done) | ((repeat (refine And.intro (by first | rfl | omega | assumption | decide) ?_)); first | rfl | omega | assumption | decide))
  try simp only [go_sem, simprocAttr]
  refine FWX.nil ?_
  change OW _ _ _ _ _ _
  change OW _ _ _ _ _ _
  refine OW.run [0, 3, 6, 15, 16, 17] ?_
  (simp only [go_sem, simprocAttr, sw0, d4 b7.length a9 b77 _ t17.toNat (by omega), famSR166 b7.length b77 t17.toNat (by omega) (by omega), famN_getSR b7.length a9 b77 _ t17.toNat _ (by first | omega | assumption) (by first | omega | assumption), famSSR166 b7.length b77 t17.toNat (by omega) (by omega)])
  repeat (refine And.intro (by omega) ?_)
  refine OW.nil (hK _ ?_)
  obtain ⟨f, hf, H⟩ := a8 H
  simp only [Option.some.inj hf]
  refine a5 ?_
  obtain ⟨x6, e6, H⟩ := a8 H
  refine a0 fun K hK => ?_
  refine OW.toS [(0, .ptr 5 0), (3, .ptr (b7.length + 10) 0), (6, .ptr (t17.toNat + 7) 0), (15, .own 6 0 b7.length 1), (16, .d (I (b7.length : Int))), (17, .d (I t17)), (65, .d (Bo (x6 && (decide ((f.getD t17.toNat default).2.2.2.2.2.2.2.2.2.2.2.2.1 > (0 : Int))))))] ({ cells := o0_11.1, e := t0_11 } :: { cells := o1_11.1, e := t1_11 } :: { cells := o2_11.1, e := t2_11 } :: { cells := o3_11.1, e := t3_11 } :: { cells := o4_11.1, e := t4_11 } :: { cells := [.d (I x1), .d (I x11), .d (I x12), .d (L x13), .own 6 0 b7.length 1], e := 163 } :: { cells := p9 7 b7.length, e := 164 } :: (l6 b7.length a9 f ++ [{ cells := o8_11.1, e := t8_11 }, { cells := o9_11.1, e := t9_11 }, { cells := o10_11.1, e := t10_11 }, { cells := [.d (L ((slots.getD t28.toNat default).1)), .d (L ((slots.getD t28.toNat default).2))], e := 57 }])) ?_ (hK _ ?_)
  intro K hKE
  rcases Bool.eq_false_or_eq_true (x6) with ha0 | ha0
  refine OW.run [0, 3, 6, 15, 16, 17, 65] ?_
  (simp only [go_sem, simprocAttr, sw0, d4 b7.length a9 f _ t17.toNat (by omega), ha0])
  repeat (refine And.intro (by omega) ?_)
  refine d5 4 rfl rfl rfl (by ((simp only [go_sem, List.toList_toArray, simprocAttr]); exact rfl)) ?_ (v8 N _ _ _ _ _ _ _ _ _ _ e6) ?_ ?_ ?_ ?_
  rfl
  · (refine a7 ?_; (simp only [go_sem, sw2, List.length_set, List.length_replicate, and_true, true_and, Nat.le_refl, simprocAttr]; done))
  exact .inl rfl
  (simp only [go_sem, Nat.reduceLT])
  refine OW.run [0, 3, 6, 15, 16, 17, 65] ?_
  (simp only [go_sem, simprocAttr, sw0, d4 b7.length a9 f _ t17.toNat (by omega), ha0])
  repeat (refine And.intro (by omega) ?_)
  refine OW.nil ((congrArg K ?_).mpr hKE)
  · (first | rfl | (simp only [go_sem, simprocAttr, ha0]; done) | (simp only [go_sem, simprocAttr, ha0]; rfl))
  refine OW.run [0, 3, 6, 15, 16, 17, 65] ?_
  (simp only [go_sem, simprocAttr, sw0, d4 b7.length a9 f _ t17.toNat (by omega), ha0])
  repeat (refine And.intro (by omega) ?_)
  refine d5 4 rfl rfl rfl (by ((simp only [go_sem, List.toList_toArray, simprocAttr]); exact rfl)) ?_ (v8 N _ _ _ _ _ _ _ _ _ _ e6) ?_ ?_ ?_ ?_
  rfl
  · (refine a7 ?_; (simp only [go_sem, sw2, List.length_set, List.length_replicate, and_true, true_and, Nat.le_refl, simprocAttr]; done))
  exact .inl rfl
  (simp only [go_sem, Nat.reduceLT])
  refine OW.run [0, 3, 6, 15, 16, 17, 65] ?_
  (simp only [go_sem, simprocAttr, sw0, d4 b7.length a9 f _ t17.toNat (by omega), ha0])
  refine OW.nil ((congrArg K ?_).mpr hKE)
  · (first | rfl | (simp only [go_sem, simprocAttr, ha0]; done) | (simp only [go_sem, simprocAttr, ha0]; rfl))
  clear hK K
  try simp only [go_sem, simprocAttr]
  refine d9 rfl (fun h25 => ?_) (fun h25 => ?_)
  replace H := k7 h25 H
  obtain ⟨x7, e7, H⟩ := a8 H
  obtain ⟨c26, H⟩ := d7 H
  refine j0 15 n9 (by kernel_rfl) fun K hK => ?_
  change FW _ _ _ _ _
  refine FW.run ?_
  (simp only [go_sem, simprocAttr, sw0, d4 b7.length a9 f _ t17.toNat (by omega), famSR166 b7.length f t17.toNat (by omega) (by omega)])
  repeat (refine And.intro (by omega) ?_)
  refine l0 4 rfl rfl rfl (by ((simp only [go_sem, List.toList_toArray, simprocAttr]); exact rfl)) ?_ (sched_ceil_ok N _ _ _ e7) ?_ ?_ ?_ ?_
  rfl
  exact d8 rfl
  exact .inl rfl
  (simp only [go_sem, Nat.reduceLT])
  refine FW.run ?_
  (simp only [go_sem, simprocAttr, sw0, d4 b7.length a9 f _ t17.toNat (by omega), famSR166 b7.length f t17.toNat (by omega) (by omega)])
  refine FW.nil ?_
  change OW _ _ _ _ _ _
  refine OW.run [0, 3, 15, 16, 17] ?_
  (simp only [go_sem, simprocAttr, sw0, d4 b7.length a9 f _ t17.toNat (by omega), famSR166 b7.length f t17.toNat (by omega) (by omega)])
  repeat (refine And.intro (by omega) ?_)
  refine OW.nil (hK _ ?_)
  obtain ⟨f1, hf1, H⟩ := a8 H
  simp only [Option.some.inj hf1]
  refine a0 fun K hK => OW.run [0, 3, 15, 16, 17] ?_
  simp only [go_sem, simprocAttr, sw0]
  refine OW.nil (hK _ ?_)
  refine hN14 [] (w64 (t17 + (1 : Int)), f1) _ H (by exact trivial) ?_
  simp only [sw1, go_sem, simprocAttr]
  replace H := k8 h25 H
  refine f0 ?_
  refine a0 fun K hK => OW.run [0, 3, 15, 16, 17] ?_
  simp only [go_sem, simprocAttr, sw0]
  refine OW.nil (hK _ ?_)
  refine hN14 [] (w64 (t17 + (1 : Int)), f) _ H (by exact trivial) ?_
  simp only [sw1, go_sem, simprocAttr]
 replace H := k8 h15 H
 refine j3 ?_
 refine hN13 [] b77 _ H (by exact trivial) ?_
 simp only [sw1, go_sem, simprocAttr]
 rintro b76 H
 try simp only [go_sem, simprocAttr]
 refine i4 (τ := (List TU)) [0] (b7.length + 10) (fun b78 => []) (fun b78 => { cells := o0_11.1, e := t0_11 } :: { cells := o1_11.1, e := t1_11 } :: { cells := o2_11.1, e := t2_11 } :: { cells := o3_11.1, e := t3_11 } :: { cells := o4_11.1, e := t4_11 } :: { cells := [.d (I x1), .d (I x11), .d (I x12), .d (L x13), .own 6 0 b7.length 1], e := 163 } :: { cells := p9 7 b7.length, e := 164 } :: (l6 b7.length a9 b78 ++ [{ cells := o8_11.1, e := t8_11 }, { cells := o9_11.1, e := t9_11 }, { cells := o10_11.1, e := t10_11 }])) _ _ (l1, b75) (by exact Nat.le_refl _) H ?_ ?_
 intro K_3 H N27 hN27
 refine a5 ?_
 obtain ⟨r_, e8, H⟩ := a8 H
 refine a0 fun K hK => OW.run [0, 7] ?_
 simp only [go_sem, simprocAttr, sw0]
 refine OW.callM' (r := (ptrO 7 r_)) (objs' := ({ cells := o0_11.1, e := t0_11 } :: { cells := o1_11.1, e := t1_11 } :: { cells := o2_11.1, e := t2_11 } :: { cells := o3_11.1, e := t3_11 } :: { cells := o4_11.1, e := t4_11 } :: { cells := [.d (I x1), .d (I x11), .d (I x12), .d (L x13), .own 6 0 b7.length 1], e := 163 } :: { cells := p9 7 b7.length, e := 164 } :: (l6 b7.length a9 b76 ++ [{ cells := o8_11.1, e := t8_11 }, { cells := o9_11.1, e := t9_11 }, { cells := o10_11.1, e := t10_11 }]))) rfl rfl rfl (by exact rfl) (sched_Run_m134_ok N x1 x11 x12 x13 b7 b76 o0_11 t0_11 o1_11 t1_11 o2_11 t2_11 o3_11 t3_11 o4_11 t4_11 o8_11 t8_11 o9_11 t9_11 o10_11 t10_11 r_  e8) (by exact Nat.le_refl _) (by (simp only [go_sem, Nat.reduceLT])) ?_
 try simp only [go_sem, simprocAttr]
 change OW _ _ _ _ _ _
 refine OW.run [0, 7] ?_
 simp only [go_sem, simprocAttr, sw0]
 refine OW.nil (hK _ ?_)
 refine PW.block ?_
 obtain ⟨c64, H⟩ := d7 H
 refine i8 (σ := Int × (List TU)) [0, 7] (b7.length + 10) (fun (u, b79) => [(7, ptrO 7 u)]) (fun (u, b79) => { cells := o0_11.1, e := t0_11 } :: { cells := o1_11.1, e := t1_11 } :: { cells := o2_11.1, e := t2_11 } :: { cells := o3_11.1, e := t3_11 } :: { cells := o4_11.1, e := t4_11 } :: { cells := [.d (I x1), .d (I x11), .d (I x12), .d (L x13), .own 6 0 b7.length 1], e := 163 } :: { cells := p9 7 b7.length, e := 164 } :: (l6 b7.length a9 b79 ++ [{ cells := o8_11.1, e := t8_11 }, { cells := o9_11.1, e := t9_11 }, { cells := o10_11.1, e := t10_11 }])) (sched_Run.b5 N x1 x11 x12 x13 b7 K_3) (l1, b75) N (r_, b76) (by exact Nat.le_refl _) H (by (first | (simp only [sw1, go_sem, simprocAttr, cutO (b := 7) (n := b7.length) (c := 10) (i := r_) (by omega) (by decide)]; done) | (simp only [sw1, go_sem, simprocAttr, cutO (b := 7) (n := b7.length) (c := 10) (i := r_) (by omega) (by decide)]; rfl) | (simp only [sw1, go_sem, simprocAttr, cutO (b := 7) (n := b7.length) (c := 10) (i := r_) (by omega) (by decide)]; simp only [List.length_set, List.length_append, List.length_cons, List.length_nil, Nat.zero_add, List.map_set, List.map_append, List.map_cons, List.map_nil]; done) | (simp only [sw1, go_sem, simprocAttr, cutO (b := 7) (n := b7.length) (c := 10) (i := r_) (by omega) (by decide)]; simp only [List.length_set, List.length_append, List.length_cons, List.length_nil, Nat.zero_add, List.map_set, List.map_append, List.map_cons, List.map_nil]; simp only [cut_mapD, V.cut]; done))) ?_
 rintro n ⟨u, b79⟩ H N43 hN43
 unfold sched_Run.b5 at H
 try simp only [go_sem, simprocAttr]
 try simp only [cutO (b := 7) (n := b7.length) (c := 10) (i := u) (by omega) (by decide)]
 refine a5 ?_
 refine a5 ?_
 refine a0 fun K hK => ?_
 refine OW.toS [(0, .ptr 5 0), (7, ptrO 7 u), (87, .d (Bo (!(decide (u < 0)))))] ({ cells := o0_11.1, e := t0_11 } :: { cells := o1_11.1, e := t1_11 } :: { cells := o2_11.1, e := t2_11 } :: { cells := o3_11.1, e := t3_11 } :: { cells := o4_11.1, e := t4_11 } :: { cells := [.d (I x1), .d (I x11), .d (I x12), .d (L x13), .own 6 0 b7.length 1], e := 163 } :: { cells := p9 7 b7.length, e := 164 } :: (l6 b7.length a9 b79 ++ [{ cells := o8_11.1, e := t8_11 }, { cells := o9_11.1, e := t9_11 }, { cells := o10_11.1, e := t10_11 }])) ?_ (hK _ ?_)
 intro K hKE
 rcases Bool.eq_false_or_eq_true ((decide (u < 0))) with ha0 | ha0
 refine OW.run [0, 7, 87] ?_
 (simp only [go_sem, simprocAttr, sw0, ha0, i6 (b := 7) ha0])
 refine OW.nil ((congrArg K ?_).mpr hKE)
 · (first | rfl | (simp only [go_sem, simprocAttr, ha0, i6 (b := 7) ha0]; done) | (simp only [go_sem, simprocAttr, ha0, i6 (b := 7) ha0]; rfl))
 refine OW.run [0, 7, 87] ?_
 (simp only [go_sem, simprocAttr, sw0, ha0, i7 (b := 7) ha0])
 refine OW.nil ((congrArg K ?_).mpr hKE)
 · (first | rfl | (simp only [go_sem, simprocAttr, ha0, i7 (b := 7) ha0]; done) | (simp only [go_sem, simprocAttr, ha0, i7 (b := 7) ha0]; rfl))
 clear hK K
 try simp only [go_sem, simprocAttr]
 refine d9 rfl (fun h44 => ?_) (fun h44 => ?_)
 replace H := k7 h44 H
 refine f0 ?_
 refine a5 ?_
 refine PW.block ?_
 obtain ⟨c45, H⟩ := d7 H
 obtain ⟨c46, H⟩ := d7 H
 obtain ⟨c47, H⟩ := d7 H
 refine a0 fun K hK => OW.run [0] ?_
 (simp only [go_sem, simprocAttr, sw0, ptrO_pos (b := 7) (i := u) (by omega), d4 b7.length a9 b79 _ u.toNat (by omega), famSR166 b7.length b79 u.toNat (by omega) (by omega)])
 repeat (refine And.intro (by omega) ?_)
 refine OW.nil (hK _ ?_)
 obtain ⟨f2, hf2, H⟩ := a8 H
 simp only [Option.some.inj hf2]
 change PW _ _ _ _ _
 obtain ⟨r_1, e13, H⟩ := a8 H
 refine a0 fun K hK => OW.run [0, 7] ?_
 simp only [go_sem, simprocAttr, sw0]
 refine OW.callM' (r := (ptrO 7 r_1)) (objs' := ({ cells := o0_11.1, e := t0_11 } :: { cells := o1_11.1, e := t1_11 } :: { cells := o2_11.1, e := t2_11 } :: { cells := o3_11.1, e := t3_11 } :: { cells := o4_11.1, e := t4_11 } :: { cells := [.d (I x1), .d (I x11), .d (I x12), .d (L x13), .own 6 0 b7.length 1], e := 163 } :: { cells := p9 7 b7.length, e := 164 } :: (l6 b7.length a9 f2 ++ [{ cells := o8_11.1, e := t8_11 }, { cells := o9_11.1, e := t9_11 }, { cells := o10_11.1, e := t10_11 }]))) rfl rfl rfl (by exact rfl) (sched_Run_m134_ok N x1 x11 x12 x13 b7 f2 o0_11 t0_11 o1_11 t1_11 o2_11 t2_11 o3_11 t3_11 o4_11 t4_11 o8_11 t8_11 o9_11 t9_11 o10_11 t10_11 r_1  e13) (by exact Nat.le_refl _) (by (simp only [go_sem, Nat.reduceLT])) ?_
 try simp only [go_sem, simprocAttr]
 change OW _ _ _ _ _ _
 refine OW.run [0, 7] ?_
 simp only [go_sem, simprocAttr, sw0]
 refine OW.nil (hK _ ?_)
 obtain ⟨c63, H⟩ := d7 H
 refine hN43 [] (r_1, f2) _ H (by exact trivial) ?_
 · (first | (simp only [sw1, go_sem, simprocAttr, cutO (b := 7) (n := b7.length) (c := 10) (i := r_1) (by omega) (by decide)]; done) | (simp only [sw1, go_sem, simprocAttr, cutO (b := 7) (n := b7.length) (c := 10) (i := r_1) (by omega) (by decide)]; rfl) | (simp only [sw1, go_sem, simprocAttr, cutO (b := 7) (n := b7.length) (c := 10) (i := r_1) (by omega) (by decide)]; simp only [List.length_set, List.length_append, List.length_cons, List.length_nil, Nat.zero_add, List.map_set, List.map_append, List.map_cons, List.map_nil]; done) | (simp only [sw1, go_sem, simprocAttr, cutO (b := 7) (n := b7.length) (c := 10) (i := r_1) (by omega) (by decide)]; simp only [List.length_set, List.length_append, List.length_cons, List.length_nil, Nat.zero_add, List.map_set, List.map_append, List.map_cons, List.map_nil]; simp only [cut_mapD, V.cut]; done))
 replace H := k8 h44 H
 refine j3 ?_
 refine hN27 [] b79 _ H (by exact trivial) ?_
 simp only [sw1, go_sem, simprocAttr]
 rintro b78 H
 try simp only [go_sem, simprocAttr]
 refine a5 ?_
 refine a0 fun K hK => OW.run [0, 8] ?_
 simp only [go_sem, simprocAttr, sw0]
 refine OW.nil (hK _ ?_)
 refine i4 (τ := (List TU) × List Int) [8] (b7.length + 11) (fun (b710, b11) => [(8, .own (b7.length + 10) 0 b11.length 1)]) (fun (b710, b11) => { cells := o0_11.1, e := t0_11 } :: { cells := o1_11.1, e := t1_11 } :: { cells := o2_11.1, e := t2_11 } :: { cells := o3_11.1, e := t3_11 } :: { cells := o4_11.1, e := t4_11 } :: { cells := [.d (I x1), .d (I x11), .d (I x12), .d (L x13), .own 6 0 b7.length 1], e := 163 } :: { cells := p9 7 b7.length, e := 164 } :: (l6 b7.length a9 b710 ++ [{ cells := o8_11.1, e := t8_11 }, { cells := o9_11.1, e := t9_11 }, { cells := o10_11.1, e := t10_11 }, { cells := (b11.map I).map .d, e := 3 }])) _ _ (l1, b75) (by (simp only [go_sem]; omega)) H ?_ ?_
 intro K_6 H N66 hN66
 refine a5 ?_
 refine a0 fun K hK => OW.run [8, 100, 101, 102] ?_
 simp only [go_sem, simprocAttr, sw0]
 repeat (refine And.intro (by omega) ?_)
 refine OW.nil (hK _ ?_)
 refine PW.block ?_
 refine PW.virt 8 3 1 rfl ?_
 try simp only [go_sem, simprocAttr]
 refine i8 (σ := Int × (List TU) × List Int) [8, 100, 101, 102] (b7.length + 11) (fun (t102, b711, b111) => [(8, .own (b7.length + 10) 0 b111.length 1), (102, .d (I t102))]) (fun (t102, b711, b111) => { cells := o0_11.1, e := t0_11 } :: { cells := o1_11.1, e := t1_11 } :: { cells := o2_11.1, e := t2_11 } :: { cells := o3_11.1, e := t3_11 } :: { cells := o4_11.1, e := t4_11 } :: { cells := [.d (I x1), .d (I x11), .d (I x12), .d (L x13), .own 6 0 b7.length 1], e := 163 } :: { cells := p9 7 b7.length, e := 164 } :: (l6 b7.length a9 b711 ++ [{ cells := o8_11.1, e := t8_11 }, { cells := o9_11.1, e := t9_11 }, { cells := o10_11.1, e := t10_11 }, { cells := (b111.map I).map .d, e := 3 }])) (sched_Run.b7 N b7 K_6) (l1, b75) N ((0 : Int), b78, ([] : List Int)) (by (simp only [go_sem]; omega)) H (by (simp only [sw1, go_sem, simprocAttr]; done)) ?_
 rintro n ⟨t102, b711, b111⟩ H N67 hN67
 unfold sched_Run.b7 at H
 try simp only [go_sem, simprocAttr]
 refine a5 ?_
 refine a0 fun K hK => OW.run [8, 100, 101, 102, 103] ?_
 simp only [go_sem, simprocAttr, sw0]
 refine OW.nil (hK _ ?_)
 refine a5 ?_
 refine d9 rfl (fun h68 => ?_) (fun h68 => ?_)
 ·
  replace H := k7 h68 H
  refine f0 ?_
  refine a5 ?_
  refine PW.block ?_
  refine a5 ?_
  obtain ⟨c69, H⟩ := d7 H
  refine a0 fun K hK => OW.run [8, 10, 100, 101, 102] ?_
  (simp only [go_sem, simprocAttr, sw0, ctrP_getD 7 b7.length t102.toNat (by omega)])
  repeat (refine And.intro (by omega) ?_)
  refine OW.nil (hK _ ?_)
  refine a5 ?_
  obtain ⟨x18, e18, H⟩ := a8 H
  refine a0 fun K hK => OW.run [8, 10, 11, 100, 101, 102] ?_
  simp only [go_sem, simprocAttr, sw0]
  refine d5 4 rfl rfl rfl (by ((simp only [go_sem, List.toList_toArray, simprocAttr]); exact rfl)) ?_ (g8 N _ _ _ _ _ _ _ _ _ _ _ _ _ _ _ e18) ?_ ?_ ?_ ?_
  · (first | rfl | (simp only [go_sem, sw1, simprocAttr, d4 b7.length a9 b711 _ t102.toNat (by omega)]; done) | (simp only [go_sem, sw1, simprocAttr, d4 b7.length a9 b711 _ t102.toNat (by omega)]; rfl) | (simp only [go_sem, sw1, simprocAttr, d4 b7.length a9 b711 _ t102.toNat (by omega)]; simp only [seg, asD, go_sem, sw1, simprocAttr, d4 b7.length a9 b711 _ t102.toNat (by omega)]; done) | (simp only [go_sem, sw1, simprocAttr, d4 b7.length a9 b711 _ t102.toNat (by omega)]; simp only [seg, asD, go_sem, sw1, simprocAttr, d4 b7.length a9 b711 _ t102.toNat (by omega)]; rfl) | ((try simp only [go_sem, sw1, simprocAttr, d4 b7.length a9 b711 _ t102.toNat (by omega)]); (repeat' (first | rfl | (refine i9 ?_; simp only [List.length_take, List.length_drop, List.length_set, List.length_replicate] <;> omega) | (refine congr (congrArg List.cons ?_) ?_) | (refine congrArg D.agg ?_) | (refine congrArg D.tup ?_) | (refine congrArg D.ref ?_) | (refine congrArg (D.list _) ?_) | (refine congrArg (D.clo _) ?_)))))
  · (first | exact trivial | exact d8 rfl | (refine a7 ?_; simp only [go_sem, sw2, List.length_set, List.length_replicate, and_true, true_and, Nat.le_refl, simprocAttr, d4 b7.length a9 b711 _ t102.toNat (by omega)]; done) | (refine a7 ?_; simp only [go_sem, sw2, List.length_set, List.length_replicate, and_true, true_and, Nat.le_refl, simprocAttr, d4 b7.length a9 b711 _ t102.toNat (by omega)]; omega))
  exact .inr ⟨rfl, rfl⟩
  (simp only [go_sem, Nat.reduceLT])
  refine OW.run [8, 10, 11, 100, 101, 102] ?_
  simp only [go_sem, simprocAttr, sw0]
  refine OW.nil (hK _ ?_)
  refine a5 ?_
  obtain ⟨c70, H⟩ := d7 H
  refine PW.drawX 17 [16] (fun j => List.getD [({ cells := o0_11.1, e := t0_11 } :: { cells := o1_11.1, e := t1_11 } :: { cells := o2_11.1, e := t2_11 } :: { cells := o3_11.1, e := t3_11 } :: { cells := o4_11.1, e := t4_11 } :: { cells := [.d (I x1), .d (I x11), .d (I x12), .d (L x13), .own 6 0 b7.length 1], e := 163 } :: { cells := p9 7 b7.length, e := 164 } :: (l6 b7.length a9 b711 ++ [{ cells := o8_11.1, e := t8_11 }, { cells := o9_11.1, e := t9_11 }, { cells := o10_11.1, e := t10_11 }, { cells := (b111.map I).map .d, e := 3 }])), ({ cells := o0_11.1, e := t0_11 } :: { cells := o1_11.1, e := t1_11 } :: { cells := o2_11.1, e := t2_11 } :: { cells := o3_11.1, e := t3_11 } :: { cells := o4_11.1, e := t4_11 } :: { cells := [.d (I x1), .d (I x11), .d (I x12), .d (L x13), .own 6 0 b7.length 1], e := 163 } :: { cells := p9 7 b7.length, e := 164 } :: (l6 b7.length a9 (b711.set t102.toNat ((b711.getD t102.toNat default).1, (b711.getD t102.toNat default).2.1, (b711.getD t102.toNat default).2.2.1, (b711.getD t102.toNat default).2.2.2.1, (b711.getD t102.toNat default).2.2.2.2.1, (b711.getD t102.toNat default).2.2.2.2.2.1, (b711.getD t102.toNat default).2.2.2.2.2.2.1, (b711.getD t102.toNat default).2.2.2.2.2.2.2.1, (b711.getD t102.toNat default).2.2.2.2.2.2.2.2.1, (b711.getD t102.toNat default).2.2.2.2.2.2.2.2.2.1, (b711.getD t102.toNat default).2.2.2.2.2.2.2.2.2.2.1, w64 (((b711.getD t102.toNat default).2.2.2.2.2.2.2.2.2.2.2.1) + x18), (b711.getD t102.toNat default).2.2.2.2.2.2.2.2.2.2.2.2.1, (b711.getD t102.toNat default).2.2.2.2.2.2.2.2.2.2.2.2.2)) ++ [{ cells := o8_11.1, e := t8_11 }, { cells := o9_11.1, e := t9_11 }, { cells := o10_11.1, e := t10_11 }, { cells := (b111.map I).map .d, e := 3 }]))] j []) (fun _ v => v) n9 (by kernel_rfl) (by decide) (by ((refine ⟨by decide, ?_⟩; intro k i i' h1 h2 o ho; match k, h1, h2 with | 0, h1, h2 => (simp at h1 h2 <;> first | (cases h2; done) | (subst h1; subst h2; simp at ho; subst ho; simp [Region.binds]; done)) | 1, h1, h2 => (simp at h1 h2 <;> first | (cases h2; done) | (subst h1; subst h2; simp at ho; subst ho; simp [Region.binds]; done)) | 2, h1, h2 => (simp at h1 h2 <;> first | (cases h2; done) | (subst h1; subst h2; simp at ho; subst ho; simp [Region.binds]; done)) | k + 3, h1, h2 => (simp at h2; done)))) (fun _ => rfl) (by decide) (freshL rfl) rfl rfl fun K hK => ?_
  change FWX _ _ _ _ _ _ _ _ _ _
  have gx71 := fun y0 => d4 b7.length a9 b711 y0 t102.toNat (by omega)
  have gx72 := fun y0 y1 => famN_getSR b7.length a9 b711 y0 t102.toNat y1 (by first | omega | assumption) (by first | omega | assumption)
  have gx73 := @famSR166 b7.length b711 t102.toNat (by omega) (by omega)
  have gx74 := @famSSR166 b7.length b711 t102.toNat (by omega) (by omega)
  refine FWX.op (by decide) rfl (.ptr (t102.toNat + 7) 0) 0 0 (.inl rfl) (.inr ⟨_, _, { on := 0, ground := .phase }, rfl, rfl, by simp, rfl, rfl⟩) ?_ ?_ (by (simp only [go_sem, Nat.reduceLT])) ?_
  ·
   intro j hj1 hj2
   have hj : j = 0 := by omega
   subst hj
   all_goals (refine ⟨?_, ?_⟩)
   all_goals (first | rfl | trivial | ((simp only [go_sem, simprocAttr, sw0, gx71, gx73, gx72, gx74]); first | done | rfl | omega | assumption | decide | (simp only [List.append_assoc, List.cons_append, List.nil_append]; done) | ((repeat (refine And.intro (by first | rfl | omega | assumption | decide) ?_)); first | rfl | omega | assumption | decide)))
  exact KeptX.same fun _ _ => rfl
  try simp only [go_sem, simprocAttr]
  refine FWX.op (by decide) rfl (.ptr (t102.toNat + 7) 0) 0 1 (.inl rfl) (.inl rfl) ?_ ?_ (by (simp only [go_sem, Nat.reduceLT])) ?_
  ·
   intro j hj1 hj2
   have hj : j = 0 ∨ j = 1 := by omega
   rcases hj with rfl | rfl
   all_goals (refine ⟨?_, ?_⟩)
   all_goals (first | rfl | trivial | ((simp only [go_sem, simprocAttr, sw0, gx71, gx73, gx72, gx74]); first | done | rfl | omega | assumption | decide | (simp only [List.append_assoc, List.cons_append, List.nil_append]; done) | ((repeat (refine And.intro (by first | rfl | omega | assumption | decide) ?_)); first | rfl | omega | assumption | decide)))
  exact KeptX.same fun _ _ => rfl
  try simp only [go_sem, simprocAttr]
  refine FWX.op (by decide) rfl (.ptr (t102.toNat + 7) 0) 0 0 (.inl rfl) (.inr ⟨_, _, { on := 2, ground := .phase }, rfl, rfl, by simp, rfl, rfl⟩) ?_ ?_ (by (simp only [go_sem, Nat.reduceLT])) ?_
  ·
   intro j hj1 hj2
   have hj : j = 0 := by omega
   subst hj
   all_goals (refine ⟨?_, ?_⟩)
   all_goals (first | rfl | trivial | ((simp only [go_sem, simprocAttr, sw0, gx71, gx73, gx72, gx74]); first | done | rfl | omega | assumption | decide | (simp only [List.append_assoc, List.cons_append, List.nil_append]; done) | ((repeat (refine And.intro (by first | rfl | omega | assumption | decide) ?_)); first | rfl | omega | assumption | decide)))
  exact KeptX.same fun _ _ => rfl
  try simp only [go_sem, simprocAttr]
  refine FWX.op (by decide) rfl (.ptr (t102.toNat + 7) 0) 0 0 (.inl rfl) (.inr ⟨_, _, { on := 3, ground := .phase }, rfl, rfl, by simp, rfl, rfl⟩) ?_ ?_ (by (simp only [go_sem, Nat.reduceLT])) ?_
  ·
   intro j hj1 hj2
   have hj : j = 0 := by omega
   subst hj
   all_goals (refine ⟨?_, ?_⟩)
   all_goals (first | rfl | trivial | ((simp only [go_sem, simprocAttr, sw0, gx71, gx73, gx72, gx74]); first | done | rfl | omega | assumption | decide | (simp only [List.append_assoc, List.cons_append, List.nil_append]; done) | ((repeat (refine And.intro (by first | rfl | omega | assumption | decide) ?_)); first | rfl | omega | assumption | decide)))
  exact KeptX.same fun _ _ => rfl
  try simp only [go_sem, simprocAttr]
  refine FWX.op (by decide) rfl (.ptr (t102.toNat + 7) 11) 0 0 (.inl rfl) (.inr ⟨_, _, { on := 4, ground := .phase }, rfl, rfl, by simp, rfl, rfl⟩) ?_ ?_ (by (simp only [go_sem, Nat.reduceLT])) ?_
  ·
   intro j hj1 hj2
   have hj : j = 0 := by omega
   subst hj
   all_goals (refine ⟨?_, ?_⟩)
   all_goals (first | rfl | trivial | ((simp only [go_sem, simprocAttr, sw0, gx71, gx73, gx72, gx74]); first | done | rfl | omega | assumption | decide | (simp only [List.append_assoc, List.cons_append, List.nil_append]; done) | ((repeat (refine And.intro (by first | rfl | omega | assumption | decide) ?_)); first | rfl | omega | assumption | decide)))
  exact KeptX.same fun _ _ => rfl
  try simp only [go_sem, simprocAttr]
  refine FWX.op (by decide) rfl (.d (I ((b711.getD t102.toNat default).2.2.2.2.2.2.2.2.2.2.2.1))) 0 0 (.inl rfl) (.inr ⟨_, _, { on := 5, ground := .phase }, rfl, rfl, by simp, rfl, rfl⟩) ?_ ?_ (by (simp only [go_sem, Nat.reduceLT])) ?_
  ·
   intro j hj1 hj2
   have hj : j = 0 := by omega
   subst hj
   all_goals (refine ⟨?_, ?_⟩)
   all_goals (first | rfl | trivial | ((simp only [go_sem, simprocAttr, sw0, gx71, gx73, gx72, gx74]); first | done | rfl | omega | assumption | decide | (simp only [List.append_assoc, List.cons_append, List.nil_append]; done) | ((repeat (refine And.intro (by first | rfl | omega | assumption | decide) ?_)); first | rfl | omega | assumption | decide)))
  exact KeptX.same fun _ _ => rfl
  try simp only [go_sem, simprocAttr]
  refine FWX.op (by decide) rfl (.d (I x18)) 0 0 (.inl rfl) (.inr ⟨_, _, { on := 6, ground := .phase }, rfl, rfl, by simp, rfl, rfl⟩) ?_ ?_ (by (simp only [go_sem, Nat.reduceLT])) ?_
  ·
   intro j hj1 hj2
   have hj : j = 0 := by omega
   subst hj
   all_goals (refine ⟨?_, ?_⟩)
   all_goals (first | rfl | trivial | ((simp only [go_sem, simprocAttr, sw0, gx71, gx73, gx72, gx74]); first | done | rfl | omega | assumption | decide | (simp only [List.append_assoc, List.cons_append, List.nil_append]; done) | ((repeat (refine And.intro (by first | rfl | omega | assumption | decide) ?_)); first | rfl | omega | assumption | decide)))
  exact KeptX.same fun _ _ => rfl
  try simp only [go_sem, simprocAttr]
  refine FWX.op (by decide) rfl (.d (I (w64 (((b711.getD t102.toNat default).2.2.2.2.2.2.2.2.2.2.2.1) + x18)))) 0 0 (.inl rfl) (.inr ⟨_, _, { on := 7, ground := .data }, rfl, rfl, by simp, rfl, rfl⟩) ?_ ?_ (by (simp only [go_sem, Nat.reduceLT])) ?_
  ·
   intro j hj1 hj2
   have hj : j = 0 := by omega
   subst hj
   all_goals (refine ⟨?_, ?_⟩)
   all_goals (first | rfl | trivial | ((simp only [go_sem, simprocAttr, sw0, gx71, gx73, gx72, gx74]); first | done | rfl | omega | assumption | decide | (simp only [List.append_assoc, List.cons_append, List.nil_append]; done) | ((repeat (refine And.intro (by first | rfl | omega | assumption | decide) ?_)); first | rfl | omega | assumption | decide)))
  exact KeptX.same fun _ _ => rfl
  try simp only [go_sem, simprocAttr]
  refine FWX.op (by decide) rfl (.ptr (t102.toNat + 7) 0) 0 1 (.inl rfl) (.inl rfl) ?_ ?_ (by (simp only [go_sem, Nat.reduceLT])) ?_
  ·
   intro j hj1 hj2
   have hj : j = 0 ∨ j = 1 := by omega
   rcases hj with rfl | rfl
   all_goals (refine ⟨?_, ?_⟩)
   all_goals (first | rfl | trivial | ((simp only [go_sem, simprocAttr, sw0, gx71, gx73, gx72, gx74]); first | done | rfl | omega | assumption | decide | (simp only [List.append_assoc, List.cons_append, List.nil_append]; done) | ((repeat (refine And.intro (by first | rfl | omega | assumption | decide) ?_)); first | rfl | omega | assumption | decide)))
  exact KeptX.same fun _ _ => rfl
  try simp only [go_sem, simprocAttr]
  refine FWX.op (by decide) rfl (.ptr (t102.toNat + 7) 0) 0 1 (.inl rfl) (.inl rfl) ?_ ?_ (by (simp only [go_sem, Nat.reduceLT])) ?_
  ·
   intro j hj1 hj2
   have hj : j = 0 ∨ j = 1 := by omega
   rcases hj with rfl | rfl
   all_goals (refine ⟨?_, ?_⟩)
   all_goals (first | rfl | trivial | ((simp only [go_sem, simprocAttr, sw0, gx71, gx73, gx72, gx74]); first | done | rfl | omega | assumption | decide | (simp only [List.append_assoc, List.cons_append, List.nil_append]; done) | ((repeat (refine And.intro (by first | rfl | omega | assumption | decide) ?_)); first | rfl | omega | assumption | decide)))
  exact KeptX.same fun _ _ => rfl
  try simp only [go_sem, simprocAttr]
  refine FWX.op (by decide) rfl (.ptr (t102.toNat + 7) 10) 0 1 (.inl rfl) (.inl rfl) ?_ ?_ (by (simp only [go_sem, Nat.reduceLT])) ?_
  ·
   intro j hj1 hj2
   have hj : j = 0 ∨ j = 1 := by omega
   rcases hj with rfl | rfl
   all_goals (refine ⟨?_, ?_⟩)
   all_goals (first | rfl | trivial | ((simp only [go_sem, simprocAttr, sw0, gx71, gx73, gx72, gx74]); first | done | rfl | omega | assumption | decide | (simp only [List.append_assoc, List.cons_append, List.nil_append]; done) | ((repeat (refine And.intro (by first | rfl | omega | assumption | decide) ?_)); first | rfl | omega | assumption | decide)))
  exact KeptX.same fun _ _ => rfl
  try simp only [go_sem, simprocAttr]
  refine FWX.op (by decide) rfl (.d (I ((b711.getD t102.toNat default).2.2.2.2.2.2.2.2.2.2.1))) 0 0 (.inl rfl) (.inr ⟨_, _, { on := 11, ground := .phase }, rfl, rfl, by simp, rfl, rfl⟩) ?_ ?_ (by (simp only [go_sem, Nat.reduceLT])) ?_
  ·
   intro j hj1 hj2
   have hj : j = 0 := by omega
   subst hj
   all_goals (refine ⟨?_, ?_⟩)
   all_goals (first | rfl | trivial | ((simp only [go_sem, simprocAttr, sw0, gx71, gx73, gx72, gx74]); first | done | rfl | omega | assumption | decide | (simp only [List.append_assoc, List.cons_append, List.nil_append]; done) | ((repeat (refine And.intro (by first | rfl | omega | assumption | decide) ?_)); first | rfl | omega | assumption | decide)))
  exact KeptX.same fun _ _ => rfl
  try simp only [go_sem, simprocAttr]
  refine FWX.op (by decide) rfl (.d (I x18)) 0 1 (.inl rfl) (.inl rfl) ?_ ?_ (by (simp only [go_sem, Nat.reduceLT])) ?_
  ·
   intro j hj1 hj2
   have hj : j = 0 ∨ j = 1 := by omega
   rcases hj with rfl | rfl
   all_goals (refine ⟨?_, ?_⟩)
   all_goals (first | rfl | trivial | ((simp only [go_sem, simprocAttr, sw0, gx71, gx73, gx72, gx74]); first | done | rfl | omega | assumption | decide | (simp only [List.append_assoc, List.cons_append, List.nil_append]; done) | ((repeat (refine And.intro (by first | rfl | omega | assumption | decide) ?_)); first | rfl | omega | assumption | decide)))
  exact KeptX.same fun _ _ => rfl
  try simp only [go_sem, simprocAttr]
  refine FWX.op (by decide) rfl (.d (I (w64 (((b711.getD t102.toNat default).2.2.2.2.2.2.2.2.2.2.1) - x18)))) 0 1 (.inl rfl) (.inl rfl) ?_ ?_ (by (simp only [go_sem, Nat.reduceLT])) ?_
  ·
   intro j hj1 hj2
   have hj : j = 0 ∨ j = 1 := by omega
   rcases hj with rfl | rfl
   all_goals (refine ⟨?_, ?_⟩)
   all_goals (first | rfl | trivial | ((simp only [go_sem, simprocAttr, sw0, gx71, gx73, gx72, gx74]); first | done | rfl | omega | assumption | decide | (simp only [List.append_assoc, List.cons_append, List.nil_append]; done) | ((repeat (refine And.intro (by first | rfl | omega | assumption | decide) ?_)); first | rfl | omega | assumption | decide)))
  exact KeptX.same fun _ _ => rfl
  try simp only [go_sem, simprocAttr]
  refine FWX.op (by decide) rfl (.ptr (t102.toNat + 7) 0) 0 1 (.inl rfl) (.inl rfl) ?_ ?_ (by (simp only [go_sem, Nat.reduceLT])) ?_
  ·
   intro j hj1 hj2
   have hj : j = 0 ∨ j = 1 := by omega
   rcases hj with rfl | rfl
   all_goals (refine ⟨?_, ?_⟩)
   all_goals (first | rfl | trivial | ((simp only [go_sem, simprocAttr, sw0, gx71, gx73, gx72, gx74]); first | done | rfl | omega | assumption | decide | (simp only [List.append_assoc, List.cons_append, List.nil_append]; done) | ((repeat (refine And.intro (by first | rfl | omega | assumption | decide) ?_)); first | rfl | omega | assumption | decide)))
  exact KeptX.same fun _ _ => rfl
  try simp only [go_sem, simprocAttr]
  refine FWX.op (by decide) rfl (.ptr (t102.toNat + 7) 11) 0 0 (.inl rfl) (.inr ⟨_, _, { on := 15, ground := .data }, rfl, rfl, by simp, rfl, rfl⟩) ?_ ?_ (by (simp only [go_sem, Nat.reduceLT])) ?_
  ·
   intro j hj1 hj2
   have hj : j = 0 := by omega
   subst hj
   all_goals (refine ⟨?_, ?_⟩)
   all_goals (first | rfl | trivial | ((simp only [go_sem, simprocAttr, sw0, gx71, gx73, gx72, gx74]); first | done | rfl | omega | assumption | decide | (simp only [List.append_assoc, List.cons_append, List.nil_append]; done) | ((repeat (refine And.intro (by first | rfl | omega | assumption | decide) ?_)); first | rfl | omega | assumption | decide)))
  exact KeptX.same fun _ _ => rfl
  try simp only [go_sem, simprocAttr]
  refine FWX.store (q := 0) (by decide) rfl rfl rfl rfl (fun _ => rfl) ?_ ?_ ?_
  · first | rfl | trivial | ((simp only [go_sem, simprocAttr, sw0, gx71, gx73, gx72, gx74]); first | done | rfl | omega | assumption | decide | (simp only [List.append_assoc, List.cons_append, List.nil_append]; done) | ((repeat (refine And.intro (by first | rfl | omega | assumption | decide) ?_)); first | rfl | omega | assumption | decide))
  · first | rfl | trivial | ((simp only [go_sem, simprocAttr, sw0, gx71, gx73, gx72, gx74]); first | done | rfl | omega | assumption | decide | (simp only [List.append_assoc, List.cons_append, List.nil_append]; done) | ((repeat (refine And.intro (by first | rfl | omega | assumption | decide) ?_)); first | rfl | omega | assumption | decide))
  try simp only [go_sem, simprocAttr]
  refine FWX.nil ?_
  change OW _ _ _ _ _ _
  change OW _ _ _ _ _ _
  refine OW.run [8, 10, 100, 101, 102] ?_
  (simp only [go_sem, simprocAttr, sw0, d4 b7.length a9 b711 _ t102.toNat (by omega), famSR166 b7.length b711 t102.toNat (by omega) (by omega), famN_getSR b7.length a9 b711 _ t102.toNat _ (by first | omega | assumption) (by first | omega | assumption), famSSR166 b7.length b711 t102.toNat (by omega) (by omega)])
  repeat (refine And.intro (by omega) ?_)
  refine OW.nil (hK _ ?_)
  obtain ⟨f3, hf3, H⟩ := a8 H
  simp only [Option.some.inj hf3]
  change PW _ _ _ _ _
  obtain ⟨c75, H⟩ := d7 H
  refine a0 fun K hK => OW.run [8, 100, 101, 102] ?_
  (simp only [go_sem, simprocAttr, sw0, d4 b7.length a9 f3 _ t102.toNat (by omega)])
  repeat (refine And.intro (by omega) ?_)
  refine OW.nil (hK _ ?_)
  refine a0 fun K hK => OW.run [8, 100, 101, 102] ?_
  simp only [go_sem, simprocAttr, sw0]
  refine OW.nil (hK _ ?_)
  refine hN67 [] (w64 (t102 + (1 : Int)), f3, (b111 ++ ([(f3.getD t102.toNat default).2.2.2.2.2.2.2.2.2.2.2.2.2] : List Int))) _ H (by exact trivial) ?_
  simp only [sw1, go_sem, simprocAttr]
 replace H := k8 h68 H
 refine j3 ?_
 refine hN66 [] (b711, b111) _ H (by exact trivial) ?_
 simp only [sw1, go_sem, simprocAttr]
 rintro ⟨b710, b11⟩ H
 try simp only [go_sem, simprocAttr]
 refine a5 ?_
 refine a0 fun K hK => OW.run [4] ?_
 simp only [go_sem, simprocAttr, sw0]
 refine OW.nil (hK _ ?_)
 refine PW.frz (b7.length + 10) (by exact Nat.le_refl _) (by (simp only [go_sem, isD, allD_mapV]; done)) ?_
 simp only [s4, o8, o7, r9, nz_int, A4, nz_str, A3, nz_ref, nz_nil, go_sem, simprocAttr]
 refine PW.fit [4] (b7.length + 10) (by exact Nat.le_refl _) ?_
 try simp only [go_sem, simprocAttr]
 refine f4 ?_
 change PW.EndsM _ _ _ _ _ _ _ _
 refine PW.EndsM.intro (.inr rfl) ?_
 try simp only [go_sem, simprocAttr]
 simp only [Option.some.injEq, Prod.mk.injEq] at H
 obtain ⟨rfl, rfl⟩ := H
 repeat' (first | trivial | rfl | (simp only [segMap]; rfl) | refine And.intro ?_ ?_)

theorem sched_Run_ok (N : Nat) (Zq : Int) (Zr : Int) (Zs : Int) (Zx : List Int) (l : List TB) (slots : List (List Int × List Int)) (r : List (List Int) × List Int × List Int × Int) (H : sched_Run N Zq Zr Zs Zx l slots = some r) : CallOK Try.prog 30 [(.agg [(I Zq), (I Zr), (I Zs), (L Zx)]), (.list l.length (l.flatMap (fun (x : ByteArray × Int × Int × Int × Int × Int × Int × Int × Int) => [(Sx x.1), (I x.2.1), (I x.2.2.1), (I x.2.2.2.1), (I x.2.2.2.2.1), (I x.2.2.2.2.2.1), (I x.2.2.2.2.2.2.1), (I x.2.2.2.2.2.2.2.1), (I x.2.2.2.2.2.2.2.2)]))), (.list slots.length (slots.flatMap (fun (x : List Int × List Int) => [(L x.1), (L x.2)])))] (.d (.tup [(.agg [(.list r.1.length (r.1.map L)), (L r.2.1), (L r.2.2.1)]), (I r.2.2.2)])) [] := by
 refine d3 Try.func30 rfl (by rw [Try.results30]) Try.ntmps30 Try.call30 ?_
 change PW _ _ _ _ _
 try simp only [go_sem, simprocAttr]
 unfold sched_Run at H
 refine a5 ?_
 refine a0 fun K hK => OW.run [1, 2, 3, 6] ?_
 simp only [go_sem, simprocAttr, sw0]
 refine OW.nil (hK _ ?_); clear hK K
 refine a5 ?_
 refine a0 fun K hK => OW.run [2, 6, 8, 9] ?_
 simp only [go_sem, simprocAttr, sw0]
 refine OW.inline rfl rfl rfl (by ((simp only [go_sem, List.toList_toArray, simprocAttr]); exact rfl)) Try.func104 rfl (by rw [Try.results104]) Try.ntmps104 Try.call104 (by (simp only [go_sem, Nat.reduceLT])) ?_
 intro us p
 change PW _ _ _ _ _
 try simp only [go_sem, simprocAttr]
 refine a5 ?_
 refine a0 fun K hK => OW.run [1, 2, 3] ?_
 simp only [go_sem, simprocAttr, sw0]
 refine OW.nil (hK _ ?_); clear hK K
 refine a5 ?_
 obtain ⟨⟨x1, x11, x12, x13, x14⟩, e1, H⟩ := a8 H
 refine a0 fun K hK => OW.run [1, 2, 8, 9] ?_
 simp only [go_sem, simprocAttr, sw0]
 refine d5 4 rfl rfl rfl (by ((simp only [go_sem, List.toList_toArray, simprocAttr]); exact rfl)) ?_ (sched_openAll_ok N _ _ _ _ _ _ e1) ?_ ?_ ?_ ?_
 rfl
 · (refine a7 ?_; (simp only [go_sem, sw2, List.length_set, List.length_replicate, and_true, true_and, Nat.le_refl, simprocAttr]; done))
 exact .inl rfl
 (simp only [go_sem, Nat.reduceLT])
 refine OW.run [1, 2, 8, 9] ?_
 simp only [go_sem, simprocAttr, sw0]
 refine OW.nil (hK _ ?_); clear hK K
 refine a5 ?_
 refine a5 ?_
 refine a0 fun K hK => OW.run [1, 2, 8, 9, 17] ?_
 simp only [go_sem, simprocAttr, sw0]
 refine OW.nil (hK _ ?_); clear hK K
 refine d9 rfl (fun h1 => ?_) (fun h1 => ?_)
 replace H := k7 h1 H
 refine a5 ?_
 refine a0 fun K hK => OW.run [6, 7] ?_
 simp only [go_sem, simprocAttr, sw0]
 refine OW.nil (hK _ ?_); clear hK K
 refine f4 ?_
 refine ⟨.inr rfl, rfl, rfl, ?_⟩
 simp only [go_sem, simprocAttr, sw0]
 change OW _ _ _ _ _ _
 refine OW.run [2, 6, 8, 9] ?_
 simp only [go_sem, simprocAttr, sw0]
 refine OW.nil (hK _ ?_); clear hK K
 refine a5 ?_
 refine a5 ?_
 refine a0 fun K hK => OW.run [2, 6, 8, 9, 23] ?_
 simp only [go_sem, simprocAttr, sw0]
 refine OW.nil (hK _ ?_); clear hK K
 refine d9 rfl (fun h2 => ?_) (fun h2 => ?_)
 replace H := k7 h2 H
 refine a5 ?_
 refine a0 fun K hK => OW.run [6, 7] ?_
 simp only [go_sem, simprocAttr, sw0]
 refine OW.nil (hK _ ?_); clear hK K
 refine f4 ?_
 change PW.Ends _ _ _ _ _ _
 refine PW.Ends.intro (.inr rfl) ?_
 simp only [go_sem, simprocAttr, sw0]
 obtain rfl := Option.some.inj H
 refine a6 4 (by (refine a7 ?_; (simp only [go_sem, sw2, List.length_set, List.length_replicate, and_true, true_and, Nat.le_refl, simprocAttr]; done))) ?_
 rfl
 replace H := k8 h2 H
 cases H
 ·
  replace H := k8 h1 H
  refine f0 ?_
  refine a5 ?_
  obtain ⟨b7, e2, H⟩ := a8 H
  obtain ⟨x4, e4, H⟩ := a8 H
  refine PW.drawX 7 [2] (fun j => List.getD [[{ cells := [.d (I Zq), .d (I Zr), .d (I Zs), .d (L Zx)], e := 24 }, { cells := [.d (.val (.slice none 0 0)), .d (.val (.slice none 0 0)), .d (.val (.slice none 0 0))], e := 52 }, { cells := [.d (I Zq), .d (I Zr), .d (I Zs), .d (L Zx)], e := 24 }, { cells := [.d (I x1), .d (I x11), .d (I x12), .d (L x13)], e := 141 }], ({ cells := [.d (I Zq), .d (I Zr), .d (I Zs), .d (L Zx)], e := 24 } :: { cells := [.d (.val (.slice none 0 0)), .d (.val (.slice none 0 0)), .d (.val (.slice none 0 0))], e := 52 } :: { cells := [.d (I Zq), .d (I Zr), .d (I Zs), .d (L Zx)], e := 24 } :: { cells := [.d (I x1), .d (I x11), .d (I x12), .d (L x13)], e := 141 } :: { cells := [], e := 141 } :: { cells := [.d (I x1), .d (I x11), .d (I x12), .d (L x13), .own 6 0 b7.length 1], e := 163 } :: { cells := p9 7 b7.length, e := 164 } :: l6 b7.length a9 b7)] j []) (fun _ v => v) n9 (by kernel_rfl) (by decide) (by ((refine ⟨by decide, ?_⟩; intro k i i' h1 h2 o ho; match k, h1, h2 with | 0, h1, h2 => (simp at h1 h2 <;> first | (cases h2; done) | (subst h1; subst h2; simp at ho; subst ho; simp [Region.binds]; done)) | 1, h1, h2 => (simp at h1 h2 <;> first | (cases h2; done) | (subst h1; subst h2; simp at ho; subst ho; simp [Region.binds]; done)) | 2, h1, h2 => (simp at h1 h2 <;> first | (cases h2; done) | (subst h1; subst h2; simp at ho; subst ho; simp [Region.binds]; done)) | k + 3, h1, h2 => (simp at h2; done)))) (fun _ => rfl) (by decide) (freshL rfl) rfl rfl fun K hK => ?_
  change FWX _ _ _ _ _ _ _ _ _ _
  refine FWX.op (by decide) rfl (.agg [.d (I x1), .d (I x11), .d (I x12), .d (L x13)]) 0 0 (.inl rfl) (.inr ⟨_, _, { on := 0, ground := .data }, rfl, rfl, by simp, rfl, rfl⟩) ?_ ?_ (by (simp only [go_sem, Nat.reduceLT])) ?_
  ·
   intro j hj1 hj2
   have hj : j = 0 := by omega
   subst hj
   all_goals (refine ⟨?_, ?_⟩)
   all_goals (first | rfl | trivial | (simp only [go_sem, simprocAttr, sw0]; first | done | rfl | omega | assumption | decide | (simp only [List.append_assoc, List.cons_append, List.nil_append]; done) | ((repeat (refine And.intro (by first | rfl | omega | assumption | decide) ?_)); first | rfl | omega | assumption | decide)))
  exact KeptX.same fun _ _ => rfl
  try simp only [go_sem, simprocAttr]
  refine FWX.op (by decide) rfl (.d (.list l.length (l.flatMap (fun (x : ByteArray × Int × Int × Int × Int × Int × Int × Int × Int) => [(Sx x.1), (I x.2.1), (I x.2.2.1), (I x.2.2.2.1), (I x.2.2.2.2.1), (I x.2.2.2.2.2.1), (I x.2.2.2.2.2.2.1), (I x.2.2.2.2.2.2.2.1), (I x.2.2.2.2.2.2.2.2)])))) 0 0 (.inl rfl) (.inr ⟨_, _, { on := 1, ground := .data }, rfl, rfl, by simp, rfl, rfl⟩) ?_ ?_ (by (simp only [go_sem, Nat.reduceLT])) ?_
  ·
   intro j hj1 hj2
   have hj : j = 0 := by omega
   subst hj
   all_goals (refine ⟨?_, ?_⟩)
   all_goals (first | rfl | trivial | (simp only [go_sem, simprocAttr, sw0]; first | done | rfl | omega | assumption | decide | (simp only [List.append_assoc, List.cons_append, List.nil_append]; done) | ((repeat (refine And.intro (by first | rfl | omega | assumption | decide) ?_)); first | rfl | omega | assumption | decide)))
  exact KeptX.same fun _ _ => rfl
  try simp only [go_sem, simprocAttr]
  refine FWX.callM (q := 0) (r := (.ptr 5 0)) (by decide) rfl rfl rfl rfl (sched_Run_m1_ok N x1 x11 x12 x13 l ⟨[.d (I Zq), .d (I Zr), .d (I Zs), .d (L Zx)], (t6 (t6 (t6 (t6 low_nil))))⟩ 24 ⟨[.d (.val (.slice none 0 0)), .d (.val (.slice none 0 0)), .d (.val (.slice none 0 0))], (t6 (t6 (t6 low_nil)))⟩ 52 ⟨[.d (I Zq), .d (I Zr), .d (I Zs), .d (L Zx)], (t6 (t6 (t6 (t6 low_nil))))⟩ 24 ⟨[.d (I x1), .d (I x11), .d (I x12), .d (L x13)], (t6 (t6 (t6 (t6 low_nil))))⟩ 141 b7  e2) (by (simp only [go_sem]; omega)) (fun _ => rfl) (by (simp only [go_sem, Nat.reduceLT])) ?_
  try simp only [go_sem, simprocAttr]
  refine FWX.op (by decide) rfl (.agg [.d (I x1), .d (I x11), .d (I x12), .d (L x13)]) 0 1 (.inl rfl) (.inl rfl) ?_ ?_ (by (simp only [go_sem, Nat.reduceLT])) ?_
  ·
   intro j hj1 hj2
   have hj : j = 0 ∨ j = 1 := by omega
   rcases hj with rfl | rfl
   all_goals (refine ⟨?_, ?_⟩)
   all_goals (first | rfl | trivial | (simp only [go_sem, simprocAttr, sw0]; first | done | rfl | omega | assumption | decide | (simp only [List.append_assoc, List.cons_append, List.nil_append]; done) | ((repeat (refine And.intro (by first | rfl | omega | assumption | decide) ?_)); first | rfl | omega | assumption | decide)))
  exact KeptX.same fun _ _ => rfl
  try simp only [go_sem, simprocAttr]
  refine FWX.op (by decide) rfl (.d (.list l.length (l.flatMap (fun (x : ByteArray × Int × Int × Int × Int × Int × Int × Int × Int) => [(Sx x.1), (I x.2.1), (I x.2.2.1), (I x.2.2.2.1), (I x.2.2.2.2.1), (I x.2.2.2.2.2.1), (I x.2.2.2.2.2.2.1), (I x.2.2.2.2.2.2.2.1), (I x.2.2.2.2.2.2.2.2)])))) 0 1 (.inl rfl) (.inl rfl) ?_ ?_ (by (simp only [go_sem, Nat.reduceLT])) ?_
  ·
   intro j hj1 hj2
   have hj : j = 0 ∨ j = 1 := by omega
   rcases hj with rfl | rfl
   all_goals (refine ⟨?_, ?_⟩)
   all_goals (first | rfl | trivial | (simp only [go_sem, simprocAttr, sw0]; first | done | rfl | omega | assumption | decide | (simp only [List.append_assoc, List.cons_append, List.nil_append]; done) | ((repeat (refine And.intro (by first | rfl | omega | assumption | decide) ?_)); first | rfl | omega | assumption | decide)))
  exact KeptX.same fun _ _ => rfl
  try simp only [go_sem, simprocAttr]
  refine FWX.op (by decide) rfl (.d (I (l.length : Int))) 0 1 (.inl rfl) (.inl rfl) ?_ ?_ (by (simp only [go_sem, Nat.reduceLT])) ?_
  ·
   intro j hj1 hj2
   have hj : j = 0 ∨ j = 1 := by omega
   rcases hj with rfl | rfl
   all_goals (refine ⟨?_, ?_⟩)
   all_goals (first | rfl | trivial | (simp only [go_sem, simprocAttr, sw0]; first | done | rfl | omega | assumption | decide | (simp only [List.append_assoc, List.cons_append, List.nil_append]; done) | ((repeat (refine And.intro (by first | rfl | omega | assumption | decide) ?_)); first | rfl | omega | assumption | decide)))
  exact KeptX.same fun _ _ => rfl
  try simp only [go_sem, simprocAttr]
  refine FWX.op (by decide) rfl (.d (.list slots.length (slots.flatMap (fun (x : List Int × List Int) => [(L x.1), (L x.2)])))) 0 1 (.inl rfl) (.inl rfl) ?_ ?_ (by (simp only [go_sem, Nat.reduceLT])) ?_
  ·
   intro j hj1 hj2
   have hj : j = 0 ∨ j = 1 := by omega
   rcases hj with rfl | rfl
   all_goals (refine ⟨?_, ?_⟩)
   all_goals (first | rfl | trivial | (simp only [go_sem, simprocAttr, sw0]; first | done | rfl | omega | assumption | decide | (simp only [List.append_assoc, List.cons_append, List.nil_append]; done) | ((repeat (refine And.intro (by first | rfl | omega | assumption | decide) ?_)); first | rfl | omega | assumption | decide)))
  exact KeptX.same fun _ _ => rfl
  try simp only [go_sem, simprocAttr]
  refine FWX.nil ?_
  change OW _ _ _ _ _ _
  change OW _ _ _ _ _ _
  refine OW.run [6, 7] ?_
  simp only [go_sem, simprocAttr, sw0]
  refine d5 4 rfl rfl rfl (by ((simp only [go_sem, List.toList_toArray, simprocAttr]); exact rfl)) ?_ (sched_site_slotsErr_ok N _ _ _ _ _ _ _ e4) ?_ ?_ ?_ ?_
  rfl
  · (refine a7 ?_; (simp only [go_sem, sw2, List.length_set, List.length_replicate, and_true, true_and, Nat.le_refl, simprocAttr]; done))
  exact .inl rfl
  (simp only [go_sem, Nat.reduceLT])
  refine OW.run [6, 7] ?_
  simp only [go_sem, simprocAttr, sw0]
  refine OW.nil (hK _ ?_); clear hK K
  refine f4 ?_
  refine ⟨.inr rfl, rfl, rfl, ?_⟩
  simp only [go_sem, simprocAttr, sw0]
  change OW _ _ _ _ _ _
  refine OW.run [2, 6, 8, 9] ?_
  simp only [go_sem, simprocAttr, sw0]
  refine OW.nil (hK _ ?_); clear hK K
  refine a5 ?_
  refine a5 ?_
  refine a0 fun K hK => OW.run [2, 6, 8, 9, 23] ?_
  simp only [go_sem, simprocAttr, sw0]
  refine OW.nil (hK _ ?_); clear hK K
  refine d9 rfl (fun h8 => ?_) (fun h8 => ?_)
  replace H := k7 h8 H
  refine a5 ?_
  refine a0 fun K hK => OW.run [6, 7] ?_
  simp only [go_sem, simprocAttr, sw0]
  refine OW.nil (hK _ ?_); clear hK K
  refine f4 ?_
  change PW.Ends _ _ _ _ _ _
  refine PW.Ends.intro (.inr rfl) ?_
  simp only [go_sem, simprocAttr, sw0]
  obtain rfl := Option.some.inj H
  refine a6 4 (by (refine a7 ?_; (simp only [go_sem, sw2, List.length_set, List.length_replicate, and_true, true_and, Nat.le_refl, simprocAttr]; done))) ?_
  rfl
  replace H := k8 h8 H
  refine f0 ?_
  refine a5 ?_
  refine a0 fun K hK => OW.run [2, 6, 8, 10] ?_
  simp only [go_sem, simprocAttr, sw0]
  refine OW.nil (hK _ ?_); clear hK K
  refine i4 (τ := (List TU) × List (List Int)) [6, 8, 10] (b7.length + 9) (fun (b73, b9) => []) (fun (b73, b9) => { cells := [.d (I Zq), .d (I Zr), .d (I Zs), .d (L Zx)], e := 24 } :: { cells := [.d (.val (.slice none 0 0)), .d (.val (.slice none 0 0)), .d (.val (.slice none 0 0))], e := 52 } :: { cells := [.d (I Zq), .d (I Zr), .d (I Zs), .d (L Zx)], e := 24 } :: { cells := [.d (I x1), .d (I x11), .d (I x12), .d (L x13)], e := 141 } :: { cells := [], e := 141 } :: { cells := [.d (I x1), .d (I x11), .d (I x12), .d (L x13), .own 6 0 b7.length 1], e := 163 } :: { cells := p9 7 b7.length, e := 164 } :: (l6 b7.length a9 b73 ++ [{ cells := [.own (b7.length + 8) 0 b9.length 1, .d (.val (.slice none 0 0)), .d (.val (.slice none 0 0))], e := 52 }, { cells := (b9.map L).map .d, e := 22 }])) _ _ r (by exact Nat.zero_le _) H ?_ ?_
  intro K_1 H N9 hN9
  refine a5 ?_
  refine a0 fun K hK => OW.run [6, 8, 10, 26, 27, 28] ?_
  simp only [go_sem, simprocAttr, sw0]
  refine OW.nil (hK _ ?_); clear hK K
  refine PW.block ?_
  refine PW.virtC (b7.length + 7) 0 22 1 ({ cells := [.d (.val (.slice none 0 0)), .d (.val (.slice none 0 0)), .d (.val (.slice none 0 0))], e := 52 }) (by first | rfl | (simp only [go_sem, simprocAttr, sw0]; done) | (simp only [go_sem, simprocAttr, sw0]; rfl)) rfl ?_
  try simp only [go_sem, simprocAttr]
  refine i8 (σ := Int × (List TU) × List (List Int)) [6, 8, 10, 26, 27, 28] (b7.length + 9) (fun (t28, b74, b91) => [(28, .d (I t28))]) (fun (t28, b74, b91) => { cells := [.d (I Zq), .d (I Zr), .d (I Zs), .d (L Zx)], e := 24 } :: { cells := [.d (.val (.slice none 0 0)), .d (.val (.slice none 0 0)), .d (.val (.slice none 0 0))], e := 52 } :: { cells := [.d (I Zq), .d (I Zr), .d (I Zs), .d (L Zx)], e := 24 } :: { cells := [.d (I x1), .d (I x11), .d (I x12), .d (L x13)], e := 141 } :: { cells := [], e := 141 } :: { cells := [.d (I x1), .d (I x11), .d (I x12), .d (L x13), .own 6 0 b7.length 1], e := 163 } :: { cells := p9 7 b7.length, e := 164 } :: (l6 b7.length a9 b74 ++ [{ cells := [.own (b7.length + 8) 0 b91.length 1, .d (.val (.slice none 0 0)), .d (.val (.slice none 0 0))], e := 52 }, { cells := (b91.map L).map .d, e := 22 }])) (sched_Run.b2 N slots x1 x11 x12 x13 b7 K_1) r N ((0 : Int), b7, ([] : List (List Int))) (by exact Nat.zero_le _) H (by (simp only [sw1, go_sem, simprocAttr]; done)) ?_
  rintro n ⟨t28, b74, b91⟩ H N10 hN10
  unfold sched_Run.b2 at H
  try simp only [go_sem, simprocAttr]
  refine a5 ?_
  refine a0 fun K hK => OW.run [6, 8, 10, 26, 27, 28, 29] ?_
  simp only [go_sem, simprocAttr, sw0]
  refine OW.nil (hK _ ?_); clear hK K
  refine a5 ?_
  refine d9 rfl (fun h11 => ?_) (fun h11 => ?_)
  ·
   replace H := k7 h11 H
   refine f0 ?_
   refine a5 ?_
   refine PW.block ?_
   refine a5 ?_
   obtain ⟨c12, H⟩ := d7 H
   refine a0 fun K hK => OW.run [6, 8, 10, 12, 26, 27, 28] ?_
   (simp only [go_sem, simprocAttr, sw0, j5 2 (fun (x : List Int × List Int) => [(L x.1), (L x.2)]) (fun _ => rfl), sub_el 2 (fun (x : List Int × List Int) => [(L x.1), (L x.2)]) (fun _ => rfl) slots t28.toNat (by omega)])
   repeat (refine And.intro (by omega) ?_)
   refine OW.nil (hK _ ?_); clear hK K
   change PW _ _ _ _ _
   obtain ⟨⟨l1, b75⟩, e5, H⟩ := a8 H
   obtain ⟨c76, H⟩ := d7 H
   refine PW.drawX 6 [4] (fun j => List.getD [({ cells := [.d (I Zq), .d (I Zr), .d (I Zs), .d (L Zx)], e := 24 } :: { cells := [.d (.val (.slice none 0 0)), .d (.val (.slice none 0 0)), .d (.val (.slice none 0 0))], e := 52 } :: { cells := [.d (I Zq), .d (I Zr), .d (I Zs), .d (L Zx)], e := 24 } :: { cells := [.d (I x1), .d (I x11), .d (I x12), .d (L x13)], e := 141 } :: { cells := [], e := 141 } :: { cells := [.d (I x1), .d (I x11), .d (I x12), .d (L x13), .own 6 0 b7.length 1], e := 163 } :: { cells := p9 7 b7.length, e := 164 } :: (l6 b7.length a9 b74 ++ [{ cells := [.own (b7.length + 8) 0 b91.length 1, .d (.val (.slice none 0 0)), .d (.val (.slice none 0 0))], e := 52 }, { cells := (b91.map L).map .d, e := 22 }, { cells := [.d (L ((slots.getD t28.toNat default).1)), .d (L ((slots.getD t28.toNat default).2))], e := 57 }])), ({ cells := [.d (I Zq), .d (I Zr), .d (I Zs), .d (L Zx)], e := 24 } :: { cells := [.d (.val (.slice none 0 0)), .d (.val (.slice none 0 0)), .d (.val (.slice none 0 0))], e := 52 } :: { cells := [.d (I Zq), .d (I Zr), .d (I Zs), .d (L Zx)], e := 24 } :: { cells := [.d (I x1), .d (I x11), .d (I x12), .d (L x13)], e := 141 } :: { cells := [], e := 141 } :: { cells := [.d (I x1), .d (I x11), .d (I x12), .d (L x13), .own 6 0 b7.length 1], e := 163 } :: { cells := p9 7 b7.length, e := 164 } :: (l6 b7.length a9 b75 ++ [{ cells := [.own (b7.length + 8) 0 b91.length 1, .d (.val (.slice none 0 0)), .d (.val (.slice none 0 0))], e := 52 }, { cells := (b91.map L).map .d, e := 22 }, { cells := [.d (L ((slots.getD t28.toNat default).1)), .d (L ((slots.getD t28.toNat default).2))], e := 57 }]))] j []) (fun _ v => v) n9 (by kernel_rfl) (by decide) (by ((refine ⟨by decide, ?_⟩; intro k i i' h1 h2 o ho; match k, h1, h2 with | 0, h1, h2 => (simp at h1 h2 <;> first | (cases h2; done) | (subst h1; subst h2; simp at ho; subst ho; simp [Region.binds]; done)) | 1, h1, h2 => (simp at h1 h2 <;> first | (cases h2; done) | (subst h1; subst h2; simp at ho; subst ho; simp [Region.binds]; done)) | 2, h1, h2 => (simp at h1 h2 <;> first | (cases h2; done) | (subst h1; subst h2; simp at ho; subst ho; simp [Region.binds]; done)) | k + 3, h1, h2 => (simp at h2; done)))) (fun _ => rfl) (by decide) (freshL rfl) rfl rfl fun K hK => ?_
   change FWX _ _ _ _ _ _ _ _ _ _
   refine FWX.op (by decide) rfl (.ptr (b7.length + 7) 0) 0 1 (.inl rfl) (.inl rfl) ?_ ?_ (by (simp only [go_sem, Nat.reduceLT])) ?_
   ·
    intro j hj1 hj2
    have hj : j = 0 ∨ j = 1 := by omega
    rcases hj with rfl | rfl
    all_goals (refine ⟨?_, ?_⟩)
    all_goals (first | rfl | trivial | (simp only [go_sem, simprocAttr, sw0]; first | done | rfl | omega | assumption | decide | (simp only [List.append_assoc, List.cons_append, List.nil_append]; done) | ((repeat (refine And.intro (by first | rfl | omega | assumption | decide) ?_)); first | rfl | omega | assumption | decide)))
   exact KeptX.same fun _ _ => rfl
   try simp only [go_sem, simprocAttr]
   refine FWX.op (by decide) rfl (.own (b7.length + 8) 0 b91.length 1) 0 1 (.inl rfl) (.inl rfl) ?_ ?_ (by (simp only [go_sem, Nat.reduceLT])) ?_
   ·
    intro j hj1 hj2
    have hj : j = 0 ∨ j = 1 := by omega
    rcases hj with rfl | rfl
    all_goals (refine ⟨?_, ?_⟩)
    all_goals (first | rfl | trivial | (simp only [go_sem, simprocAttr, sw0]; first | done | rfl | omega | assumption | decide | (simp only [List.append_assoc, List.cons_append, List.nil_append]; done) | ((repeat (refine And.intro (by first | rfl | omega | assumption | decide) ?_)); first | rfl | omega | assumption | decide)))
   exact KeptX.same fun _ _ => rfl
   try simp only [go_sem, simprocAttr]
   refine FWX.op (by decide) rfl (.ptr 5 0) 0 0 (.inl rfl) (.inr ⟨_, _, { on := 2, ground := .data }, rfl, rfl, by simp, rfl, rfl⟩) ?_ ?_ (by (simp only [go_sem, Nat.reduceLT])) ?_
   ·
    intro j hj1 hj2
    have hj : j = 0 := by omega
    subst hj
    all_goals (refine ⟨?_, ?_⟩)
    all_goals (first | rfl | trivial | (simp only [go_sem, simprocAttr, sw0]; first | done | rfl | omega | assumption | decide | (simp only [List.append_assoc, List.cons_append, List.nil_append]; done) | ((repeat (refine And.intro (by first | rfl | omega | assumption | decide) ?_)); first | rfl | omega | assumption | decide)))
   exact KeptX.same fun _ _ => rfl
   try simp only [go_sem, simprocAttr]
   refine FWX.op (by decide) rfl (.agg [.d (L ((slots.getD t28.toNat default).1)), .d (L ((slots.getD t28.toNat default).2))]) 0 0 (.inl rfl) (.inr ⟨_, _, { on := 3, ground := .data }, rfl, rfl, by simp, rfl, rfl⟩) ?_ ?_ (by (simp only [go_sem, Nat.reduceLT])) ?_
   ·
    intro j hj1 hj2
    have hj : j = 0 := by omega
    subst hj
    all_goals (refine ⟨?_, ?_⟩)
    all_goals (first | rfl | trivial | (simp only [go_sem, simprocAttr, sw0]; first | done | rfl | omega | assumption | decide | (simp only [List.append_assoc, List.cons_append, List.nil_append]; done) | ((repeat (refine And.intro (by first | rfl | omega | assumption | decide) ?_)); first | rfl | omega | assumption | decide)))
   exact KeptX.same fun _ _ => rfl
   try simp only [go_sem, simprocAttr]
   refine FWX.callM (q := 0) (r := (.d (L l1))) (by decide) rfl rfl rfl rfl (sched_Run_m129_ok N slots t28 x1 x11 x12 x13 b7 b74 ⟨[.d (I Zq), .d (I Zr), .d (I Zs), .d (L Zx)], (t6 (t6 (t6 (t6 low_nil))))⟩ 24 ⟨[.d (.val (.slice none 0 0)), .d (.val (.slice none 0 0)), .d (.val (.slice none 0 0))], (t6 (t6 (t6 low_nil)))⟩ 52 ⟨[.d (I Zq), .d (I Zr), .d (I Zs), .d (L Zx)], (t6 (t6 (t6 (t6 low_nil))))⟩ 24 ⟨[.d (I x1), .d (I x11), .d (I x12), .d (L x13)], (t6 (t6 (t6 (t6 low_nil))))⟩ 141 ⟨[], low_nil⟩ 141 ⟨[.own (b7.length + 8) 0 b91.length 1, .d (.val (.slice none 0 0)), .d (.val (.slice none 0 0))], (low_own (by omega) (t6 (t6 low_nil)))⟩ 52 ⟨(b91.map L).map .d, (low_map _)⟩ 22 ⟨[.d (L ((slots.getD t28.toNat default).1)), .d (L ((slots.getD t28.toNat default).2))], (t6 (t6 low_nil))⟩ 57 l1 b75 c12 e5) (by (simp only [go_sem]; done)) (fun _ => rfl) (by (simp only [go_sem, Nat.reduceLT])) ?_
   try simp only [go_sem, simprocAttr]
   refine FWX.op (by decide) rfl (.d (.list ([l1] : List (List Int)).length (([l1] : List (List Int)).map L))) 1 1 (.inr ⟨{ on := 4, ground := .data }, by simp, rfl, rfl⟩) (.inl rfl) ?_ ?_ (by (simp only [go_sem, Nat.reduceLT])) ?_
   ·
    intro j hj1 hj2
    have hj : j = 1 := by omega
    subst hj
    all_goals (refine ⟨?_, ?_⟩)
    all_goals (first | rfl | trivial | (simp only [go_sem, simprocAttr, sw0]; first | done | rfl | omega | assumption | decide | (simp only [List.append_assoc, List.cons_append, List.nil_append]; done) | ((repeat (refine And.intro (by first | rfl | omega | assumption | decide) ?_)); first | rfl | omega | assumption | decide)))
   exact KeptX.same fun _ _ => rfl
   try simp only [go_sem, simprocAttr]
   refine FWX.nil ?_
   change OW _ _ _ _ _ _
   change OW _ _ _ _ _ _
   refine OW.run [6, 8, 10, 26, 27, 28] ?_
   simp only [go_sem, simprocAttr, sw0]
   repeat (refine And.intro (by omega) ?_)
   refine OW.nil (hK _ ?_); clear hK K
   refine a0 fun K hK => OW.run [6, 8, 10, 26, 27, 28] ?_
   simp only [go_sem, simprocAttr, sw0]
   refine OW.nil (hK _ ?_); clear hK K
   refine hN10 [] (w64 (t28 + (1 : Int)), b75, (b91 ++ ([l1] : List (List Int)))) _ H (by exact trivial) ?_
   simp only [sw1, go_sem, simprocAttr]
  replace H := k8 h11 H
  refine j3 ?_
  refine hN9 [] (b74, b91) _ H (by exact trivial) ?_
  simp only [sw1, go_sem, simprocAttr]
  rintro ⟨b73, b9⟩ H
  try simp only [go_sem, simprocAttr]
  refine i4 (τ := List Int × List Int) [6, 10] (b7.length + 11) (fun (b10, b112) => []) (fun (b10, b112) => { cells := [.d (I Zq), .d (I Zr), .d (I Zs), .d (L Zx)], e := 24 } :: { cells := [.d (.val (.slice none 0 0)), .d (.val (.slice none 0 0)), .d (.val (.slice none 0 0))], e := 52 } :: { cells := [.d (I Zq), .d (I Zr), .d (I Zs), .d (L Zx)], e := 24 } :: { cells := [.d (I x1), .d (I x11), .d (I x12), .d (L x13)], e := 141 } :: { cells := [], e := 141 } :: { cells := [.d (I x1), .d (I x11), .d (I x12), .d (L x13), .own 6 0 b7.length 1], e := 163 } :: { cells := p9 7 b7.length, e := 164 } :: (l6 b7.length a9 b73 ++ [{ cells := [.own (b7.length + 8) 0 b9.length 1, .own (b7.length + 9) 0 b10.length 1, .own (b7.length + 10) 0 b112.length 1], e := 52 }, { cells := (b9.map L).map .d, e := 22 }, { cells := (b10.map I).map .d, e := 3 }, { cells := (b112.map I).map .d, e := 3 }])) _ _ r (by exact Nat.zero_le _) H ?_ ?_
  intro K_7 H N77 hN77
  refine a5 ?_
  refine a0 fun K hK => OW.run [6, 10, 44, 45, 46] ?_
  simp only [go_sem, simprocAttr, sw0]
  repeat (refine And.intro (by omega) ?_)
  refine OW.nil (hK _ ?_); clear hK K
  refine PW.block ?_
  refine PW.virtC (b7.length + 7) 1 3 1 ({ cells := [.own (b7.length + 8) 0 b9.length 1, .d (.val (.slice none 0 0)), .d (.val (.slice none 0 0))], e := 52 }) (by first | rfl | (simp only [go_sem, simprocAttr, sw0]; done) | (simp only [go_sem, simprocAttr, sw0]; rfl)) rfl ?_
  try simp only [go_sem, simprocAttr]
  refine PW.virtC (b7.length + 7) 2 3 1 ({ cells := [.own (b7.length + 8) 0 b9.length 1, .own (b7.length + 9) 0 (([] : List Int).length) 1, .d (.val (.slice none 0 0))], e := 52 }) (by first | rfl | (simp only [go_sem, simprocAttr, sw0]; done) | (simp only [go_sem, simprocAttr, sw0]; rfl)) rfl ?_
  try simp only [go_sem, simprocAttr]
  refine i8 (σ := Int × List Int × List Int) [6, 10, 44, 45, 46] (b7.length + 11) (fun (t46, b101, b113) => [(46, .d (I t46))]) (fun (t46, b101, b113) => { cells := [.d (I Zq), .d (I Zr), .d (I Zs), .d (L Zx)], e := 24 } :: { cells := [.d (.val (.slice none 0 0)), .d (.val (.slice none 0 0)), .d (.val (.slice none 0 0))], e := 52 } :: { cells := [.d (I Zq), .d (I Zr), .d (I Zs), .d (L Zx)], e := 24 } :: { cells := [.d (I x1), .d (I x11), .d (I x12), .d (L x13)], e := 141 } :: { cells := [], e := 141 } :: { cells := [.d (I x1), .d (I x11), .d (I x12), .d (L x13), .own 6 0 b7.length 1], e := 163 } :: { cells := p9 7 b7.length, e := 164 } :: (l6 b7.length a9 b73 ++ [{ cells := [.own (b7.length + 8) 0 b9.length 1, .own (b7.length + 9) 0 b101.length 1, .own (b7.length + 10) 0 b113.length 1], e := 52 }, { cells := (b9.map L).map .d, e := 22 }, { cells := (b101.map I).map .d, e := 3 }, { cells := (b113.map I).map .d, e := 3 }])) (sched_Run.b8 N b7 b73 K_7) r N ((0 : Int), ([] : List Int), ([] : List Int)) (by exact Nat.zero_le _) H (by (simp only [sw1, go_sem, simprocAttr]; done)) ?_
  rintro n ⟨t46, b101, b113⟩ H N78 hN78
  unfold sched_Run.b8 at H
  try simp only [go_sem, simprocAttr]
  refine a5 ?_
  refine a0 fun K hK => OW.run [6, 10, 44, 45, 46, 47] ?_
  simp only [go_sem, simprocAttr, sw0]
  refine OW.nil (hK _ ?_); clear hK K
  refine a5 ?_
  refine d9 rfl (fun h79 => ?_) (fun h79 => ?_)
  ·
   replace H := k7 h79 H
   refine f0 ?_
   refine a5 ?_
   refine PW.block ?_
   refine a5 ?_
   obtain ⟨c80, H⟩ := d7 H
   refine a0 fun K hK => OW.run [6, 10, 14, 44, 45, 46] ?_
   (simp only [go_sem, simprocAttr, sw0, ctrP_getD 7 b7.length t46.toNat (by omega)])
   repeat (refine And.intro (by omega) ?_)
   refine OW.nil (hK _ ?_); clear hK K
   change PW _ _ _ _ _
   obtain ⟨c81, H⟩ := d7 H
   obtain ⟨c82, H⟩ := d7 H
   refine PW.drawX 17 [7, 15] (fun j => List.getD [({ cells := [.d (I Zq), .d (I Zr), .d (I Zs), .d (L Zx)], e := 24 } :: { cells := [.d (.val (.slice none 0 0)), .d (.val (.slice none 0 0)), .d (.val (.slice none 0 0))], e := 52 } :: { cells := [.d (I Zq), .d (I Zr), .d (I Zs), .d (L Zx)], e := 24 } :: { cells := [.d (I x1), .d (I x11), .d (I x12), .d (L x13)], e := 141 } :: { cells := [], e := 141 } :: { cells := [.d (I x1), .d (I x11), .d (I x12), .d (L x13), .own 6 0 b7.length 1], e := 163 } :: { cells := p9 7 b7.length, e := 164 } :: (l6 b7.length a9 b73 ++ [{ cells := [.own (b7.length + 8) 0 b9.length 1, .own (b7.length + 9) 0 b101.length 1, .own (b7.length + 10) 0 b113.length 1], e := 52 }, { cells := (b9.map L).map .d, e := 22 }, { cells := (b101.map I).map .d, e := 3 }, { cells := (b113.map I).map .d, e := 3 }])), ({ cells := [.d (I Zq), .d (I Zr), .d (I Zs), .d (L Zx)], e := 24 } :: { cells := [.d (.val (.slice none 0 0)), .d (.val (.slice none 0 0)), .d (.val (.slice none 0 0))], e := 52 } :: { cells := [.d (I Zq), .d (I Zr), .d (I Zs), .d (L Zx)], e := 24 } :: { cells := [.d (I x1), .d (I x11), .d (I x12), .d (L x13)], e := 141 } :: { cells := [], e := 141 } :: { cells := [.d (I x1), .d (I x11), .d (I x12), .d (L x13), .own 6 0 b7.length 1], e := 163 } :: { cells := p9 7 b7.length, e := 164 } :: (l6 b7.length a9 b73 ++ [{ cells := [.own (b7.length + 8) 0 b9.length 1, .dead, .own (b7.length + 10) 0 b113.length 1], e := 52 }, { cells := (b9.map L).map .d, e := 22 }, { cells := ((b101 ++ ([(b73.getD t46.toNat default).2.2.2.2.2.2.2.2.2.2.2.1] : List Int)).map I).map .d, e := 3 }, { cells := (b113.map I).map .d, e := 3 }])), ({ cells := [.d (I Zq), .d (I Zr), .d (I Zs), .d (L Zx)], e := 24 } :: { cells := [.d (.val (.slice none 0 0)), .d (.val (.slice none 0 0)), .d (.val (.slice none 0 0))], e := 52 } :: { cells := [.d (I Zq), .d (I Zr), .d (I Zs), .d (L Zx)], e := 24 } :: { cells := [.d (I x1), .d (I x11), .d (I x12), .d (L x13)], e := 141 } :: { cells := [], e := 141 } :: { cells := [.d (I x1), .d (I x11), .d (I x12), .d (L x13), .own 6 0 b7.length 1], e := 163 } :: { cells := p9 7 b7.length, e := 164 } :: (l6 b7.length a9 b73 ++ [{ cells := [.own (b7.length + 8) 0 b9.length 1, .dead, .dead], e := 52 }, { cells := (b9.map L).map .d, e := 22 }, { cells := ((b101 ++ ([(b73.getD t46.toNat default).2.2.2.2.2.2.2.2.2.2.2.1] : List Int)).map I).map .d, e := 3 }, { cells := ((b113 ++ ([(b73.getD t46.toNat default).2.2.2.2.2.2.2.2.2.2.1] : List Int)).map I).map .d, e := 3 }]))] j []) (κL [(0, (b7.length + 9)), (1, (b7.length + 10))]) n9 (by kernel_rfl) (by decide) (by ((refine ⟨by decide, ?_⟩; intro k i i' h1 h2 o ho; match k, h1, h2 with | 0, h1, h2 => (simp at h1 h2 <;> first | (cases h2; done) | (subst h1; subst h2; simp at ho; subst ho; simp [Region.binds]; done)) | 1, h1, h2 => (simp at h1 h2 <;> first | (cases h2; done) | (subst h1; subst h2; simp at ho; subst ho; simp [Region.binds]; done)) | 2, h1, h2 => (simp at h1 h2 <;> first | (cases h2; done) | (subst h1; subst h2; simp at ho; subst ho; simp [Region.binds]; done)) | k + 3, h1, h2 => (simp at h2; done)))) (κL_dead _) (by decide) (freshL rfl) rfl rfl fun K hK => ?_
   change FWX _ _ _ _ _ _ _ _ _ _
   have gx83 := fun y0 => d4 b7.length a9 b73 y0 t46.toNat (by omega)
   have gx84 := (show (t46.toNat = b7.length + 2) = False from eq_false (by omega))
   have gx85 := (show (t46.toNat = b7.length + 3) = False from eq_false (by omega))
   refine FWX.op (by decide) rfl (.ptr (b7.length + 7) 1) 0 2 (.inl rfl) (.inl rfl) ?_ ?_ (by (simp only [go_sem, Nat.reduceLT])) ?_
   ·
    intro j hj1 hj2
    have hj : j = 0 ∨ j = 1 ∨ j = 2 := by omega
    rcases hj with rfl | rfl | rfl
    all_goals (refine ⟨?_, ?_⟩)
    all_goals (first | rfl | trivial | ((simp only [go_sem, simprocAttr, sw0, gx83, gx84, gx85]); first | done | rfl | omega | assumption | decide | (simp only [List.append_assoc, List.cons_append, List.nil_append]; done) | ((repeat (refine And.intro (by first | rfl | omega | assumption | decide) ?_)); first | rfl | omega | assumption | decide)))
   refine f8 [51, 57] (by first | rfl | (simp only [V.kill]; exact if_neg (by omega))) ?_ (by kernel_rfl) ?_
   · repeat (first | exact fun _ h => absurd h List.not_mem_nil | (refine List.forall_mem_cons.2 (And.intro ?_ ?_); · first | exact .inr rfl | (left; simp; done) | (right; simp only [V.kill, ↓reduceIte]; first | rfl | exact if_neg (by omega) | (simp only [V.kill, V.kill.kills, ↓reduceIte]; done))))
   refine f8 [59, 65] (by first | rfl | (simp only [V.kill]; exact if_neg (by omega))) ?_ (by kernel_rfl) ?_
   · repeat (first | exact fun _ h => absurd h List.not_mem_nil | (refine List.forall_mem_cons.2 (And.intro ?_ ?_); · first | exact .inr rfl | (left; simp; done) | (right; simp only [V.kill, ↓reduceIte]; first | rfl | exact if_neg (by omega) | (simp only [V.kill, V.kill.kills, ↓reduceIte]; done))))
   exact KeptX.nil
   try simp only [go_sem, simprocAttr]
   refine FWX.op (by decide) rfl (.own (b7.length + 9) 0 b101.length 1) 0 0 (.inl rfl) (.inr ⟨_, _, { on := 1, ground := .data }, rfl, rfl, by simp, rfl, rfl⟩) ?_ ?_ (by (simp only [go_sem, Nat.reduceLT])) ?_
   ·
    intro j hj1 hj2
    have hj : j = 0 := by omega
    subst hj
    all_goals (refine ⟨?_, ?_⟩)
    all_goals (first | rfl | trivial | ((simp only [go_sem, simprocAttr, sw0, gx83, gx84, gx85]); first | done | rfl | omega | assumption | decide | (simp only [List.append_assoc, List.cons_append, List.nil_append]; done) | ((repeat (refine And.intro (by first | rfl | omega | assumption | decide) ?_)); first | rfl | omega | assumption | decide)))
   refine KeptX.dep rfl rfl ⟨{ on := 1, ground := .data }, by simp, rfl, rfl⟩ ?_
   refine f8 [59, 65] (by first | rfl | (simp only [V.kill]; exact if_neg (by omega))) ?_ (by kernel_rfl) ?_
   · repeat (first | exact fun _ h => absurd h List.not_mem_nil | (refine List.forall_mem_cons.2 (And.intro ?_ ?_); · first | exact .inr rfl | (left; simp; done) | (right; simp only [V.kill, ↓reduceIte]; first | rfl | exact if_neg (by omega) | (simp only [V.kill, V.kill.kills, ↓reduceIte]; done))))
   exact KeptX.nil
   try simp only [go_sem, simprocAttr]
   refine FWX.op (by decide) rfl (.ptr (t46.toNat + 7) 0) 0 2 (.inl rfl) (.inl rfl) ?_ ?_ (by (simp only [go_sem, Nat.reduceLT])) ?_
   ·
    intro j hj1 hj2
    have hj : j = 0 ∨ j = 1 ∨ j = 2 := by omega
    rcases hj with rfl | rfl | rfl
    all_goals (refine ⟨?_, ?_⟩)
    all_goals (first | rfl | trivial | ((simp only [go_sem, simprocAttr, sw0, gx83, gx84, gx85]); first | done | rfl | omega | assumption | decide | (simp only [List.append_assoc, List.cons_append, List.nil_append]; done) | ((repeat (refine And.intro (by first | rfl | omega | assumption | decide) ?_)); first | rfl | omega | assumption | decide)))
   refine f8 [51, 57] (by first | rfl | (simp only [V.kill]; exact if_neg (by omega))) ?_ (by kernel_rfl) ?_
   · repeat (first | exact fun _ h => absurd h List.not_mem_nil | (refine List.forall_mem_cons.2 (And.intro ?_ ?_); · first | exact .inr rfl | (left; simp; done) | (right; simp only [V.kill, ↓reduceIte]; first | rfl | exact if_neg (by omega) | (simp only [V.kill, V.kill.kills, ↓reduceIte]; done))))
   refine f8 [59, 65] (by first | rfl | (simp only [V.kill]; exact if_neg (by omega))) ?_ (by kernel_rfl) ?_
   · repeat (first | exact fun _ h => absurd h List.not_mem_nil | (refine List.forall_mem_cons.2 (And.intro ?_ ?_); · first | exact .inr rfl | (left; simp; done) | (right; simp only [V.kill, ↓reduceIte]; first | rfl | exact if_neg (by omega) | (simp only [V.kill, V.kill.kills, ↓reduceIte]; done))))
   exact KeptX.nil
   try simp only [go_sem, simprocAttr]
   refine FWX.op (by decide) rfl (.ptr (t46.toNat + 7) 0) 0 2 (.inl rfl) (.inl rfl) ?_ ?_ (by (simp only [go_sem, Nat.reduceLT])) ?_
   ·
    intro j hj1 hj2
    have hj : j = 0 ∨ j = 1 ∨ j = 2 := by omega
    rcases hj with rfl | rfl | rfl
    all_goals (refine ⟨?_, ?_⟩)
    all_goals (first | rfl | trivial | ((simp only [go_sem, simprocAttr, sw0, gx83, gx84, gx85]); first | done | rfl | omega | assumption | decide | (simp only [List.append_assoc, List.cons_append, List.nil_append]; done) | ((repeat (refine And.intro (by first | rfl | omega | assumption | decide) ?_)); first | rfl | omega | assumption | decide)))
   refine f8 [51, 57] (by first | rfl | (simp only [V.kill]; exact if_neg (by omega))) ?_ (by kernel_rfl) ?_
   · repeat (first | exact fun _ h => absurd h List.not_mem_nil | (refine List.forall_mem_cons.2 (And.intro ?_ ?_); · first | exact .inr rfl | (left; simp; done) | (right; simp only [V.kill, ↓reduceIte]; first | rfl | exact if_neg (by omega) | (simp only [V.kill, V.kill.kills, ↓reduceIte]; done))))
   refine f8 [59, 65] (by first | rfl | (simp only [V.kill]; exact if_neg (by omega))) ?_ (by kernel_rfl) ?_
   · repeat (first | exact fun _ h => absurd h List.not_mem_nil | (refine List.forall_mem_cons.2 (And.intro ?_ ?_); · first | exact .inr rfl | (left; simp; done) | (right; simp only [V.kill, ↓reduceIte]; first | rfl | exact if_neg (by omega) | (simp only [V.kill, V.kill.kills, ↓reduceIte]; done))))
   exact KeptX.nil
   try simp only [go_sem, simprocAttr]
   refine FWX.op (by decide) rfl (.ptr (t46.toNat + 7) 11) 0 2 (.inl rfl) (.inl rfl) ?_ ?_ (by (simp only [go_sem, Nat.reduceLT])) ?_
   ·
    intro j hj1 hj2
    have hj : j = 0 ∨ j = 1 ∨ j = 2 := by omega
    rcases hj with rfl | rfl | rfl
    all_goals (refine ⟨?_, ?_⟩)
    all_goals (first | rfl | trivial | ((simp only [go_sem, simprocAttr, sw0, gx83, gx84, gx85]); first | done | rfl | omega | assumption | decide | (simp only [List.append_assoc, List.cons_append, List.nil_append]; done) | ((repeat (refine And.intro (by first | rfl | omega | assumption | decide) ?_)); first | rfl | omega | assumption | decide)))
   refine f8 [51, 57] (by first | rfl | (simp only [V.kill]; exact if_neg (by omega))) ?_ (by kernel_rfl) ?_
   · repeat (first | exact fun _ h => absurd h List.not_mem_nil | (refine List.forall_mem_cons.2 (And.intro ?_ ?_); · first | exact .inr rfl | (left; simp; done) | (right; simp only [V.kill, ↓reduceIte]; first | rfl | exact if_neg (by omega) | (simp only [V.kill, V.kill.kills, ↓reduceIte]; done))))
   refine f8 [59, 65] (by first | rfl | (simp only [V.kill]; exact if_neg (by omega))) ?_ (by kernel_rfl) ?_
   · repeat (first | exact fun _ h => absurd h List.not_mem_nil | (refine List.forall_mem_cons.2 (And.intro ?_ ?_); · first | exact .inr rfl | (left; simp; done) | (right; simp only [V.kill, ↓reduceIte]; first | rfl | exact if_neg (by omega) | (simp only [V.kill, V.kill.kills, ↓reduceIte]; done))))
   exact KeptX.nil
   try simp only [go_sem, simprocAttr]
   refine FWX.op (by decide) rfl (.d (I ((b73.getD t46.toNat default).2.2.2.2.2.2.2.2.2.2.2.1))) 0 2 (.inl rfl) (.inl rfl) ?_ ?_ (by (simp only [go_sem, Nat.reduceLT])) ?_
   ·
    intro j hj1 hj2
    have hj : j = 0 ∨ j = 1 ∨ j = 2 := by omega
    rcases hj with rfl | rfl | rfl
    all_goals (refine ⟨?_, ?_⟩)
    all_goals (first | rfl | trivial | ((simp only [go_sem, simprocAttr, sw0, gx83, gx84, gx85]); first | done | rfl | omega | assumption | decide | (simp only [List.append_assoc, List.cons_append, List.nil_append]; done) | ((repeat (refine And.intro (by first | rfl | omega | assumption | decide) ?_)); first | rfl | omega | assumption | decide)))
   refine f8 [51, 57] (by first | rfl | (simp only [V.kill]; exact if_neg (by omega))) ?_ (by kernel_rfl) ?_
   · repeat (first | exact fun _ h => absurd h List.not_mem_nil | (refine List.forall_mem_cons.2 (And.intro ?_ ?_); · first | exact .inr rfl | (left; simp; done) | (right; simp only [V.kill, ↓reduceIte]; first | rfl | exact if_neg (by omega) | (simp only [V.kill, V.kill.kills, ↓reduceIte]; done))))
   refine f8 [59, 65] (by first | rfl | (simp only [V.kill]; exact if_neg (by omega))) ?_ (by kernel_rfl) ?_
   · repeat (first | exact fun _ h => absurd h List.not_mem_nil | (refine List.forall_mem_cons.2 (And.intro ?_ ?_); · first | exact .inr rfl | (left; simp; done) | (right; simp only [V.kill, ↓reduceIte]; first | rfl | exact if_neg (by omega) | (simp only [V.kill, V.kill.kills, ↓reduceIte]; done))))
   exact KeptX.nil
   try simp only [go_sem, simprocAttr]
   refine FWX.op (by decide) rfl (.d (L ([(b73.getD t46.toNat default).2.2.2.2.2.2.2.2.2.2.2.1] : List Int))) 0 0 (.inl rfl) (.inr ⟨_, _, { on := 6, ground := .data }, rfl, rfl, by simp, rfl, rfl⟩) ?_ ?_ (by (simp only [go_sem, Nat.reduceLT])) ?_
   ·
    intro j hj1 hj2
    have hj : j = 0 := by omega
    subst hj
    all_goals (refine ⟨?_, ?_⟩)
    all_goals (first | rfl | trivial | ((simp only [go_sem, simprocAttr, sw0, gx83, gx84, gx85]); first | done | rfl | omega | assumption | decide | (simp only [List.append_assoc, List.cons_append, List.nil_append]; done) | ((repeat (refine And.intro (by first | rfl | omega | assumption | decide) ?_)); first | rfl | omega | assumption | decide)))
   refine KeptX.dep rfl rfl ⟨{ on := 6, ground := .data }, by simp, rfl, rfl⟩ ?_
   refine f8 [59, 65] (by first | rfl | (simp only [V.kill]; exact if_neg (by omega))) ?_ (by kernel_rfl) ?_
   · repeat (first | exact fun _ h => absurd h List.not_mem_nil | (refine List.forall_mem_cons.2 (And.intro ?_ ?_); · first | exact .inr rfl | (left; simp; done) | (right; simp only [V.kill, ↓reduceIte]; first | rfl | exact if_neg (by omega) | (simp only [V.kill, V.kill.kills, ↓reduceIte]; done))))
   exact KeptX.nil
   try simp only [go_sem, simprocAttr]
   refine FWX.append (b7.length + 9) (q := 0) (by decide) rfl rfl rfl rfl (Nat.le_of_ble_eq_true rfl) rfl (by first | decide | exact Nat.zero_le _) (.own (b7.length + 9) 0 ((b101 ++ ([(b73.getD t46.toNat default).2.2.2.2.2.2.2.2.2.2.2.1] : List Int)).length) 1) ?_ rfl ?_ ?_ ?_
   ·
    refine FreeX.of' rfl [51] ?_ (by kernel_rfl)
    · repeat (first | exact fun _ h => absurd h List.not_mem_nil | (refine List.forall_mem_cons.2 (And.intro ?_ ?_); · first | exact .inr rfl | (left; simp; done) | (right; simp only [V.kill, ↓reduceIte]; first | rfl | exact if_neg (by omega) | (simp only [V.kill, V.kill.kills, ↓reduceIte]; done))))
   · first | rfl | trivial | ((simp only [go_sem, simprocAttr, sw0, gx83, gx84, gx85]); first | done | rfl | omega | assumption | decide | (simp only [List.append_assoc, List.cons_append, List.nil_append]; done) | ((repeat (refine And.intro (by first | rfl | omega | assumption | decide) ?_)); first | rfl | omega | assumption | decide))
   · first | rfl | trivial | ((simp only [go_sem, simprocAttr, sw0, gx83, gx84, gx85]); first | done | rfl | omega | assumption | decide | (simp only [List.append_assoc, List.cons_append, List.nil_append]; done) | ((repeat (refine And.intro (by first | rfl | omega | assumption | decide) ?_)); first | rfl | omega | assumption | decide))
   try (simp only [go_sem, simprocAttr, sw0, gx83, gx84, gx85])
   refine FWX.op (by decide) rfl (.ptr (b7.length + 7) 2) 0 2 (.inl rfl) (.inl rfl) ?_ ?_ (by (simp only [go_sem, Nat.reduceLT])) ?_
   ·
    intro j hj1 hj2
    have hj : j = 0 ∨ j = 1 ∨ j = 2 := by omega
    rcases hj with rfl | rfl | rfl
    all_goals (refine ⟨?_, ?_⟩)
    all_goals (first | rfl | trivial | ((simp only [go_sem, simprocAttr, sw0, gx83, gx84, gx85]); first | done | rfl | omega | assumption | decide | (simp only [List.append_assoc, List.cons_append, List.nil_append]; done) | ((repeat (refine And.intro (by first | rfl | omega | assumption | decide) ?_)); first | rfl | omega | assumption | decide)))
   refine f8 [51, 57] (by first | rfl | (simp only [V.kill]; exact if_neg (by omega))) ?_ (by kernel_rfl) ?_
   · repeat (first | exact fun _ h => absurd h List.not_mem_nil | (refine List.forall_mem_cons.2 (And.intro ?_ ?_); · first | exact .inr rfl | (left; simp; done) | (right; simp only [V.kill, ↓reduceIte]; first | rfl | exact if_neg (by omega) | (simp only [V.kill, V.kill.kills, ↓reduceIte]; done))))
   refine f8 [59, 65] (by first | rfl | (simp only [V.kill]; exact if_neg (by omega))) ?_ (by kernel_rfl) ?_
   · repeat (first | exact fun _ h => absurd h List.not_mem_nil | (refine List.forall_mem_cons.2 (And.intro ?_ ?_); · first | exact .inr rfl | (left; simp; done) | (right; simp only [V.kill, ↓reduceIte]; first | rfl | exact if_neg (by omega) | (simp only [V.kill, V.kill.kills, ↓reduceIte]; done))))
   exact KeptX.nil
   try simp only [go_sem, simprocAttr]
   refine FWX.op (by decide) rfl (.own (b7.length + 10) 0 b113.length 1) 0 1 (.inl rfl) (.inr ⟨_, _, { on := 9, ground := .data }, rfl, rfl, by simp, rfl, rfl⟩) ?_ ?_ (by (simp only [go_sem, Nat.reduceLT])) ?_
   ·
    intro j hj1 hj2
    have hj : j = 0 ∨ j = 1 := by omega
    rcases hj with rfl | rfl
    all_goals (refine ⟨?_, ?_⟩)
    all_goals (first | rfl | trivial | ((simp only [go_sem, simprocAttr, sw0, gx83, gx84, gx85]); first | done | rfl | omega | assumption | decide | (simp only [List.append_assoc, List.cons_append, List.nil_append]; done) | ((repeat (refine And.intro (by first | rfl | omega | assumption | decide) ?_)); first | rfl | omega | assumption | decide)))
   refine f8 [51, 57] (by first | rfl | (simp only [V.kill]; exact if_neg (by omega))) ?_ (by kernel_rfl) ?_
   · repeat (first | exact fun _ h => absurd h List.not_mem_nil | (refine List.forall_mem_cons.2 (And.intro ?_ ?_); · first | exact .inr rfl | (left; simp; done) | (right; simp only [V.kill, ↓reduceIte]; first | rfl | exact if_neg (by omega) | (simp only [V.kill, V.kill.kills, ↓reduceIte]; done))))
   refine KeptX.dep rfl rfl ⟨{ on := 9, ground := .data }, by simp, rfl, rfl⟩ ?_
   exact KeptX.nil
   try simp only [go_sem, simprocAttr]
   refine FWX.op (by decide) rfl (.ptr (t46.toNat + 7) 0) 0 2 (.inl rfl) (.inl rfl) ?_ ?_ (by (simp only [go_sem, Nat.reduceLT])) ?_
   ·
    intro j hj1 hj2
    have hj : j = 0 ∨ j = 1 ∨ j = 2 := by omega
    rcases hj with rfl | rfl | rfl
    all_goals (refine ⟨?_, ?_⟩)
    all_goals (first | rfl | trivial | ((simp only [go_sem, simprocAttr, sw0, gx83, gx84, gx85]); first | done | rfl | omega | assumption | decide | (simp only [List.append_assoc, List.cons_append, List.nil_append]; done) | ((repeat (refine And.intro (by first | rfl | omega | assumption | decide) ?_)); first | rfl | omega | assumption | decide)))
   refine f8 [51, 57] (by first | rfl | (simp only [V.kill]; exact if_neg (by omega))) ?_ (by kernel_rfl) ?_
   · repeat (first | exact fun _ h => absurd h List.not_mem_nil | (refine List.forall_mem_cons.2 (And.intro ?_ ?_); · first | exact .inr rfl | (left; simp; done) | (right; simp only [V.kill, ↓reduceIte]; first | rfl | exact if_neg (by omega) | (simp only [V.kill, V.kill.kills, ↓reduceIte]; done))))
   refine f8 [59, 65] (by first | rfl | (simp only [V.kill]; exact if_neg (by omega))) ?_ (by kernel_rfl) ?_
   · repeat (first | exact fun _ h => absurd h List.not_mem_nil | (refine List.forall_mem_cons.2 (And.intro ?_ ?_); · first | exact .inr rfl | (left; simp; done) | (right; simp only [V.kill, ↓reduceIte]; first | rfl | exact if_neg (by omega) | (simp only [V.kill, V.kill.kills, ↓reduceIte]; done))))
   exact KeptX.nil
   try simp only [go_sem, simprocAttr]
   refine FWX.op (by decide) rfl (.ptr (t46.toNat + 7) 0) 0 2 (.inl rfl) (.inl rfl) ?_ ?_ (by (simp only [go_sem, Nat.reduceLT])) ?_
   ·
    intro j hj1 hj2
    have hj : j = 0 ∨ j = 1 ∨ j = 2 := by omega
    rcases hj with rfl | rfl | rfl
    all_goals (refine ⟨?_, ?_⟩)
    all_goals (first | rfl | trivial | ((simp only [go_sem, simprocAttr, sw0, gx83, gx84, gx85]); first | done | rfl | omega | assumption | decide | (simp only [List.append_assoc, List.cons_append, List.nil_append]; done) | ((repeat (refine And.intro (by first | rfl | omega | assumption | decide) ?_)); first | rfl | omega | assumption | decide)))
   refine f8 [51, 57] (by first | rfl | (simp only [V.kill]; exact if_neg (by omega))) ?_ (by kernel_rfl) ?_
   · repeat (first | exact fun _ h => absurd h List.not_mem_nil | (refine List.forall_mem_cons.2 (And.intro ?_ ?_); · first | exact .inr rfl | (left; simp; done) | (right; simp only [V.kill, ↓reduceIte]; first | rfl | exact if_neg (by omega) | (simp only [V.kill, V.kill.kills, ↓reduceIte]; done))))
   refine f8 [59, 65] (by first | rfl | (simp only [V.kill]; exact if_neg (by omega))) ?_ (by kernel_rfl) ?_
   · repeat (first | exact fun _ h => absurd h List.not_mem_nil | (refine List.forall_mem_cons.2 (And.intro ?_ ?_); · first | exact .inr rfl | (left; simp; done) | (right; simp only [V.kill, ↓reduceIte]; first | rfl | exact if_neg (by omega) | (simp only [V.kill, V.kill.kills, ↓reduceIte]; done))))
   exact KeptX.nil
   try simp only [go_sem, simprocAttr]
   refine FWX.op (by decide) rfl (.ptr (t46.toNat + 7) 10) 0 2 (.inl rfl) (.inl rfl) ?_ ?_ (by (simp only [go_sem, Nat.reduceLT])) ?_
   ·
    intro j hj1 hj2
    have hj : j = 0 ∨ j = 1 ∨ j = 2 := by omega
    rcases hj with rfl | rfl | rfl
    all_goals (refine ⟨?_, ?_⟩)
    all_goals (first | rfl | trivial | ((simp only [go_sem, simprocAttr, sw0, gx83, gx84, gx85]); first | done | rfl | omega | assumption | decide | (simp only [List.append_assoc, List.cons_append, List.nil_append]; done) | ((repeat (refine And.intro (by first | rfl | omega | assumption | decide) ?_)); first | rfl | omega | assumption | decide)))
   refine f8 [51, 57] (by first | rfl | (simp only [V.kill]; exact if_neg (by omega))) ?_ (by kernel_rfl) ?_
   · repeat (first | exact fun _ h => absurd h List.not_mem_nil | (refine List.forall_mem_cons.2 (And.intro ?_ ?_); · first | exact .inr rfl | (left; simp; done) | (right; simp only [V.kill, ↓reduceIte]; first | rfl | exact if_neg (by omega) | (simp only [V.kill, V.kill.kills, ↓reduceIte]; done))))
   refine f8 [59, 65] (by first | rfl | (simp only [V.kill]; exact if_neg (by omega))) ?_ (by kernel_rfl) ?_
   · repeat (first | exact fun _ h => absurd h List.not_mem_nil | (refine List.forall_mem_cons.2 (And.intro ?_ ?_); · first | exact .inr rfl | (left; simp; done) | (right; simp only [V.kill, ↓reduceIte]; first | rfl | exact if_neg (by omega) | (simp only [V.kill, V.kill.kills, ↓reduceIte]; done))))
   exact KeptX.nil
   try simp only [go_sem, simprocAttr]
   refine FWX.op (by decide) rfl (.d (I ((b73.getD t46.toNat default).2.2.2.2.2.2.2.2.2.2.1))) 0 2 (.inl rfl) (.inl rfl) ?_ ?_ (by (simp only [go_sem, Nat.reduceLT])) ?_
   ·
    intro j hj1 hj2
    have hj : j = 0 ∨ j = 1 ∨ j = 2 := by omega
    rcases hj with rfl | rfl | rfl
    all_goals (refine ⟨?_, ?_⟩)
    all_goals (first | rfl | trivial | ((simp only [go_sem, simprocAttr, sw0, gx83, gx84, gx85]); first | done | rfl | omega | assumption | decide | (simp only [List.append_assoc, List.cons_append, List.nil_append]; done) | ((repeat (refine And.intro (by first | rfl | omega | assumption | decide) ?_)); first | rfl | omega | assumption | decide)))
   refine f8 [51, 57] (by first | rfl | (simp only [V.kill]; exact if_neg (by omega))) ?_ (by kernel_rfl) ?_
   · repeat (first | exact fun _ h => absurd h List.not_mem_nil | (refine List.forall_mem_cons.2 (And.intro ?_ ?_); · first | exact .inr rfl | (left; simp; done) | (right; simp only [V.kill, ↓reduceIte]; first | rfl | exact if_neg (by omega) | (simp only [V.kill, V.kill.kills, ↓reduceIte]; done))))
   refine f8 [59, 65] (by first | rfl | (simp only [V.kill]; exact if_neg (by omega))) ?_ (by kernel_rfl) ?_
   · repeat (first | exact fun _ h => absurd h List.not_mem_nil | (refine List.forall_mem_cons.2 (And.intro ?_ ?_); · first | exact .inr rfl | (left; simp; done) | (right; simp only [V.kill, ↓reduceIte]; first | rfl | exact if_neg (by omega) | (simp only [V.kill, V.kill.kills, ↓reduceIte]; done))))
   exact KeptX.nil
   try simp only [go_sem, simprocAttr]
   refine FWX.op (by decide) rfl (.d (L ([(b73.getD t46.toNat default).2.2.2.2.2.2.2.2.2.2.1] : List Int))) 0 1 (.inl rfl) (.inr ⟨_, _, { on := 14, ground := .data }, rfl, rfl, by simp, rfl, rfl⟩) ?_ ?_ (by (simp only [go_sem, Nat.reduceLT])) ?_
   ·
    intro j hj1 hj2
    have hj : j = 0 ∨ j = 1 := by omega
    rcases hj with rfl | rfl
    all_goals (refine ⟨?_, ?_⟩)
    all_goals (first | rfl | trivial | ((simp only [go_sem, simprocAttr, sw0, gx83, gx84, gx85]); first | done | rfl | omega | assumption | decide | (simp only [List.append_assoc, List.cons_append, List.nil_append]; done) | ((repeat (refine And.intro (by first | rfl | omega | assumption | decide) ?_)); first | rfl | omega | assumption | decide)))
   refine f8 [51, 57] (by first | rfl | (simp only [V.kill]; exact if_neg (by omega))) ?_ (by kernel_rfl) ?_
   · repeat (first | exact fun _ h => absurd h List.not_mem_nil | (refine List.forall_mem_cons.2 (And.intro ?_ ?_); · first | exact .inr rfl | (left; simp; done) | (right; simp only [V.kill, ↓reduceIte]; first | rfl | exact if_neg (by omega) | (simp only [V.kill, V.kill.kills, ↓reduceIte]; done))))
   refine KeptX.dep rfl rfl ⟨{ on := 14, ground := .data }, by simp, rfl, rfl⟩ ?_
   exact KeptX.nil
   try simp only [go_sem, simprocAttr]
   refine FWX.append (b7.length + 10) (q := 1) (by decide) rfl rfl rfl rfl (Nat.le_of_ble_eq_true rfl) rfl (by first | decide | exact Nat.zero_le _) (.own (b7.length + 10) 0 ((b113 ++ ([(b73.getD t46.toNat default).2.2.2.2.2.2.2.2.2.2.1] : List Int)).length) 1) ?_ rfl ?_ ?_ ?_
   ·
    refine FreeX.of' rfl [59] ?_ (by kernel_rfl)
    · repeat (first | exact fun _ h => absurd h List.not_mem_nil | (refine List.forall_mem_cons.2 (And.intro ?_ ?_); · first | exact .inr rfl | (left; simp; done) | (right; simp only [V.kill, ↓reduceIte]; first | rfl | exact if_neg (by omega) | (simp only [V.kill, V.kill.kills, ↓reduceIte]; done))))
   · first | rfl | trivial | ((simp only [go_sem, simprocAttr, sw0, gx83, gx84, gx85]); first | done | rfl | omega | assumption | decide | (simp only [List.append_assoc, List.cons_append, List.nil_append]; done) | ((repeat (refine And.intro (by first | rfl | omega | assumption | decide) ?_)); first | rfl | omega | assumption | decide))
   · first | rfl | trivial | ((simp only [go_sem, simprocAttr, sw0, gx83, gx84, gx85]); first | done | rfl | omega | assumption | decide | (simp only [List.append_assoc, List.cons_append, List.nil_append]; done) | ((repeat (refine And.intro (by first | rfl | omega | assumption | decide) ?_)); first | rfl | omega | assumption | decide))
   try (simp only [go_sem, simprocAttr, sw0, gx83, gx84, gx85])
   refine FWX.op (by decide) rfl (.ptr (b7.length + 7) 1) 1 2 (.inr ⟨{ on := 7, ground := .phase }, by simp, rfl, rfl⟩) (.inl rfl) ?_ ?_ (by (simp only [go_sem, Nat.reduceLT])) ?_
   ·
    intro j hj1 hj2
    have hj : j = 1 ∨ j = 2 := by omega
    rcases hj with rfl | rfl
    all_goals (refine ⟨?_, ?_⟩)
    all_goals (first | rfl | trivial | ((simp only [go_sem, simprocAttr, sw0, gx83, gx84, gx85]); first | done | rfl | omega | assumption | decide | (simp only [List.append_assoc, List.cons_append, List.nil_append]; done) | ((repeat (refine And.intro (by first | rfl | omega | assumption | decide) ?_)); first | rfl | omega | assumption | decide)))
   refine KeptX.depR rfl ⟨{ on := 7, ground := .phase }, by simp, rfl, rfl⟩ ?_
   refine f8 [59, 65] (by first | rfl | (simp only [V.kill]; exact if_neg (by omega))) ?_ (by kernel_rfl) ?_
   · repeat (first | exact fun _ h => absurd h List.not_mem_nil | (refine List.forall_mem_cons.2 (And.intro ?_ ?_); · first | exact .inr rfl | (left; simp; done) | (right; simp only [V.kill, ↓reduceIte]; first | rfl | exact if_neg (by omega) | (simp only [V.kill, V.kill.kills, ↓reduceIte]; done))))
   exact KeptX.nil
   try simp only [go_sem, simprocAttr]
   refine FWX.nil ?_
   change OW _ _ _ _ _ _
   change OW _ _ _ _ _ _
   refine OW.run [6, 10, 44, 45, 46] ?_
   (simp only [go_sem, simprocAttr, sw0, d4 b7.length a9 b73 _ t46.toNat (by omega)])
   repeat (refine And.intro (by omega) ?_)
   refine OW.nil (hK _ ?_); clear hK K
   refine a0 fun K hK => OW.run [6, 10, 44, 45, 46] ?_
   simp only [go_sem, simprocAttr, sw0]
   refine OW.nil (hK _ ?_); clear hK K
   refine hN78 [] (w64 (t46 + (1 : Int)), (b101 ++ ([(b73.getD t46.toNat default).2.2.2.2.2.2.2.2.2.2.2.1] : List Int)), (b113 ++ ([(b73.getD t46.toNat default).2.2.2.2.2.2.2.2.2.2.1] : List Int))) _ H (by exact trivial) ?_
   simp only [sw1, go_sem, simprocAttr]
  replace H := k8 h79 H
  refine j3 ?_
  refine hN77 [] (b101, b113) _ H (by exact trivial) ?_
  simp only [sw1, go_sem, simprocAttr]
  rintro ⟨b10, b112⟩ H
  try simp only [go_sem, simprocAttr]
  refine a5 ?_
  refine a0 fun K hK => OW.run [6, 7] ?_
  simp only [go_sem, simprocAttr, sw0]
  refine OW.nil (hK _ ?_); clear hK K
  refine f4 ?_
  change PW.Ends _ _ _ _ _ _
  refine PW.Ends.intro (.inr rfl) ?_
  simp only [go_sem, simprocAttr, sw0]
  obtain rfl := Option.some.inj H
  refine a6 4 (by (refine a7 ?_; (simp only [go_sem, sw2, List.length_set, List.length_replicate, and_true, true_and, Nat.le_refl, simprocAttr]; done))) ?_
  · (((simp only [go_sem, sw1, simprocAttr]; try simp only [seg, go_sem, simprocAttr])); done)
end Go.Proofs.Ytabojpkmfkjjkaa
