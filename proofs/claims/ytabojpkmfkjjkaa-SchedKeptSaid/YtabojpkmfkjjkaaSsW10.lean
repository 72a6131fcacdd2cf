import Derived.Test.YtabojpkmfkjjkaaSsBase
import Derived.Test.YtabojpkmfkjjkaaSsW0
import Derived.Test.YtabojpkmfkjjkaaSsW1
import Derived.Test.YtabojpkmfkjjkaaSsW2
import Derived.Test.YtabojpkmfkjjkaaSsW3
import Derived.Test.YtabojpkmfkjjkaaSsW9
set_option linter.all false
namespace Go.Proofs.Ytabojpkmfkjjkaa
open Go.PW Go.Sh

set_option maxRecDepth 20000
set_option maxHeartbeats 8000000
def scqW10 := And.intro @List.length_set <| And.intro @List.length_replicate <| And.intro @and_true <| And.intro @true_and @Nat.le_refl
theorem sched_FirstLate_ok (N : Nat) (Zq : Int) (Zr : Int) (Zs : Int) (Zx : List Int) (l : List TB) (slots : List (List Int × List Int)) (r : Int × Int × Int) (H : sched_FirstLate N Zq Zr Zs Zx l slots = some r) : CallOK Try.prog 57 [(.agg [(I Zq), (I Zr), (I Zs), (L Zx)]), (.list l.length (l.flatMap (fun (x : ByteArray × Int × Int × Int × Int × Int × Int × Int × Int) => [(Sx x.1), (I x.2.1), (I x.2.2.1), (I x.2.2.2.1), (I x.2.2.2.2.1), (I x.2.2.2.2.2.1), (I x.2.2.2.2.2.2.1), (I x.2.2.2.2.2.2.2.1), (I x.2.2.2.2.2.2.2.2)]))), (.list slots.length (slots.flatMap (fun (x : List Int × List Int) => [(L x.1), (L x.2)])))] (.d (.tup [(.agg [(I r.1), (I r.2.1)]), (I r.2.2)])) [] := by
 refine d4 Try.func57 rfl (by rw [Try.results57]) Try.ntmps57 Try.call57 ?_
 change PW _ _ _ _ _
 try simp only [go_sem, simprocAttr]
 unfold sched_FirstLate at H
 refine a5 ?_
 refine a0 fun K hK => OW.run [1, 2, 3, 6] ?_
 simp only [go_sem, simprocAttr, sw0]
 refine OW.nil (hK _ ?_); clear hK K
 refine a5 ?_
 refine a0 fun K hK => OW.run [2, 6, 8, 9] ?_
 simp only [go_sem, simprocAttr, sw0]
 refine OW.inline rfl rfl rfl (by ((simp only [go_sem, List.toList_toArray, simprocAttr]); exact rfl)) Try.func104 rfl (by rw [Try.results104]) Try.ntmps104 Try.call104 (by (simp only [go_sem, Nat.reduceLT])) ?_
 intro us p
 change PW _ _ _ _ _
 try simp only [go_sem, simprocAttr]
 refine a5 ?_
 refine a0 fun K hK => OW.run [1, 2, 3] ?_
 simp only [go_sem, simprocAttr, sw0]
 refine OW.nil (hK _ ?_); clear hK K
 refine a5 ?_
 obtain ⟨⟨x1, x11, x12, x13, x14⟩, e1, H⟩ := a8 H
 refine a0 fun K hK => OW.run [1, 2, 8, 9] ?_
 simp only [go_sem, simprocAttr, sw0]
 refine d8 4 rfl rfl rfl (by ((simp only [go_sem, List.toList_toArray, simprocAttr]); exact rfl)) ?_ (sched_openAll_ok N _ _ _ _ _ _ e1) ?_ ?_ ?_ ?_
 rfl
 · (refine a7 ?_; (simp only [go_sem, sw2, scqW10, simprocAttr]; done))
 exact .inl rfl
 (simp only [go_sem, Nat.reduceLT])
 refine OW.run [1, 2, 8, 9] ?_
 simp only [go_sem, simprocAttr, sw0]
 refine OW.nil (hK _ ?_); clear hK K
 refine a5 ?_
 refine a5 ?_
 refine a0 fun K hK => OW.run [1, 2, 8, 9, 17] ?_
 simp only [go_sem, simprocAttr, sw0]
 refine OW.nil (hK _ ?_); clear hK K
 refine d6 rfl (fun h1 => ?_) (fun h1 => ?_)
 replace H := l4 h1 H
 refine a5 ?_
 refine a0 fun K hK => OW.run [6, 7] ?_
 simp only [go_sem, simprocAttr, sw0]
 refine OW.nil (hK _ ?_); clear hK K
 refine f0 ?_
 refine ⟨.inr rfl, rfl, rfl, ?_⟩
 simp only [go_sem, simprocAttr, sw0]
 change OW _ _ _ _ _ _
 refine OW.run [2, 6, 8, 9] ?_
 simp only [go_sem, simprocAttr, sw0]
 refine OW.nil (hK _ ?_); clear hK K
 refine a5 ?_
 refine a5 ?_
 refine a0 fun K hK => OW.run [2, 6, 8, 9, 24] ?_
 simp only [go_sem, simprocAttr, sw0]
 refine OW.nil (hK _ ?_); clear hK K
 refine d6 rfl (fun h2 => ?_) (fun h2 => ?_)
 replace H := l4 h2 H
 refine a5 ?_
 refine a0 fun K hK => OW.run [6, 7] ?_
 simp only [go_sem, simprocAttr, sw0]
 refine OW.nil (hK _ ?_); clear hK K
 refine f0 ?_
 change PW.Ends _ _ _ _ _ _
 refine PW.Ends.intro (.inr rfl) ?_
 simp only [go_sem, simprocAttr, sw0]
 obtain rfl := Option.some.inj H
 refine a6 4 (by (refine a7 ?_; (simp only [go_sem, sw2, scqW10, simprocAttr]; done))) ?_
 rfl
 replace H := l5 h2 H
 refine d7 ?_
 refine f8 (τ := Unit) [6] 2 (fun _ => []) (fun _ => [{ cells := [.d (I Zq), .d (I Zr), .d (I Zs), .d (L Zx)], e := 24 }, { cells := [.d (I (0 : Int)), .d (I (0 : Int))], e := 86 }]) _ _ r (by exact Nat.zero_le _) H ?_ ?_
 intro K_ H N3 hN3
 refine a5 ?_
 refine a0 fun K hK => OW.run [2, 6, 8, 27, 28, 29] ?_
 simp only [go_sem, simprocAttr, sw0]
 refine OW.nil (hK _ ?_); clear hK K
 refine PW.block ?_
 refine g9 (σ := Unit) [2, 6, 8, 27, 28, 29] 4 (fun _ => []) (fun _ => [{ cells := [.d (I Zq), .d (I Zr), .d (I Zs), .d (L Zx)], e := 24 }, { cells := [.d (I (0 : Int)), .d (I (0 : Int))], e := 86 }, { cells := [.d (I Zq), .d (I Zr), .d (I Zs), .d (L Zx)], e := 24 }, { cells := [.d (I x1), .d (I x11), .d (I x12), .d (L x13)], e := 141 }]) (sched_FirstLate.b1 N slots K_) r N () (by exact Nat.zero_le _) H (by (simp only [sw1, go_sem, simprocAttr]; done)) ?_
 rintro n _ H N4 hN4
 unfold sched_FirstLate.b1 at H
 try simp only [go_sem, simprocAttr]
 refine a5 ?_
 refine a0 fun K hK => OW.run [2, 6, 8, 27, 28, 29, 30] ?_
 simp only [go_sem, simprocAttr, sw0]
 refine OW.nil (hK _ ?_); clear hK K
 refine a5 ?_
 refine d6 rfl (fun h5 => ?_) (fun h5 => ?_)
 replace H := l4 h5 H
 cases H
 replace H := l5 h5 H
 refine i9 ?_
 refine hN3 [] () _ H (by exact trivial) ?_
 simp only [sw1, go_sem, simprocAttr]
 rintro _ H
 try simp only [go_sem, simprocAttr]
 refine a5 ?_
 refine a0 fun K hK => OW.run [6, 7] ?_
 simp only [go_sem, simprocAttr, sw0]
 refine OW.nil (hK _ ?_); clear hK K
 refine f0 ?_
 change PW.Ends _ _ _ _ _ _
 refine PW.Ends.intro (.inr rfl) ?_
 simp only [go_sem, simprocAttr, sw0]
 obtain rfl := Option.some.inj H
 refine a6 4 (by (refine a7 ?_; (simp only [go_sem, sw2, scqW10, simprocAttr]; done))) ?_
 rfl
 ·
  replace H := l5 h1 H
  refine d7 ?_
  refine a5 ?_
  obtain ⟨b7, e2, H⟩ := a8 H
  obtain ⟨x4, e4, H⟩ := a8 H
  refine PW.drawX 7 [2] (fun j => List.getD [[{ cells := [.d (I Zq), .d (I Zr), .d (I Zs), .d (L Zx)], e := 24 }, { cells := [.d (I (0 : Int)), .d (I (0 : Int))], e := 86 }, { cells := [.d (I Zq), .d (I Zr), .d (I Zs), .d (L Zx)], e := 24 }, { cells := [.d (I x1), .d (I x11), .d (I x12), .d (L x13)], e := 141 }], ({ cells := [.d (I Zq), .d (I Zr), .d (I Zs), .d (L Zx)], e := 24 } :: { cells := [.d (I (0 : Int)), .d (I (0 : Int))], e := 86 } :: { cells := [.d (I Zq), .d (I Zr), .d (I Zs), .d (L Zx)], e := 24 } :: { cells := [.d (I x1), .d (I x11), .d (I x12), .d (L x13)], e := 141 } :: { cells := [], e := 141 } :: { cells := [.d (I x1), .d (I x11), .d (I x12), .d (L x13), .own 6 0 b7.length 1], e := 163 } :: { cells := u6 7 b7.length, e := 164 } :: o7 b7.length a9 b7)] j []) (fun _ v => v) q6 (by kernel_rfl) (by decide) (by ((refine ⟨by decide, ?_⟩; intro k i i' h1 h2 o ho; match k, h1, h2 with | 0, h1, h2 => (simp at h1 h2 <;> first | (cases h2; done) | (subst h1; subst h2; simp at ho; subst ho; simp [Region.binds]; done)) | 1, h1, h2 => (simp at h1 h2 <;> first | (cases h2; done) | (subst h1; subst h2; simp at ho; subst ho; simp [Region.binds]; done)) | 2, h1, h2 => (simp at h1 h2 <;> first | (cases h2; done) | (subst h1; subst h2; simp at ho; subst ho; simp [Region.binds]; done)) | k + 3, h1, h2 => (simp at h2; done)))) (fun _ => rfl) (by decide) (freshL rfl) rfl rfl fun K hK => ?_
  change FWX _ _ _ _ _ _ _ _ _ _
  refine FWX.op (by decide) rfl (.agg [.d (I x1), .d (I x11), .d (I x12), .d (L x13)]) 0 0 (.inl rfl) (.inr ⟨_, _, { on := 0, ground := .data }, rfl, rfl, by simp, rfl, rfl⟩) ?_ ?_ (by (simp only [go_sem, Nat.reduceLT])) ?_
  ·
   intro j hj1 hj2
   have hj : j = 0 := by omega
   subst hj
   all_goals (refine ⟨?_, ?_⟩)
   all_goals (first | rfl | trivial | (simp only [go_sem, simprocAttr, sw0]; first | done | rfl | omega | assumption | decide | (simp only [List.append_assoc, List.cons_append, List.nil_append]; done) | ((repeat (refine And.intro (by first | rfl | omega | assumption | decide) ?_)); first | rfl | omega | assumption | decide)))
  exact KeptX.same fun _ _ => rfl
  try simp only [go_sem, simprocAttr]
  refine FWX.op (by decide) rfl (.d (.list l.length (l.flatMap (fun (x : ByteArray × Int × Int × Int × Int × Int × Int × Int × Int) => [(Sx x.1), (I x.2.1), (I x.2.2.1), (I x.2.2.2.1), (I x.2.2.2.2.1), (I x.2.2.2.2.2.1), (I x.2.2.2.2.2.2.1), (I x.2.2.2.2.2.2.2.1), (I x.2.2.2.2.2.2.2.2)])))) 0 0 (.inl rfl) (.inr ⟨_, _, { on := 1, ground := .data }, rfl, rfl, by simp, rfl, rfl⟩) ?_ ?_ (by (simp only [go_sem, Nat.reduceLT])) ?_
  ·
   intro j hj1 hj2
   have hj : j = 0 := by omega
   subst hj
   all_goals (refine ⟨?_, ?_⟩)
   all_goals (first | rfl | trivial | (simp only [go_sem, simprocAttr, sw0]; first | done | rfl | omega | assumption | decide | (simp only [List.append_assoc, List.cons_append, List.nil_append]; done) | ((repeat (refine And.intro (by first | rfl | omega | assumption | decide) ?_)); first | rfl | omega | assumption | decide)))
  exact KeptX.same fun _ _ => rfl
  try simp only [go_sem, simprocAttr]
  refine FWX.callM (q := 0) (r := (.ptr 5 0)) (by decide) rfl rfl rfl rfl (sched_Run_m1_ok N x1 x11 x12 x13 l ⟨[.d (I Zq), .d (I Zr), .d (I Zs), .d (L Zx)], (m9 (m9 (m9 (m9 t3))))⟩ 24 ⟨[.d (I (0 : Int)), .d (I (0 : Int))], (m9 (m9 t3))⟩ 86 ⟨[.d (I Zq), .d (I Zr), .d (I Zs), .d (L Zx)], (m9 (m9 (m9 (m9 t3))))⟩ 24 ⟨[.d (I x1), .d (I x11), .d (I x12), .d (L x13)], (m9 (m9 (m9 (m9 t3))))⟩ 141 b7  e2) (by (simp only [go_sem]; omega)) (fun _ => rfl) (by (simp only [go_sem, Nat.reduceLT])) ?_
  try simp only [go_sem, simprocAttr]
  refine FWX.op (by decide) rfl (.agg [.d (I x1), .d (I x11), .d (I x12), .d (L x13)]) 0 1 (.inl rfl) (.inl rfl) ?_ ?_ (by (simp only [go_sem, Nat.reduceLT])) ?_
  ·
   intro j hj1 hj2
   have hj : j = 0 ∨ j = 1 := by omega
   rcases hj with rfl | rfl
   all_goals (refine ⟨?_, ?_⟩)
   all_goals (first | rfl | trivial | (simp only [go_sem, simprocAttr, sw0]; first | done | rfl | omega | assumption | decide | (simp only [List.append_assoc, List.cons_append, List.nil_append]; done) | ((repeat (refine And.intro (by first | rfl | omega | assumption | decide) ?_)); first | rfl | omega | assumption | decide)))
  exact KeptX.same fun _ _ => rfl
  try simp only [go_sem, simprocAttr]
  refine FWX.op (by decide) rfl (.d (.list l.length (l.flatMap (fun (x : ByteArray × Int × Int × Int × Int × Int × Int × Int × Int) => [(Sx x.1), (I x.2.1), (I x.2.2.1), (I x.2.2.2.1), (I x.2.2.2.2.1), (I x.2.2.2.2.2.1), (I x.2.2.2.2.2.2.1), (I x.2.2.2.2.2.2.2.1), (I x.2.2.2.2.2.2.2.2)])))) 0 1 (.inl rfl) (.inl rfl) ?_ ?_ (by (simp only [go_sem, Nat.reduceLT])) ?_
  ·
   intro j hj1 hj2
   have hj : j = 0 ∨ j = 1 := by omega
   rcases hj with rfl | rfl
   all_goals (refine ⟨?_, ?_⟩)
   all_goals (first | rfl | trivial | (simp only [go_sem, simprocAttr, sw0]; first | done | rfl | omega | assumption | decide | (simp only [List.append_assoc, List.cons_append, List.nil_append]; done) | ((repeat (refine And.intro (by first | rfl | omega | assumption | decide) ?_)); first | rfl | omega | assumption | decide)))
  exact KeptX.same fun _ _ => rfl
  try simp only [go_sem, simprocAttr]
  refine FWX.op (by decide) rfl (.d (I (l.length : Int))) 0 1 (.inl rfl) (.inl rfl) ?_ ?_ (by (simp only [go_sem, Nat.reduceLT])) ?_
  ·
   intro j hj1 hj2
   have hj : j = 0 ∨ j = 1 := by omega
   rcases hj with rfl | rfl
   all_goals (refine ⟨?_, ?_⟩)
   all_goals (first | rfl | trivial | (simp only [go_sem, simprocAttr, sw0]; first | done | rfl | omega | assumption | decide | (simp only [List.append_assoc, List.cons_append, List.nil_append]; done) | ((repeat (refine And.intro (by first | rfl | omega | assumption | decide) ?_)); first | rfl | omega | assumption | decide)))
  exact KeptX.same fun _ _ => rfl
  try simp only [go_sem, simprocAttr]
  refine FWX.op (by decide) rfl (.d (.list slots.length (slots.flatMap (fun (x : List Int × List Int) => [(L x.1), (L x.2)])))) 0 1 (.inl rfl) (.inl rfl) ?_ ?_ (by (simp only [go_sem, Nat.reduceLT])) ?_
  ·
   intro j hj1 hj2
   have hj : j = 0 ∨ j = 1 := by omega
   rcases hj with rfl | rfl
   all_goals (refine ⟨?_, ?_⟩)
   all_goals (first | rfl | trivial | (simp only [go_sem, simprocAttr, sw0]; first | done | rfl | omega | assumption | decide | (simp only [List.append_assoc, List.cons_append, List.nil_append]; done) | ((repeat (refine And.intro (by first | rfl | omega | assumption | decide) ?_)); first | rfl | omega | assumption | decide)))
  exact KeptX.same fun _ _ => rfl
  try simp only [go_sem, simprocAttr]
  refine FWX.nil ?_
  change OW _ _ _ _ _ _
  change OW _ _ _ _ _ _
  refine OW.run [6, 7] ?_
  simp only [go_sem, simprocAttr, sw0]
  refine d8 4 rfl rfl rfl (by ((simp only [go_sem, List.toList_toArray, simprocAttr]); exact rfl)) ?_ (sched_site_slotsErr_ok N _ _ _ _ _ _ _ e4) ?_ ?_ ?_ ?_
  rfl
  · (refine a7 ?_; (simp only [go_sem, sw2, scqW10, simprocAttr]; done))
  exact .inl rfl
  (simp only [go_sem, Nat.reduceLT])
  refine OW.run [6, 7] ?_
  simp only [go_sem, simprocAttr, sw0]
  refine OW.nil (hK _ ?_); clear hK K
  refine f0 ?_
  refine ⟨.inr rfl, rfl, rfl, ?_⟩
  simp only [go_sem, simprocAttr, sw0]
  change OW _ _ _ _ _ _
  refine OW.run [2, 6, 8, 9] ?_
  simp only [go_sem, simprocAttr, sw0]
  refine OW.nil (hK _ ?_); clear hK K
  refine a5 ?_
  refine a5 ?_
  refine a0 fun K hK => OW.run [2, 6, 8, 9, 24] ?_
  simp only [go_sem, simprocAttr, sw0]
  refine OW.nil (hK _ ?_); clear hK K
  refine d6 rfl (fun h11 => ?_) (fun h11 => ?_)
  replace H := l4 h11 H
  refine a5 ?_
  refine a0 fun K hK => OW.run [6, 7] ?_
  simp only [go_sem, simprocAttr, sw0]
  refine OW.nil (hK _ ?_); clear hK K
  refine f0 ?_
  change PW.Ends _ _ _ _ _ _
  refine PW.Ends.intro (.inr rfl) ?_
  simp only [go_sem, simprocAttr, sw0]
  obtain rfl := Option.some.inj H
  refine a6 4 (by (refine a7 ?_; (simp only [go_sem, sw2, scqW10, simprocAttr]; done))) ?_
  rfl
  replace H := l5 h11 H
  refine d7 ?_
  refine f8 (τ := (List TU)) [6] (b7.length + 9) (fun b73 => []) (fun b73 => { cells := [.d (I Zq), .d (I Zr), .d (I Zs), .d (L Zx)], e := 24 } :: { cells := [.d (I (0 : Int)), .d (I (0 : Int))], e := 86 } :: { cells := [.d (I Zq), .d (I Zr), .d (I Zs), .d (L Zx)], e := 24 } :: { cells := [.d (I x1), .d (I x11), .d (I x12), .d (L x13)], e := 141 } :: { cells := [], e := 141 } :: { cells := [.d (I x1), .d (I x11), .d (I x12), .d (L x13), .own 6 0 b7.length 1], e := 163 } :: { cells := u6 7 b7.length, e := 164 } :: (o7 b7.length a9 b73 ++ [{ cells := [], e := 52 }, { cells := [], e := 22 }])) _ _ r (by exact Nat.zero_le _) H ?_ ?_
  intro K_2 H N12 hN12
  refine a5 ?_
  refine a0 fun K hK => OW.run [2, 6, 8, 27, 28, 29] ?_
  simp only [go_sem, simprocAttr, sw0]
  refine OW.nil (hK _ ?_); clear hK K
  refine PW.block ?_
  refine PW.pad [52, 22] ?_
  simp only [List.map_cons, List.map_nil, List.append_assoc, List.cons_append, List.nil_append]
  refine g9 (σ := Int × (List TU)) [2, 6, 8, 27, 28, 29] (b7.length + 9) (fun (t29, b74) => [(29, .d (I t29))]) (fun (t29, b74) => { cells := [.d (I Zq), .d (I Zr), .d (I Zs), .d (L Zx)], e := 24 } :: { cells := [.d (I (0 : Int)), .d (I (0 : Int))], e := 86 } :: { cells := [.d (I Zq), .d (I Zr), .d (I Zs), .d (L Zx)], e := 24 } :: { cells := [.d (I x1), .d (I x11), .d (I x12), .d (L x13)], e := 141 } :: { cells := [], e := 141 } :: { cells := [.d (I x1), .d (I x11), .d (I x12), .d (L x13), .own 6 0 b7.length 1], e := 163 } :: { cells := u6 7 b7.length, e := 164 } :: (o7 b7.length a9 b74 ++ [{ cells := [], e := 52 }, { cells := [], e := 22 }])) (t6 N slots x1 x11 x12 x13 b7 K_2) r N ((0 : Int), b7) (by exact Nat.zero_le _) H (by (simp only [sw1, go_sem, simprocAttr]; done)) ?_
  rintro n ⟨t29, b74⟩ H N13 hN13
  unfold t6 at H
  try simp only [go_sem, simprocAttr]
  refine a5 ?_
  refine a0 fun K hK => OW.run [2, 6, 8, 27, 28, 29, 30] ?_
  simp only [go_sem, simprocAttr, sw0]
  refine OW.nil (hK _ ?_); clear hK K
  refine a5 ?_
  refine d6 rfl (fun h14 => ?_) (fun h14 => ?_)
  replace H := l4 h14 H
  refine d7 ?_
  refine f8 (τ := (List TU)) [2, 6, 8, 27, 28, 29] (b7.length + 9) (fun b75 => []) (fun b75 => { cells := [.d (I Zq), .d (I Zr), .d (I Zs), .d (L Zx)], e := 24 } :: { cells := [.d (I (0 : Int)), .d (I (0 : Int))], e := 86 } :: { cells := [.d (I Zq), .d (I Zr), .d (I Zs), .d (L Zx)], e := 24 } :: { cells := [.d (I x1), .d (I x11), .d (I x12), .d (L x13)], e := 141 } :: { cells := [], e := 141 } :: { cells := [.d (I x1), .d (I x11), .d (I x12), .d (L x13), .own 6 0 b7.length 1], e := 163 } :: { cells := u6 7 b7.length, e := 164 } :: (o7 b7.length a9 b75 ++ [{ cells := [], e := 52 }, { cells := [], e := 22 }])) _ _ r (by exact Nat.zero_le _) H ?_ ?_
  intro K_3 H N15 hN15
  refine PW.block ?_
  refine a5 ?_
  obtain ⟨c16, H⟩ := d3 H
  refine a0 fun K hK => OW.run [2, 6, 8, 10, 11, 27, 28, 29] ?_
  (simp only [go_sem, simprocAttr, sw0, f4 2 (fun (x : List Int × List Int) => [(L x.1), (L x.2)]) (fun _ => rfl), q9 2 (fun (x : List Int × List Int) => [(L x.1), (L x.2)]) (fun _ => rfl) slots t29.toNat (by omega)])
  repeat (refine And.intro (by omega) ?_)
  refine OW.nil (hK _ ?_); clear hK K
  refine a5 ?_
  obtain ⟨⟨l1, b76⟩, e5, H⟩ := a8 H
  refine a0 fun K hK => OW.run [2, 6, 8, 10, 27, 28, 29] ?_
  simp only [go_sem, simprocAttr, sw0]
  refine OW.callM' (r := (.d (L l1))) (objs' := ({ cells := [.d (I Zq), .d (I Zr), .d (I Zs), .d (L Zx)], e := 24 } :: { cells := [.d (I (0 : Int)), .d (I (0 : Int))], e := 86 } :: { cells := [.d (I Zq), .d (I Zr), .d (I Zs), .d (L Zx)], e := 24 } :: { cells := [.d (I x1), .d (I x11), .d (I x12), .d (L x13)], e := 141 } :: { cells := [], e := 141 } :: { cells := [.d (I x1), .d (I x11), .d (I x12), .d (L x13), .own 6 0 b7.length 1], e := 163 } :: { cells := u6 7 b7.length, e := 164 } :: (o7 b7.length a9 b76 ++ [{ cells := [], e := 52 }, { cells := [], e := 22 }, { cells := [.d (L ((slots.getD t29.toNat default).1)), .d (L ((slots.getD t29.toNat default).2))], e := 57 }]))) rfl rfl rfl (by exact rfl) (sched_Run_m129_ok N slots t29 x1 x11 x12 x13 b7 b74 ⟨[.d (I Zq), .d (I Zr), .d (I Zs), .d (L Zx)], (m9 (m9 (m9 (m9 t3))))⟩ 24 ⟨[.d (I (0 : Int)), .d (I (0 : Int))], (m9 (m9 t3))⟩ 86 ⟨[.d (I Zq), .d (I Zr), .d (I Zs), .d (L Zx)], (m9 (m9 (m9 (m9 t3))))⟩ 24 ⟨[.d (I x1), .d (I x11), .d (I x12), .d (L x13)], (m9 (m9 (m9 (m9 t3))))⟩ 141 ⟨[], t3⟩ 141 ⟨[], t3⟩ 52 ⟨[], t3⟩ 22 ⟨[.d (L ((slots.getD t29.toNat default).1)), .d (L ((slots.getD t29.toNat default).2))], (m9 (m9 t3))⟩ 57 l1 b76 c16 e5) (by (simp only [go_sem]; done)) (by (simp only [go_sem, Nat.reduceLT])) ?_
  try simp only [go_sem, simprocAttr]
  change OW _ _ _ _ _ _
  refine OW.run [2, 6, 8, 10, 27, 28, 29] ?_
  simp only [go_sem, simprocAttr, sw0]
  refine OW.nil (hK _ ?_); clear hK K
  refine a5 ?_
  refine a0 fun K hK => OW.run [2, 6, 8, 10, 27, 28, 29, 40, 41, 42] ?_
  simp only [go_sem, simprocAttr, sw0]
  repeat (refine And.intro (by omega) ?_)
  refine OW.nil (hK _ ?_); clear hK K
  refine PW.block ?_
  refine g9 (σ := Int) [2, 6, 8, 10, 27, 28, 29, 40, 41, 42] (b7.length + 9) (fun t42 => [(42, .d (I t42))]) (fun t42 => { cells := [.d (I Zq), .d (I Zr), .d (I Zs), .d (L Zx)], e := 24 } :: { cells := [.d (I (0 : Int)), .d (I (0 : Int))], e := 86 } :: { cells := [.d (I Zq), .d (I Zr), .d (I Zs), .d (L Zx)], e := 24 } :: { cells := [.d (I x1), .d (I x11), .d (I x12), .d (L x13)], e := 141 } :: { cells := [], e := 141 } :: { cells := [.d (I x1), .d (I x11), .d (I x12), .d (L x13), .own 6 0 b7.length 1], e := 163 } :: { cells := u6 7 b7.length, e := 164 } :: (o7 b7.length a9 b76 ++ [{ cells := [], e := 52 }, { cells := [], e := 22 }])) (p9 N slots b7 t29 K_3 b76) r N (0 : Int) (by exact Nat.zero_le _) H (by (simp only [sw1, go_sem, simprocAttr]; done)) ?_
  rintro n t42 H N80 hN80
  unfold p9 at H
  try simp only [go_sem, simprocAttr]
  refine a5 ?_
  refine a0 fun K hK => OW.run [2, 6, 8, 10, 27, 28, 29, 40, 41, 42, 43] ?_
  simp only [go_sem, simprocAttr, sw0]
  refine OW.nil (hK _ ?_); clear hK K
  refine a5 ?_
  refine d6 rfl (fun h81 => ?_) (fun h81 => ?_)
  replace H := l4 h81 H
  refine d7 ?_
  refine f8 (τ := Unit) [2, 6, 8, 10, 27, 28, 29, 40, 41, 42] (b7.length + 9) (fun _ => []) (fun _ => { cells := [.d (I Zq), .d (I Zr), .d (I Zs), .d (L Zx)], e := 24 } :: { cells := [.d (I (0 : Int)), .d (I (0 : Int))], e := 86 } :: { cells := [.d (I Zq), .d (I Zr), .d (I Zs), .d (L Zx)], e := 24 } :: { cells := [.d (I x1), .d (I x11), .d (I x12), .d (L x13)], e := 141 } :: { cells := [], e := 141 } :: { cells := [.d (I x1), .d (I x11), .d (I x12), .d (L x13), .own 6 0 b7.length 1], e := 163 } :: { cells := u6 7 b7.length, e := 164 } :: (o7 b7.length a9 b76 ++ [{ cells := [], e := 52 }, { cells := [], e := 22 }])) _ _ r (by exact Nat.zero_le _) H ?_ ?_
  intro K_9 H N82 hN82
  refine PW.block ?_
  refine a5 ?_
  obtain ⟨c83, H⟩ := d3 H
  refine a0 fun K hK => OW.run [2, 6, 8, 10, 12, 13, 27, 28, 29, 40, 41, 42] ?_
  (simp only [go_sem, simprocAttr, sw0, ctrP_getD 7 b7.length t42.toNat (by omega)])
  repeat (refine And.intro (by omega) ?_)
  refine OW.nil (hK _ ?_); clear hK K
  refine a5 ?_
  refine a5 ?_
  obtain ⟨x19, e19, H⟩ := a8 H
  refine a0 fun K hK => OW.run [2, 6, 8, 10, 12, 13, 27, 28, 29, 40, 41, 42, 52] ?_
  (simp only [go_sem, simprocAttr, sw0, d5 b7.length a9 b76 _ t42.toNat (by omega)])
  repeat (refine And.intro (by omega) ?_)
  refine d8 4 rfl rfl rfl (by ((simp only [go_sem, List.toList_toArray, simprocAttr]); exact rfl)) ?_ (t0 N _ _ _ _ _ _ _ _ _ _ e19) ?_ ?_ ?_ ?_
  rfl
  · (refine a7 ?_; (simp only [go_sem, sw2, scqW10, simprocAttr]; done))
  exact .inl rfl
  (simp only [go_sem, Nat.reduceLT])
  refine OW.run [2, 6, 8, 10, 12, 13, 27, 28, 29, 40, 41, 42, 52] ?_
  (simp only [go_sem, simprocAttr, sw0, d5 b7.length a9 b76 _ t42.toNat (by omega)])
  refine OW.nil (hK _ ?_); clear hK K
  refine d6 rfl (fun h84 => ?_) (fun h84 => ?_)
  replace H := l4 h84 H
  refine i9 ?_
  refine hN82 [] () _ H (by exact trivial) ?_
  simp only [sw1, go_sem, simprocAttr]
  replace H := l5 h84 H
  refine d7 ?_
  refine a5 ?_
  refine a0 fun K hK => OW.run [2, 6, 8, 10, 12, 13, 14, 27, 28, 29, 40, 41, 42] ?_
  simp only [go_sem, simprocAttr, sw0]
  refine OW.nil (hK _ ?_); clear hK K
  refine f8 (τ := Int) [2, 6, 8, 10, 12, 13, 14, 27, 28, 29, 40, 41, 42] (b7.length + 9) (fun due => [(14, .d (I due))]) (fun due => { cells := [.d (I Zq), .d (I Zr), .d (I Zs), .d (L Zx)], e := 24 } :: { cells := [.d (I (0 : Int)), .d (I (0 : Int))], e := 86 } :: { cells := [.d (I Zq), .d (I Zr), .d (I Zs), .d (L Zx)], e := 24 } :: { cells := [.d (I x1), .d (I x11), .d (I x12), .d (L x13)], e := 141 } :: { cells := [], e := 141 } :: { cells := [.d (I x1), .d (I x11), .d (I x12), .d (L x13), .own 6 0 b7.length 1], e := 163 } :: { cells := u6 7 b7.length, e := 164 } :: (o7 b7.length a9 b76 ++ [{ cells := [], e := 52 }, { cells := [], e := 22 }])) _ _ r (by exact Nat.zero_le _) H ?_ ?_
  intro K_10 H N85 hN85
  refine a5 ?_
  refine a0 fun K hK => OW.run [2, 6, 8, 10, 12, 13, 14, 15, 27, 28, 29, 40, 41, 42] ?_
  simp only [go_sem, simprocAttr, sw0]
  refine OW.nil (hK _ ?_); clear hK K
  refine PW.block ?_
  refine g9 (σ := Int × Int) [2, 6, 8, 10, 12, 13, 14, 15, 27, 28, 29, 40, 41, 42] (b7.length + 9) (fun (due1, k) => [(14, .d (I due1)), (15, .d (I k))]) (fun (due1, k) => { cells := [.d (I Zq), .d (I Zr), .d (I Zs), .d (L Zx)], e := 24 } :: { cells := [.d (I (0 : Int)), .d (I (0 : Int))], e := 86 } :: { cells := [.d (I Zq), .d (I Zr), .d (I Zs), .d (L Zx)], e := 24 } :: { cells := [.d (I x1), .d (I x11), .d (I x12), .d (L x13)], e := 141 } :: { cells := [], e := 141 } :: { cells := [.d (I x1), .d (I x11), .d (I x12), .d (L x13), .own 6 0 b7.length 1], e := 163 } :: { cells := u6 7 b7.length, e := 164 } :: (o7 b7.length a9 b76 ++ [{ cells := [], e := 52 }, { cells := [], e := 22 }])) (t2 N slots b7 t29 b76 t42 K_10) r N ((0 : Int), (0 : Int)) (by exact Nat.zero_le _) H (by (first | (simp only [sw1, go_sem, simprocAttr, eq_true (show t42.toNat + 7 < b7.length + 9 by omega)]; done) | (simp only [sw1, go_sem, simprocAttr, eq_true (show t42.toNat + 7 < b7.length + 9 by omega)]; rfl) | (simp only [sw1, go_sem, simprocAttr, eq_true (show t42.toNat + 7 < b7.length + 9 by omega)]; simp only [List.length_set, List.length_append, List.length_cons, List.length_nil, Nat.zero_add, List.map_set, List.map_append, List.map_cons, List.map_nil]; done) | (simp only [sw1, go_sem, simprocAttr, eq_true (show t42.toNat + 7 < b7.length + 9 by omega)]; simp only [List.length_set, List.length_append, List.length_cons, List.length_nil, Nat.zero_add, List.map_set, List.map_append, List.map_cons, List.map_nil]; simp only [cut_mapD, V.cut]; done))) ?_
  rintro n ⟨due1, k⟩ H N86 hN86
  unfold t2 at H
  try simp only [go_sem, simprocAttr]
  try simp only [Nat.add_lt_add_iff_right, eq_true (show t42.toNat < b7.length + 2 by omega), ↓reduceIte]
  refine a5 ?_
  refine a5 ?_
  obtain ⟨c87, H⟩ := d3 H
  refine a0 fun K hK => OW.run [2, 6, 8, 10, 12, 13, 14, 15, 27, 28, 29, 40, 41, 42, 62] ?_
  (simp only [go_sem, simprocAttr, sw0, d5 b7.length a9 b76 _ t42.toNat (by omega)])
  repeat (refine And.intro (by omega) ?_)
  refine OW.nil (hK _ ?_); clear hK K
  refine d6 rfl (fun h88 => ?_) (fun h88 => ?_)
  replace H := l4 h88 H
  refine d7 ?_
  refine a5 ?_
  refine PW.block ?_
  obtain ⟨c89, H⟩ := d3 H
  obtain ⟨c90, H⟩ := d3 H
  refine a0 fun K hK => OW.run [2, 6, 8, 10, 12, 13, 14, 15, 27, 28, 29, 40, 41, 42] ?_
  (simp only [go_sem, simprocAttr, sw0, f4 2 (fun (x : List Int × List Int) => [(L x.1), (L x.2)]) (fun _ => rfl), q9 2 (fun (x : List Int × List Int) => [(L x.1), (L x.2)]) (fun _ => rfl) slots k.toNat (by omega)])
  repeat (refine And.intro (by omega) ?_)
  refine OW.nil (hK _ ?_); clear hK K
  refine a0 fun K hK => OW.run [2, 6, 8, 10, 12, 13, 14, 15, 27, 28, 29, 40, 41, 42] ?_
  simp only [go_sem, simprocAttr, sw0]
  refine OW.nil (hK _ ?_); clear hK K
  refine hN86 [] (w64 (due1 + (((slots.getD k.toNat default).2).getD t42.toNat 0)), w64 (k + (1 : Int))) _ H (by exact trivial) ?_
  · (first | (simp only [sw1, go_sem, simprocAttr, eq_true (show t42.toNat + 7 < b7.length + 9 by omega)]; done) | (simp only [sw1, go_sem, simprocAttr, eq_true (show t42.toNat + 7 < b7.length + 9 by omega)]; rfl) | (simp only [sw1, go_sem, simprocAttr, eq_true (show t42.toNat + 7 < b7.length + 9 by omega)]; simp only [List.length_set, List.length_append, List.length_cons, List.length_nil, Nat.zero_add, List.map_set, List.map_append, List.map_cons, List.map_nil]; done) | (simp only [sw1, go_sem, simprocAttr, eq_true (show t42.toNat + 7 < b7.length + 9 by omega)]; simp only [List.length_set, List.length_append, List.length_cons, List.length_nil, Nat.zero_add, List.map_set, List.map_append, List.map_cons, List.map_nil]; simp only [cut_mapD, V.cut]; done))
  replace H := l5 h88 H
  refine i9 ?_
  refine hN85 [] due1 _ H (by exact trivial) ?_
  · (first | (simp only [sw1, go_sem, simprocAttr, eq_true (show t42.toNat + 7 < b7.length + 9 by omega)]; done) | (simp only [sw1, go_sem, simprocAttr, eq_true (show t42.toNat + 7 < b7.length + 9 by omega)]; rfl) | (simp only [sw1, go_sem, simprocAttr, eq_true (show t42.toNat + 7 < b7.length + 9 by omega)]; simp only [List.length_set, List.length_append, List.length_cons, List.length_nil, Nat.zero_add, List.map_set, List.map_append, List.map_cons, List.map_nil]; done) | (simp only [sw1, go_sem, simprocAttr, eq_true (show t42.toNat + 7 < b7.length + 9 by omega)]; simp only [List.length_set, List.length_append, List.length_cons, List.length_nil, Nat.zero_add, List.map_set, List.map_append, List.map_cons, List.map_nil]; simp only [cut_mapD, V.cut]; done))
  rintro due H
  try simp only [go_sem, simprocAttr]
  try simp only [Nat.add_lt_add_iff_right, eq_true (show t42.toNat < b7.length + 2 by omega), ↓reduceIte]
  refine a5 ?_
  obtain ⟨c91, H⟩ := d3 H
  refine a0 fun K hK => OW.run [2, 6, 8, 10, 12, 27, 28, 29, 40, 41, 42, 80] ?_
  (simp only [go_sem, simprocAttr, sw0, d5 b7.length a9 b76 _ t42.toNat (by omega)])
  repeat (refine And.intro (by omega) ?_)
  refine OW.nil (hK _ ?_); clear hK K
  refine d6 rfl (fun h92 => ?_) (fun h92 => ?_)
  replace H := l4 h92 H
  refine a5 ?_
  refine a0 fun K hK => OW.run [6, 7] ?_
  simp only [go_sem, simprocAttr, sw0]
  refine OW.nil (hK _ ?_); clear hK K
  refine f0 ?_
  change PW.Ends _ _ _ _ _ _
  refine PW.Ends.intro (.inr rfl) ?_
  simp only [go_sem, simprocAttr, sw0]
  obtain rfl := Option.some.inj H
  refine a6 4 (by (refine a7 ?_; (simp only [go_sem, sw2, scqW10, simprocAttr]; done))) ?_
  rfl
  replace H := l5 h92 H
  refine d7 ?_
  refine hN82 [] () _ H (by exact trivial) ?_
  simp only [sw1, go_sem, simprocAttr]
  rintro _ H
  try simp only [go_sem, simprocAttr]
  refine a0 fun K hK => OW.run [2, 6, 8, 10, 27, 28, 29, 40, 41, 42] ?_
  simp only [go_sem, simprocAttr, sw0]
  refine OW.nil (hK _ ?_); clear hK K
  refine hN80 [] (w64 (t42 + (1 : Int))) _ H (by exact trivial) ?_
  simp only [sw1, go_sem, simprocAttr]
  replace H := l5 h81 H
  refine i9 ?_
  refine hN15 [] b76 _ H (by exact trivial) ?_
  simp only [sw1, go_sem, simprocAttr]
  rintro b75 H
  try simp only [go_sem, simprocAttr]
  refine a0 fun K hK => OW.run [2, 6, 8, 27, 28, 29] ?_
  simp only [go_sem, simprocAttr, sw0]
  refine OW.nil (hK _ ?_); clear hK K
  refine hN13 [] (w64 (t29 + (1 : Int)), b75) _ H (by exact trivial) ?_
  simp only [sw1, go_sem, simprocAttr]
  replace H := l5 h14 H
  refine i9 ?_
  refine hN12 [] b74 _ H (by exact trivial) ?_
  simp only [sw1, go_sem, simprocAttr]
  rintro b73 H
  try simp only [go_sem, simprocAttr]
  refine a5 ?_
  refine a0 fun K hK => OW.run [6, 7] ?_
  simp only [go_sem, simprocAttr, sw0]
  refine OW.nil (hK _ ?_); clear hK K
  refine f0 ?_
  change PW.Ends _ _ _ _ _ _
  refine PW.Ends.intro (.inr rfl) ?_
  simp only [go_sem, simprocAttr, sw0]
  obtain rfl := Option.some.inj H
  refine a6 4 (by (refine a7 ?_; (simp only [go_sem, sw2, scqW10, simprocAttr]; done))) ?_
  rfl

end Go.Proofs.Ytabojpkmfkjjkaa
