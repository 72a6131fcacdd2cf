import Derived.Test.YtabojpkmfkjjkaaSsBase
import Derived.Test.YtabojpkmfkjjkaaSsW0
import Derived.Test.YtabojpkmfkjjkaaSsW1
import Derived.Test.YtabojpkmfkjjkaaSsW2a
set_option linter.all false
namespace Go.Proofs.Ytabojpkmfkjjkaa
open Go.PW Go.Sh

set_option maxRecDepth 20000
set_option maxHeartbeats 8000000
theorem sched_Run_ok (N : Nat) (Zq : Int) (Zr : Int) (Zs : Int) (Zx : List Int) (l : List TB) (slots : List (List Int × List Int)) (r : List (List Int) × List Int × List Int × Int) (H : sched_Run N Zq Zr Zs Zx l slots = some r) : CallOK Try.prog 30 [(.agg [(I Zq), (I Zr), (I Zs), (L Zx)]), (.list l.length (l.flatMap (fun (x : ByteArray × Int × Int × Int × Int × Int × Int × Int × Int) => [(Sx x.1), (I x.2.1), (I x.2.2.1), (I x.2.2.2.1), (I x.2.2.2.2.1), (I x.2.2.2.2.2.1), (I x.2.2.2.2.2.2.1), (I x.2.2.2.2.2.2.2.1), (I x.2.2.2.2.2.2.2.2)]))), (.list slots.length (slots.flatMap (fun (x : List Int × List Int) => [(L x.1), (L x.2)])))] (.d (.tup [(.agg [(.list r.1.length (r.1.map L)), (L r.2.1), (L r.2.2.1)]), (I r.2.2.2)])) [] := by
 refine CallOK.of_PW Try.func30 rfl (by rw [Try.results30]) Try.ntmps30 Try.call30 ?_
 change PW _ _ _ _ _
 try simp only [go_sem, simprocAttr]
 unfold sched_Run at H
 refine PW.seq ?_
 refine PW.regionK fun K hK => OW.run [1, 2, 3, 6] ?_
 simp only [go_sem, simprocAttr, sw0]
 refine OW.nil (hK _ ?_); clear hK K
 change PW _ _ _ _ _
 refine PW.seq ?_
 refine PW.regionK fun K hK => OW.run [2, 6, 8, 9] ?_
 simp only [go_sem, simprocAttr, sw0]
 refine OW.inline rfl rfl rfl (by ((simp only [go_sem, List.toList_toArray, simprocAttr]); exact rfl)) Try.func104 rfl (by rw [Try.results104]) Try.ntmps104 Try.call104 (by (simp only [go_sem, Nat.reduceLT])) ?_
 intro us p
 change PW _ _ _ _ _
 try simp only [go_sem, simprocAttr]
 refine PW.seq ?_
 refine PW.regionK fun K hK => OW.run [1, 2, 3] ?_
 simp only [go_sem, simprocAttr, sw0]
 refine OW.nil (hK _ ?_); clear hK K
 change PW _ _ _ _ _
 refine PW.seq ?_
 obtain ⟨⟨x1, x11, x12, x13, x14⟩, e1, H⟩ := bnd_some H
 refine PW.regionK fun K hK => OW.run [1, 2, 8, 9] ?_
 simp only [go_sem, simprocAttr, sw0]
 refine OW.call' 4 rfl rfl rfl (by ((simp only [go_sem, List.toList_toArray, simprocAttr]); exact rfl)) ?_ (sched_openAll_ok N _ _ _ _ _ _ e1) ?_ ?_ ?_ ?_
 · rfl
 · (refine okAll_intro ?_; (simp only [go_sem, sw2, List.length_set, List.length_replicate, and_true, true_and, Nat.le_refl, simprocAttr]; done))
 · exact .inl rfl
 · (simp only [go_sem, Nat.reduceLT])
 refine OW.run [1, 2, 8, 9] ?_
 simp only [go_sem, simprocAttr, sw0]
 refine OW.nil (hK _ ?_); clear hK K
 change PW _ _ _ _ _
 refine PW.seq ?_
 refine PW.seq ?_
 refine PW.regionK fun K hK => OW.run [1, 2, 8, 9, 17] ?_
 simp only [go_sem, simprocAttr, sw0]
 refine OW.nil (hK _ ?_); clear hK K
 change PW _ _ _ _ _
 refine PW.cond rfl (fun h1 => ?_) (fun h1 => ?_)
 ·
  replace H := br_t h1 H
  refine PW.seq ?_
  refine PW.regionK fun K hK => OW.run [6, 7] ?_
  simp only [go_sem, simprocAttr, sw0]
  refine OW.nil (hK _ ?_); clear hK K
  change PW _ _ _ _ _
  refine PW.ret ?_
  refine ⟨.inr rfl, rfl, rfl, ?_⟩
  simp only [go_sem, simprocAttr, sw0]
  change OW _ _ _ _ _ _
  refine OW.run [2, 6, 8, 9] ?_
  simp only [go_sem, simprocAttr, sw0]
  refine OW.nil (hK _ ?_); clear hK K
  change PW _ _ _ _ _
  refine PW.seq ?_
  refine PW.seq ?_
  refine PW.regionK fun K hK => OW.run [2, 6, 8, 9, 23] ?_
  simp only [go_sem, simprocAttr, sw0]
  refine OW.nil (hK _ ?_); clear hK K
  change PW _ _ _ _ _
  refine PW.cond rfl (fun h2 => ?_) (fun h2 => ?_)
  ·
   replace H := br_t h2 H
   refine PW.seq ?_
   refine PW.regionK fun K hK => OW.run [6, 7] ?_
   simp only [go_sem, simprocAttr, sw0]
   refine OW.nil (hK _ ?_); clear hK K
   change PW _ _ _ _ _
   refine PW.ret ?_
   change PW.Ends _ _ _ _ _ _
   refine PW.Ends.intro (.inr rfl) ?_
   simp only [go_sem, simprocAttr, sw0]
   obtain rfl := Option.some.inj H
   refine RetOK.data' 4 (by (refine okAll_intro ?_; (simp only [go_sem, sw2, List.length_set, List.length_replicate, and_true, true_and, Nat.le_refl, simprocAttr]; done))) ?_
   rfl
  ·
   replace H := br_f h2 H
   cases H
 ·
  replace H := br_f h1 H
  refine PW.skip ?_
  change PW _ _ _ _ _
  refine PW.seq ?_
  obtain ⟨b7, e2, H⟩ := bnd_some H
  obtain ⟨x4, e4, H⟩ := bnd_some H
  refine PW.drawX 7 [2] (fun j => List.getD [[{ cells := [.d (I Zq), .d (I Zr), .d (I Zs), .d (L Zx)], e := 24 }, { cells := [.d (.val (.slice none 0 0)), .d (.val (.slice none 0 0)), .d (.val (.slice none 0 0))], e := 52 }, { cells := [.d (I Zq), .d (I Zr), .d (I Zs), .d (L Zx)], e := 24 }, { cells := [.d (I x1), .d (I x11), .d (I x12), .d (L x13)], e := 141 }], ({ cells := [.d (I Zq), .d (I Zr), .d (I Zs), .d (L Zx)], e := 24 } :: { cells := [.d (.val (.slice none 0 0)), .d (.val (.slice none 0 0)), .d (.val (.slice none 0 0))], e := 52 } :: { cells := [.d (I Zq), .d (I Zr), .d (I Zs), .d (L Zx)], e := 24 } :: { cells := [.d (I x1), .d (I x11), .d (I x12), .d (L x13)], e := 141 } :: { cells := [], e := 141 } :: { cells := [.d (I x1), .d (I x11), .d (I x12), .d (L x13), .own 6 0 b7.length 1], e := 163 } :: { cells := ctrP 7 b7.length, e := 164 } :: famN b7.length famF166 b7)] j []) (fun _ v => v) mixed (by kernel_rfl) (by decide) (by ((refine ⟨by decide, ?_⟩; intro k i i' h1 h2 o ho; match k, h1, h2 with | 0, h1, h2 => (simp at h1 h2 <;> first | (cases h2; done) | (subst h1; subst h2; simp at ho; subst ho; simp [Region.binds]; done)) | 1, h1, h2 => (simp at h1 h2 <;> first | (cases h2; done) | (subst h1; subst h2; simp at ho; subst ho; simp [Region.binds]; done)) | 2, h1, h2 => (simp at h1 h2 <;> first | (cases h2; done) | (subst h1; subst h2; simp at ho; subst ho; simp [Region.binds]; done)) | k + 3, h1, h2 => (simp at h2; done)))) (fun _ => rfl) (by decide) (freshL rfl) rfl rfl fun K hK => ?_
  change FWX _ _ _ _ _ _ _ _ _ _
  refine FWX.op (by decide) rfl (.agg [.d (I x1), .d (I x11), .d (I x12), .d (L x13)]) 0 0 (.inl rfl) (.inr ⟨_, _, { on := 0, ground := .data }, rfl, rfl, by simp, rfl, rfl⟩) ?_ ?_ (by (simp only [go_sem, Nat.reduceLT])) ?_
  ·
   intro j hj1 hj2
   have hj : j = 0 := by omega
   subst hj
   all_goals (refine ⟨?_, ?_⟩)
   all_goals (first | rfl | trivial | (simp only [go_sem, simprocAttr, sw0]; first | done | rfl | omega | assumption | decide | (simp only [List.append_assoc, List.cons_append, List.nil_append]; done) | ((repeat (refine And.intro (by first | rfl | omega | assumption | decide) ?_)); first | rfl | omega | assumption | decide)))
  · exact KeptX.same fun _ _ => rfl
  try simp only [go_sem, simprocAttr]
  refine FWX.op (by decide) rfl (.d (.list l.length (l.flatMap (fun (x : ByteArray × Int × Int × Int × Int × Int × Int × Int × Int) => [(Sx x.1), (I x.2.1), (I x.2.2.1), (I x.2.2.2.1), (I x.2.2.2.2.1), (I x.2.2.2.2.2.1), (I x.2.2.2.2.2.2.1), (I x.2.2.2.2.2.2.2.1), (I x.2.2.2.2.2.2.2.2)])))) 0 0 (.inl rfl) (.inr ⟨_, _, { on := 1, ground := .data }, rfl, rfl, by simp, rfl, rfl⟩) ?_ ?_ (by (simp only [go_sem, Nat.reduceLT])) ?_
  ·
   intro j hj1 hj2
   have hj : j = 0 := by omega
   subst hj
   all_goals (refine ⟨?_, ?_⟩)
   all_goals (first | rfl | trivial | (simp only [go_sem, simprocAttr, sw0]; first | done | rfl | omega | assumption | decide | (simp only [List.append_assoc, List.cons_append, List.nil_append]; done) | ((repeat (refine And.intro (by first | rfl | omega | assumption | decide) ?_)); first | rfl | omega | assumption | decide)))
  · exact KeptX.same fun _ _ => rfl
  try simp only [go_sem, simprocAttr]
  refine FWX.callM (q := 0) (r := (.ptr 5 0)) (by decide) rfl rfl rfl rfl (sched_Run_m1_ok N x1 x11 x12 x13 l Zq Zr Zs Zx b7  e2) (by (simp only [go_sem]; omega)) (fun _ => rfl) (by (simp only [go_sem, Nat.reduceLT])) ?_
  try simp only [go_sem, simprocAttr]
  refine FWX.op (by decide) rfl (.agg [.d (I x1), .d (I x11), .d (I x12), .d (L x13)]) 0 1 (.inl rfl) (.inl rfl) ?_ ?_ (by (simp only [go_sem, Nat.reduceLT])) ?_
  ·
   intro j hj1 hj2
   have hj : j = 0 ∨ j = 1 := by omega
   rcases hj with rfl | rfl
   all_goals (refine ⟨?_, ?_⟩)
   all_goals (first | rfl | trivial | (simp only [go_sem, simprocAttr, sw0]; first | done | rfl | omega | assumption | decide | (simp only [List.append_assoc, List.cons_append, List.nil_append]; done) | ((repeat (refine And.intro (by first | rfl | omega | assumption | decide) ?_)); first | rfl | omega | assumption | decide)))
  · exact KeptX.same fun _ _ => rfl
  try simp only [go_sem, simprocAttr]
  refine FWX.op (by decide) rfl (.d (.list l.length (l.flatMap (fun (x : ByteArray × Int × Int × Int × Int × Int × Int × Int × Int) => [(Sx x.1), (I x.2.1), (I x.2.2.1), (I x.2.2.2.1), (I x.2.2.2.2.1), (I x.2.2.2.2.2.1), (I x.2.2.2.2.2.2.1), (I x.2.2.2.2.2.2.2.1), (I x.2.2.2.2.2.2.2.2)])))) 0 1 (.inl rfl) (.inl rfl) ?_ ?_ (by (simp only [go_sem, Nat.reduceLT])) ?_
  ·
   intro j hj1 hj2
   have hj : j = 0 ∨ j = 1 := by omega
   rcases hj with rfl | rfl
   all_goals (refine ⟨?_, ?_⟩)
   all_goals (first | rfl | trivial | (simp only [go_sem, simprocAttr, sw0]; first | done | rfl | omega | assumption | decide | (simp only [List.append_assoc, List.cons_append, List.nil_append]; done) | ((repeat (refine And.intro (by first | rfl | omega | assumption | decide) ?_)); first | rfl | omega | assumption | decide)))
  · exact KeptX.same fun _ _ => rfl
  try simp only [go_sem, simprocAttr]
  refine FWX.op (by decide) rfl (.d (I (l.length : Int))) 0 1 (.inl rfl) (.inl rfl) ?_ ?_ (by (simp only [go_sem, Nat.reduceLT])) ?_
  ·
   intro j hj1 hj2
   have hj : j = 0 ∨ j = 1 := by omega
   rcases hj with rfl | rfl
   all_goals (refine ⟨?_, ?_⟩)
   all_goals (first | rfl | trivial | (simp only [go_sem, simprocAttr, sw0]; first | done | rfl | omega | assumption | decide | (simp only [List.append_assoc, List.cons_append, List.nil_append]; done) | ((repeat (refine And.intro (by first | rfl | omega | assumption | decide) ?_)); first | rfl | omega | assumption | decide)))
  · exact KeptX.same fun _ _ => rfl
  try simp only [go_sem, simprocAttr]
  refine FWX.op (by decide) rfl (.d (.list slots.length (slots.flatMap (fun (x : List Int × List Int) => [(L x.1), (L x.2)])))) 0 1 (.inl rfl) (.inl rfl) ?_ ?_ (by (simp only [go_sem, Nat.reduceLT])) ?_
  ·
   intro j hj1 hj2
   have hj : j = 0 ∨ j = 1 := by omega
   rcases hj with rfl | rfl
   all_goals (refine ⟨?_, ?_⟩)
   all_goals (first | rfl | trivial | (simp only [go_sem, simprocAttr, sw0]; first | done | rfl | omega | assumption | decide | (simp only [List.append_assoc, List.cons_append, List.nil_append]; done) | ((repeat (refine And.intro (by first | rfl | omega | assumption | decide) ?_)); first | rfl | omega | assumption | decide)))
  · exact KeptX.same fun _ _ => rfl
  try simp only [go_sem, simprocAttr]
  refine FWX.nil ?_
  change OW _ _ _ _ _ _
  change OW _ _ _ _ _ _
  refine OW.run [6, 7] ?_
  simp only [go_sem, simprocAttr, sw0]
  refine OW.call' 4 rfl rfl rfl (by ((simp only [go_sem, List.toList_toArray, simprocAttr]); exact rfl)) ?_ (sched_site_slotsErr_ok N _ _ _ _ _ _ _ e4) ?_ ?_ ?_ ?_
  · rfl
  · (refine okAll_intro ?_; (simp only [go_sem, sw2, List.length_set, List.length_replicate, and_true, true_and, Nat.le_refl, simprocAttr]; done))
  · exact .inl rfl
  · (simp only [go_sem, Nat.reduceLT])
  refine OW.run [6, 7] ?_
  simp only [go_sem, simprocAttr, sw0]
  refine OW.nil (hK _ ?_); clear hK K
  change PW _ _ _ _ _
  refine PW.ret ?_
  refine ⟨.inr rfl, rfl, rfl, ?_⟩
  simp only [go_sem, simprocAttr, sw0]
  change OW _ _ _ _ _ _
  refine OW.run [2, 6, 8, 9] ?_
  simp only [go_sem, simprocAttr, sw0]
  refine OW.nil (hK _ ?_); clear hK K
  change PW _ _ _ _ _
  refine PW.seq ?_
  refine PW.seq ?_
  refine PW.regionK fun K hK => OW.run [2, 6, 8, 9, 23] ?_
  simp only [go_sem, simprocAttr, sw0]
  refine OW.nil (hK _ ?_); clear hK K
  change PW _ _ _ _ _
  refine PW.cond rfl (fun h8 => ?_) (fun h8 => ?_)
  ·
   replace H := br_t h8 H
   refine PW.seq ?_
   refine PW.regionK fun K hK => OW.run [6, 7] ?_
   simp only [go_sem, simprocAttr, sw0]
   refine OW.nil (hK _ ?_); clear hK K
   change PW _ _ _ _ _
   refine PW.ret ?_
   change PW.Ends _ _ _ _ _ _
   refine PW.Ends.intro (.inr rfl) ?_
   simp only [go_sem, simprocAttr, sw0]
   obtain rfl := Option.some.inj H
   refine RetOK.data' 4 (by (refine okAll_intro ?_; (simp only [go_sem, sw2, List.length_set, List.length_replicate, and_true, true_and, Nat.le_refl, simprocAttr]; done))) ?_
   rfl
  ·
   replace H := br_f h8 H
   refine PW.skip ?_
   change PW _ _ _ _ _
   refine PW.seq ?_
   refine PW.regionK fun K hK => OW.run [2, 6, 8, 10] ?_
   simp only [go_sem, simprocAttr, sw0]
   refine OW.nil (hK _ ?_); clear hK K
   change PW _ _ _ _ _
   refine PW.joinS (τ := (List TU) × List (List Int)) [6, 8, 10] (b7.length + 9) (fun (b73, b9) => []) (fun (b73, b9) => { cells := [.d (I Zq), .d (I Zr), .d (I Zs), .d (L Zx)], e := 24 } :: { cells := [.d (.val (.slice none 0 0)), .d (.val (.slice none 0 0)), .d (.val (.slice none 0 0))], e := 52 } :: { cells := [.d (I Zq), .d (I Zr), .d (I Zs), .d (L Zx)], e := 24 } :: { cells := [.d (I x1), .d (I x11), .d (I x12), .d (L x13)], e := 141 } :: { cells := [], e := 141 } :: { cells := [.d (I x1), .d (I x11), .d (I x12), .d (L x13), .own 6 0 b7.length 1], e := 163 } :: { cells := ctrP 7 b7.length, e := 164 } :: (famN b7.length famF166 b73 ++ [{ cells := [.own (b7.length + 8) 0 b9.length 1, .d (.val (.slice none 0 0)), .d (.val (.slice none 0 0))], e := 52 }, { cells := (b9.map L).map .d, e := 22 }])) _ _ r (by exact Nat.zero_le _) H ?_ ?_
   ·
    intro K_1 H N9 hN9
    refine PW.seq ?_
    refine PW.regionK fun K hK => OW.run [6, 8, 10, 26, 27, 28] ?_
    simp only [go_sem, simprocAttr, sw0]
    refine OW.nil (hK _ ?_); clear hK K
    change PW _ _ _ _ _
    refine PW.block ?_
    refine PW.virtC (b7.length + 7) 0 22 1 ({ cells := [.d (.val (.slice none 0 0)), .d (.val (.slice none 0 0)), .d (.val (.slice none 0 0))], e := 52 }) (by first | rfl | (simp only [go_sem, simprocAttr, sw0]; done) | (simp only [go_sem, simprocAttr, sw0]; rfl)) rfl ?_
    try simp only [go_sem, simprocAttr]
    refine PW.loopS (σ := Int × (List TU) × List (List Int)) [6, 8, 10, 26, 27, 28] (b7.length + 9) (fun (t28, b74, b91) => [(28, .d (I t28))]) (fun (t28, b74, b91) => { cells := [.d (I Zq), .d (I Zr), .d (I Zs), .d (L Zx)], e := 24 } :: { cells := [.d (.val (.slice none 0 0)), .d (.val (.slice none 0 0)), .d (.val (.slice none 0 0))], e := 52 } :: { cells := [.d (I Zq), .d (I Zr), .d (I Zs), .d (L Zx)], e := 24 } :: { cells := [.d (I x1), .d (I x11), .d (I x12), .d (L x13)], e := 141 } :: { cells := [], e := 141 } :: { cells := [.d (I x1), .d (I x11), .d (I x12), .d (L x13), .own 6 0 b7.length 1], e := 163 } :: { cells := ctrP 7 b7.length, e := 164 } :: (famN b7.length famF166 b74 ++ [{ cells := [.own (b7.length + 8) 0 b91.length 1, .d (.val (.slice none 0 0)), .d (.val (.slice none 0 0))], e := 52 }, { cells := (b91.map L).map .d, e := 22 }])) (sched_Run.b2 N slots x1 x11 x12 x13 b7 K_1) r N ((0 : Int), b7, ([] : List (List Int))) (by exact Nat.zero_le _) H (by (simp only [Env.frzL, Env.frz, frzOb, V.frz, V.frz.frzs, asD, map_asD, sw1, go_sem, simprocAttr]; done)) ?_
    rintro n ⟨t28, b74, b91⟩ H N10 hN10
    unfold sched_Run.b2 at H
    try simp only [go_sem, simprocAttr]
    refine PW.seq ?_
    refine PW.regionK fun K hK => OW.run [6, 8, 10, 26, 27, 28, 29] ?_
    simp only [go_sem, simprocAttr, sw0]
    refine OW.nil (hK _ ?_); clear hK K
    change PW _ _ _ _ _
    refine PW.seq ?_
    refine PW.cond rfl (fun h11 => ?_) (fun h11 => ?_)
    ·
     replace H := br_t h11 H
     refine PW.skip ?_
     change PW _ _ _ _ _
     refine PW.seq ?_
     refine PW.block ?_
     refine PW.seq ?_
     obtain ⟨c12, H⟩ := chk_some H
     refine PW.regionK fun K hK => OW.run [6, 8, 10, 12, 26, 27, 28] ?_
     (simp only [go_sem, simprocAttr, sw0, flatMap_length 2 (fun (x : List Int × List Int) => [(L x.1), (L x.2)]) (fun _ => rfl), sub_el 2 (fun (x : List Int × List Int) => [(L x.1), (L x.2)]) (fun _ => rfl) slots t28.toNat (by omega)])
     repeat (refine And.intro (by omega) ?_)
     refine OW.nil (hK _ ?_); clear hK K
     change PW _ _ _ _ _
     obtain ⟨⟨l1, b75⟩, e5, H⟩ := bnd_some H
     obtain ⟨c76, H⟩ := chk_some H
     refine PW.drawX 6 [4] (fun j => List.getD [({ cells := [.d (I Zq), .d (I Zr), .d (I Zs), .d (L Zx)], e := 24 } :: { cells := [.d (.val (.slice none 0 0)), .d (.val (.slice none 0 0)), .d (.val (.slice none 0 0))], e := 52 } :: { cells := [.d (I Zq), .d (I Zr), .d (I Zs), .d (L Zx)], e := 24 } :: { cells := [.d (I x1), .d (I x11), .d (I x12), .d (L x13)], e := 141 } :: { cells := [], e := 141 } :: { cells := [.d (I x1), .d (I x11), .d (I x12), .d (L x13), .own 6 0 b7.length 1], e := 163 } :: { cells := ctrP 7 b7.length, e := 164 } :: (famN b7.length famF166 b74 ++ [{ cells := [.own (b7.length + 8) 0 b91.length 1, .d (.val (.slice none 0 0)), .d (.val (.slice none 0 0))], e := 52 }, { cells := (b91.map L).map .d, e := 22 }, { cells := [.d (L ((slots.getD t28.toNat default).1)), .d (L ((slots.getD t28.toNat default).2))], e := 57 }])), ({ cells := [.d (I Zq), .d (I Zr), .d (I Zs), .d (L Zx)], e := 24 } :: { cells := [.d (.val (.slice none 0 0)), .d (.val (.slice none 0 0)), .d (.val (.slice none 0 0))], e := 52 } :: { cells := [.d (I Zq), .d (I Zr), .d (I Zs), .d (L Zx)], e := 24 } :: { cells := [.d (I x1), .d (I x11), .d (I x12), .d (L x13)], e := 141 } :: { cells := [], e := 141 } :: { cells := [.d (I x1), .d (I x11), .d (I x12), .d (L x13), .own 6 0 b7.length 1], e := 163 } :: { cells := ctrP 7 b7.length, e := 164 } :: (famN b7.length famF166 b75 ++ [{ cells := [.own (b7.length + 8) 0 b91.length 1, .d (.val (.slice none 0 0)), .d (.val (.slice none 0 0))], e := 52 }, { cells := (b91.map L).map .d, e := 22 }, { cells := [.d (L ((slots.getD t28.toNat default).1)), .d (L ((slots.getD t28.toNat default).2))], e := 57 }]))] j []) (fun _ v => v) mixed (by kernel_rfl) (by decide) (by ((refine ⟨by decide, ?_⟩; intro k i i' h1 h2 o ho; match k, h1, h2 with | 0, h1, h2 => (simp at h1 h2 <;> first | (cases h2; done) | (subst h1; subst h2; simp at ho; subst ho; simp [Region.binds]; done)) | 1, h1, h2 => (simp at h1 h2 <;> first | (cases h2; done) | (subst h1; subst h2; simp at ho; subst ho; simp [Region.binds]; done)) | 2, h1, h2 => (simp at h1 h2 <;> first | (cases h2; done) | (subst h1; subst h2; simp at ho; subst ho; simp [Region.binds]; done)) | k + 3, h1, h2 => (simp at h2; done)))) (fun _ => rfl) (by decide) (freshL rfl) rfl rfl fun K hK => ?_
     change FWX _ _ _ _ _ _ _ _ _ _
     refine FWX.op (by decide) rfl (.ptr (b7.length + 7) 0) 0 1 (.inl rfl) (.inl rfl) ?_ ?_ (by (simp only [go_sem, Nat.reduceLT])) ?_
     ·
      intro j hj1 hj2
      have hj : j = 0 ∨ j = 1 := by omega
      rcases hj with rfl | rfl
      all_goals (refine ⟨?_, ?_⟩)
      all_goals (first | rfl | trivial | (simp only [go_sem, simprocAttr, sw0]; first | done | rfl | omega | assumption | decide | (simp only [List.append_assoc, List.cons_append, List.nil_append]; done) | ((repeat (refine And.intro (by first | rfl | omega | assumption | decide) ?_)); first | rfl | omega | assumption | decide)))
     · exact KeptX.same fun _ _ => rfl
     try simp only [go_sem, simprocAttr]
     refine FWX.op (by decide) rfl (.own (b7.length + 8) 0 b91.length 1) 0 1 (.inl rfl) (.inl rfl) ?_ ?_ (by (simp only [go_sem, Nat.reduceLT])) ?_
     ·
      intro j hj1 hj2
      have hj : j = 0 ∨ j = 1 := by omega
      rcases hj with rfl | rfl
      all_goals (refine ⟨?_, ?_⟩)
      all_goals (first | rfl | trivial | (simp only [go_sem, simprocAttr, sw0]; first | done | rfl | omega | assumption | decide | (simp only [List.append_assoc, List.cons_append, List.nil_append]; done) | ((repeat (refine And.intro (by first | rfl | omega | assumption | decide) ?_)); first | rfl | omega | assumption | decide)))
     · exact KeptX.same fun _ _ => rfl
     try simp only [go_sem, simprocAttr]
     refine FWX.op (by decide) rfl (.ptr 5 0) 0 0 (.inl rfl) (.inr ⟨_, _, { on := 2, ground := .data }, rfl, rfl, by simp, rfl, rfl⟩) ?_ ?_ (by (simp only [go_sem, Nat.reduceLT])) ?_
     ·
      intro j hj1 hj2
      have hj : j = 0 := by omega
      subst hj
      all_goals (refine ⟨?_, ?_⟩)
      all_goals (first | rfl | trivial | (simp only [go_sem, simprocAttr, sw0]; first | done | rfl | omega | assumption | decide | (simp only [List.append_assoc, List.cons_append, List.nil_append]; done) | ((repeat (refine And.intro (by first | rfl | omega | assumption | decide) ?_)); first | rfl | omega | assumption | decide)))
     · exact KeptX.same fun _ _ => rfl
     try simp only [go_sem, simprocAttr]
     refine FWX.op (by decide) rfl (.agg [.d (L ((slots.getD t28.toNat default).1)), .d (L ((slots.getD t28.toNat default).2))]) 0 0 (.inl rfl) (.inr ⟨_, _, { on := 3, ground := .data }, rfl, rfl, by simp, rfl, rfl⟩) ?_ ?_ (by (simp only [go_sem, Nat.reduceLT])) ?_
     ·
      intro j hj1 hj2
      have hj : j = 0 := by omega
      subst hj
      all_goals (refine ⟨?_, ?_⟩)
      all_goals (first | rfl | trivial | (simp only [go_sem, simprocAttr, sw0]; first | done | rfl | omega | assumption | decide | (simp only [List.append_assoc, List.cons_append, List.nil_append]; done) | ((repeat (refine And.intro (by first | rfl | omega | assumption | decide) ?_)); first | rfl | omega | assumption | decide)))
     · exact KeptX.same fun _ _ => rfl
     try simp only [go_sem, simprocAttr]
     refine FWX.callM (q := 0) (r := (.d (L l1))) (by decide) rfl rfl rfl rfl (sched_Run_m129_ok N slots t28 Zq Zr Zs Zx x1 x11 x12 x13 b7 b74 b91 l1 b75 c12 e5) (by (simp only [go_sem]; done)) (fun _ => rfl) (by (simp only [go_sem, Nat.reduceLT])) ?_
     try simp only [go_sem, simprocAttr]
     refine FWX.op (by decide) rfl (.d (.list ([l1] : List (List Int)).length (([l1] : List (List Int)).map L))) 1 1 (.inr ⟨{ on := 4, ground := .data }, by simp, rfl, rfl⟩) (.inl rfl) ?_ ?_ (by (simp only [go_sem, Nat.reduceLT])) ?_
     ·
      intro j hj1 hj2
      have hj : j = 1 := by omega
      subst hj
      all_goals (refine ⟨?_, ?_⟩)
      all_goals (first | rfl | trivial | (simp only [go_sem, simprocAttr, sw0]; first | done | rfl | omega | assumption | decide | (simp only [List.append_assoc, List.cons_append, List.nil_append]; done) | ((repeat (refine And.intro (by first | rfl | omega | assumption | decide) ?_)); first | rfl | omega | assumption | decide)))
     · exact KeptX.same fun _ _ => rfl
     try simp only [go_sem, simprocAttr]
     refine FWX.nil ?_
     change OW _ _ _ _ _ _
     change OW _ _ _ _ _ _
     refine OW.run [6, 8, 10, 26, 27, 28] ?_
     simp only [go_sem, simprocAttr, sw0]
     repeat (refine And.intro (by omega) ?_)
     refine OW.nil (hK _ ?_); clear hK K
     change PW _ _ _ _ _
     refine PW.regionK fun K hK => OW.run [6, 8, 10, 26, 27, 28] ?_
     simp only [go_sem, simprocAttr, sw0]
     refine OW.nil (hK _ ?_); clear hK K
     refine hN10 [] (w64 (t28 + (1 : Int)), b75, (b91 ++ ([l1] : List (List Int)))) _ H (by exact trivial) ?_
     (simp only [Env.frzL, Env.frz, frzOb, V.frz, V.frz.frzs, asD, map_asD, sw1, go_sem, simprocAttr]; done)
    ·
     replace H := br_f h11 H
     refine PW.exit ?_
     refine hN9 [] (b74, b91) _ H (by exact trivial) ?_
     (simp only [Env.frzL, Env.frz, frzOb, V.frz, V.frz.frzs, asD, map_asD, sw1, go_sem, simprocAttr]; done)
   ·
    rintro ⟨b73, b9⟩ H
    try simp only [go_sem, simprocAttr]
    refine PW.joinS (τ := List Int × List Int) [6, 10] (b7.length + 11) (fun (b10, b112) => []) (fun (b10, b112) => { cells := [.d (I Zq), .d (I Zr), .d (I Zs), .d (L Zx)], e := 24 } :: { cells := [.d (.val (.slice none 0 0)), .d (.val (.slice none 0 0)), .d (.val (.slice none 0 0))], e := 52 } :: { cells := [.d (I Zq), .d (I Zr), .d (I Zs), .d (L Zx)], e := 24 } :: { cells := [.d (I x1), .d (I x11), .d (I x12), .d (L x13)], e := 141 } :: { cells := [], e := 141 } :: { cells := [.d (I x1), .d (I x11), .d (I x12), .d (L x13), .own 6 0 b7.length 1], e := 163 } :: { cells := ctrP 7 b7.length, e := 164 } :: (famN b7.length famF166 b73 ++ [{ cells := [.own (b7.length + 8) 0 b9.length 1, .own (b7.length + 9) 0 b10.length 1, .own (b7.length + 10) 0 b112.length 1], e := 52 }, { cells := (b9.map L).map .d, e := 22 }, { cells := (b10.map I).map .d, e := 3 }, { cells := (b112.map I).map .d, e := 3 }])) _ _ r (by exact Nat.zero_le _) H ?_ ?_
    ·
     intro K_7 H N77 hN77
     refine PW.seq ?_
     refine PW.regionK fun K hK => OW.run [6, 10, 44, 45, 46] ?_
     simp only [go_sem, simprocAttr, sw0]
     repeat (refine And.intro (by omega) ?_)
     refine OW.nil (hK _ ?_); clear hK K
     change PW _ _ _ _ _
     refine PW.block ?_
     refine PW.virtC (b7.length + 7) 1 3 1 ({ cells := [.own (b7.length + 8) 0 b9.length 1, .d (.val (.slice none 0 0)), .d (.val (.slice none 0 0))], e := 52 }) (by first | rfl | (simp only [go_sem, simprocAttr, sw0]; done) | (simp only [go_sem, simprocAttr, sw0]; rfl)) rfl ?_
     try simp only [go_sem, simprocAttr]
     refine PW.virtC (b7.length + 7) 2 3 1 ({ cells := [.own (b7.length + 8) 0 b9.length 1, .own (b7.length + 9) 0 (([] : List Int).length) 1, .d (.val (.slice none 0 0))], e := 52 }) (by first | rfl | (simp only [go_sem, simprocAttr, sw0]; done) | (simp only [go_sem, simprocAttr, sw0]; rfl)) rfl ?_
     try simp only [go_sem, simprocAttr]
     refine PW.loopS (σ := Int × List Int × List Int) [6, 10, 44, 45, 46] (b7.length + 11) (fun (t46, b101, b113) => [(46, .d (I t46))]) (fun (t46, b101, b113) => { cells := [.d (I Zq), .d (I Zr), .d (I Zs), .d (L Zx)], e := 24 } :: { cells := [.d (.val (.slice none 0 0)), .d (.val (.slice none 0 0)), .d (.val (.slice none 0 0))], e := 52 } :: { cells := [.d (I Zq), .d (I Zr), .d (I Zs), .d (L Zx)], e := 24 } :: { cells := [.d (I x1), .d (I x11), .d (I x12), .d (L x13)], e := 141 } :: { cells := [], e := 141 } :: { cells := [.d (I x1), .d (I x11), .d (I x12), .d (L x13), .own 6 0 b7.length 1], e := 163 } :: { cells := ctrP 7 b7.length, e := 164 } :: (famN b7.length famF166 b73 ++ [{ cells := [.own (b7.length + 8) 0 b9.length 1, .own (b7.length + 9) 0 b101.length 1, .own (b7.length + 10) 0 b113.length 1], e := 52 }, { cells := (b9.map L).map .d, e := 22 }, { cells := (b101.map I).map .d, e := 3 }, { cells := (b113.map I).map .d, e := 3 }])) (sched_Run.b8 N b7 b73 K_7) r N ((0 : Int), ([] : List Int), ([] : List Int)) (by exact Nat.zero_le _) H (by (simp only [Env.frzL, Env.frz, frzOb, V.frz, V.frz.frzs, asD, map_asD, sw1, go_sem, simprocAttr]; done)) ?_
     rintro n ⟨t46, b101, b113⟩ H N78 hN78
     unfold sched_Run.b8 at H
     try simp only [go_sem, simprocAttr]
     refine PW.seq ?_
     refine PW.regionK fun K hK => OW.run [6, 10, 44, 45, 46, 47] ?_
     simp only [go_sem, simprocAttr, sw0]
     refine OW.nil (hK _ ?_); clear hK K
     change PW _ _ _ _ _
     refine PW.seq ?_
     refine PW.cond rfl (fun h79 => ?_) (fun h79 => ?_)
     ·
      replace H := br_t h79 H
      refine PW.skip ?_
      change PW _ _ _ _ _
      refine PW.seq ?_
      refine PW.block ?_
      refine PW.seq ?_
      obtain ⟨c80, H⟩ := chk_some H
      refine PW.regionK fun K hK => OW.run [6, 10, 14, 44, 45, 46] ?_
      (simp only [go_sem, simprocAttr, sw0, ctrP_getD 7 b7.length t46.toNat (by omega)])
      repeat (refine And.intro (by omega) ?_)
      refine OW.nil (hK _ ?_); clear hK K
      change PW _ _ _ _ _
      obtain ⟨c81, H⟩ := chk_some H
      obtain ⟨c82, H⟩ := chk_some H
      refine PW.drawX 17 [7, 15] (fun j => List.getD [({ cells := [.d (I Zq), .d (I Zr), .d (I Zs), .d (L Zx)], e := 24 } :: { cells := [.d (.val (.slice none 0 0)), .d (.val (.slice none 0 0)), .d (.val (.slice none 0 0))], e := 52 } :: { cells := [.d (I Zq), .d (I Zr), .d (I Zs), .d (L Zx)], e := 24 } :: { cells := [.d (I x1), .d (I x11), .d (I x12), .d (L x13)], e := 141 } :: { cells := [], e := 141 } :: { cells := [.d (I x1), .d (I x11), .d (I x12), .d (L x13), .own 6 0 b7.length 1], e := 163 } :: { cells := ctrP 7 b7.length, e := 164 } :: (famN b7.length famF166 b73 ++ [{ cells := [.own (b7.length + 8) 0 b9.length 1, .own (b7.length + 9) 0 b101.length 1, .own (b7.length + 10) 0 b113.length 1], e := 52 }, { cells := (b9.map L).map .d, e := 22 }, { cells := (b101.map I).map .d, e := 3 }, { cells := (b113.map I).map .d, e := 3 }])), ({ cells := [.d (I Zq), .d (I Zr), .d (I Zs), .d (L Zx)], e := 24 } :: { cells := [.d (.val (.slice none 0 0)), .d (.val (.slice none 0 0)), .d (.val (.slice none 0 0))], e := 52 } :: { cells := [.d (I Zq), .d (I Zr), .d (I Zs), .d (L Zx)], e := 24 } :: { cells := [.d (I x1), .d (I x11), .d (I x12), .d (L x13)], e := 141 } :: { cells := [], e := 141 } :: { cells := [.d (I x1), .d (I x11), .d (I x12), .d (L x13), .own 6 0 b7.length 1], e := 163 } :: { cells := ctrP 7 b7.length, e := 164 } :: (famN b7.length famF166 b73 ++ [{ cells := [.own (b7.length + 8) 0 b9.length 1, .dead, .own (b7.length + 10) 0 b113.length 1], e := 52 }, { cells := (b9.map L).map .d, e := 22 }, { cells := ((b101 ++ ([(b73.getD t46.toNat default).2.2.2.2.2.2.2.2.2.2.2.1] : List Int)).map I).map .d, e := 3 }, { cells := (b113.map I).map .d, e := 3 }])), ({ cells := [.d (I Zq), .d (I Zr), .d (I Zs), .d (L Zx)], e := 24 } :: { cells := [.d (.val (.slice none 0 0)), .d (.val (.slice none 0 0)), .d (.val (.slice none 0 0))], e := 52 } :: { cells := [.d (I Zq), .d (I Zr), .d (I Zs), .d (L Zx)], e := 24 } :: { cells := [.d (I x1), .d (I x11), .d (I x12), .d (L x13)], e := 141 } :: { cells := [], e := 141 } :: { cells := [.d (I x1), .d (I x11), .d (I x12), .d (L x13), .own 6 0 b7.length 1], e := 163 } :: { cells := ctrP 7 b7.length, e := 164 } :: (famN b7.length famF166 b73 ++ [{ cells := [.own (b7.length + 8) 0 b9.length 1, .dead, .dead], e := 52 }, { cells := (b9.map L).map .d, e := 22 }, { cells := ((b101 ++ ([(b73.getD t46.toNat default).2.2.2.2.2.2.2.2.2.2.2.1] : List Int)).map I).map .d, e := 3 }, { cells := ((b113 ++ ([(b73.getD t46.toNat default).2.2.2.2.2.2.2.2.2.2.1] : List Int)).map I).map .d, e := 3 }]))] j []) (κL [(0, (b7.length + 9)), (1, (b7.length + 10))]) mixed (by kernel_rfl) (by decide) (by ((refine ⟨by decide, ?_⟩; intro k i i' h1 h2 o ho; match k, h1, h2 with | 0, h1, h2 => (simp at h1 h2 <;> first | (cases h2; done) | (subst h1; subst h2; simp at ho; subst ho; simp [Region.binds]; done)) | 1, h1, h2 => (simp at h1 h2 <;> first | (cases h2; done) | (subst h1; subst h2; simp at ho; subst ho; simp [Region.binds]; done)) | 2, h1, h2 => (simp at h1 h2 <;> first | (cases h2; done) | (subst h1; subst h2; simp at ho; subst ho; simp [Region.binds]; done)) | k + 3, h1, h2 => (simp at h2; done)))) (κL_dead _) (by decide) (freshL rfl) rfl rfl fun K hK => ?_
      change FWX _ _ _ _ _ _ _ _ _ _
      have gx83 := fun y0 => famN_getR b7.length famF166 b73 y0 t46.toNat (by omega)
      have gx84 := (show (t46.toNat = b7.length + 2) = False from eq_false (by omega))
      have gx85 := (show (t46.toNat = b7.length + 3) = False from eq_false (by omega))
      refine FWX.op (by decide) rfl (.ptr (b7.length + 7) 1) 0 2 (.inl rfl) (.inl rfl) ?_ ?_ (by (simp only [go_sem, Nat.reduceLT])) ?_
      ·
       intro j hj1 hj2
       have hj : j = 0 ∨ j = 1 ∨ j = 2 := by omega
       rcases hj with rfl | rfl | rfl
       all_goals (refine ⟨?_, ?_⟩)
       all_goals (first | rfl | trivial | ((simp only [go_sem, simprocAttr, sw0, gx83, gx84, gx85]); first | done | rfl | omega | assumption | decide | (simp only [List.append_assoc, List.cons_append, List.nil_append]; done) | ((repeat (refine And.intro (by first | rfl | omega | assumption | decide) ?_)); first | rfl | omega | assumption | decide)))
      ·
       refine KeptX.free [51, 57] (by first | rfl | (simp only [V.kill]; exact if_neg (by omega))) ?_ (by kernel_rfl) ?_
       · repeat (first | exact fun _ h => absurd h List.not_mem_nil | (refine List.forall_mem_cons.2 (And.intro ?_ ?_); · first | exact .inr rfl | (left; simp; done) | (right; simp only [V.kill, ↓reduceIte]; first | rfl | exact if_neg (by omega) | (simp only [V.kill, V.kill.kills, ↓reduceIte]; done))))
       refine KeptX.free [59, 65] (by first | rfl | (simp only [V.kill]; exact if_neg (by omega))) ?_ (by kernel_rfl) ?_
       · repeat (first | exact fun _ h => absurd h List.not_mem_nil | (refine List.forall_mem_cons.2 (And.intro ?_ ?_); · first | exact .inr rfl | (left; simp; done) | (right; simp only [V.kill, ↓reduceIte]; first | rfl | exact if_neg (by omega) | (simp only [V.kill, V.kill.kills, ↓reduceIte]; done))))
       exact KeptX.nil
      try simp only [go_sem, simprocAttr]
      refine FWX.op (by decide) rfl (.own (b7.length + 9) 0 b101.length 1) 0 0 (.inl rfl) (.inr ⟨_, _, { on := 1, ground := .data }, rfl, rfl, by simp, rfl, rfl⟩) ?_ ?_ (by (simp only [go_sem, Nat.reduceLT])) ?_
      ·
       intro j hj1 hj2
       have hj : j = 0 := by omega
       subst hj
       all_goals (refine ⟨?_, ?_⟩)
       all_goals (first | rfl | trivial | ((simp only [go_sem, simprocAttr, sw0, gx83, gx84, gx85]); first | done | rfl | omega | assumption | decide | (simp only [List.append_assoc, List.cons_append, List.nil_append]; done) | ((repeat (refine And.intro (by first | rfl | omega | assumption | decide) ?_)); first | rfl | omega | assumption | decide)))
      ·
       refine KeptX.dep rfl rfl ⟨{ on := 1, ground := .data }, by simp, rfl, rfl⟩ ?_
       refine KeptX.free [59, 65] (by first | rfl | (simp only [V.kill]; exact if_neg (by omega))) ?_ (by kernel_rfl) ?_
       · repeat (first | exact fun _ h => absurd h List.not_mem_nil | (refine List.forall_mem_cons.2 (And.intro ?_ ?_); · first | exact .inr rfl | (left; simp; done) | (right; simp only [V.kill, ↓reduceIte]; first | rfl | exact if_neg (by omega) | (simp only [V.kill, V.kill.kills, ↓reduceIte]; done))))
       exact KeptX.nil
      try simp only [go_sem, simprocAttr]
      refine FWX.op (by decide) rfl (.ptr (t46.toNat + 7) 0) 0 2 (.inl rfl) (.inl rfl) ?_ ?_ (by (simp only [go_sem, Nat.reduceLT])) ?_
      ·
       intro j hj1 hj2
       have hj : j = 0 ∨ j = 1 ∨ j = 2 := by omega
       rcases hj with rfl | rfl | rfl
       all_goals (refine ⟨?_, ?_⟩)
       all_goals (first | rfl | trivial | ((simp only [go_sem, simprocAttr, sw0, gx83, gx84, gx85]); first | done | rfl | omega | assumption | decide | (simp only [List.append_assoc, List.cons_append, List.nil_append]; done) | ((repeat (refine And.intro (by first | rfl | omega | assumption | decide) ?_)); first | rfl | omega | assumption | decide)))
      ·
       refine KeptX.free [51, 57] (by first | rfl | (simp only [V.kill]; exact if_neg (by omega))) ?_ (by kernel_rfl) ?_
       · repeat (first | exact fun _ h => absurd h List.not_mem_nil | (refine List.forall_mem_cons.2 (And.intro ?_ ?_); · first | exact .inr rfl | (left; simp; done) | (right; simp only [V.kill, ↓reduceIte]; first | rfl | exact if_neg (by omega) | (simp only [V.kill, V.kill.kills, ↓reduceIte]; done))))
       refine KeptX.free [59, 65] (by first | rfl | (simp only [V.kill]; exact if_neg (by omega))) ?_ (by kernel_rfl) ?_
       · repeat (first | exact fun _ h => absurd h List.not_mem_nil | (refine List.forall_mem_cons.2 (And.intro ?_ ?_); · first | exact .inr rfl | (left; simp; done) | (right; simp only [V.kill, ↓reduceIte]; first | rfl | exact if_neg (by omega) | (simp only [V.kill, V.kill.kills, ↓reduceIte]; done))))
       exact KeptX.nil
      try simp only [go_sem, simprocAttr]
      refine FWX.op (by decide) rfl (.ptr (t46.toNat + 7) 0) 0 2 (.inl rfl) (.inl rfl) ?_ ?_ (by (simp only [go_sem, Nat.reduceLT])) ?_
      ·
       intro j hj1 hj2
       have hj : j = 0 ∨ j = 1 ∨ j = 2 := by omega
       rcases hj with rfl | rfl | rfl
       all_goals (refine ⟨?_, ?_⟩)
       all_goals (first | rfl | trivial | ((simp only [go_sem, simprocAttr, sw0, gx83, gx84, gx85]); first | done | rfl | omega | assumption | decide | (simp only [List.append_assoc, List.cons_append, List.nil_append]; done) | ((repeat (refine And.intro (by first | rfl | omega | assumption | decide) ?_)); first | rfl | omega | assumption | decide)))
      ·
       refine KeptX.free [51, 57] (by first | rfl | (simp only [V.kill]; exact if_neg (by omega))) ?_ (by kernel_rfl) ?_
       · repeat (first | exact fun _ h => absurd h List.not_mem_nil | (refine List.forall_mem_cons.2 (And.intro ?_ ?_); · first | exact .inr rfl | (left; simp; done) | (right; simp only [V.kill, ↓reduceIte]; first | rfl | exact if_neg (by omega) | (simp only [V.kill, V.kill.kills, ↓reduceIte]; done))))
       refine KeptX.free [59, 65] (by first | rfl | (simp only [V.kill]; exact if_neg (by omega))) ?_ (by kernel_rfl) ?_
       · repeat (first | exact fun _ h => absurd h List.not_mem_nil | (refine List.forall_mem_cons.2 (And.intro ?_ ?_); · first | exact .inr rfl | (left; simp; done) | (right; simp only [V.kill, ↓reduceIte]; first | rfl | exact if_neg (by omega) | (simp only [V.kill, V.kill.kills, ↓reduceIte]; done))))
       exact KeptX.nil
      try simp only [go_sem, simprocAttr]
      refine FWX.op (by decide) rfl (.ptr (t46.toNat + 7) 11) 0 2 (.inl rfl) (.inl rfl) ?_ ?_ (by (simp only [go_sem, Nat.reduceLT])) ?_
      ·
       intro j hj1 hj2
       have hj : j = 0 ∨ j = 1 ∨ j = 2 := by omega
       rcases hj with rfl | rfl | rfl
       all_goals (refine ⟨?_, ?_⟩)
       all_goals (first | rfl | trivial | ((simp only [go_sem, simprocAttr, sw0, gx83, gx84, gx85]); first | done | rfl | omega | assumption | decide | (simp only [List.append_assoc, List.cons_append, List.nil_append]; done) | ((repeat (refine And.intro (by first | rfl | omega | assumption | decide) ?_)); first | rfl | omega | assumption | decide)))
      ·
       refine KeptX.free [51, 57] (by first | rfl | (simp only [V.kill]; exact if_neg (by omega))) ?_ (by kernel_rfl) ?_
       · repeat (first | exact fun _ h => absurd h List.not_mem_nil | (refine List.forall_mem_cons.2 (And.intro ?_ ?_); · first | exact .inr rfl | (left; simp; done) | (right; simp only [V.kill, ↓reduceIte]; first | rfl | exact if_neg (by omega) | (simp only [V.kill, V.kill.kills, ↓reduceIte]; done))))
       refine KeptX.free [59, 65] (by first | rfl | (simp only [V.kill]; exact if_neg (by omega))) ?_ (by kernel_rfl) ?_
       · repeat (first | exact fun _ h => absurd h List.not_mem_nil | (refine List.forall_mem_cons.2 (And.intro ?_ ?_); · first | exact .inr rfl | (left; simp; done) | (right; simp only [V.kill, ↓reduceIte]; first | rfl | exact if_neg (by omega) | (simp only [V.kill, V.kill.kills, ↓reduceIte]; done))))
       exact KeptX.nil
      try simp only [go_sem, simprocAttr]
      refine FWX.op (by decide) rfl (.d (I ((b73.getD t46.toNat default).2.2.2.2.2.2.2.2.2.2.2.1))) 0 2 (.inl rfl) (.inl rfl) ?_ ?_ (by (simp only [go_sem, Nat.reduceLT])) ?_
      ·
       intro j hj1 hj2
       have hj : j = 0 ∨ j = 1 ∨ j = 2 := by omega
       rcases hj with rfl | rfl | rfl
       all_goals (refine ⟨?_, ?_⟩)
       all_goals (first | rfl | trivial | ((simp only [go_sem, simprocAttr, sw0, gx83, gx84, gx85]); first | done | rfl | omega | assumption | decide | (simp only [List.append_assoc, List.cons_append, List.nil_append]; done) | ((repeat (refine And.intro (by first | rfl | omega | assumption | decide) ?_)); first | rfl | omega | assumption | decide)))
      ·
       refine KeptX.free [51, 57] (by first | rfl | (simp only [V.kill]; exact if_neg (by omega))) ?_ (by kernel_rfl) ?_
       · repeat (first | exact fun _ h => absurd h List.not_mem_nil | (refine List.forall_mem_cons.2 (And.intro ?_ ?_); · first | exact .inr rfl | (left; simp; done) | (right; simp only [V.kill, ↓reduceIte]; first | rfl | exact if_neg (by omega) | (simp only [V.kill, V.kill.kills, ↓reduceIte]; done))))
       refine KeptX.free [59, 65] (by first | rfl | (simp only [V.kill]; exact if_neg (by omega))) ?_ (by kernel_rfl) ?_
       · repeat (first | exact fun _ h => absurd h List.not_mem_nil | (refine List.forall_mem_cons.2 (And.intro ?_ ?_); · first | exact .inr rfl | (left; simp; done) | (right; simp only [V.kill, ↓reduceIte]; first | rfl | exact if_neg (by omega) | (simp only [V.kill, V.kill.kills, ↓reduceIte]; done))))
       exact KeptX.nil
      try simp only [go_sem, simprocAttr]
      refine FWX.op (by decide) rfl (.d (L ([(b73.getD t46.toNat default).2.2.2.2.2.2.2.2.2.2.2.1] : List Int))) 0 0 (.inl rfl) (.inr ⟨_, _, { on := 6, ground := .data }, rfl, rfl, by simp, rfl, rfl⟩) ?_ ?_ (by (simp only [go_sem, Nat.reduceLT])) ?_
      ·
       intro j hj1 hj2
       have hj : j = 0 := by omega
       subst hj
       all_goals (refine ⟨?_, ?_⟩)
       all_goals (first | rfl | trivial | ((simp only [go_sem, simprocAttr, sw0, gx83, gx84, gx85]); first | done | rfl | omega | assumption | decide | (simp only [List.append_assoc, List.cons_append, List.nil_append]; done) | ((repeat (refine And.intro (by first | rfl | omega | assumption | decide) ?_)); first | rfl | omega | assumption | decide)))
      ·
       refine KeptX.dep rfl rfl ⟨{ on := 6, ground := .data }, by simp, rfl, rfl⟩ ?_
       refine KeptX.free [59, 65] (by first | rfl | (simp only [V.kill]; exact if_neg (by omega))) ?_ (by kernel_rfl) ?_
       · repeat (first | exact fun _ h => absurd h List.not_mem_nil | (refine List.forall_mem_cons.2 (And.intro ?_ ?_); · first | exact .inr rfl | (left; simp; done) | (right; simp only [V.kill, ↓reduceIte]; first | rfl | exact if_neg (by omega) | (simp only [V.kill, V.kill.kills, ↓reduceIte]; done))))
       exact KeptX.nil
      try simp only [go_sem, simprocAttr]
      refine FWX.append (b7.length + 9) (q := 0) (by decide) rfl rfl rfl rfl (Nat.le_of_ble_eq_true rfl) rfl (by first | decide | exact Nat.zero_le _) (.own (b7.length + 9) 0 ((b101 ++ ([(b73.getD t46.toNat default).2.2.2.2.2.2.2.2.2.2.2.1] : List Int)).length) 1) ?_ rfl ?_ ?_ ?_
      ·
       refine FreeX.of' rfl [51] ?_ (by kernel_rfl)
       repeat (first | exact fun _ h => absurd h List.not_mem_nil | (refine List.forall_mem_cons.2 (And.intro ?_ ?_); · first | exact .inr rfl | (left; simp; done) | (right; simp only [V.kill, ↓reduceIte]; first | rfl | exact if_neg (by omega) | (simp only [V.kill, V.kill.kills, ↓reduceIte]; done))))
      · first | rfl | trivial | ((simp only [go_sem, simprocAttr, sw0, gx83, gx84, gx85]); first | done | rfl | omega | assumption | decide | (simp only [List.append_assoc, List.cons_append, List.nil_append]; done) | ((repeat (refine And.intro (by first | rfl | omega | assumption | decide) ?_)); first | rfl | omega | assumption | decide))
      · first | rfl | trivial | ((simp only [go_sem, simprocAttr, sw0, gx83, gx84, gx85]); first | done | rfl | omega | assumption | decide | (simp only [List.append_assoc, List.cons_append, List.nil_append]; done) | ((repeat (refine And.intro (by first | rfl | omega | assumption | decide) ?_)); first | rfl | omega | assumption | decide))
      try (simp only [go_sem, simprocAttr, sw0, gx83, gx84, gx85])
      refine FWX.op (by decide) rfl (.ptr (b7.length + 7) 2) 0 2 (.inl rfl) (.inl rfl) ?_ ?_ (by (simp only [go_sem, Nat.reduceLT])) ?_
      ·
       intro j hj1 hj2
       have hj : j = 0 ∨ j = 1 ∨ j = 2 := by omega
       rcases hj with rfl | rfl | rfl
       all_goals (refine ⟨?_, ?_⟩)
       all_goals (first | rfl | trivial | ((simp only [go_sem, simprocAttr, sw0, gx83, gx84, gx85]); first | done | rfl | omega | assumption | decide | (simp only [List.append_assoc, List.cons_append, List.nil_append]; done) | ((repeat (refine And.intro (by first | rfl | omega | assumption | decide) ?_)); first | rfl | omega | assumption | decide)))
      ·
       refine KeptX.free [51, 57] (by first | rfl | (simp only [V.kill]; exact if_neg (by omega))) ?_ (by kernel_rfl) ?_
       · repeat (first | exact fun _ h => absurd h List.not_mem_nil | (refine List.forall_mem_cons.2 (And.intro ?_ ?_); · first | exact .inr rfl | (left; simp; done) | (right; simp only [V.kill, ↓reduceIte]; first | rfl | exact if_neg (by omega) | (simp only [V.kill, V.kill.kills, ↓reduceIte]; done))))
       refine KeptX.free [59, 65] (by first | rfl | (simp only [V.kill]; exact if_neg (by omega))) ?_ (by kernel_rfl) ?_
       · repeat (first | exact fun _ h => absurd h List.not_mem_nil | (refine List.forall_mem_cons.2 (And.intro ?_ ?_); · first | exact .inr rfl | (left; simp; done) | (right; simp only [V.kill, ↓reduceIte]; first | rfl | exact if_neg (by omega) | (simp only [V.kill, V.kill.kills, ↓reduceIte]; done))))
       exact KeptX.nil
      try simp only [go_sem, simprocAttr]
      refine FWX.op (by decide) rfl (.own (b7.length + 10) 0 b113.length 1) 0 1 (.inl rfl) (.inr ⟨_, _, { on := 9, ground := .data }, rfl, rfl, by simp, rfl, rfl⟩) ?_ ?_ (by (simp only [go_sem, Nat.reduceLT])) ?_
      ·
       intro j hj1 hj2
       have hj : j = 0 ∨ j = 1 := by omega
       rcases hj with rfl | rfl
       all_goals (refine ⟨?_, ?_⟩)
       all_goals (first | rfl | trivial | ((simp only [go_sem, simprocAttr, sw0, gx83, gx84, gx85]); first | done | rfl | omega | assumption | decide | (simp only [List.append_assoc, List.cons_append, List.nil_append]; done) | ((repeat (refine And.intro (by first | rfl | omega | assumption | decide) ?_)); first | rfl | omega | assumption | decide)))
      ·
       refine KeptX.free [51, 57] (by first | rfl | (simp only [V.kill]; exact if_neg (by omega))) ?_ (by kernel_rfl) ?_
       · repeat (first | exact fun _ h => absurd h List.not_mem_nil | (refine List.forall_mem_cons.2 (And.intro ?_ ?_); · first | exact .inr rfl | (left; simp; done) | (right; simp only [V.kill, ↓reduceIte]; first | rfl | exact if_neg (by omega) | (simp only [V.kill, V.kill.kills, ↓reduceIte]; done))))
       refine KeptX.dep rfl rfl ⟨{ on := 9, ground := .data }, by simp, rfl, rfl⟩ ?_
       exact KeptX.nil
      try simp only [go_sem, simprocAttr]
      refine FWX.op (by decide) rfl (.ptr (t46.toNat + 7) 0) 0 2 (.inl rfl) (.inl rfl) ?_ ?_ (by (simp only [go_sem, Nat.reduceLT])) ?_
      ·
       intro j hj1 hj2
       have hj : j = 0 ∨ j = 1 ∨ j = 2 := by omega
       rcases hj with rfl | rfl | rfl
       all_goals (refine ⟨?_, ?_⟩)
       all_goals (first | rfl | trivial | ((simp only [go_sem, simprocAttr, sw0, gx83, gx84, gx85]); first | done | rfl | omega | assumption | decide | (simp only [List.append_assoc, List.cons_append, List.nil_append]; done) | ((repeat (refine And.intro (by first | rfl | omega | assumption | decide) ?_)); first | rfl | omega | assumption | decide)))
      ·
       refine KeptX.free [51, 57] (by first | rfl | (simp only [V.kill]; exact if_neg (by omega))) ?_ (by kernel_rfl) ?_
       · repeat (first | exact fun _ h => absurd h List.not_mem_nil | (refine List.forall_mem_cons.2 (And.intro ?_ ?_); · first | exact .inr rfl | (left; simp; done) | (right; simp only [V.kill, ↓reduceIte]; first | rfl | exact if_neg (by omega) | (simp only [V.kill, V.kill.kills, ↓reduceIte]; done))))
       refine KeptX.free [59, 65] (by first | rfl | (simp only [V.kill]; exact if_neg (by omega))) ?_ (by kernel_rfl) ?_
       · repeat (first | exact fun _ h => absurd h List.not_mem_nil | (refine List.forall_mem_cons.2 (And.intro ?_ ?_); · first | exact .inr rfl | (left; simp; done) | (right; simp only [V.kill, ↓reduceIte]; first | rfl | exact if_neg (by omega) | (simp only [V.kill, V.kill.kills, ↓reduceIte]; done))))
       exact KeptX.nil
      try simp only [go_sem, simprocAttr]
      refine FWX.op (by decide) rfl (.ptr (t46.toNat + 7) 0) 0 2 (.inl rfl) (.inl rfl) ?_ ?_ (by (simp only [go_sem, Nat.reduceLT])) ?_
      ·
       intro j hj1 hj2
       have hj : j = 0 ∨ j = 1 ∨ j = 2 := by omega
       rcases hj with rfl | rfl | rfl
       all_goals (refine ⟨?_, ?_⟩)
       all_goals (first | rfl | trivial | ((simp only [go_sem, simprocAttr, sw0, gx83, gx84, gx85]); first | done | rfl | omega | assumption | decide | (simp only [List.append_assoc, List.cons_append, List.nil_append]; done) | ((repeat (refine And.intro (by first | rfl | omega | assumption | decide) ?_)); first | rfl | omega | assumption | decide)))
      ·
       refine KeptX.free [51, 57] (by first | rfl | (simp only [V.kill]; exact if_neg (by omega))) ?_ (by kernel_rfl) ?_
       · repeat (first | exact fun _ h => absurd h List.not_mem_nil | (refine List.forall_mem_cons.2 (And.intro ?_ ?_); · first | exact .inr rfl | (left; simp; done) | (right; simp only [V.kill, ↓reduceIte]; first | rfl | exact if_neg (by omega) | (simp only [V.kill, V.kill.kills, ↓reduceIte]; done))))
       refine KeptX.free [59, 65] (by first | rfl | (simp only [V.kill]; exact if_neg (by omega))) ?_ (by kernel_rfl) ?_
       · repeat (first | exact fun _ h => absurd h List.not_mem_nil | (refine List.forall_mem_cons.2 (And.intro ?_ ?_); · first | exact .inr rfl | (left; simp; done) | (right; simp only [V.kill, ↓reduceIte]; first | rfl | exact if_neg (by omega) | (simp only [V.kill, V.kill.kills, ↓reduceIte]; done))))
       exact KeptX.nil
      try simp only [go_sem, simprocAttr]
      refine FWX.op (by decide) rfl (.ptr (t46.toNat + 7) 10) 0 2 (.inl rfl) (.inl rfl) ?_ ?_ (by (simp only [go_sem, Nat.reduceLT])) ?_
      ·
       intro j hj1 hj2
       have hj : j = 0 ∨ j = 1 ∨ j = 2 := by omega
       rcases hj with rfl | rfl | rfl
       all_goals (refine ⟨?_, ?_⟩)
       all_goals (first | rfl | trivial | ((simp only [go_sem, simprocAttr, sw0, gx83, gx84, gx85]); first | done | rfl | omega | assumption | decide | (simp only [List.append_assoc, List.cons_append, List.nil_append]; done) | ((repeat (refine And.intro (by first | rfl | omega | assumption | decide) ?_)); first | rfl | omega | assumption | decide)))
      ·
       refine KeptX.free [51, 57] (by first | rfl | (simp only [V.kill]; exact if_neg (by omega))) ?_ (by kernel_rfl) ?_
       · repeat (first | exact fun _ h => absurd h List.not_mem_nil | (refine List.forall_mem_cons.2 (And.intro ?_ ?_); · first | exact .inr rfl | (left; simp; done) | (right; simp only [V.kill, ↓reduceIte]; first | rfl | exact if_neg (by omega) | (simp only [V.kill, V.kill.kills, ↓reduceIte]; done))))
       refine KeptX.free [59, 65] (by first | rfl | (simp only [V.kill]; exact if_neg (by omega))) ?_ (by kernel_rfl) ?_
       · repeat (first | exact fun _ h => absurd h List.not_mem_nil | (refine List.forall_mem_cons.2 (And.intro ?_ ?_); · first | exact .inr rfl | (left; simp; done) | (right; simp only [V.kill, ↓reduceIte]; first | rfl | exact if_neg (by omega) | (simp only [V.kill, V.kill.kills, ↓reduceIte]; done))))
       exact KeptX.nil
      try simp only [go_sem, simprocAttr]
      refine FWX.op (by decide) rfl (.d (I ((b73.getD t46.toNat default).2.2.2.2.2.2.2.2.2.2.1))) 0 2 (.inl rfl) (.inl rfl) ?_ ?_ (by (simp only [go_sem, Nat.reduceLT])) ?_
      ·
       intro j hj1 hj2
       have hj : j = 0 ∨ j = 1 ∨ j = 2 := by omega
       rcases hj with rfl | rfl | rfl
       all_goals (refine ⟨?_, ?_⟩)
       all_goals (first | rfl | trivial | ((simp only [go_sem, simprocAttr, sw0, gx83, gx84, gx85]); first | done | rfl | omega | assumption | decide | (simp only [List.append_assoc, List.cons_append, List.nil_append]; done) | ((repeat (refine And.intro (by first | rfl | omega | assumption | decide) ?_)); first | rfl | omega | assumption | decide)))
      ·
       refine KeptX.free [51, 57] (by first | rfl | (simp only [V.kill]; exact if_neg (by omega))) ?_ (by kernel_rfl) ?_
       · repeat (first | exact fun _ h => absurd h List.not_mem_nil | (refine List.forall_mem_cons.2 (And.intro ?_ ?_); · first | exact .inr rfl | (left; simp; done) | (right; simp only [V.kill, ↓reduceIte]; first | rfl | exact if_neg (by omega) | (simp only [V.kill, V.kill.kills, ↓reduceIte]; done))))
       refine KeptX.free [59, 65] (by first | rfl | (simp only [V.kill]; exact if_neg (by omega))) ?_ (by kernel_rfl) ?_
       · repeat (first | exact fun _ h => absurd h List.not_mem_nil | (refine List.forall_mem_cons.2 (And.intro ?_ ?_); · first | exact .inr rfl | (left; simp; done) | (right; simp only [V.kill, ↓reduceIte]; first | rfl | exact if_neg (by omega) | (simp only [V.kill, V.kill.kills, ↓reduceIte]; done))))
       exact KeptX.nil
      try simp only [go_sem, simprocAttr]
      refine FWX.op (by decide) rfl (.d (L ([(b73.getD t46.toNat default).2.2.2.2.2.2.2.2.2.2.1] : List Int))) 0 1 (.inl rfl) (.inr ⟨_, _, { on := 14, ground := .data }, rfl, rfl, by simp, rfl, rfl⟩) ?_ ?_ (by (simp only [go_sem, Nat.reduceLT])) ?_
      ·
       intro j hj1 hj2
       have hj : j = 0 ∨ j = 1 := by omega
       rcases hj with rfl | rfl
       all_goals (refine ⟨?_, ?_⟩)
       all_goals (first | rfl | trivial | ((simp only [go_sem, simprocAttr, sw0, gx83, gx84, gx85]); first | done | rfl | omega | assumption | decide | (simp only [List.append_assoc, List.cons_append, List.nil_append]; done) | ((repeat (refine And.intro (by first | rfl | omega | assumption | decide) ?_)); first | rfl | omega | assumption | decide)))
      ·
       refine KeptX.free [51, 57] (by first | rfl | (simp only [V.kill]; exact if_neg (by omega))) ?_ (by kernel_rfl) ?_
       · repeat (first | exact fun _ h => absurd h List.not_mem_nil | (refine List.forall_mem_cons.2 (And.intro ?_ ?_); · first | exact .inr rfl | (left; simp; done) | (right; simp only [V.kill, ↓reduceIte]; first | rfl | exact if_neg (by omega) | (simp only [V.kill, V.kill.kills, ↓reduceIte]; done))))
       refine KeptX.dep rfl rfl ⟨{ on := 14, ground := .data }, by simp, rfl, rfl⟩ ?_
       exact KeptX.nil
      try simp only [go_sem, simprocAttr]
      refine FWX.append (b7.length + 10) (q := 1) (by decide) rfl rfl rfl rfl (Nat.le_of_ble_eq_true rfl) rfl (by first | decide | exact Nat.zero_le _) (.own (b7.length + 10) 0 ((b113 ++ ([(b73.getD t46.toNat default).2.2.2.2.2.2.2.2.2.2.1] : List Int)).length) 1) ?_ rfl ?_ ?_ ?_
      ·
       refine FreeX.of' rfl [59] ?_ (by kernel_rfl)
       repeat (first | exact fun _ h => absurd h List.not_mem_nil | (refine List.forall_mem_cons.2 (And.intro ?_ ?_); · first | exact .inr rfl | (left; simp; done) | (right; simp only [V.kill, ↓reduceIte]; first | rfl | exact if_neg (by omega) | (simp only [V.kill, V.kill.kills, ↓reduceIte]; done))))
      · first | rfl | trivial | ((simp only [go_sem, simprocAttr, sw0, gx83, gx84, gx85]); first | done | rfl | omega | assumption | decide | (simp only [List.append_assoc, List.cons_append, List.nil_append]; done) | ((repeat (refine And.intro (by first | rfl | omega | assumption | decide) ?_)); first | rfl | omega | assumption | decide))
      · first | rfl | trivial | ((simp only [go_sem, simprocAttr, sw0, gx83, gx84, gx85]); first | done | rfl | omega | assumption | decide | (simp only [List.append_assoc, List.cons_append, List.nil_append]; done) | ((repeat (refine And.intro (by first | rfl | omega | assumption | decide) ?_)); first | rfl | omega | assumption | decide))
      try (simp only [go_sem, simprocAttr, sw0, gx83, gx84, gx85])
      refine FWX.op (by decide) rfl (.ptr (b7.length + 7) 1) 1 2 (.inr ⟨{ on := 7, ground := .phase }, by simp, rfl, rfl⟩) (.inl rfl) ?_ ?_ (by (simp only [go_sem, Nat.reduceLT])) ?_
      ·
       intro j hj1 hj2
       have hj : j = 1 ∨ j = 2 := by omega
       rcases hj with rfl | rfl
       all_goals (refine ⟨?_, ?_⟩)
       all_goals (first | rfl | trivial | ((simp only [go_sem, simprocAttr, sw0, gx83, gx84, gx85]); first | done | rfl | omega | assumption | decide | (simp only [List.append_assoc, List.cons_append, List.nil_append]; done) | ((repeat (refine And.intro (by first | rfl | omega | assumption | decide) ?_)); first | rfl | omega | assumption | decide)))
      ·
       refine KeptX.depR rfl ⟨{ on := 7, ground := .phase }, by simp, rfl, rfl⟩ ?_
       refine KeptX.free [59, 65] (by first | rfl | (simp only [V.kill]; exact if_neg (by omega))) ?_ (by kernel_rfl) ?_
       · repeat (first | exact fun _ h => absurd h List.not_mem_nil | (refine List.forall_mem_cons.2 (And.intro ?_ ?_); · first | exact .inr rfl | (left; simp; done) | (right; simp only [V.kill, ↓reduceIte]; first | rfl | exact if_neg (by omega) | (simp only [V.kill, V.kill.kills, ↓reduceIte]; done))))
       exact KeptX.nil
      try simp only [go_sem, simprocAttr]
      refine FWX.nil ?_
      change OW _ _ _ _ _ _
      change OW _ _ _ _ _ _
      refine OW.run [6, 10, 44, 45, 46] ?_
      (simp only [go_sem, simprocAttr, sw0, famN_getR b7.length famF166 b73 _ t46.toNat (by omega)])
      repeat (refine And.intro (by omega) ?_)
      refine OW.nil (hK _ ?_); clear hK K
      change PW _ _ _ _ _
      refine PW.regionK fun K hK => OW.run [6, 10, 44, 45, 46] ?_
      simp only [go_sem, simprocAttr, sw0]
      refine OW.nil (hK _ ?_); clear hK K
      refine hN78 [] (w64 (t46 + (1 : Int)), (b101 ++ ([(b73.getD t46.toNat default).2.2.2.2.2.2.2.2.2.2.2.1] : List Int)), (b113 ++ ([(b73.getD t46.toNat default).2.2.2.2.2.2.2.2.2.2.1] : List Int))) _ H (by exact trivial) ?_
      (simp only [Env.frzL, Env.frz, frzOb, V.frz, V.frz.frzs, asD, map_asD, sw1, go_sem, simprocAttr]; done)
     ·
      replace H := br_f h79 H
      refine PW.exit ?_
      refine hN77 [] (b101, b113) _ H (by exact trivial) ?_
      (simp only [Env.frzL, Env.frz, frzOb, V.frz, V.frz.frzs, asD, map_asD, sw1, go_sem, simprocAttr]; done)
    ·
     rintro ⟨b10, b112⟩ H
     try simp only [go_sem, simprocAttr]
     refine PW.seq ?_
     refine PW.regionK fun K hK => OW.run [6, 7] ?_
     simp only [go_sem, simprocAttr, sw0]
     refine OW.nil (hK _ ?_); clear hK K
     change PW _ _ _ _ _
     refine PW.ret ?_
     change PW.Ends _ _ _ _ _ _
     refine PW.Ends.intro (.inr rfl) ?_
     simp only [go_sem, simprocAttr, sw0]
     obtain rfl := Option.some.inj H
     refine RetOK.data' 4 (by (refine okAll_intro ?_; (simp only [go_sem, sw2, List.length_set, List.length_replicate, and_true, true_and, Nat.le_refl, simprocAttr]; done))) ?_
     (((simp only [go_sem, sw1, simprocAttr]; try simp only [seg, go_sem, simprocAttr])); done)
end Go.Proofs.Ytabojpkmfkjjkaa
