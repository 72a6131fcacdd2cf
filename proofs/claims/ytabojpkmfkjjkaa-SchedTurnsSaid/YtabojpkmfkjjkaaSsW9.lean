import Derived.Test.YtabojpkmfkjjkaaSsBase
import Derived.Test.YtabojpkmfkjjkaaSsW0
import Derived.Test.YtabojpkmfkjjkaaSsW3
import Derived.Test.YtabojpkmfkjjkaaSsW4
set_option linter.all false
namespace Go.Proofs.Ytabojpkmfkjjkaa
open Go.PW Go.Sh

set_option maxRecDepth 20000
set_option maxHeartbeats 8000000
theorem law06_rows_ok (N : Nat) (r_ : List (List Int)) (r : Bool) (H : law06_rows N r_ = some r) : CallOK Try.prog 42 [(.list r_.length (r_.map L))] (.d (Bo r)) [] := by
 refine CallOK.of_PW Try.func42 rfl (by rw [Try.results42]) Try.ntmps42 Try.call42 ?_
 change PW _ _ _ _ _
 try simp only [go_sem, simprocAttr]
 unfold law06_rows at H
 refine PW.seq ?_
 refine PW.regionK fun K hK => OW.run [0] ?_
 simp only [go_sem, simprocAttr, sw0]
 refine OW.nil (hK _ ?_)
 refine PW.seq ?_
 refine PW.seq ?_
 refine PW.regionK fun K hK => OW.run [0, 6] ?_
 simp only [go_sem, simprocAttr, sw0]
 refine OW.nil (hK _ ?_)
 refine PW.cond rfl (fun h1 => ?_) (fun h1 => ?_)
 replace H := br_t h1 H
 refine PW.seq ?_
 refine PW.regionK fun K hK => OW.run [2] ?_
 simp only [go_sem, simprocAttr, sw0]
 refine OW.nil (hK _ ?_)
 refine PW.ret ?_
 change PW.Ends _ _ _ _ _ _
 refine PW.Ends.intro (.inr rfl) ?_
 simp only [go_sem, simprocAttr, sw0]
 obtain rfl := Option.some.inj H
 refine RetOK.data' 4 (by exact trivial) ?_
 rfl
 replace H := br_f h1 H
 refine PW.skip ?_
 refine PW.joinS (τ := Unit) [] 0 (fun _ => []) (fun _ => []) _ _ r (by exact Nat.le_refl _) H ?_ ?_
 intro K_ H N2 hN2
 refine PW.seq ?_
 refine PW.regionK fun K hK => OW.run [0, 3] ?_
 simp only [go_sem, simprocAttr, sw0]
 refine OW.nil (hK _ ?_)
 refine PW.block ?_
 refine PW.loopS (σ := Int) [0, 3] 0 (fun t => [(3, .d (I t))]) (fun t => []) (law06_rows.b1 N r_ K_) r N (0 : Int) (by exact Nat.le_refl _) H (by (simp only [sw1, go_sem, simprocAttr]; done)) ?_
 rintro n t H N3 hN3
 unfold law06_rows.b1 at H
 try simp only [go_sem, simprocAttr]
 refine PW.seq ?_
 refine PW.seq ?_
 refine PW.regionK fun K hK => OW.run [0, 3, 10] ?_
 simp only [go_sem, simprocAttr, sw0]
 refine OW.nil (hK _ ?_)
 refine PW.cond rfl (fun h4 => ?_) (fun h4 => ?_)
 replace H := br_t h4 H
 refine PW.skip ?_
 refine PW.seq ?_
 refine PW.block ?_
 refine PW.seq ?_
 obtain ⟨c5, H⟩ := chk_some H
 refine PW.regionK fun K hK => OW.run [0, 3, 18] ?_
 (simp only [go_sem, simprocAttr, sw0, getD_mapF L r_ t.toNat default (by omega)])
 repeat (refine And.intro (by omega) ?_)
 refine OW.nil (hK _ ?_)
 refine PW.cond rfl (fun h6 => ?_) (fun h6 => ?_)
 replace H := br_t h6 H
 refine PW.seq ?_
 refine PW.regionK fun K hK => OW.run [2] ?_
 simp only [go_sem, simprocAttr, sw0]
 refine OW.nil (hK _ ?_)
 refine PW.ret ?_
 change PW.Ends _ _ _ _ _ _
 refine PW.Ends.intro (.inr rfl) ?_
 simp only [go_sem, simprocAttr, sw0]
 obtain rfl := Option.some.inj H
 refine RetOK.data' 4 (by exact trivial) ?_
 rfl
 replace H := br_f h6 H
 refine PW.skip ?_
 refine PW.regionK fun K hK => OW.run [0, 3] ?_
 simp only [go_sem, simprocAttr, sw0]
 refine OW.nil (hK _ ?_)
 refine hN3 [] (w64 (t + (1 : Int))) _ H (by exact trivial) ?_
 simp only [sw1, go_sem, simprocAttr]
 replace H := br_f h4 H
 refine PW.exit ?_
 refine hN2 [] () _ H (by exact trivial) ?_
 simp only [sw1, go_sem, simprocAttr]
 rintro _ H
 try simp only [go_sem, simprocAttr]
 refine PW.seq ?_
 refine PW.regionK fun K hK => OW.run [2] ?_
 simp only [go_sem, simprocAttr, sw0]
 refine OW.nil (hK _ ?_)
 refine PW.ret ?_
 change PW.Ends _ _ _ _ _ _
 refine PW.Ends.intro (.inr rfl) ?_
 simp only [go_sem, simprocAttr, sw0]
 obtain rfl := Option.some.inj H
 refine RetOK.data' 4 (by exact trivial) ?_
 rfl

theorem base_CopyLists_ok (N : Nat) (l : List (List Int)) (r : List (List Int)) (H : base_CopyLists N l = some r) : CallOK Try.prog 44 [(.list l.length (l.map L))] (.d (.list r.length (r.map L))) [] := by
 refine CallOK.of_PW Try.func44 rfl (by rw [Try.results44]) Try.ntmps44 Try.call44 ?_
 change PW _ _ _ _ _
 try simp only [go_sem, simprocAttr]
 unfold base_CopyLists at H
 refine PW.seq ?_
 refine PW.regionK fun K hK => OW.run [0] ?_
 simp only [go_sem, simprocAttr, sw0]
 refine OW.nil (hK _ ?_)
 refine PW.seq ?_
 refine PW.regionK fun K hK => OW.run [0, 3] ?_
 simp only [go_sem, simprocAttr, sw0]
 refine OW.nil (hK _ ?_)
 refine PW.joinS (τ := List (List Int)) [3] 1 (fun b0 => [(3, .own 0 0 b0.length 1)]) (fun b0 => [{ cells := (b0.map L).map .d, e := 22 }]) _ _ r (by exact Nat.zero_le _) H ?_ ?_
 intro K_ H N1 hN1
 refine PW.seq ?_
 refine PW.regionK fun K hK => OW.run [0, 3, 4] ?_
 simp only [go_sem, simprocAttr, sw0]
 refine OW.nil (hK _ ?_)
 refine PW.block ?_
 refine PW.virt 3 22 1 rfl ?_
 try simp only [go_sem, simprocAttr]
 refine PW.loopS (σ := Int × List (List Int)) [0, 3, 4] 1 (fun (i, b01) => [(3, .own 0 0 b01.length 1), (4, .d (I i))]) (fun (i, b01) => [{ cells := (b01.map L).map .d, e := 22 }]) (base_CopyLists.b1 N l K_) r N ((0 : Int), ([] : List (List Int))) (by exact Nat.zero_le _) H (by (simp only [sw1, go_sem, simprocAttr]; done)) ?_
 rintro n ⟨i, b01⟩ H N2 hN2
 unfold base_CopyLists.b1 at H
 try simp only [go_sem, simprocAttr]
 refine PW.seq ?_
 refine PW.seq ?_
 refine PW.regionK fun K hK => OW.run [0, 3, 4, 8] ?_
 simp only [go_sem, simprocAttr, sw0]
 refine OW.nil (hK _ ?_)
 refine PW.cond rfl (fun h3 => ?_) (fun h3 => ?_)
 replace H := br_t h3 H
 refine PW.skip ?_
 refine PW.seq ?_
 refine PW.block ?_
 obtain ⟨c4, H⟩ := chk_some H
 obtain ⟨x1, e1, H⟩ := bnd_some H
 obtain ⟨c5, H⟩ := chk_some H
 refine PW.regionK fun K hK => OW.run [0, 3, 4] ?_
 (simp only [go_sem, simprocAttr, sw0, getD_mapF L l i.toNat default (by omega)])
 repeat (refine And.intro (by omega) ?_)
 refine OW.call' 4 rfl rfl rfl (by ((simp only [go_sem, List.toList_toArray, simprocAttr]); exact rfl)) ?_ (base_CopyInts_okd N _ _ e1) ?_ ?_ ?_ ?_
 rfl
 exact okD_all rfl
 exact .inl rfl
 (simp only [go_sem, Nat.reduceLT])
 refine OW.run [0, 3, 4] ?_
 (simp only [go_sem, simprocAttr, sw0, getD_mapF L l i.toNat default (by omega)])
 repeat (refine And.intro (by omega) ?_)
 refine OW.nil (hK _ ?_)
 refine PW.regionK fun K hK => OW.run [0, 3, 4] ?_
 simp only [go_sem, simprocAttr, sw0]
 refine OW.nil (hK _ ?_)
 refine hN2 [] (w64 (i + (1 : Int)), (b01 ++ ([x1] : List (List Int)))) _ H (by exact trivial) ?_
 simp only [sw1, go_sem, simprocAttr]
 replace H := br_f h3 H
 refine PW.exit ?_
 refine hN1 [] b01 _ H (by exact trivial) ?_
 simp only [sw1, go_sem, simprocAttr]
 rintro b0 H
 try simp only [go_sem, simprocAttr]
 refine PW.seq ?_
 refine PW.regionK fun K hK => OW.run [2] ?_
 simp only [go_sem, simprocAttr, sw0]
 refine OW.nil (hK _ ?_)
 refine PW.ret ?_
 change PW.Ends _ _ _ _ _ _
 refine PW.Ends.intro (.inr rfl) ?_
 simp only [go_sem, simprocAttr, sw0]
 obtain rfl := Option.some.inj H
 refine RetOK.data' 4 (by (simp only [go_sem, sw2, List.length_set, List.length_replicate, and_true, true_and, Nat.le_refl, simprocAttr]; done)) ?_
 · (((simp only [go_sem, sw1, simprocAttr]; try simp only [seg, go_sem, simprocAttr])); done)

theorem sched_TurnsOf_ok (N : Nat) (r_ : List (List Int)) (turns : List Int) (r : Int × Int) (H : sched_TurnsOf N r_ turns = some r) : CallOK Try.prog 43 [(.list r_.length (r_.map L)), (L turns)] (.d (.tup [(I r.1), (I r.2)])) [] := by
 refine CallOK.of_PW Try.func43 rfl (by rw [Try.results43]) Try.ntmps43 Try.call43 ?_
 change PW _ _ _ _ _
 try simp only [go_sem, simprocAttr]
 unfold sched_TurnsOf at H
 refine PW.seq ?_
 refine PW.regionK fun K hK => OW.run [0, 1] ?_
 simp only [go_sem, simprocAttr, sw0]
 refine OW.nil (hK _ ?_)
 refine PW.seq ?_
 refine PW.seq ?_
 obtain ⟨x1, e1, H⟩ := bnd_some H
 obtain ⟨x2, e2, H⟩ := bnd_some H
 obtain ⟨x3, e3, H⟩ := bnd_some H
 refine PW.regionK fun K hK => OW.run [0, 1, 6] ?_
 simp only [go_sem, simprocAttr, sw0]
 refine OW.call' 4 rfl rfl rfl (by ((simp only [go_sem, List.toList_toArray, simprocAttr]); exact rfl)) ?_ (sched_caseErr_ok N _ _ e1) ?_ ?_ ?_ ?_
 rfl
 exact okD_all rfl
 exact .inl rfl
 (simp only [go_sem, Nat.reduceLT])
 refine OW.run [0, 1, 6] ?_
 simp only [go_sem, simprocAttr, sw0]
 refine OW.call' 4 rfl rfl rfl (by ((simp only [go_sem, List.toList_toArray, simprocAttr]); exact rfl)) ?_ (sched_unless_ok N _ _ _ e2) ?_ ?_ ?_ ?_
 rfl
 exact okD_all rfl
 exact .inl rfl
 (simp only [go_sem, Nat.reduceLT])
 refine OW.run [0, 1, 6] ?_
 simp only [go_sem, simprocAttr, sw0]
 refine OW.call' 4 rfl rfl rfl (by ((simp only [go_sem, List.toList_toArray, simprocAttr]); exact rfl)) ?_ (sched_first_ok N _ _ e3) ?_ ?_ ?_ ?_
 rfl
 · (refine okAll_intro ?_; (simp only [go_sem, sw2, List.length_set, List.length_replicate, and_true, true_and, Nat.le_refl, simprocAttr]; simp only [seg, go_sem, sw2, List.length_set, List.length_replicate, and_true, true_and, Nat.le_refl, simprocAttr]; done))
 exact .inr ⟨rfl, rfl⟩
 (simp only [go_sem, Nat.reduceLT])
 refine OW.run [0, 1, 6] ?_
 simp only [go_sem, simprocAttr, sw0]
 refine OW.nil (hK _ ?_)
 refine PW.seq ?_
 refine PW.regionK fun K hK => OW.run [0, 1, 6, 20] ?_
 simp only [go_sem, simprocAttr, sw0]
 refine OW.nil (hK _ ?_)
 refine PW.cond rfl (fun h1 => ?_) (fun h1 => ?_)
 replace H := br_t h1 H
 refine PW.seq ?_
 refine PW.regionK fun K hK => OW.run [4, 5] ?_
 simp only [go_sem, simprocAttr, sw0]
 refine OW.nil (hK _ ?_)
 refine PW.ret ?_
 change PW.Ends _ _ _ _ _ _
 refine PW.Ends.intro (.inr rfl) ?_
 simp only [go_sem, simprocAttr, sw0]
 obtain rfl := Option.some.inj H
 refine RetOK.data' 4 (by exact okD_all rfl) ?_
 rfl
 replace H := br_f h1 H
 refine PW.skip ?_
 refine PW.joinS (τ := Unit) [0, 1] 0 (fun _ => []) (fun _ => []) _ _ r (by exact Nat.le_refl _) H ?_ ?_
 intro K_ H N2 hN2
 refine PW.seq ?_
 refine PW.regionK fun K hK => OW.run [0, 1, 22, 23, 24] ?_
 simp only [go_sem, simprocAttr, sw0]
 refine OW.nil (hK _ ?_)
 refine PW.block ?_
 refine PW.loopS (σ := Int) [0, 1, 22, 23, 24] 1 (fun t24 => [(24, .d (I t24))]) (fun t24 => [{ cells := [.d (I x1), .d (I x2)], e := 33 }]) (sched_TurnsOf.b1 N r_ turns K_) r N (0 : Int) (by exact Nat.zero_le _) H (by (simp only [sw1, go_sem, simprocAttr]; done)) ?_
 rintro n t24 H N3 hN3
 unfold sched_TurnsOf.b1 at H
 try simp only [go_sem, simprocAttr]
 refine PW.seq ?_
 refine PW.regionK fun K hK => OW.run [0, 1, 22, 23, 24, 25] ?_
 simp only [go_sem, simprocAttr, sw0]
 refine OW.nil (hK _ ?_)
 refine PW.seq ?_
 refine PW.cond rfl (fun h4 => ?_) (fun h4 => ?_)
 replace H := br_t h4 H
 refine PW.skip ?_
 refine PW.seq ?_
 refine PW.block ?_
 refine PW.seq ?_
 obtain ⟨c5, H⟩ := chk_some H
 refine PW.regionK fun K hK => OW.run [0, 1, 8, 22, 23, 24] ?_
 simp only [go_sem, simprocAttr, sw0]
 repeat (refine And.intro (by omega) ?_)
 refine OW.nil (hK _ ?_)
 refine PW.seq ?_
 obtain ⟨c6, H⟩ := chk_some H
 obtain ⟨x4, e4, H⟩ := bnd_some H
 refine PW.regionK fun K hK => OW.run [0, 1, 22, 23, 24, 35] ?_
 (simp only [go_sem, simprocAttr, sw0, getD_mapF L r_ 0 default (by omega)])
 repeat (refine And.intro (by omega) ?_)
 refine OW.call' 4 rfl rfl rfl (by ((simp only [go_sem, List.toList_toArray, simprocAttr]); exact rfl)) ?_ (sched_within_ok N _ _ _ _ e4) ?_ ?_ ?_ ?_
 rfl
 exact okD_all rfl
 exact .inl rfl
 (simp only [go_sem, Nat.reduceLT])
 refine OW.run [0, 1, 22, 23, 24, 35] ?_
 (simp only [go_sem, simprocAttr, sw0, getD_mapF L r_ 0 default (by omega)])
 refine OW.nil (hK _ ?_)
 refine PW.cond rfl (fun h7 => ?_) (fun h7 => ?_)
 replace H := br_t h7 H
 refine PW.seq ?_
 refine PW.regionK fun K hK => OW.run [4, 5] ?_
 simp only [go_sem, simprocAttr, sw0]
 refine OW.nil (hK _ ?_)
 refine PW.ret ?_
 change PW.Ends _ _ _ _ _ _
 refine PW.Ends.intro (.inr rfl) ?_
 simp only [go_sem, simprocAttr, sw0]
 obtain rfl := Option.some.inj H
 refine RetOK.data' 4 (by exact okD_all rfl) ?_
 rfl
 replace H := br_f h7 H
 refine PW.skip ?_
 refine PW.regionK fun K hK => OW.run [0, 1, 22, 23, 24] ?_
 simp only [go_sem, simprocAttr, sw0]
 refine OW.nil (hK _ ?_)
 refine hN3 [] (w64 (t24 + (1 : Int))) _ H (by exact trivial) ?_
 simp only [sw1, go_sem, simprocAttr]
 replace H := br_f h4 H
 refine PW.exit ?_
 refine hN2 [] () _ H (by exact trivial) ?_
 simp only [sw1, go_sem, simprocAttr]
 rintro _ H
 try simp only [go_sem, simprocAttr]
 refine PW.seq ?_
 obtain ⟨x5, e5, H⟩ := bnd_some H
 refine PW.regionK fun K hK => OW.run [4, 5] ?_
 simp only [go_sem, simprocAttr, sw0]
 refine OW.call' 4 rfl rfl rfl (by ((simp only [go_sem, List.toList_toArray, simprocAttr]); exact rfl)) ?_ (sched_least_ok N _ _ _ e5) ?_ ?_ ?_ ?_
 rfl
 exact okD_all rfl
 exact .inl rfl
 (simp only [go_sem, Nat.reduceLT])
 refine OW.run [4, 5] ?_
 simp only [go_sem, simprocAttr, sw0]
 refine OW.nil (hK _ ?_)
 refine PW.ret ?_
 change PW.Ends _ _ _ _ _ _
 refine PW.Ends.intro (.inr rfl) ?_
 simp only [go_sem, simprocAttr, sw0]
 obtain rfl := Option.some.inj H
 refine RetOK.data' 4 (by exact okD_all rfl) ?_
 rfl

theorem ref06_CaseErr_ok (N : Nat) (r_ : List (List Int)) (r : Int) (H : ref06_CaseErr N r_ = some r) : CallOK Try.prog 47 [(.list r_.length (r_.map L))] (.d (I r)) [] := by
 refine CallOK.of_PW Try.func47 rfl (by rw [Try.results47]) Try.ntmps47 Try.call47 ?_
 change PW _ _ _ _ _
 try simp only [go_sem, simprocAttr]
 unfold ref06_CaseErr at H
 refine PW.seq ?_
 refine PW.regionK fun K hK => OW.run [0] ?_
 simp only [go_sem, simprocAttr, sw0]
 refine OW.nil (hK _ ?_)
 refine PW.seq ?_
 refine PW.seq ?_
 obtain ⟨c1, H⟩ := chk_some H
 refine PW.regionK fun K hK => ?_
 refine OW.toS [(0, .d (.list r_.length (r_.map L))), (14, .d (Bo (((r_.length : Int) == (0 : Int)) || (((r_.getD 0 default).length : Int) == (0 : Int)))))] [] ?_ (hK _ ?_)
 intro K hKE
 rcases Bool.eq_false_or_eq_true (((r_.length : Int) == (0 : Int))) with ha0 | ha0
 ·
  try simp only [ha0, sb0, true_implies, false_implies, forall_const] at c1
  refine OW.run [0, 14] ?_
  (simp only [go_sem, simprocAttr, sw0, ha0])
  repeat (refine And.intro (by first | omega | (intro hg; have hq := c1 (by first | exact hg | simpa using hg); first | omega | exact hq | (simp only [List.length_map]; omega)) | (first | omega | assumption | rfl | decide | (simp only [List.length_map, List.length_replicate, List.length_append, List.length_take, List.length_drop, List.length_set, List.length_cons, List.length_nil, Nat.zero_add, Int.toNat_natCast] at *; omega) | (simp only [List.length_map, List.length_replicate, List.length_append, List.length_take, List.length_drop, List.length_set, List.length_cons, List.length_nil, Nat.zero_add, Int.toNat_natCast]; done) | trivial)) ?_)
  refine OW.nil ((congrArg K ?_).mpr hKE)
  · (first | rfl | (simp only [go_sem, simprocAttr, ha0]; done) | (simp only [go_sem, simprocAttr, ha0]; rfl))
 ·
  try simp only [ha0, sb0, true_implies, false_implies, forall_const] at c1
  refine OW.run [0, 14] ?_
  (simp only [go_sem, simprocAttr, sw0, getD_mapF L r_ 0 default (by omega), ha0])
  repeat (refine And.intro (by first | omega | (intro hg; have hq := c1 (by first | exact hg | simpa using hg); first | omega | exact hq | (simp only [List.length_map]; omega)) | (first | omega | assumption | rfl | decide | (simp only [List.length_map, List.length_replicate, List.length_append, List.length_take, List.length_drop, List.length_set, List.length_cons, List.length_nil, Nat.zero_add, Int.toNat_natCast] at *; omega) | (simp only [List.length_map, List.length_replicate, List.length_append, List.length_take, List.length_drop, List.length_set, List.length_cons, List.length_nil, Nat.zero_add, Int.toNat_natCast]; done) | trivial)) ?_)
  refine OW.nil ((congrArg K ?_).mpr hKE)
  · (first | rfl | (simp only [go_sem, simprocAttr, ha0]; done) | (simp only [go_sem, simprocAttr, ha0]; rfl))
 clear hK K
 refine PW.cond rfl (fun h2 => ?_) (fun h2 => ?_)
 replace H := br_t h2 H
 refine PW.seq ?_
 refine PW.regionK fun K hK => OW.run [2] ?_
 simp only [go_sem, simprocAttr, sw0]
 refine OW.nil (hK _ ?_)
 refine PW.ret ?_
 change PW.Ends _ _ _ _ _ _
 refine PW.Ends.intro (.inr rfl) ?_
 simp only [go_sem, simprocAttr, sw0]
 obtain rfl := Option.some.inj H
 refine RetOK.data' 4 (by exact trivial) ?_
 rfl
 replace H := br_f h2 H
 refine PW.skip ?_
 refine PW.seq ?_
 refine PW.seq ?_
 obtain ⟨c3, H⟩ := chk_some H
 refine PW.regionK fun K hK => ?_
 refine OW.toS [(0, .d (.list r_.length (r_.map L))), (24, .d (Bo ((decide ((r_.length : Int) > (6 : Int))) || (decide (((r_.getD 0 default).length : Int) > (4 : Int))))))] [] ?_ (hK _ ?_)
 intro K hKE
 rcases Bool.eq_false_or_eq_true ((decide ((r_.length : Int) > (6 : Int)))) with ha0 | ha0
 ·
  try simp only [ha0, sb0, true_implies, false_implies, forall_const] at c3
  refine OW.run [0, 24] ?_
  (simp only [go_sem, simprocAttr, sw0, ha0])
  repeat (refine And.intro (by first | omega | (intro hg; have hq := c3 (by first | exact hg | simpa using hg); first | omega | exact hq | (simp only [List.length_map]; omega)) | (first | omega | assumption | rfl | decide | (simp only [List.length_map, List.length_replicate, List.length_append, List.length_take, List.length_drop, List.length_set, List.length_cons, List.length_nil, Nat.zero_add, Int.toNat_natCast] at *; omega) | (simp only [List.length_map, List.length_replicate, List.length_append, List.length_take, List.length_drop, List.length_set, List.length_cons, List.length_nil, Nat.zero_add, Int.toNat_natCast]; done) | trivial)) ?_)
  refine OW.nil ((congrArg K ?_).mpr hKE)
  · (first | rfl | (simp only [go_sem, simprocAttr, ha0]; done) | (simp only [go_sem, simprocAttr, ha0]; rfl))
 ·
  try simp only [ha0, sb0, true_implies, false_implies, forall_const] at c3
  refine OW.run [0, 24] ?_
  (simp only [go_sem, simprocAttr, sw0, getD_mapF L r_ 0 default (by omega), ha0])
  repeat (refine And.intro (by first | omega | (intro hg; have hq := c3 (by first | exact hg | simpa using hg); first | omega | exact hq | (simp only [List.length_map]; omega)) | (first | omega | assumption | rfl | decide | (simp only [List.length_map, List.length_replicate, List.length_append, List.length_take, List.length_drop, List.length_set, List.length_cons, List.length_nil, Nat.zero_add, Int.toNat_natCast] at *; omega) | (simp only [List.length_map, List.length_replicate, List.length_append, List.length_take, List.length_drop, List.length_set, List.length_cons, List.length_nil, Nat.zero_add, Int.toNat_natCast]; done) | trivial)) ?_)
  refine OW.nil ((congrArg K ?_).mpr hKE)
  · (first | rfl | (simp only [go_sem, simprocAttr, ha0]; done) | (simp only [go_sem, simprocAttr, ha0]; rfl))
 clear hK K
 refine PW.cond rfl (fun h4 => ?_) (fun h4 => ?_)
 replace H := br_t h4 H
 refine PW.seq ?_
 refine PW.regionK fun K hK => OW.run [2] ?_
 simp only [go_sem, simprocAttr, sw0]
 refine OW.nil (hK _ ?_)
 refine PW.ret ?_
 change PW.Ends _ _ _ _ _ _
 refine PW.Ends.intro (.inr rfl) ?_
 simp only [go_sem, simprocAttr, sw0]
 obtain rfl := Option.some.inj H
 refine RetOK.data' 4 (by exact trivial) ?_
 rfl
 replace H := br_f h4 H
 refine PW.skip ?_
 refine PW.joinS (τ := Unit) [] 0 (fun _ => []) (fun _ => []) _ _ r (by exact Nat.le_refl _) H ?_ ?_
 intro K_ H N5 hN5
 refine PW.seq ?_
 refine PW.regionK fun K hK => OW.run [0, 3] ?_
 simp only [go_sem, simprocAttr, sw0]
 refine OW.nil (hK _ ?_)
 refine PW.block ?_
 refine PW.loopS (σ := Int) [0, 3] 0 (fun t => [(3, .d (I t))]) (fun t => []) (ref06_CaseErr.b1 N r_ K_) r N (0 : Int) (by exact Nat.le_refl _) H (by (simp only [sw1, go_sem, simprocAttr]; done)) ?_
 rintro n t H N6 hN6
 unfold ref06_CaseErr.b1 at H
 try simp only [go_sem, simprocAttr]
 refine PW.seq ?_
 refine PW.seq ?_
 refine PW.regionK fun K hK => OW.run [0, 3, 28] ?_
 simp only [go_sem, simprocAttr, sw0]
 refine OW.nil (hK _ ?_)
 refine PW.cond rfl (fun h7 => ?_) (fun h7 => ?_)
 replace H := br_t h7 H
 refine PW.skip ?_
 refine PW.joinS (τ := Unit) [0, 3] 0 (fun _ => []) (fun _ => []) _ _ r (by exact Nat.le_refl _) H ?_ ?_
 intro K_1 H N8 hN8
 refine PW.block ?_
 refine PW.seq ?_
 refine PW.seq ?_
 obtain ⟨c9, H⟩ := chk_some H
 obtain ⟨c10, H⟩ := chk_some H
 refine PW.drawK 9 mixed (by kernel_rfl) fun K hK => ?_
 change FW _ _ _ _ _
 refine FW.run ?_
 (simp only [go_sem, simprocAttr, sw0, getD_mapF L r_ t.toNat default (by omega), getD_mapF L r_ 0 default (by omega)])
 repeat (refine And.intro (by omega) ?_)
 refine FW.nil ?_
 change OW _ _ _ _ _ _
 refine OW.run [0, 3, 40] ?_
 (simp only [go_sem, simprocAttr, sw0, getD_mapF L r_ t.toNat default (by omega), getD_mapF L r_ 0 default (by omega)])
 refine OW.nil (hK _ ?_)
 refine PW.cond rfl (fun h11 => ?_) (fun h11 => ?_)
 replace H := br_t h11 H
 refine PW.seq ?_
 refine PW.regionK fun K hK => OW.run [2] ?_
 simp only [go_sem, simprocAttr, sw0]
 refine OW.nil (hK _ ?_)
 refine PW.ret ?_
 change PW.Ends _ _ _ _ _ _
 refine PW.Ends.intro (.inr rfl) ?_
 simp only [go_sem, simprocAttr, sw0]
 obtain rfl := Option.some.inj H
 refine RetOK.data' 4 (by exact trivial) ?_
 rfl
 replace H := br_f h11 H
 refine PW.skip ?_
 refine PW.seq ?_
 refine PW.regionK fun K hK => OW.run [0, 3, 4] ?_
 simp only [go_sem, simprocAttr, sw0]
 refine OW.nil (hK _ ?_)
 refine PW.block ?_
 refine PW.loopS (σ := Int) [0, 3, 4] 0 (fun i => [(4, .d (I i))]) (fun i => []) (ref06_CaseErr.b2 N r_ t K_1) r N (0 : Int) (by exact Nat.le_refl _) H (by (simp only [sw1, go_sem, simprocAttr]; done)) ?_
 rintro n i H N12 hN12
 unfold ref06_CaseErr.b2 at H
 try simp only [go_sem, simprocAttr]
 refine PW.seq ?_
 refine PW.seq ?_
 obtain ⟨c13, H⟩ := chk_some H
 refine PW.regionK fun K hK => OW.run [0, 3, 4, 47] ?_
 (simp only [go_sem, simprocAttr, sw0, getD_mapF L r_ t.toNat default (by omega)])
 repeat (refine And.intro (by omega) ?_)
 refine OW.nil (hK _ ?_)
 refine PW.cond rfl (fun h14 => ?_) (fun h14 => ?_)
 replace H := br_t h14 H
 refine PW.skip ?_
 refine PW.seq ?_
 refine PW.block ?_
 refine PW.seq ?_
 obtain ⟨c15, H⟩ := chk_some H
 obtain ⟨c16, H⟩ := chk_some H
 obtain ⟨x1, e1, H⟩ := bnd_some H
 refine PW.regionK fun K hK => OW.run [0, 3, 4, 58] ?_
 (simp only [go_sem, simprocAttr, sw0, getD_mapF L r_ t.toNat default (by omega)])
 repeat (refine And.intro (by omega) ?_)
 refine OW.call' 4 rfl rfl rfl (by ((simp only [go_sem, List.toList_toArray, simprocAttr]); exact rfl)) ?_ (base_Within_ok N _ _ _ _ e1) ?_ ?_ ?_ ?_
 rfl
 exact okD_all rfl
 exact .inl rfl
 (simp only [go_sem, Nat.reduceLT])
 refine OW.run [0, 3, 4, 58] ?_
 (simp only [go_sem, simprocAttr, sw0, getD_mapF L r_ t.toNat default (by omega)])
 refine OW.nil (hK _ ?_)
 refine PW.cond rfl (fun h17 => ?_) (fun h17 => ?_)
 replace H := br_t h17 H
 refine PW.seq ?_
 refine PW.regionK fun K hK => OW.run [2] ?_
 simp only [go_sem, simprocAttr, sw0]
 refine OW.nil (hK _ ?_)
 refine PW.ret ?_
 change PW.Ends _ _ _ _ _ _
 refine PW.Ends.intro (.inr rfl) ?_
 simp only [go_sem, simprocAttr, sw0]
 obtain rfl := Option.some.inj H
 refine RetOK.data' 4 (by exact trivial) ?_
 rfl
 replace H := br_f h17 H
 refine PW.skip ?_
 refine PW.regionK fun K hK => OW.run [0, 3, 4] ?_
 simp only [go_sem, simprocAttr, sw0]
 refine OW.nil (hK _ ?_)
 refine hN12 [] (w64 (i + (1 : Int))) _ H (by exact trivial) ?_
 simp only [sw1, go_sem, simprocAttr]
 replace H := br_f h14 H
 refine PW.exit ?_
 refine hN8 [] () _ H (by exact trivial) ?_
 simp only [sw1, go_sem, simprocAttr]
 rintro _ H
 try simp only [go_sem, simprocAttr]
 refine PW.regionK fun K hK => OW.run [0, 3] ?_
 simp only [go_sem, simprocAttr, sw0]
 refine OW.nil (hK _ ?_)
 refine hN6 [] (w64 (t + (1 : Int))) _ H (by exact trivial) ?_
 simp only [sw1, go_sem, simprocAttr]
 replace H := br_f h7 H
 refine PW.exit ?_
 refine hN5 [] () _ H (by exact trivial) ?_
 simp only [sw1, go_sem, simprocAttr]
 rintro _ H
 try simp only [go_sem, simprocAttr]
 refine PW.seq ?_
 refine PW.regionK fun K hK => OW.run [2] ?_
 simp only [go_sem, simprocAttr, sw0]
 refine OW.nil (hK _ ?_)
 refine PW.ret ?_
 change PW.Ends _ _ _ _ _ _
 refine PW.Ends.intro (.inr rfl) ?_
 simp only [go_sem, simprocAttr, sw0]
 obtain rfl := Option.some.inj H
 refine RetOK.data' 4 (by exact trivial) ?_
 rfl

theorem ref06_TurnsOf_ok (N : Nat) (r_ : List (List Int)) (turns : List Int) (r : Int) (H : ref06_TurnsOf N r_ turns = some r) : CallOK Try.prog 51 [(.list r_.length (r_.map L)), (L turns)] (.d (I r)) [] := by
 refine CallOK.of_PW Try.func51 rfl (by rw [Try.results51]) Try.ntmps51 Try.call51 ?_
 change PW _ _ _ _ _
 try simp only [go_sem, simprocAttr]
 unfold ref06_TurnsOf at H
 refine PW.seq ?_
 refine PW.regionK fun K hK => OW.run [0, 1] ?_
 simp only [go_sem, simprocAttr, sw0]
 refine OW.nil (hK _ ?_)
 refine PW.seq ?_
 obtain ⟨c1, H⟩ := chk_some H
 obtain ⟨c2, H⟩ := chk_some H
 refine PW.regionK fun K hK => OW.run [0, 1, 5] ?_
 (simp only [go_sem, simprocAttr, sw0, getD_mapF L r_ 0 default (by omega)])
 repeat (refine And.intro (by omega) ?_)
 refine OW.nil (hK _ ?_)
 refine PW.joinS (τ := List Int) [5] 1 (fun b0 => [(5, .own 0 0 b0.length 1)]) (fun b0 => [{ cells := (b0.map I).map .d, e := 3 }]) _ _ r (by exact Nat.zero_le _) H ?_ ?_
 intro K_ H N3 hN3
 refine PW.seq ?_
 refine PW.regionK fun K hK => OW.run [0, 1, 5, 6] ?_
 simp only [go_sem, simprocAttr, sw0]
 refine OW.nil (hK _ ?_)
 refine PW.block ?_
 refine PW.loopS (σ := Int × List Int) [0, 1, 5, 6] 1 (fun (t, b01) => [(5, .own 0 0 b01.length 1), (6, .d (I t))]) (fun (t, b01) => [{ cells := (b01.map I).map .d, e := 3 }]) (ref06_TurnsOf.b1 N r_ turns K_) r N ((0 : Int), (List.replicate ((r_.getD 0 default).length : Int).toNat (0 : Int))) (by exact Nat.zero_le _) H (by (simp only [sw1, go_sem, simprocAttr]; done)) ?_
 rintro n ⟨t, b01⟩ H N4 hN4
 unfold ref06_TurnsOf.b1 at H
 try simp only [go_sem, simprocAttr]
 refine PW.seq ?_
 refine PW.seq ?_
 refine PW.regionK fun K hK => OW.run [0, 1, 5, 6, 17] ?_
 simp only [go_sem, simprocAttr, sw0]
 refine OW.nil (hK _ ?_)
 refine PW.cond rfl (fun h5 => ?_) (fun h5 => ?_)
 replace H := br_t h5 H
 refine PW.skip ?_
 refine PW.seq ?_
 refine PW.block ?_
 obtain ⟨c6, H⟩ := chk_some H
 obtain ⟨c7, H⟩ := chk_some H
 obtain ⟨c8, H⟩ := chk_some H
 obtain ⟨c9, H⟩ := chk_some H
 obtain ⟨c10, H⟩ := chk_some H
 obtain ⟨c11, H⟩ := chk_some H
 obtain ⟨c12, H⟩ := chk_some H
 refine PW.drawK 23 mixed (by kernel_rfl) fun K hK => ?_
 change FW _ _ _ _ _
 refine FW.run ?_
 (simp only [go_sem, simprocAttr, sw0, getD_mapF L r_ t.toNat default (by omega)])
 repeat (refine And.intro (by omega) ?_)
 refine FW.nil ?_
 change OW _ _ _ _ _ _
 refine OW.run [0, 1, 5, 6] ?_
 (simp only [go_sem, simprocAttr, sw0, getD_mapF L r_ t.toNat default (by omega)])
 repeat (refine And.intro (by omega) ?_)
 refine OW.nil (hK _ ?_)
 refine PW.regionK fun K hK => OW.run [0, 1, 5, 6] ?_
 simp only [go_sem, simprocAttr, sw0]
 refine OW.nil (hK _ ?_)
 refine hN4 [] (w64 (t + (1 : Int)), (b01.set ((turns.getD t.toNat 0).toNat) (w64 ((b01.getD ((turns.getD t.toNat 0).toNat) 0) + ((r_.getD t.toNat default).getD ((turns.getD t.toNat 0).toNat) 0))))) _ H (by exact trivial) ?_
 simp only [sw1, go_sem, simprocAttr]
 replace H := br_f h5 H
 refine PW.exit ?_
 refine hN3 [] b01 _ H (by exact trivial) ?_
 simp only [sw1, go_sem, simprocAttr]
 rintro b0 H
 try simp only [go_sem, simprocAttr]
 refine PW.seq ?_
 obtain ⟨c13, H⟩ := chk_some H
 refine PW.regionK fun K hK => OW.run [5, 7] ?_
 simp only [go_sem, simprocAttr, sw0]
 repeat (refine And.intro (by omega) ?_)
 refine OW.nil (hK _ ?_)
 refine PW.joinS (τ := Int) [7] 0 (fun least => [(7, .d (I least))]) (fun least => []) _ _ r (by exact Nat.le_refl _) H ?_ ?_
 intro K_1 H N14 hN14
 refine PW.seq ?_
 refine PW.regionK fun K hK => OW.run [5, 7, 8] ?_
 simp only [go_sem, simprocAttr, sw0]
 refine OW.nil (hK _ ?_)
 refine PW.block ?_
 refine PW.loopS (σ := Int × Int) [5, 7, 8] 1 (fun (least1, i) => [(7, .d (I least1)), (8, .d (I i))]) (fun (least1, i) => [{ cells := (b0.map I).map .d, e := 3 }]) (ref06_TurnsOf.b2 N b0 K_1) r N ((b0.getD 0 0), (1 : Int)) (by exact Nat.zero_le _) H (by (simp only [sw1, go_sem, simprocAttr]; done)) ?_
 rintro n ⟨least1, i⟩ H N15 hN15
 unfold ref06_TurnsOf.b2 at H
 try simp only [go_sem, simprocAttr]
 refine PW.seq ?_
 refine PW.seq ?_
 refine PW.regionK fun K hK => OW.run [5, 7, 8, 50] ?_
 simp only [go_sem, simprocAttr, sw0]
 refine OW.nil (hK _ ?_)
 refine PW.cond rfl (fun h16 => ?_) (fun h16 => ?_)
 replace H := br_t h16 H
 refine PW.skip ?_
 refine PW.seq ?_
 refine PW.block ?_
 obtain ⟨c17, H⟩ := chk_some H
 refine PW.regionK fun K hK => OW.run [5, 7, 8] ?_
 simp only [go_sem, simprocAttr, sw0]
 repeat (refine And.intro (by omega) ?_)
 refine OW.nil (hK _ ?_)
 refine PW.regionK fun K hK => OW.run [5, 7, 8] ?_
 simp only [go_sem, simprocAttr, sw0]
 refine OW.nil (hK _ ?_)
 refine hN15 [] ((if (b0.getD i.toNat 0) < least1 then (b0.getD i.toNat 0) else least1), w64 (i + (1 : Int))) _ H (by exact trivial) ?_
 simp only [sw1, go_sem, simprocAttr]
 replace H := br_f h16 H
 refine PW.exit ?_
 refine hN14 [] least1 _ H (by exact trivial) ?_
 simp only [sw1, go_sem, simprocAttr]
 rintro least H
 try simp only [go_sem, simprocAttr]
 refine PW.seq ?_
 refine PW.regionK fun K hK => OW.run [4] ?_
 simp only [go_sem, simprocAttr, sw0]
 refine OW.nil (hK _ ?_)
 refine PW.ret ?_
 change PW.Ends _ _ _ _ _ _
 refine PW.Ends.intro (.inr rfl) ?_
 simp only [go_sem, simprocAttr, sw0]
 obtain rfl := Option.some.inj H
 refine RetOK.data' 4 (by exact trivial) ?_
 rfl

theorem ref06_TurnsErr_ok (N : Nat) (r_ : List (List Int)) (turns : List Int) (r : Int) (H : ref06_TurnsErr N r_ turns = some r) : CallOK Try.prog 50 [(.list r_.length (r_.map L)), (L turns)] (.d (I r)) [] := by
 refine CallOK.of_PW Try.func50 rfl (by rw [Try.results50]) Try.ntmps50 Try.call50 ?_
 change PW _ _ _ _ _
 try simp only [go_sem, simprocAttr]
 unfold ref06_TurnsErr at H
 refine PW.seq ?_
 refine PW.regionK fun K hK => OW.run [0, 1] ?_
 simp only [go_sem, simprocAttr, sw0]
 refine OW.nil (hK _ ?_)
 refine PW.seq ?_
 refine PW.seq ?_
 refine PW.regionK fun K hK => OW.run [0, 1, 10] ?_
 simp only [go_sem, simprocAttr, sw0]
 refine OW.nil (hK _ ?_)
 refine PW.cond rfl (fun h1 => ?_) (fun h1 => ?_)
 replace H := br_t h1 H
 refine PW.seq ?_
 refine PW.regionK fun K hK => OW.run [4] ?_
 simp only [go_sem, simprocAttr, sw0]
 refine OW.nil (hK _ ?_)
 refine PW.ret ?_
 change PW.Ends _ _ _ _ _ _
 refine PW.Ends.intro (.inr rfl) ?_
 simp only [go_sem, simprocAttr, sw0]
 obtain rfl := Option.some.inj H
 refine RetOK.data' 4 (by exact trivial) ?_
 rfl
 replace H := br_f h1 H
 refine PW.skip ?_
 refine PW.joinS (τ := Unit) [] 0 (fun _ => []) (fun _ => []) _ _ r (by exact Nat.le_refl _) H ?_ ?_
 intro K_ H N2 hN2
 refine PW.seq ?_
 refine PW.regionK fun K hK => OW.run [0, 1, 5] ?_
 simp only [go_sem, simprocAttr, sw0]
 refine OW.nil (hK _ ?_)
 refine PW.block ?_
 refine PW.loopS (σ := Int) [0, 1, 5] 0 (fun t => [(5, .d (I t))]) (fun t => []) (ref06_TurnsErr.b1 N r_ turns K_) r N (0 : Int) (by exact Nat.le_refl _) H (by (simp only [sw1, go_sem, simprocAttr]; done)) ?_
 rintro n t H N3 hN3
 unfold ref06_TurnsErr.b1 at H
 try simp only [go_sem, simprocAttr]
 refine PW.seq ?_
 refine PW.seq ?_
 refine PW.regionK fun K hK => OW.run [0, 1, 5, 14] ?_
 simp only [go_sem, simprocAttr, sw0]
 refine OW.nil (hK _ ?_)
 refine PW.cond rfl (fun h4 => ?_) (fun h4 => ?_)
 replace H := br_t h4 H
 refine PW.skip ?_
 refine PW.seq ?_
 refine PW.block ?_
 refine PW.seq ?_
 obtain ⟨c5, H⟩ := chk_some H
 obtain ⟨c6, H⟩ := chk_some H
 obtain ⟨x1, e1, H⟩ := bnd_some H
 refine PW.drawK 9 mixed (by kernel_rfl) fun K hK => ?_
 change FW _ _ _ _ _
 refine FW.run ?_
 (simp only [go_sem, simprocAttr, sw0, getD_mapF L r_ 0 default (by omega)])
 repeat (refine And.intro (by omega) ?_)
 refine FW.nil ?_
 change OW _ _ _ _ _ _
 refine OW.run [0, 1, 5, 27] ?_
 (simp only [go_sem, simprocAttr, sw0, getD_mapF L r_ 0 default (by omega)])
 refine OW.call' 4 rfl rfl rfl (by ((simp only [go_sem, List.toList_toArray, simprocAttr]); exact rfl)) ?_ (base_Within_ok N _ _ _ _ e1) ?_ ?_ ?_ ?_
 rfl
 exact okD_all rfl
 exact .inl rfl
 (simp only [go_sem, Nat.reduceLT])
 refine OW.run [0, 1, 5, 27] ?_
 (simp only [go_sem, simprocAttr, sw0, getD_mapF L r_ 0 default (by omega)])
 refine OW.nil (hK _ ?_)
 refine PW.cond rfl (fun h7 => ?_) (fun h7 => ?_)
 replace H := br_t h7 H
 refine PW.seq ?_
 refine PW.regionK fun K hK => OW.run [4] ?_
 simp only [go_sem, simprocAttr, sw0]
 refine OW.nil (hK _ ?_)
 refine PW.ret ?_
 change PW.Ends _ _ _ _ _ _
 refine PW.Ends.intro (.inr rfl) ?_
 simp only [go_sem, simprocAttr, sw0]
 obtain rfl := Option.some.inj H
 refine RetOK.data' 4 (by exact trivial) ?_
 rfl
 replace H := br_f h7 H
 refine PW.skip ?_
 refine PW.regionK fun K hK => OW.run [0, 1, 5] ?_
 simp only [go_sem, simprocAttr, sw0]
 refine OW.nil (hK _ ?_)
 refine hN3 [] (w64 (t + (1 : Int))) _ H (by exact trivial) ?_
 simp only [sw1, go_sem, simprocAttr]
 replace H := br_f h4 H
 refine PW.exit ?_
 refine hN2 [] () _ H (by exact trivial) ?_
 simp only [sw1, go_sem, simprocAttr]
 rintro _ H
 try simp only [go_sem, simprocAttr]
 refine PW.seq ?_
 refine PW.regionK fun K hK => OW.run [4] ?_
 simp only [go_sem, simprocAttr, sw0]
 refine OW.nil (hK _ ?_)
 refine PW.ret ?_
 change PW.Ends _ _ _ _ _ _
 refine PW.Ends.intro (.inr rfl) ?_
 simp only [go_sem, simprocAttr, sw0]
 obtain rfl := Option.some.inj H
 refine RetOK.data' 4 (by exact trivial) ?_
 rfl

end Go.Proofs.Ytabojpkmfkjjkaa
