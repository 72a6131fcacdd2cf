import Derived.Test.YtabojpkmfkjjkaaSsBase
import Derived.Test.YtabojpkmfkjjkaaSsW0
import Derived.Test.YtabojpkmfkjjkaaSsW2
import Derived.Test.YtabojpkmfkjjkaaSsW4
import Derived.Test.YtabojpkmfkjjkaaSsW5
set_option linter.all false
namespace Go.Proofs.Ytabojpkmfkjjkaa
open Go.PW Go.Sh

set_option maxRecDepth 20000
set_option maxHeartbeats 8000000
def scqW7 := And.intro @List.length_set <| And.intro @List.length_replicate <| And.intro @and_true <| And.intro @true_and @Nat.le_refl
def z0W7a := flatMap_length 9 (fun (x : ByteArray × Int × Int × Int × Int × Int × Int × Int × Int) => [(Sx x.1), (I x.2.1), (I x.2.2.1), (I x.2.2.2.1), (I x.2.2.2.2.1), (I x.2.2.2.2.2.1), (I x.2.2.2.2.2.2.1), (I x.2.2.2.2.2.2.2.1), (I x.2.2.2.2.2.2.2.2)]) (fun _ => rfl)
def z1W7a := sub_el 9 (fun (x : ByteArray × Int × Int × Int × Int × Int × Int × Int × Int) => [(Sx x.1), (I x.2.1), (I x.2.2.1), (I x.2.2.2.1), (I x.2.2.2.2.1), (I x.2.2.2.2.2.1), (I x.2.2.2.2.2.2.1), (I x.2.2.2.2.2.2.2.1), (I x.2.2.2.2.2.2.2.2)]) (fun _ => rfl)
theorem law06_brief_ok (N : Nat) (l : List (List Int × List Int)) (r : Bool) (H : law06_brief N l = some r) : CallOK Try.prog 28 [(.list l.length (l.flatMap (fun (x : List Int × List Int) => [(L x.1), (L x.2)])))] (.d (Bo r)) [] := by
 refine CallOK.of_PW Try.func28 rfl (by rw [Try.results28]) Try.ntmps28 Try.call28 ?_
 change PW _ _ _ _ _
 try simp only [go_sem, simprocAttr]
 unfold law06_brief at H
 refine PW.seq ?_
 refine PW.regionK fun K hK => OW.run [0] ?_
 simp only [go_sem, simprocAttr, sw0]
 refine OW.nil (hK _ ?_)
 refine PW.seq ?_
 refine PW.seq ?_
 refine PW.regionK fun K hK => OW.run [0, 16] ?_
 simp only [go_sem, simprocAttr, sw0]
 refine OW.nil (hK _ ?_)
 refine PW.cond rfl (fun h1 => ?_) (fun h1 => ?_)
 replace H := br_t h1 H
 refine PW.seq ?_
 refine PW.regionK fun K hK => OW.run [2] ?_
 simp only [go_sem, simprocAttr, sw0]
 refine OW.nil (hK _ ?_)
 refine PW.ret ?_
 change PW.Ends _ _ _ _ _ _
 refine PW.Ends.intro (.inr rfl) ?_
 simp only [go_sem, simprocAttr, sw0]
 obtain rfl := Option.some.inj H
 refine RetOK.data' 4 (by exact trivial) ?_
 rfl
 replace H := br_f h1 H
 refine PW.skip ?_
 refine PW.joinS (τ := Unit) [] 0 (fun _ => []) (fun _ => []) _ _ r (by exact Nat.le_refl _) H ?_ ?_
 intro K_ H N2 hN2
 refine PW.seq ?_
 refine PW.regionK fun K hK => OW.run [0, 3] ?_
 simp only [go_sem, simprocAttr, sw0]
 refine OW.nil (hK _ ?_)
 refine PW.block ?_
 refine PW.loopS (σ := Int) [0, 3] 0 (fun i => [(3, .d (I i))]) (fun i => []) (law06_brief.b1 N l K_) r N (0 : Int) (by exact Nat.le_refl _) H (by (simp only [sw1, go_sem, simprocAttr]; done)) ?_
 rintro n i H N3 hN3
 unfold law06_brief.b1 at H
 try simp only [go_sem, simprocAttr]
 refine PW.seq ?_
 refine PW.seq ?_
 refine PW.regionK fun K hK => OW.run [0, 3, 20] ?_
 simp only [go_sem, simprocAttr, sw0]
 refine OW.nil (hK _ ?_)
 refine PW.cond rfl (fun h4 => ?_) (fun h4 => ?_)
 replace H := br_t h4 H
 refine PW.skip ?_
 refine PW.seq ?_
 refine PW.block ?_
 refine PW.seq ?_
 obtain ⟨c5, H⟩ := chk_some H
 obtain ⟨c6, H⟩ := chk_some H
 refine PW.regionK fun K hK => ?_
 refine OW.toS [(0, .d (.list l.length (l.flatMap (fun (x : List Int × List Int) => [(L x.1), (L x.2)])))), (3, .d (I i)), (38, .d (Bo ((decide ((((l.getD i.toNat default).1).length : Int) > (12 : Int))) || (decide ((((l.getD i.toNat default).2).length : Int) > (12 : Int))))))] [] ?_ (hK _ ?_)
 intro K hKE
 rcases Bool.eq_false_or_eq_true ((decide ((((l.getD i.toNat default).1).length : Int) > (12 : Int)))) with ha0 | ha0
 ·
  try simp only [ha0, sb0, true_implies, false_implies, forall_const] at c6
  refine OW.run [0, 3, 38] ?_
  (simp only [go_sem, simprocAttr, sw0, flatMap_length 2 (fun (x : List Int × List Int) => [(L x.1), (L x.2)]) (fun _ => rfl), sub_el 2 (fun (x : List Int × List Int) => [(L x.1), (L x.2)]) (fun _ => rfl) l i.toNat (by omega), ha0])
  repeat (refine And.intro (by first | omega | (intro hg; have hq := c6 (by first | exact hg | simpa using hg); first | omega | exact hq | (simp only [List.length_map]; omega)) | (first | omega | assumption | rfl | decide | trivial)) ?_)
  refine OW.nil ((congrArg K ?_).mpr hKE)
  · (first | rfl | (simp only [go_sem, simprocAttr, ha0]; done) | (simp only [go_sem, simprocAttr, ha0]; rfl))
 ·
  try simp only [ha0, sb0, true_implies, false_implies, forall_const] at c6
  refine OW.run [0, 3, 38] ?_
  (simp only [go_sem, simprocAttr, sw0, flatMap_length 2 (fun (x : List Int × List Int) => [(L x.1), (L x.2)]) (fun _ => rfl), sub_el 2 (fun (x : List Int × List Int) => [(L x.1), (L x.2)]) (fun _ => rfl) l i.toNat (by omega), ha0])
  repeat (refine And.intro (by first | omega | (intro hg; have hq := c6 (by first | exact hg | simpa using hg); first | omega | exact hq | (simp only [List.length_map]; omega)) | (first | omega | assumption | rfl | decide | trivial)) ?_)
  refine OW.nil ((congrArg K ?_).mpr hKE)
  · (first | rfl | (simp only [go_sem, simprocAttr, ha0]; done) | (simp only [go_sem, simprocAttr, ha0]; rfl))
 clear hK K
 refine PW.cond rfl (fun h7 => ?_) (fun h7 => ?_)
 replace H := br_t h7 H
 refine PW.seq ?_
 refine PW.regionK fun K hK => OW.run [2] ?_
 simp only [go_sem, simprocAttr, sw0]
 refine OW.nil (hK _ ?_)
 refine PW.ret ?_
 change PW.Ends _ _ _ _ _ _
 refine PW.Ends.intro (.inr rfl) ?_
 simp only [go_sem, simprocAttr, sw0]
 obtain rfl := Option.some.inj H
 refine RetOK.data' 4 (by exact trivial) ?_
 rfl
 replace H := br_f h7 H
 refine PW.skip ?_
 refine PW.regionK fun K hK => OW.run [0, 3] ?_
 simp only [go_sem, simprocAttr, sw0]
 refine OW.nil (hK _ ?_)
 refine hN3 [] (w64 (i + (1 : Int))) _ H (by exact trivial) ?_
 simp only [sw1, go_sem, simprocAttr]
 replace H := br_f h4 H
 refine PW.exit ?_
 refine hN2 [] () _ H (by exact trivial) ?_
 simp only [sw1, go_sem, simprocAttr]
 rintro _ H
 try simp only [go_sem, simprocAttr]
 refine PW.seq ?_
 refine PW.regionK fun K hK => OW.run [2] ?_
 simp only [go_sem, simprocAttr, sw0]
 refine OW.nil (hK _ ?_)
 refine PW.ret ?_
 change PW.Ends _ _ _ _ _ _
 refine PW.Ends.intro (.inr rfl) ?_
 simp only [go_sem, simprocAttr, sw0]
 obtain rfl := Option.some.inj H
 refine RetOK.data' 4 (by exact trivial) ?_
 rfl

theorem ref06_SlotsErr_ok (N : Nat) (Zq : Int) (Zr : Int) (Zs : Int) (Zx : List Int) (bearers : Int) (l : List (List Int × List Int)) (r : Int) (H : ref06_SlotsErr N Zq Zr Zs Zx bearers l = some r) : CallOK Try.prog 103 [(.agg [(I Zq), (I Zr), (I Zs), (L Zx)]), (I bearers), (.list l.length (l.flatMap (fun (x : List Int × List Int) => [(L x.1), (L x.2)])))] (.d (I r)) [] := by
 refine CallOK.of_PW Try.func103 rfl (by rw [Try.results103]) Try.ntmps103 Try.call103 ?_
 change PW _ _ _ _ _
 try simp only [go_sem, simprocAttr]
 unfold ref06_SlotsErr at H
 refine PW.seq ?_
 refine PW.regionK fun K hK => OW.run [1, 2, 3] ?_
 simp only [go_sem, simprocAttr, sw0]
 refine OW.nil (hK _ ?_)
 refine PW.seq ?_
 refine PW.seq ?_
 refine PW.regionK fun K hK => OW.run [1, 2, 3, 11] ?_
 simp only [go_sem, simprocAttr, sw0]
 refine OW.nil (hK _ ?_)
 refine PW.cond rfl (fun h1 => ?_) (fun h1 => ?_)
 replace H := br_t h1 H
 refine PW.seq ?_
 refine PW.regionK fun K hK => OW.run [6] ?_
 simp only [go_sem, simprocAttr, sw0]
 refine OW.nil (hK _ ?_)
 refine PW.ret ?_
 change PW.Ends _ _ _ _ _ _
 refine PW.Ends.intro (.inr rfl) ?_
 simp only [go_sem, simprocAttr, sw0]
 obtain rfl := Option.some.inj H
 refine RetOK.data' 4 (by exact trivial) ?_
 rfl
 replace H := br_f h1 H
 refine PW.skip ?_
 refine PW.joinS (τ := Unit) [] 0 (fun _ => []) (fun _ => []) _ _ r (by exact Nat.le_refl _) H ?_ ?_
 intro K_ H N2 hN2
 refine PW.seq ?_
 refine PW.regionK fun K hK => OW.run [1, 2, 3, 7] ?_
 simp only [go_sem, simprocAttr, sw0]
 refine OW.nil (hK _ ?_)
 refine PW.block ?_
 refine PW.loopS (σ := Int) [1, 2, 3, 7] 1 (fun i => [(7, .d (I i))]) (fun i => [{ cells := [.d (I Zq), .d (I Zr), .d (I Zs), .d (L Zx)], e := 24 }]) (ref06_SlotsErr.b1 N Zq Zr Zs Zx bearers l K_) r N (0 : Int) (by exact Nat.zero_le _) H (by (simp only [sw1, go_sem, simprocAttr]; done)) ?_
 rintro n i H N3 hN3
 unfold ref06_SlotsErr.b1 at H
 try simp only [go_sem, simprocAttr]
 refine PW.seq ?_
 refine PW.seq ?_
 refine PW.regionK fun K hK => OW.run [1, 2, 3, 7, 15] ?_
 simp only [go_sem, simprocAttr, sw0]
 refine OW.nil (hK _ ?_)
 refine PW.cond rfl (fun h4 => ?_) (fun h4 => ?_)
 replace H := br_t h4 H
 refine PW.skip ?_
 refine PW.joinS (τ := Unit) [1, 2, 3, 7] 1 (fun _ => []) (fun _ => [{ cells := [.d (I Zq), .d (I Zr), .d (I Zs), .d (L Zx)], e := 24 }]) _ _ r (by exact Nat.zero_le _) H ?_ ?_
 intro K_1 H N5 hN5
 refine PW.block ?_
 refine PW.seq ?_
 refine PW.seq ?_
 obtain ⟨c6, H⟩ := chk_some H
 obtain ⟨c7, H⟩ := chk_some H
 refine PW.regionK fun K hK => ?_
 refine OW.toS [(1, .d (I bearers)), (2, .d (.list l.length (l.flatMap (fun (x : List Int × List Int) => [(L x.1), (L x.2)])))), (3, .ptr 0 0), (7, .d (I i)), (35, .d (Bo (((((l.getD i.toNat default).1).length : Int) != bearers) || ((((l.getD i.toNat default).2).length : Int) != bearers))))] [{ cells := [.d (I Zq), .d (I Zr), .d (I Zs), .d (L Zx)], e := 24 }] ?_ (hK _ ?_)
 intro K hKE
 rcases Bool.eq_false_or_eq_true (((((l.getD i.toNat default).1).length : Int) != bearers)) with ha0 | ha0
 ·
  try simp only [ha0, sb0, true_implies, false_implies, forall_const] at c7
  refine OW.run [1, 2, 3, 7, 35] ?_
  (simp only [go_sem, simprocAttr, sw0, flatMap_length 2 (fun (x : List Int × List Int) => [(L x.1), (L x.2)]) (fun _ => rfl), sub_el 2 (fun (x : List Int × List Int) => [(L x.1), (L x.2)]) (fun _ => rfl) l i.toNat (by omega), ha0])
  repeat (refine And.intro (by first | omega | (intro hg; have hq := c7 (by first | exact hg | simpa using hg); first | omega | exact hq | (simp only [List.length_map]; omega)) | (first | omega | assumption | rfl | decide | trivial)) ?_)
  refine OW.nil ((congrArg K ?_).mpr hKE)
  · (first | rfl | (simp only [go_sem, simprocAttr, ha0]; done) | (simp only [go_sem, simprocAttr, ha0]; rfl))
 ·
  try simp only [ha0, sb0, true_implies, false_implies, forall_const] at c7
  refine OW.run [1, 2, 3, 7, 35] ?_
  (simp only [go_sem, simprocAttr, sw0, flatMap_length 2 (fun (x : List Int × List Int) => [(L x.1), (L x.2)]) (fun _ => rfl), sub_el 2 (fun (x : List Int × List Int) => [(L x.1), (L x.2)]) (fun _ => rfl) l i.toNat (by omega), ha0])
  repeat (refine And.intro (by first | omega | (intro hg; have hq := c7 (by first | exact hg | simpa using hg); first | omega | exact hq | (simp only [List.length_map]; omega)) | (first | omega | assumption | rfl | decide | trivial)) ?_)
  refine OW.nil ((congrArg K ?_).mpr hKE)
  · (first | rfl | (simp only [go_sem, simprocAttr, ha0]; done) | (simp only [go_sem, simprocAttr, ha0]; rfl))
 clear hK K
 refine PW.cond rfl (fun h8 => ?_) (fun h8 => ?_)
 replace H := br_t h8 H
 refine PW.seq ?_
 refine PW.regionK fun K hK => OW.run [6] ?_
 simp only [go_sem, simprocAttr, sw0]
 refine OW.nil (hK _ ?_)
 refine PW.ret ?_
 change PW.Ends _ _ _ _ _ _
 refine PW.Ends.intro (.inr rfl) ?_
 simp only [go_sem, simprocAttr, sw0]
 obtain rfl := Option.some.inj H
 refine RetOK.data' 4 (by exact trivial) ?_
 rfl
 replace H := br_f h8 H
 refine PW.skip ?_
 refine PW.seq ?_
 refine PW.regionK fun K hK => OW.run [1, 2, 3, 7, 8] ?_
 simp only [go_sem, simprocAttr, sw0]
 refine OW.nil (hK _ ?_)
 refine PW.block ?_
 refine PW.loopS (σ := Int) [1, 2, 3, 7, 8] 1 (fun k => [(8, .d (I k))]) (fun k => [{ cells := [.d (I Zq), .d (I Zr), .d (I Zs), .d (L Zx)], e := 24 }]) (ref06_SlotsErr.b2 N Zq Zr Zs Zx bearers l i K_1) r N (0 : Int) (by exact Nat.zero_le _) H (by (simp only [sw1, go_sem, simprocAttr]; done)) ?_
 rintro n k H N9 hN9
 unfold ref06_SlotsErr.b2 at H
 try simp only [go_sem, simprocAttr]
 refine PW.seq ?_
 refine PW.seq ?_
 refine PW.regionK fun K hK => OW.run [1, 2, 3, 7, 8, 38] ?_
 simp only [go_sem, simprocAttr, sw0]
 refine OW.nil (hK _ ?_)
 refine PW.cond rfl (fun h10 => ?_) (fun h10 => ?_)
 replace H := br_t h10 H
 refine PW.skip ?_
 refine PW.seq ?_
 refine PW.block ?_
 refine PW.seq ?_
 obtain ⟨c11, H⟩ := chk_some H
 obtain ⟨c12, H⟩ := chk_some H
 obtain ⟨x1, e1, H⟩ := bnd_some H
 obtain ⟨c13, H⟩ := chk_some H
 obtain ⟨c14, H⟩ := chk_some H
 obtain ⟨x2, e2, H⟩ := bnd_some H
 refine PW.drawK 18 mixed (by kernel_rfl) fun K hK => ?_
 change FW _ _ _ _ _
 refine FW.toS [(1, .d (I bearers)), (2, .d (.list l.length (l.flatMap (fun (x : List Int × List Int) => [(L x.1), (L x.2)])))), (3, .ptr 0 0), (7, .d (I i)), (8, .d (I k)), (63, .d (Bo ((!x1) || (!x2))))] [{ cells := [.d (I Zq), .d (I Zr), .d (I Zs), .d (L Zx)], e := 24 }] ?_ (hK _ ?_)
 intro K hKE
 rcases Bool.eq_false_or_eq_true (x1) with ha0 | ha0
 ·
  try simp only [ha0, sb0, true_implies, false_implies, forall_const] at c13
  try simp only [ha0, sb0, true_implies, false_implies, forall_const] at c14
  refine FW.run ?_
  (simp only [go_sem, simprocAttr, sw0, flatMap_length 2 (fun (x : List Int × List Int) => [(L x.1), (L x.2)]) (fun _ => rfl), sub_el 2 (fun (x : List Int × List Int) => [(L x.1), (L x.2)]) (fun _ => rfl) l i.toNat (by omega), ha0])
  repeat (refine And.intro (by first | omega | (intro hg; have hq := c13 (by first | exact hg | simpa using hg); first | omega | exact hq | (simp only [List.length_map]; omega)) | (intro hg; have hq := c14 (by first | exact hg | simpa using hg); first | omega | exact hq | (simp only [List.length_map]; omega)) | (first | omega | assumption | rfl | decide | trivial)) ?_)
  refine FW.call' 4 rfl rfl rfl (by ((simp only [go_sem, List.toList_toArray, simprocAttr]); exact rfl)) ?_ (ref06_IsReport_ok N _ _ _ _ _ _ e1) ?_ ?_ ?_ ?_
  rfl
  · (refine okAll_intro ?_; (simp only [go_sem, sw2, scqW7, simprocAttr]; done))
  exact .inl rfl
  (simp only [go_sem, Nat.reduceLT])
  refine FW.run ?_
  (simp only [go_sem, simprocAttr, sw0, flatMap_length 2 (fun (x : List Int × List Int) => [(L x.1), (L x.2)]) (fun _ => rfl), sub_el 2 (fun (x : List Int × List Int) => [(L x.1), (L x.2)]) (fun _ => rfl) l i.toNat (by omega), ha0])
  repeat (refine And.intro (by first | omega | (intro hg; have hq := c13 (by first | exact hg | simpa using hg); first | omega | exact hq | (simp only [List.length_map]; omega)) | (intro hg; have hq := c14 (by first | exact hg | simpa using hg); first | omega | exact hq | (simp only [List.length_map]; omega)) | (first | omega | assumption | rfl | decide | trivial)) ?_)
  refine FW.nil ?_
  change OW _ _ _ _ _ _
  refine OW.run [1, 2, 3, 7, 8, 63] ?_
  (simp only [go_sem, simprocAttr, sw0, flatMap_length 2 (fun (x : List Int × List Int) => [(L x.1), (L x.2)]) (fun _ => rfl), sub_el 2 (fun (x : List Int × List Int) => [(L x.1), (L x.2)]) (fun _ => rfl) l i.toNat (by omega), ha0])
  repeat (refine And.intro (by first | omega | (intro hg; have hq := c13 (by first | exact hg | simpa using hg); first | omega | exact hq | (simp only [List.length_map]; omega)) | (intro hg; have hq := c14 (by first | exact hg | simpa using hg); first | omega | exact hq | (simp only [List.length_map]; omega)) | (first | omega | assumption | rfl | decide | trivial)) ?_)
  refine OW.callG' 4 rfl rfl ?_ (fun hg => by first | rfl | (simp only [go_sem, ↓reduceIte]; rfl)) (fun hg => by (first | ((simp only [go_sem, List.toList_toArray, simprocAttr, ha0]); exact rfl) | exact rfl)) (fun hg => ?_) (fun hg => (base_Within_ok N _ _ _ _ (grd_t hg e2))) ?_ ?_ ?_ ?_
  · (first | rfl | (simp only [go_sem, simprocAttr, ha0]; done) | (simp only [go_sem, simprocAttr, ha0]; rfl))
  · first | (rfl; done) | (exfalso; simp only [ha0, sb0] at hg)
  exact okD_all rfl
  exact .inl rfl
  (simp only [go_sem, Nat.reduceLT])
  refine OW.run [1, 2, 3, 7, 8, 63] ?_
  (simp only [go_sem, simprocAttr, sw0, flatMap_length 2 (fun (x : List Int × List Int) => [(L x.1), (L x.2)]) (fun _ => rfl), sub_el 2 (fun (x : List Int × List Int) => [(L x.1), (L x.2)]) (fun _ => rfl) l i.toNat (by omega), ha0])
  repeat (refine And.intro (by first | omega | (intro hg; have hq := c13 (by first | exact hg | simpa using hg); first | omega | exact hq | (simp only [List.length_map]; omega)) | (intro hg; have hq := c14 (by first | exact hg | simpa using hg); first | omega | exact hq | (simp only [List.length_map]; omega)) | (first | omega | assumption | rfl | decide | trivial)) ?_)
  refine OW.nil ((congrArg K ?_).mpr hKE)
  · (first | rfl | (simp only [go_sem, simprocAttr, ha0]; done) | (simp only [go_sem, simprocAttr, ha0]; rfl))
 ·
  try simp only [ha0, sb0, true_implies, false_implies, forall_const] at c13
  try simp only [ha0, sb0, true_implies, false_implies, forall_const] at c14
  refine FW.run ?_
  (simp only [go_sem, simprocAttr, sw0, flatMap_length 2 (fun (x : List Int × List Int) => [(L x.1), (L x.2)]) (fun _ => rfl), sub_el 2 (fun (x : List Int × List Int) => [(L x.1), (L x.2)]) (fun _ => rfl) l i.toNat (by omega), ha0])
  repeat (refine And.intro (by first | omega | (intro hg; have hq := c13 (by first | exact hg | simpa using hg); first | omega | exact hq | (simp only [List.length_map]; omega)) | (intro hg; have hq := c14 (by first | exact hg | simpa using hg); first | omega | exact hq | (simp only [List.length_map]; omega)) | (first | omega | assumption | rfl | decide | trivial)) ?_)
  refine FW.call' 4 rfl rfl rfl (by ((simp only [go_sem, List.toList_toArray, simprocAttr]); exact rfl)) ?_ (ref06_IsReport_ok N _ _ _ _ _ _ e1) ?_ ?_ ?_ ?_
  rfl
  · (refine okAll_intro ?_; (simp only [go_sem, sw2, scqW7, simprocAttr]; done))
  exact .inl rfl
  (simp only [go_sem, Nat.reduceLT])
  refine FW.run ?_
  (simp only [go_sem, simprocAttr, sw0, flatMap_length 2 (fun (x : List Int × List Int) => [(L x.1), (L x.2)]) (fun _ => rfl), sub_el 2 (fun (x : List Int × List Int) => [(L x.1), (L x.2)]) (fun _ => rfl) l i.toNat (by omega), ha0])
  repeat (refine And.intro (by first | omega | (intro hg; have hq := c13 (by first | exact hg | simpa using hg); first | omega | exact hq | (simp only [List.length_map]; omega)) | (intro hg; have hq := c14 (by first | exact hg | simpa using hg); first | omega | exact hq | (simp only [List.length_map]; omega)) | (first | omega | assumption | rfl | decide | trivial)) ?_)
  refine FW.nil ?_
  change OW _ _ _ _ _ _
  refine OW.run [1, 2, 3, 7, 8, 63] ?_
  (simp only [go_sem, simprocAttr, sw0, flatMap_length 2 (fun (x : List Int × List Int) => [(L x.1), (L x.2)]) (fun _ => rfl), sub_el 2 (fun (x : List Int × List Int) => [(L x.1), (L x.2)]) (fun _ => rfl) l i.toNat (by omega), ha0])
  repeat (refine And.intro (by first | omega | (intro hg; have hq := c13 (by first | exact hg | simpa using hg); first | omega | exact hq | (simp only [List.length_map]; omega)) | (intro hg; have hq := c14 (by first | exact hg | simpa using hg); first | omega | exact hq | (simp only [List.length_map]; omega)) | (first | omega | assumption | rfl | decide | trivial)) ?_)
  refine OW.callG' 4 rfl rfl ?_ (fun hg => by first | rfl | (simp only [go_sem, ↓reduceIte]; rfl)) (fun hg => by (first | ((simp only [go_sem, List.toList_toArray, simprocAttr, ha0]); exact rfl) | exact rfl)) (fun hg => ?_) (fun hg => (base_Within_ok N _ _ _ _ (grd_t hg e2))) ?_ ?_ ?_ ?_
  · (first | rfl | (simp only [go_sem, simprocAttr, ha0]; done) | (simp only [go_sem, simprocAttr, ha0]; rfl))
  · first | (rfl; done) | (exfalso; simp only [ha0, sb0] at hg)
  exact okD_all rfl
  exact .inl rfl
  (simp only [go_sem, Nat.reduceLT])
  refine OW.run [1, 2, 3, 7, 8, 63] ?_
  (simp only [go_sem, simprocAttr, sw0, flatMap_length 2 (fun (x : List Int × List Int) => [(L x.1), (L x.2)]) (fun _ => rfl), sub_el 2 (fun (x : List Int × List Int) => [(L x.1), (L x.2)]) (fun _ => rfl) l i.toNat (by omega), ha0])
  repeat (refine And.intro (by first | omega | (intro hg; have hq := c13 (by first | exact hg | simpa using hg); first | omega | exact hq | (simp only [List.length_map]; omega)) | (intro hg; have hq := c14 (by first | exact hg | simpa using hg); first | omega | exact hq | (simp only [List.length_map]; omega)) | (first | omega | assumption | rfl | decide | trivial)) ?_)
  refine OW.nil ((congrArg K ?_).mpr hKE)
  · (first | rfl | (simp only [go_sem, simprocAttr, ha0]; done) | (simp only [go_sem, simprocAttr, ha0]; rfl))
 clear hK K
 refine PW.cond rfl (fun h15 => ?_) (fun h15 => ?_)
 replace H := br_t h15 H
 refine PW.seq ?_
 refine PW.regionK fun K hK => OW.run [6] ?_
 simp only [go_sem, simprocAttr, sw0]
 refine OW.nil (hK _ ?_)
 refine PW.ret ?_
 change PW.Ends _ _ _ _ _ _
 refine PW.Ends.intro (.inr rfl) ?_
 simp only [go_sem, simprocAttr, sw0]
 obtain rfl := Option.some.inj H
 refine RetOK.data' 4 (by exact trivial) ?_
 rfl
 replace H := br_f h15 H
 refine PW.skip ?_
 refine PW.regionK fun K hK => OW.run [1, 2, 3, 7, 8] ?_
 simp only [go_sem, simprocAttr, sw0]
 refine OW.nil (hK _ ?_)
 refine hN9 [] (w64 (k + (1 : Int))) _ H (by exact trivial) ?_
 simp only [sw1, go_sem, simprocAttr]
 replace H := br_f h10 H
 refine PW.exit ?_
 refine hN5 [] () _ H (by exact trivial) ?_
 simp only [sw1, go_sem, simprocAttr]
 rintro _ H
 try simp only [go_sem, simprocAttr]
 refine PW.regionK fun K hK => OW.run [1, 2, 3, 7] ?_
 simp only [go_sem, simprocAttr, sw0]
 refine OW.nil (hK _ ?_)
 refine hN3 [] (w64 (i + (1 : Int))) _ H (by exact trivial) ?_
 simp only [sw1, go_sem, simprocAttr]
 replace H := br_f h4 H
 refine PW.exit ?_
 refine hN2 [] () _ H (by exact trivial) ?_
 simp only [sw1, go_sem, simprocAttr]
 rintro _ H
 try simp only [go_sem, simprocAttr]
 refine PW.seq ?_
 refine PW.regionK fun K hK => OW.run [6] ?_
 simp only [go_sem, simprocAttr, sw0]
 refine OW.nil (hK _ ?_)
 refine PW.ret ?_
 change PW.Ends _ _ _ _ _ _
 refine PW.Ends.intro (.inr rfl) ?_
 simp only [go_sem, simprocAttr, sw0]
 obtain rfl := Option.some.inj H
 refine RetOK.data' 4 (by exact trivial) ?_
 rfl

theorem law06_runErr_ok (N : Nat) (Zq : Int) (Zr : Int) (Zs : Int) (Zx : List Int) (l : List TB) (slots : List (List Int × List Int)) (r : Int) (H : law06_runErr N Zq Zr Zs Zx l slots = some r) : CallOK Try.prog 29 [(.agg [(I Zq), (I Zr), (I Zs), (L Zx)]), (.list l.length (l.flatMap (fun (x : ByteArray × Int × Int × Int × Int × Int × Int × Int × Int) => [(Sx x.1), (I x.2.1), (I x.2.2.1), (I x.2.2.2.1), (I x.2.2.2.2.1), (I x.2.2.2.2.2.1), (I x.2.2.2.2.2.2.1), (I x.2.2.2.2.2.2.2.1), (I x.2.2.2.2.2.2.2.2)]))), (.list slots.length (slots.flatMap (fun (x : List Int × List Int) => [(L x.1), (L x.2)])))] (.d (I r)) [] := by
 refine CallOK.of_PW Try.func29 rfl (by rw [Try.results29]) Try.ntmps29 Try.call29 ?_
 change PW _ _ _ _ _
 try simp only [go_sem, simprocAttr]
 unfold law06_runErr at H
 refine PW.seq ?_
 refine PW.regionK fun K hK => OW.run [1, 2, 3] ?_
 simp only [go_sem, simprocAttr, sw0]
 refine OW.nil (hK _ ?_)
 refine PW.seq ?_
 refine PW.seq ?_
 obtain ⟨x1, e1, H⟩ := bnd_some H
 refine PW.regionK fun K hK => OW.run [1, 2, 3, 7] ?_
 simp only [go_sem, simprocAttr, sw0]
 refine OW.call' 4 rfl rfl rfl (by ((simp only [go_sem, List.toList_toArray, simprocAttr]); exact rfl)) ?_ (ref06_BothErr_ok N _ _ _ _ _ _ e1) ?_ ?_ ?_ ?_
 rfl
 · (refine okAll_intro ?_; (simp only [go_sem, sw2, scqW7, simprocAttr]; done))
 exact .inl rfl
 (simp only [go_sem, Nat.reduceLT])
 refine OW.run [1, 2, 3, 7] ?_
 simp only [go_sem, simprocAttr, sw0]
 refine OW.nil (hK _ ?_)
 refine PW.seq ?_
 refine PW.regionK fun K hK => OW.run [1, 2, 3, 7, 12] ?_
 simp only [go_sem, simprocAttr, sw0]
 refine OW.nil (hK _ ?_)
 refine PW.cond rfl (fun h1 => ?_) (fun h1 => ?_)
 replace H := br_t h1 H
 refine PW.seq ?_
 refine PW.regionK fun K hK => OW.run [6] ?_
 simp only [go_sem, simprocAttr, sw0]
 refine OW.nil (hK _ ?_)
 refine PW.ret ?_
 change PW.Ends _ _ _ _ _ _
 refine PW.Ends.intro (.inr rfl) ?_
 simp only [go_sem, simprocAttr, sw0]
 obtain rfl := Option.some.inj H
 refine RetOK.data' 4 (by exact trivial) ?_
 rfl
 replace H := br_f h1 H
 refine PW.skip ?_
 refine PW.seq ?_
 obtain ⟨x2, e2, H⟩ := bnd_some H
 refine PW.regionK fun K hK => OW.run [6] ?_
 simp only [go_sem, simprocAttr, sw0]
 refine OW.call' 4 rfl rfl rfl (by ((simp only [go_sem, List.toList_toArray, simprocAttr]); exact rfl)) ?_ (ref06_SlotsErr_ok N _ _ _ _ _ _ _ e2) ?_ ?_ ?_ ?_
 rfl
 · (refine okAll_intro ?_; (simp only [go_sem, sw2, scqW7, simprocAttr]; done))
 exact .inl rfl
 (simp only [go_sem, Nat.reduceLT])
 refine OW.run [6] ?_
 simp only [go_sem, simprocAttr, sw0]
 refine OW.nil (hK _ ?_)
 refine PW.ret ?_
 change PW.Ends _ _ _ _ _ _
 refine PW.Ends.intro (.inr rfl) ?_
 simp only [go_sem, simprocAttr, sw0]
 obtain rfl := Option.some.inj H
 refine RetOK.data' 4 (by exact trivial) ?_
 rfl

theorem ref06_CopySlots_ok (N : Nat) (l : List (List Int × List Int)) (r : (List (List Int × List Int))) (H : ref06_CopySlots N l = some r) : CallOK Try.prog 31 [(.list l.length (l.flatMap (fun (x : List Int × List Int) => [(L x.1), (L x.2)])))] (.d (.list r.length (r.flatMap (fun (x : List Int × List Int) => [(L x.1), (L x.2)])))) [] := by
 refine CallOK.of_PW Try.func31 rfl (by rw [Try.results31]) Try.ntmps31 Try.call31 ?_
 change PW _ _ _ _ _
 try simp only [go_sem, simprocAttr]
 unfold ref06_CopySlots at H
 refine PW.seq ?_
 refine PW.regionK fun K hK => OW.run [0] ?_
 simp only [go_sem, simprocAttr, sw0]
 refine OW.nil (hK _ ?_)
 refine PW.seq ?_
 refine PW.regionK fun K hK => OW.run [0, 3] ?_
 simp only [go_sem, simprocAttr, sw0]
 refine OW.nil (hK _ ?_)
 refine PW.joinS (τ := (List (List Int × List Int))) [3] 1 (fun b0 => [(3, .own 0 0 b0.length 2)]) (fun b0 => [{ cells := (b0.flatMap (fun (x : List Int × List Int) => [(L x.1), (L x.2)])).map .d, e := 57 }]) _ _ r (by exact Nat.zero_le _) H ?_ ?_
 intro K_ H N1 hN1
 refine PW.seq ?_
 refine PW.regionK fun K hK => OW.run [0, 3, 4] ?_
 simp only [go_sem, simprocAttr, sw0]
 refine OW.nil (hK _ ?_)
 refine PW.block ?_
 refine PW.virt 3 57 2 rfl ?_
 try simp only [go_sem, simprocAttr]
 refine PW.loopS (σ := Int × (List (List Int × List Int))) [0, 3, 4] 1 (fun (i, b01) => [(3, .own 0 0 b01.length 2), (4, .d (I i))]) (fun (i, b01) => [{ cells := (b01.flatMap (fun (x : List Int × List Int) => [(L x.1), (L x.2)])).map .d, e := 57 }]) (ref06_CopySlots.b1 N l K_) r N ((0 : Int), ([] : List (List Int × List Int))) (by exact Nat.zero_le _) H (by (simp only [sw1, go_sem, simprocAttr]; rfl)) ?_
 rintro n ⟨i, b01⟩ H N2 hN2
 unfold ref06_CopySlots.b1 at H
 try simp only [go_sem, simprocAttr]
 refine PW.seq ?_
 refine PW.seq ?_
 refine PW.regionK fun K hK => OW.run [0, 3, 4, 8] ?_
 simp only [go_sem, simprocAttr, sw0]
 refine OW.nil (hK _ ?_)
 refine PW.cond rfl (fun h3 => ?_) (fun h3 => ?_)
 replace H := br_t h3 H
 refine PW.skip ?_
 refine PW.seq ?_
 refine PW.block ?_
 obtain ⟨c4, H⟩ := chk_some H
 obtain ⟨x1, e1, H⟩ := bnd_some H
 obtain ⟨c5, H⟩ := chk_some H
 obtain ⟨x2, e2, H⟩ := bnd_some H
 obtain ⟨c6, H⟩ := chk_some H
 refine PW.drawK 15 mixed (by kernel_rfl) fun K hK => ?_
 change FW _ _ _ _ _
 refine FW.run ?_
 (simp only [go_sem, simprocAttr, sw0, flatMap_length 2 (fun (x : List Int × List Int) => [(L x.1), (L x.2)]) (fun _ => rfl), sub_el 2 (fun (x : List Int × List Int) => [(L x.1), (L x.2)]) (fun _ => rfl) l i.toNat (by omega), allOne_flatF (fun (x : List Int × List Int) => [(L x.1), (L x.2)]) (fun _ => rfl)])
 repeat (refine And.intro (by omega) ?_)
 refine FW.call' 4 rfl rfl rfl (by ((simp only [go_sem, List.toList_toArray, simprocAttr]); exact rfl)) ?_ (base_CopyInts_okd N _ _ e1) ?_ ?_ ?_ ?_
 rfl
 exact okD_all rfl
 exact .inl rfl
 (simp only [go_sem, Nat.reduceLT])
 refine FW.run ?_
 (simp only [go_sem, simprocAttr, sw0, flatMap_length 2 (fun (x : List Int × List Int) => [(L x.1), (L x.2)]) (fun _ => rfl), sub_el 2 (fun (x : List Int × List Int) => [(L x.1), (L x.2)]) (fun _ => rfl) l i.toNat (by omega), allOne_flatF (fun (x : List Int × List Int) => [(L x.1), (L x.2)]) (fun _ => rfl)])
 repeat (refine And.intro (by omega) ?_)
 refine FW.call' 4 rfl rfl rfl (by ((simp only [go_sem, List.toList_toArray, simprocAttr]); exact rfl)) ?_ (base_CopyInts_okd N _ _ e2) ?_ ?_ ?_ ?_
 rfl
 exact okD_all rfl
 exact .inl rfl
 (simp only [go_sem, Nat.reduceLT])
 refine FW.run ?_
 (simp only [go_sem, simprocAttr, sw0, flatMap_length 2 (fun (x : List Int × List Int) => [(L x.1), (L x.2)]) (fun _ => rfl), sub_el 2 (fun (x : List Int × List Int) => [(L x.1), (L x.2)]) (fun _ => rfl) l i.toNat (by omega), allOne_flatF (fun (x : List Int × List Int) => [(L x.1), (L x.2)]) (fun _ => rfl)])
 refine FW.nil ?_
 change OW _ _ _ _ _ _
 refine OW.run [0, 3, 4] ?_
 (simp only [go_sem, simprocAttr, sw0, flatMap_length 2 (fun (x : List Int × List Int) => [(L x.1), (L x.2)]) (fun _ => rfl), sub_el 2 (fun (x : List Int × List Int) => [(L x.1), (L x.2)]) (fun _ => rfl) l i.toNat (by omega), allOne_flatF (fun (x : List Int × List Int) => [(L x.1), (L x.2)]) (fun _ => rfl)])
 repeat (refine And.intro (by omega) ?_)
 refine OW.nil (hK _ ?_)
 refine PW.regionK fun K hK => OW.run [0, 3, 4] ?_
 simp only [go_sem, simprocAttr, sw0]
 refine OW.nil (hK _ ?_)
 refine hN2 [] (w64 (i + (1 : Int)), (b01 ++ ([(x1, x2)] : List (List Int × List Int)))) _ H (by exact trivial) ?_
 simp only [sw1, go_sem, simprocAttr]; simp only [List.length_set, List.length_append, List.length_cons, List.length_nil, Nat.zero_add, List.map_set, List.map_append, List.map_cons, List.map_nil, List.flatMap_append, List.flatMap_cons, List.flatMap_nil, List.append_nil, List.cons_append, List.nil_append]
 replace H := br_f h3 H
 refine PW.exit ?_
 refine hN1 [] b01 _ H (by exact trivial) ?_
 simp only [sw1, go_sem, simprocAttr]
 ·
  rintro b0 H
  try simp only [go_sem, simprocAttr]
  refine PW.seq ?_
  refine PW.regionK fun K hK => OW.run [2] ?_
  simp only [go_sem, simprocAttr, sw0]
  refine OW.nil (hK _ ?_)
  refine PW.ret ?_
  change PW.Ends _ _ _ _ _ _
  refine PW.Ends.intro (.inr rfl) ?_
  simp only [go_sem, simprocAttr, sw0]
  obtain rfl := Option.some.inj H
  have hl0 := flatMap_length 2 (fun (x : List Int × List Int) => [(L x.1), (L x.2)]) (fun _ => rfl) b0
  have hn0 : (b0.flatMap (fun (x : List Int × List Int) => [(L x.1), (L x.2)])).map nz = b0.flatMap (fun (x : List Int × List Int) => [(L x.1), (L x.2)]) := map_nz_flat (fun _ => rfl) _
  have ht0 : (b0.flatMap (fun (x : List Int × List Int) => [(L x.1), (L x.2)])).take (b0.length * 2) = b0.flatMap (fun (x : List Int × List Int) => [(L x.1), (L x.2)]) := take_flat _ (fun _ => rfl) rfl
  refine RetOK.data' 4 (by (simp only [go_sem, sw2, scqW7, simprocAttr]; omega)) ?_
  (((simp only [go_sem, sw1, simprocAttr]; try simp only [seg, go_sem, simprocAttr])); (repeat' (first | rfl | (refine list_congr ?_; simp only [List.length_take, List.length_drop, List.length_set, List.length_replicate] <;> omega) | (refine congr (congrArg List.cons ?_) ?_) | (refine congrArg D.agg ?_) | (refine congrArg D.tup ?_) | (refine congrArg D.ref ?_) | (refine congrArg (D.list _) ?_) | (refine congrArg (D.clo _) ?_))))
  all_goals (first | rw [ht0, hn0] | simp only [ht0, hn0])

theorem law06_SchedIdle_ok (N : Nat) (Zq : Int) (Zr : Int) (Zs : Int) (Zx : List Int) (l : List TB) (slots : List (List Int × List Int)) (r : Bool) (H : law06_SchedIdle N Zq Zr Zs Zx l slots = some r) : CallOK Try.prog 5 [(.agg [(I Zq), (I Zr), (I Zs), (L Zx)]), (.list l.length (l.flatMap (fun (x : ByteArray × Int × Int × Int × Int × Int × Int × Int × Int) => [(Sx x.1), (I x.2.1), (I x.2.2.1), (I x.2.2.2.1), (I x.2.2.2.2.1), (I x.2.2.2.2.2.1), (I x.2.2.2.2.2.2.1), (I x.2.2.2.2.2.2.2.1), (I x.2.2.2.2.2.2.2.2)]))), (.list slots.length (slots.flatMap (fun (x : List Int × List Int) => [(L x.1), (L x.2)])))] (.d (Bo r)) [] := by
 refine CallOK.of_PW Try.func5 rfl (by rw [Try.results5]) Try.ntmps5 Try.call5 ?_
 change PW _ _ _ _ _
 try simp only [go_sem, simprocAttr]
 unfold law06_SchedIdle at H
 refine PW.seq ?_
 refine PW.regionK fun K hK => OW.run [1, 2, 3] ?_
 simp only [go_sem, simprocAttr, sw0]
 refine OW.nil (hK _ ?_)
 refine PW.seq ?_
 refine PW.seq ?_
 obtain ⟨x1, e1, H⟩ := bnd_some H
 refine PW.regionK fun K hK => OW.run [1, 2, 3, 20] ?_
 simp only [go_sem, simprocAttr, sw0]
 refine OW.call' 4 rfl rfl rfl (by ((simp only [go_sem, List.toList_toArray, simprocAttr]); exact rfl)) ?_ (law06_awake_ok N  _ e1) ?_ ?_ ?_ ?_
 rfl
 exact okD_all rfl
 exact .inl rfl
 (simp only [go_sem, Nat.reduceLT])
 refine OW.run [1, 2, 3, 20] ?_
 simp only [go_sem, simprocAttr, sw0]
 refine OW.nil (hK _ ?_)
 refine PW.cond rfl (fun h1 => ?_) (fun h1 => ?_)
 replace H := br_t h1 H
 refine PW.seq ?_
 refine PW.regionK fun K hK => OW.run [6] ?_
 simp only [go_sem, simprocAttr, sw0]
 refine OW.nil (hK _ ?_)
 refine PW.ret ?_
 change PW.Ends _ _ _ _ _ _
 refine PW.Ends.intro (.inr rfl) ?_
 simp only [go_sem, simprocAttr, sw0]
 obtain rfl := Option.some.inj H
 refine RetOK.data' 4 (by exact trivial) ?_
 rfl
 replace H := br_f h1 H
 refine PW.skip ?_
 refine PW.seq ?_
 refine PW.seq ?_
 obtain ⟨x2, e2, H⟩ := bnd_some H
 obtain ⟨x3, e3, H⟩ := bnd_some H
 obtain ⟨x4, e4, H⟩ := bnd_some H
 refine PW.regionK fun K hK => OW.run [1, 2, 3, 41] ?_
 simp only [go_sem, simprocAttr, sw0]
 refine OW.call' 4 rfl rfl rfl (by ((simp only [go_sem, List.toList_toArray, simprocAttr]); exact rfl)) ?_ (law06_Few_ok N _ _ _ _ _ _ e2) ?_ ?_ ?_ ?_
 rfl
 · (refine okAll_intro ?_; (simp only [go_sem, sw2, scqW7, simprocAttr]; done))
 exact .inl rfl
 (simp only [go_sem, Nat.reduceLT])
 refine OW.run [1, 2, 3, 41] ?_
 simp only [go_sem, simprocAttr, sw0]
 refine OW.callG' 4 rfl rfl ?_ (fun hg => by first | rfl | (simp only [go_sem, ↓reduceIte]; rfl)) (fun hg => by ((simp only [go_sem, List.toList_toArray, simprocAttr]); exact rfl)) (fun hg => ?_) (fun hg => (law06_brief_ok N _ _ (grd_t hg e3))) ?_ ?_ ?_ ?_
 simp only [go_sem, simprocAttr]
 rfl
 exact okD_all rfl
 exact .inl rfl
 (simp only [go_sem, Nat.reduceLT])
 refine OW.run [1, 2, 3, 41] ?_
 simp only [go_sem, simprocAttr, sw0]
 refine OW.callG' 4 rfl rfl ?_ (fun hg => by first | rfl | (simp only [go_sem, ↓reduceIte]; rfl)) (fun hg => by ((simp only [go_sem, List.toList_toArray, simprocAttr]); exact rfl)) (fun hg => ?_) (fun hg => (law06_runErr_ok N _ _ _ _ _ _ _ (grd_t hg e4))) ?_ ?_ ?_ ?_
 simp only [go_sem, simprocAttr]
 rfl
 · (refine okAll_intro ?_; (simp only [go_sem, sw2, scqW7, simprocAttr]; done))
 exact .inl rfl
 (simp only [go_sem, Nat.reduceLT])
 refine OW.run [1, 2, 3, 41] ?_
 simp only [go_sem, simprocAttr, sw0]
 refine OW.nil (hK _ ?_)
 refine PW.cond rfl (fun h2 => ?_) (fun h2 => ?_)
 replace H := br_t h2 H
 refine PW.seq ?_
 refine PW.regionK fun K hK => OW.run [6] ?_
 simp only [go_sem, simprocAttr, sw0]
 refine OW.nil (hK _ ?_)
 refine PW.ret ?_
 change PW.Ends _ _ _ _ _ _
 refine PW.Ends.intro (.inr rfl) ?_
 simp only [go_sem, simprocAttr, sw0]
 obtain rfl := Option.some.inj H
 refine RetOK.data' 4 (by exact trivial) ?_
 rfl
 replace H := br_f h2 H
 refine PW.skip ?_
 refine PW.seq ?_
 obtain ⟨⟨x5, x51, x52, x53⟩, e5, H⟩ := bnd_some H
 obtain ⟨x6, e6, H⟩ := bnd_some H
 obtain ⟨x7, e7, H⟩ := bnd_some H
 obtain ⟨⟨x8, x81, x82, x83⟩, e8, H⟩ := bnd_some H
 refine PW.regionK fun K hK => OW.run [1, 2, 3, 7, 8] ?_
 simp only [go_sem, simprocAttr, sw0]
 refine OW.call' 4 rfl rfl rfl (by ((simp only [go_sem, List.toList_toArray, simprocAttr]); exact rfl)) ?_ (ref06_Copy_ok N _ _ _ _ _ e5) ?_ ?_ ?_ ?_
 rfl
 · (refine okAll_intro ?_; (simp only [go_sem, sw2, scqW7, simprocAttr]; done))
 exact .inl rfl
 (simp only [go_sem, Nat.reduceLT])
 refine OW.run [1, 2, 3, 7, 8] ?_
 simp only [go_sem, simprocAttr, sw0]
 refine OW.call' 4 rfl rfl rfl (by ((simp only [go_sem, List.toList_toArray, simprocAttr]); exact rfl)) ?_ (ref06_CopyBearers_ok N _ _ e6) ?_ ?_ ?_ ?_
 rfl
 exact okD_all rfl
 exact .inl rfl
 (simp only [go_sem, Nat.reduceLT])
 refine OW.run [1, 2, 3, 7, 8] ?_
 simp only [go_sem, simprocAttr, sw0]
 refine OW.call' 4 rfl rfl rfl (by ((simp only [go_sem, List.toList_toArray, simprocAttr]); exact rfl)) ?_ (ref06_CopySlots_ok N _ _ e7) ?_ ?_ ?_ ?_
 rfl
 exact okD_all rfl
 exact .inl rfl
 (simp only [go_sem, Nat.reduceLT])
 refine OW.run [1, 2, 3, 7, 8] ?_
 simp only [go_sem, simprocAttr, sw0]
 refine OW.call' 4 rfl rfl rfl (by ((simp only [go_sem, List.toList_toArray, simprocAttr]); exact rfl)) ?_ (sched_Run_ok N _ _ _ _ _ _ _ e8) ?_ ?_ ?_ ?_
 rfl
 exact okD_all rfl
 exact .inl rfl
 (simp only [go_sem, Nat.reduceLT])
 refine OW.run [1, 2, 3, 7, 8] ?_
 simp only [go_sem, simprocAttr, sw0]
 refine OW.nil (hK _ ?_)
 refine PW.seq ?_
 refine PW.seq ?_
 refine PW.regionK fun K hK => OW.run [1, 2, 3, 7, 77] ?_
 simp only [go_sem, simprocAttr, sw0]
 repeat (refine And.intro (by omega) ?_)
 refine OW.nil (hK _ ?_)
 refine PW.cond rfl (fun h3 => ?_) (fun h3 => ?_)
 replace H := br_t h3 H
 refine PW.seq ?_
 refine PW.regionK fun K hK => OW.run [6] ?_
 simp only [go_sem, simprocAttr, sw0]
 refine OW.nil (hK _ ?_)
 refine PW.ret ?_
 change PW.Ends _ _ _ _ _ _
 refine PW.Ends.intro (.inr rfl) ?_
 simp only [go_sem, simprocAttr, sw0]
 obtain rfl := Option.some.inj H
 refine RetOK.data' 4 (by exact trivial) ?_
 rfl
 replace H := br_f h3 H
 refine PW.skip ?_
 refine PW.joinS (τ := Unit) [1, 2, 3, 7] 2 (fun _ => []) (fun _ => [{ cells := [.d (I Zq), .d (I Zr), .d (I Zs), .d (L Zx)], e := 24 }, { cells := [.d (.list x8.length (x8.map L)), .d (L x81), .d (L x82)], e := 52 }]) _ _ r (by exact Nat.zero_le _) H ?_ ?_
 intro K_ H N4 hN4
 refine PW.seq ?_
 refine PW.regionK fun K hK => OW.run [1, 2, 3, 7, 9] ?_
 simp only [go_sem, simprocAttr, sw0]
 refine OW.nil (hK _ ?_)
 refine PW.block ?_
 refine PW.loopS (σ := Int) [1, 2, 3, 7, 9] 2 (fun k => [(9, .d (I k))]) (fun k => [{ cells := [.d (I Zq), .d (I Zr), .d (I Zs), .d (L Zx)], e := 24 }, { cells := [.d (.list x8.length (x8.map L)), .d (L x81), .d (L x82)], e := 52 }]) (law06_SchedIdle.b1 N l slots x81 x82 K_) r N (0 : Int) (by exact Nat.zero_le _) H (by (simp only [sw1, go_sem, simprocAttr]; done)) ?_
 rintro n k H N5 hN5
 unfold law06_SchedIdle.b1 at H
 try simp only [go_sem, simprocAttr]
 refine PW.seq ?_
 refine PW.seq ?_
 refine PW.regionK fun K hK => OW.run [1, 2, 3, 7, 9, 81] ?_
 simp only [go_sem, simprocAttr, sw0]
 refine OW.nil (hK _ ?_)
 refine PW.cond rfl (fun h6 => ?_) (fun h6 => ?_)
 replace H := br_t h6 H
 refine PW.skip ?_
 refine PW.joinS (τ := Unit) [1, 2, 3, 7, 9] 2 (fun _ => []) (fun _ => [{ cells := [.d (I Zq), .d (I Zr), .d (I Zs), .d (L Zx)], e := 24 }, { cells := [.d (.list x8.length (x8.map L)), .d (L x81), .d (L x82)], e := 52 }]) _ _ r (by exact Nat.zero_le _) H ?_ ?_
 intro K_1 H N7 hN7
 refine PW.block ?_
 refine PW.seq ?_
 refine PW.regionK fun K hK => OW.run [1, 2, 3, 7, 9, 10] ?_
 simp only [go_sem, simprocAttr, sw0]
 refine OW.nil (hK _ ?_)
 refine PW.joinS (τ := Int) [1, 2, 3, 7, 9, 10] 2 (fun all => [(10, .d (I all))]) (fun all => [{ cells := [.d (I Zq), .d (I Zr), .d (I Zs), .d (L Zx)], e := 24 }, { cells := [.d (.list x8.length (x8.map L)), .d (L x81), .d (L x82)], e := 52 }]) _ _ r (by exact Nat.zero_le _) H ?_ ?_
 intro K_2 H N8 hN8
 refine PW.seq ?_
 refine PW.regionK fun K hK => OW.run [1, 2, 3, 7, 9, 10, 11] ?_
 simp only [go_sem, simprocAttr, sw0]
 refine OW.nil (hK _ ?_)
 refine PW.block ?_
 refine PW.loopS (σ := Int × Int) [1, 2, 3, 7, 9, 10, 11] 2 (fun (all1, t) => [(10, .d (I all1)), (11, .d (I t))]) (fun (all1, t) => [{ cells := [.d (I Zq), .d (I Zr), .d (I Zs), .d (L Zx)], e := 24 }, { cells := [.d (.list x8.length (x8.map L)), .d (L x81), .d (L x82)], e := 52 }]) (law06_SchedIdle.b2 N slots k K_2) r N ((0 : Int), (0 : Int)) (by exact Nat.zero_le _) H (by (simp only [sw1, go_sem, simprocAttr]; done)) ?_
 rintro n ⟨all1, t⟩ H N9 hN9
 unfold law06_SchedIdle.b2 at H
 try simp only [go_sem, simprocAttr]
 refine PW.seq ?_
 refine PW.seq ?_
 refine PW.regionK fun K hK => OW.run [1, 2, 3, 7, 9, 10, 11, 87] ?_
 simp only [go_sem, simprocAttr, sw0]
 refine OW.nil (hK _ ?_)
 refine PW.cond rfl (fun h10 => ?_) (fun h10 => ?_)
 replace H := br_t h10 H
 refine PW.skip ?_
 refine PW.seq ?_
 refine PW.block ?_
 obtain ⟨c11, H⟩ := chk_some H
 obtain ⟨c12, H⟩ := chk_some H
 refine PW.regionK fun K hK => OW.run [1, 2, 3, 7, 9, 10, 11] ?_
 (simp only [go_sem, simprocAttr, sw0, flatMap_length 2 (fun (x : List Int × List Int) => [(L x.1), (L x.2)]) (fun _ => rfl), sub_el 2 (fun (x : List Int × List Int) => [(L x.1), (L x.2)]) (fun _ => rfl) slots t.toNat (by omega)])
 repeat (refine And.intro (by omega) ?_)
 refine OW.nil (hK _ ?_)
 refine PW.regionK fun K hK => OW.run [1, 2, 3, 7, 9, 10, 11] ?_
 simp only [go_sem, simprocAttr, sw0]
 refine OW.nil (hK _ ?_)
 refine hN9 [] (w64 (all1 + (((slots.getD t.toNat default).2).getD k.toNat 0)), w64 (t + (1 : Int))) _ H (by exact trivial) ?_
 simp only [sw1, go_sem, simprocAttr]
 replace H := br_f h10 H
 refine PW.exit ?_
 refine hN8 [] all1 _ H (by exact trivial) ?_
 simp only [sw1, go_sem, simprocAttr]
 ·
  rintro all H
  try simp only [go_sem, simprocAttr]
  refine PW.seq ?_
  obtain ⟨c13, H⟩ := chk_some H
  obtain ⟨x9, e9, H⟩ := bnd_some H
  obtain ⟨c14, H⟩ := chk_some H
  obtain ⟨c15, H⟩ := chk_some H
  refine PW.drawK 21 mixed (by kernel_rfl) fun K hK => ?_
  change FW _ _ _ _ _
  refine FW.run ?_
  simp only [go_sem, simprocAttr, sw0]
  repeat (refine And.intro (by first | omega | (intro hg; have hq := c14 (by first | exact hg | simpa using hg); first | omega | exact hq | (simp only [List.length_map]; omega)) | (intro hg; have hq := c15 (by first | exact hg | simpa using hg); first | omega | exact hq | (simp only [List.length_map]; omega)) | (first | omega | assumption | rfl | decide | trivial)) ?_)
  refine FW.call' 4 rfl rfl rfl (by ((simp only [go_sem, List.toList_toArray, simprocAttr]); exact rfl)) ?_ (base_Within_ok N _ _ _ _ e9) ?_ ?_ ?_ ?_
  rfl
  exact okD_all rfl
  exact .inl rfl
  (simp only [go_sem, Nat.reduceLT])
  refine FW.run ?_
  simp only [go_sem, simprocAttr, sw0]
  repeat (refine And.intro (by first | omega | (intro hg; have hq := c14 (by first | exact hg | simpa using hg); first | omega | exact hq | (simp only [List.length_map]; omega)) | (intro hg; have hq := c15 (by first | exact hg | simpa using hg); first | omega | exact hq | (simp only [List.length_map]; omega)) | (first | omega | assumption | rfl | decide | trivial)) ?_)
  refine FW.nil ?_
  change OW _ _ _ _ _ _
  refine OW.run [1, 2, 3, 7, 9, 122] ?_
  simp only [go_sem, simprocAttr, sw0]
  repeat (refine And.intro (by first | omega | (intro hg; have hq := c14 (by first | exact hg | simpa using hg); first | omega | exact hq | (simp only [List.length_map]; omega)) | (intro hg; have hq := c15 (by first | exact hg | simpa using hg); first | omega | exact hq | (simp only [List.length_map]; omega)) | (first | omega | assumption | rfl | decide | trivial)) ?_)
  refine OW.nil (hK _ ?_)
  refine PW.cond rfl (fun h16 => ?_) (fun h16 => ?_)
  replace H := br_t h16 H
  refine PW.seq ?_
  refine PW.regionK fun K hK => OW.run [6] ?_
  simp only [go_sem, simprocAttr, sw0]
  refine OW.nil (hK _ ?_)
  refine PW.ret ?_
  change PW.Ends _ _ _ _ _ _
  refine PW.Ends.intro (.inr rfl) ?_
  simp only [go_sem, simprocAttr, sw0]
  obtain rfl := Option.some.inj H
  refine RetOK.data' 4 (by exact trivial) ?_
  rfl
  replace H := br_f h16 H
  refine PW.skip ?_
  refine hN7 [] () _ H (by exact trivial) ?_
  simp only [sw1, go_sem, simprocAttr]
 rintro _ H
 try simp only [go_sem, simprocAttr]
 refine PW.regionK fun K hK => OW.run [1, 2, 3, 7, 9] ?_
 simp only [go_sem, simprocAttr, sw0]
 refine OW.nil (hK _ ?_)
 refine hN5 [] (w64 (k + (1 : Int))) _ H (by exact trivial) ?_
 simp only [sw1, go_sem, simprocAttr]
 replace H := br_f h6 H
 refine PW.exit ?_
 refine hN4 [] () _ H (by exact trivial) ?_
 simp only [sw1, go_sem, simprocAttr]
 rintro _ H
 try simp only [go_sem, simprocAttr]
 refine PW.joinS (τ := Unit) [] 0 (fun _ => []) (fun _ => []) _ _ r (by exact Nat.le_refl _) H ?_ ?_
 intro K_3 H N17 hN17
 refine PW.seq ?_
 refine PW.regionK fun K hK => OW.run [1, 2, 3, 7, 12] ?_
 simp only [go_sem, simprocAttr, sw0]
 refine OW.nil (hK _ ?_)
 refine PW.block ?_
 refine PW.loopS (σ := Int) [1, 2, 3, 7, 12] 2 (fun t1 => [(12, .d (I t1))]) (fun t1 => [{ cells := [.d (I Zq), .d (I Zr), .d (I Zs), .d (L Zx)], e := 24 }, { cells := [.d (.list x8.length (x8.map L)), .d (L x81), .d (L x82)], e := 52 }]) (law06_SchedIdle.b3 N Zq Zr Zs Zx l slots x8 x82 K_3) r N (0 : Int) (by exact Nat.zero_le _) H (by (simp only [sw1, go_sem, simprocAttr]; done)) ?_
 rintro n t1 H N18 hN18
 unfold law06_SchedIdle.b3 at H
 try simp only [go_sem, simprocAttr]
 refine PW.seq ?_
 refine PW.seq ?_
 refine PW.regionK fun K hK => OW.run [1, 2, 3, 7, 12, 126] ?_
 simp only [go_sem, simprocAttr, sw0]
 refine OW.nil (hK _ ?_)
 refine PW.cond rfl (fun h19 => ?_) (fun h19 => ?_)
 replace H := br_t h19 H
 refine PW.skip ?_
 refine PW.joinS (τ := Unit) [1, 2, 3, 7, 12] 2 (fun _ => []) (fun _ => [{ cells := [.d (I Zq), .d (I Zr), .d (I Zs), .d (L Zx)], e := 24 }, { cells := [.d (.list x8.length (x8.map L)), .d (L x81), .d (L x82)], e := 52 }]) _ _ r (by exact Nat.zero_le _) H ?_ ?_
 intro K_4 H N20 hN20
 refine PW.block ?_
 refine PW.seq ?_
 refine PW.seq ?_
 obtain ⟨c21, H⟩ := chk_some H
 refine PW.regionK fun K hK => OW.run [1, 2, 3, 7, 12, 137] ?_
 (simp only [go_sem, simprocAttr, sw0, getD_mapF L x8 t1.toNat default (by omega)])
 repeat (refine And.intro (by omega) ?_)
 refine OW.nil (hK _ ?_)
 refine PW.cond rfl (fun h22 => ?_) (fun h22 => ?_)
 replace H := br_t h22 H
 refine PW.seq ?_
 refine PW.regionK fun K hK => OW.run [6] ?_
 simp only [go_sem, simprocAttr, sw0]
 refine OW.nil (hK _ ?_)
 refine PW.ret ?_
 change PW.Ends _ _ _ _ _ _
 refine PW.Ends.intro (.inr rfl) ?_
 simp only [go_sem, simprocAttr, sw0]
 obtain rfl := Option.some.inj H
 refine RetOK.data' 4 (by exact trivial) ?_
 rfl
 replace H := br_f h22 H
 refine PW.skip ?_
 refine PW.seq ?_
 refine PW.regionK fun K hK => OW.run [1, 2, 3, 7, 12, 13, 14, 15] ?_
 simp only [go_sem, simprocAttr, sw0]
 refine OW.nil (hK _ ?_)
 refine PW.joinS (τ := Int × Int × Int) [1, 2, 3, 7, 12, 13, 14, 15] 2 (fun (blocks, control, power) => [(13, .d (I blocks)), (14, .d (I control)), (15, .d (I power))]) (fun (blocks, control, power) => [{ cells := [.d (I Zq), .d (I Zr), .d (I Zs), .d (L Zx)], e := 24 }, { cells := [.d (.list x8.length (x8.map L)), .d (L x81), .d (L x82)], e := 52 }]) _ _ r (by exact Nat.zero_le _) H ?_ ?_
 intro K_5 H N23 hN23
 refine PW.seq ?_
 refine PW.regionK fun K hK => OW.run [1, 2, 3, 7, 12, 13, 14, 15, 16] ?_
 simp only [go_sem, simprocAttr, sw0]
 refine OW.nil (hK _ ?_)
 refine PW.block ?_
 refine PW.loopS (σ := Int × Int × Int × Int) [1, 2, 3, 7, 12, 13, 14, 15, 16] 2 (fun (blocks1, control1, power1, k1) => [(13, .d (I blocks1)), (14, .d (I control1)), (15, .d (I power1)), (16, .d (I k1))]) (fun (blocks1, control1, power1, k1) => [{ cells := [.d (I Zq), .d (I Zr), .d (I Zs), .d (L Zx)], e := 24 }, { cells := [.d (.list x8.length (x8.map L)), .d (L x81), .d (L x82)], e := 52 }]) (law06_SchedIdle.b4 N Zq l x8 t1 K_5) r N ((0 : Int), (0 : Int), (0 : Int), (0 : Int)) (by exact Nat.zero_le _) H (by (simp only [sw1, go_sem, simprocAttr]; done)) ?_
 rintro n ⟨blocks1, control1, power1, k1⟩ H N24 hN24
 unfold law06_SchedIdle.b4 at H
 try simp only [go_sem, simprocAttr]
 refine PW.seq ?_
 refine PW.seq ?_
 refine PW.regionK fun K hK => OW.run [1, 2, 3, 7, 12, 13, 14, 15, 16, 141] ?_
 simp only [go_sem, simprocAttr, sw0]
 refine OW.nil (hK _ ?_)
 refine PW.cond rfl (fun h25 => ?_) (fun h25 => ?_)
 replace H := br_t h25 H
 refine PW.skip ?_
 refine PW.seq ?_
 refine PW.block ?_
 refine PW.seq ?_
 refine PW.seq ?_
 obtain ⟨c26, H⟩ := chk_some H
 obtain ⟨c27, H⟩ := chk_some H
 obtain ⟨x10, e10, H⟩ := bnd_some H
 refine PW.drawK 10 mixed (by kernel_rfl) fun K hK => ?_
 change FW _ _ _ _ _
 refine FW.run ?_
 (simp only [go_sem, simprocAttr, sw0, getD_mapF L x8 t1.toNat default (by omega)])
 repeat (refine And.intro (by omega) ?_)
 refine FW.nil ?_
 change OW _ _ _ _ _ _
 refine OW.run [1, 2, 3, 7, 12, 13, 14, 15, 16, 155] ?_
 (simp only [go_sem, simprocAttr, sw0, getD_mapF L x8 t1.toNat default (by omega)])
 refine OW.call' 4 rfl rfl rfl (by ((simp only [go_sem, List.toList_toArray, simprocAttr]); exact rfl)) ?_ (base_Within_ok N _ _ _ _ e10) ?_ ?_ ?_ ?_
 rfl
 exact okD_all rfl
 exact .inl rfl
 (simp only [go_sem, Nat.reduceLT])
 refine OW.run [1, 2, 3, 7, 12, 13, 14, 15, 16, 155] ?_
 (simp only [go_sem, simprocAttr, sw0, getD_mapF L x8 t1.toNat default (by omega)])
 refine OW.nil (hK _ ?_)
 refine PW.cond rfl (fun h28 => ?_) (fun h28 => ?_)
 replace H := br_t h28 H
 refine PW.seq ?_
 refine PW.regionK fun K hK => OW.run [6] ?_
 simp only [go_sem, simprocAttr, sw0]
 refine OW.nil (hK _ ?_)
 refine PW.ret ?_
 change PW.Ends _ _ _ _ _ _
 refine PW.Ends.intro (.inr rfl) ?_
 simp only [go_sem, simprocAttr, sw0]
 obtain rfl := Option.some.inj H
 refine RetOK.data' 4 (by exact trivial) ?_
 rfl
 replace H := br_f h28 H
 refine PW.skip ?_
 refine PW.seq ?_
 obtain ⟨c29, H⟩ := chk_some H
 obtain ⟨c30, H⟩ := chk_some H
 obtain ⟨c31, H⟩ := chk_some H
 obtain ⟨c32, H⟩ := chk_some H
 obtain ⟨c33, H⟩ := chk_some H
 refine PW.drawK 27 mixed (by kernel_rfl) fun K hK => ?_
 change FW _ _ _ _ _
 refine FW.run ?_
 (simp only [go_sem, simprocAttr, sw0, getD_mapF L x8 t1.toNat default (by omega), z0W7a, z1W7a l k1.toNat (by omega)])
 repeat (refine And.intro (by omega) ?_)
 refine FW.nil ?_
 change OW _ _ _ _ _ _
 refine OW.run [1, 2, 3, 7, 12, 13, 14, 15, 16] ?_
 (simp only [go_sem, simprocAttr, sw0, getD_mapF L x8 t1.toNat default (by omega), z0W7a, z1W7a l k1.toNat (by omega)])
 refine OW.nil (hK _ ?_)
 refine PW.seq ?_
 obtain ⟨c34, H⟩ := chk_some H
 obtain ⟨c35, H⟩ := chk_some H
 refine PW.regionK fun K hK => OW.run [1, 2, 3, 7, 12, 13, 14, 15, 16, 190] ?_
 (simp only [go_sem, simprocAttr, sw0, getD_mapF L x8 t1.toNat default (by omega)])
 repeat (refine And.intro (by omega) ?_)
 refine OW.nil (hK _ ?_)
 refine PW.cond rfl (fun h36 => ?_) (fun h36 => ?_)
 replace H := br_t h36 H
 refine PW.regionK fun K hK => OW.run [1, 2, 3, 7, 12, 13, 14, 15, 16] ?_
 simp only [go_sem, simprocAttr, sw0]
 refine OW.nil (hK _ ?_)
 refine PW.regionK fun K hK => OW.run [1, 2, 3, 7, 12, 13, 14, 15, 16] ?_
 simp only [go_sem, simprocAttr, sw0]
 refine OW.nil (hK _ ?_)
 refine hN24 [] (w64 (blocks1 + ((x8.getD t1.toNat default).getD k1.toNat 0)), w64 (control1 + (1 : Int)), w64 (power1 + (w64 (((x8.getD t1.toNat default).getD k1.toNat 0) * ((l.getD k1.toNat default).2.2.2.2.1)))), w64 (k1 + (1 : Int))) _ H (by exact trivial) ?_
 simp only [sw1, go_sem, simprocAttr]
 replace H := br_f h36 H
 refine PW.skip ?_
 refine PW.regionK fun K hK => OW.run [1, 2, 3, 7, 12, 13, 14, 15, 16] ?_
 simp only [go_sem, simprocAttr, sw0]
 refine OW.nil (hK _ ?_)
 refine hN24 [] (w64 (blocks1 + ((x8.getD t1.toNat default).getD k1.toNat 0)), control1, w64 (power1 + (w64 (((x8.getD t1.toNat default).getD k1.toNat 0) * ((l.getD k1.toNat default).2.2.2.2.1)))), w64 (k1 + (1 : Int))) _ H (by exact trivial) ?_
 simp only [sw1, go_sem, simprocAttr]
 replace H := br_f h25 H
 refine PW.exit ?_
 refine hN23 [] (blocks1, control1, power1) _ H (by exact trivial) ?_
 simp only [sw1, go_sem, simprocAttr]
 rintro ⟨blocks, control, power⟩ H
 try simp only [go_sem, simprocAttr]
 refine PW.seq ?_
 refine PW.seq ?_
 refine PW.regionK fun K hK => OW.run [1, 2, 3, 7, 12, 13, 14, 15, 208] ?_
 simp only [go_sem, simprocAttr, sw0]
 repeat (refine And.intro (by omega) ?_)
 refine OW.nil (hK _ ?_)
 refine PW.cond rfl (fun h37 => ?_) (fun h37 => ?_)
 replace H := br_t h37 H
 refine PW.seq ?_
 refine PW.regionK fun K hK => OW.run [6] ?_
 simp only [go_sem, simprocAttr, sw0]
 refine OW.nil (hK _ ?_)
 refine PW.ret ?_
 change PW.Ends _ _ _ _ _ _
 refine PW.Ends.intro (.inr rfl) ?_
 simp only [go_sem, simprocAttr, sw0]
 obtain rfl := Option.some.inj H
 refine RetOK.data' 4 (by exact trivial) ?_
 rfl
 replace H := br_f h37 H
 refine PW.skip ?_
 refine PW.seq ?_
 refine PW.seq ?_
 refine PW.regionK fun K hK => OW.run [1, 2, 3, 7, 12, 14, 15, 219] ?_
 simp only [go_sem, simprocAttr, sw0]
 repeat (refine And.intro (by omega) ?_)
 refine OW.nil (hK _ ?_)
 refine PW.cond rfl (fun h38 => ?_) (fun h38 => ?_)
 replace H := br_t h38 H
 refine PW.exit ?_
 refine hN20 [] () _ H (by exact trivial) ?_
 simp only [sw1, go_sem, simprocAttr]
 replace H := br_f h38 H
 refine PW.skip ?_
 refine PW.seq ?_
 refine PW.regionK fun K hK => OW.run [1, 2, 3, 7, 12, 14, 15, 17] ?_
 simp only [go_sem, simprocAttr, sw0]
 refine OW.nil (hK _ ?_)
 refine PW.block ?_
 refine PW.loopS (σ := Int) [1, 2, 3, 7, 12, 14, 15, 17] 2 (fun k2 => [(17, .d (I k2))]) (fun k2 => [{ cells := [.d (I Zq), .d (I Zr), .d (I Zs), .d (L Zx)], e := 24 }, { cells := [.d (.list x8.length (x8.map L)), .d (L x81), .d (L x82)], e := 52 }]) (law06_SchedIdle.b5 N Zr Zs Zx l slots x8 x82 t1 K_4 control power) r N (0 : Int) (by exact Nat.zero_le _) H (by (simp only [sw1, go_sem, simprocAttr]; done)) ?_
 rintro n k2 H N39 hN39
 unfold law06_SchedIdle.b5 at H
 try simp only [go_sem, simprocAttr]
 refine PW.seq ?_
 refine PW.seq ?_
 refine PW.regionK fun K hK => OW.run [1, 2, 3, 7, 12, 14, 15, 17, 223] ?_
 simp only [go_sem, simprocAttr, sw0]
 refine OW.nil (hK _ ?_)
 refine PW.cond rfl (fun h40 => ?_) (fun h40 => ?_)
 replace H := br_t h40 H
 refine PW.skip ?_
 refine PW.seq ?_
 refine PW.block ?_
 refine PW.seq ?_
 obtain ⟨c41, H⟩ := chk_some H
 obtain ⟨c42, H⟩ := chk_some H
 refine PW.regionK fun K hK => OW.run [1, 2, 3, 7, 12, 14, 15, 17, 18] ?_
 (simp only [go_sem, simprocAttr, sw0, getD_mapF L x8 t1.toNat default (by omega)])
 repeat (refine And.intro (by omega) ?_)
 refine OW.nil (hK _ ?_)
 refine PW.seq ?_
 obtain ⟨c43, H⟩ := chk_some H
 obtain ⟨c44, H⟩ := chk_some H
 obtain ⟨c45, H⟩ := chk_some H
 obtain ⟨c46, H⟩ := chk_some H
 obtain ⟨c47, H⟩ := chk_some H
 refine PW.drawK 34 mixed (by kernel_rfl) fun K hK => ?_
 change FW _ _ _ _ _
 refine FW.toS [(1, .d (.list l.length (l.flatMap (fun (x : ByteArray × Int × Int × Int × Int × Int × Int × Int × Int) => [(Sx x.1), (I x.2.1), (I x.2.2.1), (I x.2.2.2.1), (I x.2.2.2.2.1), (I x.2.2.2.2.2.1), (I x.2.2.2.2.2.2.1), (I x.2.2.2.2.2.2.2.1), (I x.2.2.2.2.2.2.2.2)])))), (2, .d (.list slots.length (slots.flatMap (fun (x : List Int × List Int) => [(L x.1), (L x.2)])))), (3, .ptr 0 0), (7, .ptr 1 0), (12, .d (I t1)), (14, .d (I control)), (15, .d (I power)), (17, .d (I k2)), (276, .d (Bo ((((decide ((x82.getD k2.toNat 0) > (0 : Int))) && (decide ((Zx.getD ((((slots.getD t1.toNat default).1).getD k2.toNat 0).toNat) 0) > (0 : Int)))) && ((decide (((x8.getD t1.toNat default).getD k2.toNat 0) > (0 : Int))) || (decide (control < Zr)))) && (decide (w64 (power + ((l.getD k2.toNat default).2.2.2.2.1)) ≤ Zs)))))] [{ cells := [.d (I Zq), .d (I Zr), .d (I Zs), .d (L Zx)], e := 24 }, { cells := [.d (.list x8.length (x8.map L)), .d (L x81), .d (L x82)], e := 52 }] ?_ (hK _ ?_)
 intro K hKE
 rcases Bool.eq_false_or_eq_true ((decide ((x82.getD k2.toNat 0) > (0 : Int)))) with ha0 | ha0
 rcases Bool.eq_false_or_eq_true ((decide ((Zx.getD ((((slots.getD t1.toNat default).1).getD k2.toNat 0).toNat) 0) > (0 : Int)))) with ha1 | ha1
 rcases Bool.eq_false_or_eq_true ((decide (((x8.getD t1.toNat default).getD k2.toNat 0) > (0 : Int)))) with ha2 | ha2
 ·
  try simp only [ha0, ha1, ha2, sb0, true_implies, false_implies, forall_const] at c44
  try simp only [ha0, ha1, ha2, sb0, true_implies, false_implies, forall_const] at c45
  try simp only [ha0, ha1, ha2, sb0, true_implies, false_implies, forall_const] at c46
  try simp only [ha0, ha1, ha2, sb0, true_implies, false_implies, forall_const] at c47
  refine FW.run ?_
  (simp only [go_sem, simprocAttr, sw0, flatMap_length 2 (fun (x : List Int × List Int) => [(L x.1), (L x.2)]) (fun _ => rfl), sub_el 2 (fun (x : List Int × List Int) => [(L x.1), (L x.2)]) (fun _ => rfl) slots t1.toNat (by omega), z0W7a, z1W7a l k2.toNat (by omega), ha0, ha1, ha2])
  repeat (refine And.intro (by first | omega | (intro hg; have hq := c44 (by first | exact hg | simpa using hg); first | omega | exact hq | (simp only [List.length_map]; omega)) | (intro hg; have hq := c45 (by first | exact hg | simpa using hg); first | omega | exact hq | (simp only [List.length_map]; omega)) | (intro hg; have hq := c46 (by first | exact hg | simpa using hg); first | omega | exact hq | (simp only [List.length_map]; omega)) | (intro hg; have hq := c47 (by first | exact hg | simpa using hg); first | omega | exact hq | (simp only [List.length_map]; omega)) | (first | omega | assumption | rfl | decide | trivial)) ?_)
  refine FW.nil ?_
  change OW _ _ _ _ _ _
  refine OW.run [1, 2, 3, 7, 12, 14, 15, 17, 276] ?_
  (simp only [go_sem, simprocAttr, sw0, flatMap_length 2 (fun (x : List Int × List Int) => [(L x.1), (L x.2)]) (fun _ => rfl), sub_el 2 (fun (x : List Int × List Int) => [(L x.1), (L x.2)]) (fun _ => rfl) slots t1.toNat (by omega), z0W7a, z1W7a l k2.toNat (by omega), ha0, ha1, ha2])
  repeat (refine And.intro (by first | omega | (intro hg; have hq := c44 (by first | exact hg | simpa using hg); first | omega | exact hq | (simp only [List.length_map]; omega)) | (intro hg; have hq := c45 (by first | exact hg | simpa using hg); first | omega | exact hq | (simp only [List.length_map]; omega)) | (intro hg; have hq := c46 (by first | exact hg | simpa using hg); first | omega | exact hq | (simp only [List.length_map]; omega)) | (intro hg; have hq := c47 (by first | exact hg | simpa using hg); first | omega | exact hq | (simp only [List.length_map]; omega)) | (first | omega | assumption | rfl | decide | trivial)) ?_)
  refine OW.nil ((congrArg K ?_).mpr hKE)
  · (first | rfl | (simp only [go_sem, simprocAttr, ha0, ha1, ha2]; done) | (simp only [go_sem, simprocAttr, ha0, ha1, ha2]; rfl))
 rcases Bool.eq_false_or_eq_true ((decide (control < Zr))) with ha3 | ha3
 ·
  try simp only [ha0, ha1, ha2, ha3, sb0, true_implies, false_implies, forall_const] at c44
  try simp only [ha0, ha1, ha2, ha3, sb0, true_implies, false_implies, forall_const] at c45
  try simp only [ha0, ha1, ha2, ha3, sb0, true_implies, false_implies, forall_const] at c46
  try simp only [ha0, ha1, ha2, ha3, sb0, true_implies, false_implies, forall_const] at c47
  refine FW.run ?_
  (simp only [go_sem, simprocAttr, sw0, flatMap_length 2 (fun (x : List Int × List Int) => [(L x.1), (L x.2)]) (fun _ => rfl), sub_el 2 (fun (x : List Int × List Int) => [(L x.1), (L x.2)]) (fun _ => rfl) slots t1.toNat (by omega), z0W7a, z1W7a l k2.toNat (by omega), ha0, ha1, ha2, ha3])
  repeat (refine And.intro (by first | omega | (intro hg; have hq := c44 (by first | exact hg | simpa using hg); first | omega | exact hq | (simp only [List.length_map]; omega)) | (intro hg; have hq := c45 (by first | exact hg | simpa using hg); first | omega | exact hq | (simp only [List.length_map]; omega)) | (intro hg; have hq := c46 (by first | exact hg | simpa using hg); first | omega | exact hq | (simp only [List.length_map]; omega)) | (intro hg; have hq := c47 (by first | exact hg | simpa using hg); first | omega | exact hq | (simp only [List.length_map]; omega)) | (first | omega | assumption | rfl | decide | trivial)) ?_)
  refine FW.nil ?_
  change OW _ _ _ _ _ _
  refine OW.run [1, 2, 3, 7, 12, 14, 15, 17, 276] ?_
  (simp only [go_sem, simprocAttr, sw0, flatMap_length 2 (fun (x : List Int × List Int) => [(L x.1), (L x.2)]) (fun _ => rfl), sub_el 2 (fun (x : List Int × List Int) => [(L x.1), (L x.2)]) (fun _ => rfl) slots t1.toNat (by omega), z0W7a, z1W7a l k2.toNat (by omega), ha0, ha1, ha2, ha3])
  repeat (refine And.intro (by first | omega | (intro hg; have hq := c44 (by first | exact hg | simpa using hg); first | omega | exact hq | (simp only [List.length_map]; omega)) | (intro hg; have hq := c45 (by first | exact hg | simpa using hg); first | omega | exact hq | (simp only [List.length_map]; omega)) | (intro hg; have hq := c46 (by first | exact hg | simpa using hg); first | omega | exact hq | (simp only [List.length_map]; omega)) | (intro hg; have hq := c47 (by first | exact hg | simpa using hg); first | omega | exact hq | (simp only [List.length_map]; omega)) | (first | omega | assumption | rfl | decide | trivial)) ?_)
  refine OW.nil ((congrArg K ?_).mpr hKE)
  · (first | rfl | (simp only [go_sem, simprocAttr, ha0, ha1, ha2, ha3]; done) | (simp only [go_sem, simprocAttr, ha0, ha1, ha2, ha3]; rfl))
 ·
  try simp only [ha0, ha1, ha2, ha3, sb0, true_implies, false_implies, forall_const] at c44
  try simp only [ha0, ha1, ha2, ha3, sb0, true_implies, false_implies, forall_const] at c45
  try simp only [ha0, ha1, ha2, ha3, sb0, true_implies, false_implies, forall_const] at c46
  try simp only [ha0, ha1, ha2, ha3, sb0, true_implies, false_implies, forall_const] at c47
  refine FW.run ?_
  (simp only [go_sem, simprocAttr, sw0, flatMap_length 2 (fun (x : List Int × List Int) => [(L x.1), (L x.2)]) (fun _ => rfl), sub_el 2 (fun (x : List Int × List Int) => [(L x.1), (L x.2)]) (fun _ => rfl) slots t1.toNat (by omega), ha0, ha1, ha2, ha3])
  repeat (refine And.intro (by first | omega | (intro hg; have hq := c44 (by first | exact hg | simpa using hg); first | omega | exact hq | (simp only [List.length_map]; omega)) | (intro hg; have hq := c45 (by first | exact hg | simpa using hg); first | omega | exact hq | (simp only [List.length_map]; omega)) | (intro hg; have hq := c46 (by first | exact hg | simpa using hg); first | omega | exact hq | (simp only [List.length_map]; omega)) | (intro hg; have hq := c47 (by first | exact hg | simpa using hg); first | omega | exact hq | (simp only [List.length_map]; omega)) | (first | omega | assumption | rfl | decide | trivial)) ?_)
  refine FW.nil ?_
  change OW _ _ _ _ _ _
  refine OW.run [1, 2, 3, 7, 12, 14, 15, 17, 276] ?_
  (simp only [go_sem, simprocAttr, sw0, flatMap_length 2 (fun (x : List Int × List Int) => [(L x.1), (L x.2)]) (fun _ => rfl), sub_el 2 (fun (x : List Int × List Int) => [(L x.1), (L x.2)]) (fun _ => rfl) slots t1.toNat (by omega), ha0, ha1, ha2, ha3])
  repeat (refine And.intro (by first | omega | (intro hg; have hq := c44 (by first | exact hg | simpa using hg); first | omega | exact hq | (simp only [List.length_map]; omega)) | (intro hg; have hq := c45 (by first | exact hg | simpa using hg); first | omega | exact hq | (simp only [List.length_map]; omega)) | (intro hg; have hq := c46 (by first | exact hg | simpa using hg); first | omega | exact hq | (simp only [List.length_map]; omega)) | (intro hg; have hq := c47 (by first | exact hg | simpa using hg); first | omega | exact hq | (simp only [List.length_map]; omega)) | (first | omega | assumption | rfl | decide | trivial)) ?_)
  refine OW.nil ((congrArg K ?_).mpr hKE)
  · (first | rfl | (simp only [go_sem, simprocAttr, ha0, ha1, ha2, ha3]; done) | (simp only [go_sem, simprocAttr, ha0, ha1, ha2, ha3]; rfl))
 ·
  try simp only [ha0, ha1, sb0, true_implies, false_implies, forall_const] at c44
  try simp only [ha0, ha1, sb0, true_implies, false_implies, forall_const] at c45
  try simp only [ha0, ha1, sb0, true_implies, false_implies, forall_const] at c46
  try simp only [ha0, ha1, sb0, true_implies, false_implies, forall_const] at c47
  refine FW.run ?_
  (simp only [go_sem, simprocAttr, sw0, flatMap_length 2 (fun (x : List Int × List Int) => [(L x.1), (L x.2)]) (fun _ => rfl), sub_el 2 (fun (x : List Int × List Int) => [(L x.1), (L x.2)]) (fun _ => rfl) slots t1.toNat (by omega), ha0, ha1])
  repeat (refine And.intro (by first | omega | (intro hg; have hq := c44 (by first | exact hg | simpa using hg); first | omega | exact hq | (simp only [List.length_map]; omega)) | (intro hg; have hq := c45 (by first | exact hg | simpa using hg); first | omega | exact hq | (simp only [List.length_map]; omega)) | (intro hg; have hq := c46 (by first | exact hg | simpa using hg); first | omega | exact hq | (simp only [List.length_map]; omega)) | (intro hg; have hq := c47 (by first | exact hg | simpa using hg); first | omega | exact hq | (simp only [List.length_map]; omega)) | (first | omega | assumption | rfl | decide | trivial)) ?_)
  refine FW.nil ?_
  change OW _ _ _ _ _ _
  refine OW.run [1, 2, 3, 7, 12, 14, 15, 17, 276] ?_
  (simp only [go_sem, simprocAttr, sw0, flatMap_length 2 (fun (x : List Int × List Int) => [(L x.1), (L x.2)]) (fun _ => rfl), sub_el 2 (fun (x : List Int × List Int) => [(L x.1), (L x.2)]) (fun _ => rfl) slots t1.toNat (by omega), ha0, ha1])
  repeat (refine And.intro (by first | omega | (intro hg; have hq := c44 (by first | exact hg | simpa using hg); first | omega | exact hq | (simp only [List.length_map]; omega)) | (intro hg; have hq := c45 (by first | exact hg | simpa using hg); first | omega | exact hq | (simp only [List.length_map]; omega)) | (intro hg; have hq := c46 (by first | exact hg | simpa using hg); first | omega | exact hq | (simp only [List.length_map]; omega)) | (intro hg; have hq := c47 (by first | exact hg | simpa using hg); first | omega | exact hq | (simp only [List.length_map]; omega)) | (first | omega | assumption | rfl | decide | trivial)) ?_)
  refine OW.nil ((congrArg K ?_).mpr hKE)
  · (first | rfl | (simp only [go_sem, simprocAttr, ha0, ha1]; done) | (simp only [go_sem, simprocAttr, ha0, ha1]; rfl))
 ·
  try simp only [ha0, sb0, true_implies, false_implies, forall_const] at c44
  try simp only [ha0, sb0, true_implies, false_implies, forall_const] at c45
  try simp only [ha0, sb0, true_implies, false_implies, forall_const] at c46
  try simp only [ha0, sb0, true_implies, false_implies, forall_const] at c47
  refine FW.run ?_
  (simp only [go_sem, simprocAttr, sw0, ha0])
  repeat (refine And.intro (by first | omega | (intro hg; have hq := c44 (by first | exact hg | simpa using hg); first | omega | exact hq | (simp only [List.length_map]; omega)) | (intro hg; have hq := c45 (by first | exact hg | simpa using hg); first | omega | exact hq | (simp only [List.length_map]; omega)) | (intro hg; have hq := c46 (by first | exact hg | simpa using hg); first | omega | exact hq | (simp only [List.length_map]; omega)) | (intro hg; have hq := c47 (by first | exact hg | simpa using hg); first | omega | exact hq | (simp only [List.length_map]; omega)) | (first | omega | assumption | rfl | decide | trivial)) ?_)
  refine FW.nil ?_
  change OW _ _ _ _ _ _
  refine OW.run [1, 2, 3, 7, 12, 14, 15, 17, 276] ?_
  (simp only [go_sem, simprocAttr, sw0, ha0])
  repeat (refine And.intro (by first | omega | (intro hg; have hq := c44 (by first | exact hg | simpa using hg); first | omega | exact hq | (simp only [List.length_map]; omega)) | (intro hg; have hq := c45 (by first | exact hg | simpa using hg); first | omega | exact hq | (simp only [List.length_map]; omega)) | (intro hg; have hq := c46 (by first | exact hg | simpa using hg); first | omega | exact hq | (simp only [List.length_map]; omega)) | (intro hg; have hq := c47 (by first | exact hg | simpa using hg); first | omega | exact hq | (simp only [List.length_map]; omega)) | (first | omega | assumption | rfl | decide | trivial)) ?_)
  refine OW.nil ((congrArg K ?_).mpr hKE)
  · (first | rfl | (simp only [go_sem, simprocAttr, ha0]; done) | (simp only [go_sem, simprocAttr, ha0]; rfl))
 clear hK K
 refine PW.cond rfl (fun h48 => ?_) (fun h48 => ?_)
 replace H := br_t h48 H
 refine PW.seq ?_
 refine PW.regionK fun K hK => OW.run [6] ?_
 simp only [go_sem, simprocAttr, sw0]
 refine OW.nil (hK _ ?_)
 refine PW.ret ?_
 change PW.Ends _ _ _ _ _ _
 refine PW.Ends.intro (.inr rfl) ?_
 simp only [go_sem, simprocAttr, sw0]
 obtain rfl := Option.some.inj H
 refine RetOK.data' 4 (by exact trivial) ?_
 rfl
 replace H := br_f h48 H
 refine PW.skip ?_
 refine PW.regionK fun K hK => OW.run [1, 2, 3, 7, 12, 14, 15, 17] ?_
 simp only [go_sem, simprocAttr, sw0]
 refine OW.nil (hK _ ?_)
 refine hN39 [] (w64 (k2 + (1 : Int))) _ H (by exact trivial) ?_
 simp only [sw1, go_sem, simprocAttr]
 replace H := br_f h40 H
 refine PW.exit ?_
 refine hN20 [] () _ H (by exact trivial) ?_
 simp only [sw1, go_sem, simprocAttr]
 rintro _ H
 try simp only [go_sem, simprocAttr]
 refine PW.regionK fun K hK => OW.run [1, 2, 3, 7, 12] ?_
 simp only [go_sem, simprocAttr, sw0]
 refine OW.nil (hK _ ?_)
 refine hN18 [] (w64 (t1 + (1 : Int))) _ H (by exact trivial) ?_
 simp only [sw1, go_sem, simprocAttr]
 replace H := br_f h19 H
 refine PW.exit ?_
 refine hN17 [] () _ H (by exact trivial) ?_
 simp only [sw1, go_sem, simprocAttr]
 rintro _ H
 try simp only [go_sem, simprocAttr]
 refine PW.seq ?_
 refine PW.regionK fun K hK => OW.run [6] ?_
 simp only [go_sem, simprocAttr, sw0]
 refine OW.nil (hK _ ?_)
 refine PW.ret ?_
 change PW.Ends _ _ _ _ _ _
 refine PW.Ends.intro (.inr rfl) ?_
 simp only [go_sem, simprocAttr, sw0]
 obtain rfl := Option.some.inj H
 refine RetOK.data' 4 (by exact trivial) ?_
 rfl

end Go.Proofs.Ytabojpkmfkjjkaa
