import Derived.Test.YtabojpkmfkjjkaaSsBase
import Derived.Test.YtabojpkmfkjjkaaSsW0
import Derived.Test.YtabojpkmfkjjkaaSsW2
import Derived.Test.YtabojpkmfkjjkaaSsW4
import Derived.Test.YtabojpkmfkjjkaaSsW5
set_option linter.all false
namespace Go.Proofs.Ytabojpkmfkjjkaa
open Go.PW Go.Sh

set_option maxRecDepth 20000
set_option maxHeartbeats 8000000
def scqW7 := And.intro @List.length_set <| And.intro @List.length_replicate <| And.intro @and_true <| And.intro @true_and @Nat.le_refl
theorem law06_brief_ok (N : Nat) (l : List (List Int × List Int)) (r : Bool) (H : law06_brief N l = some r) : CallOK Try.prog 28 [(.list l.length (l.flatMap (fun (x : List Int × List Int) => [(L x.1), (L x.2)])))] (.d (Bo r)) [] := by
 refine d4 Try.func28 rfl (by rw [Try.results28]) Try.ntmps28 Try.call28 ?_
 change PW _ _ _ _ _
 try simp only [go_sem, simprocAttr]
 unfold law06_brief at H
 refine a5 ?_
 refine a0 fun K hK => OW.run [0] ?_
 simp only [go_sem, simprocAttr, sw0]
 refine OW.nil (hK _ ?_)
 refine a5 ?_
 refine a5 ?_
 refine a0 fun K hK => OW.run [0, 16] ?_
 simp only [go_sem, simprocAttr, sw0]
 refine OW.nil (hK _ ?_)
 refine d6 rfl (fun h1 => ?_) (fun h1 => ?_)
 replace H := l4 h1 H
 refine a5 ?_
 refine a0 fun K hK => OW.run [2] ?_
 simp only [go_sem, simprocAttr, sw0]
 refine OW.nil (hK _ ?_)
 refine f0 ?_
 change PW.Ends _ _ _ _ _ _
 refine PW.Ends.intro (.inr rfl) ?_
 simp only [go_sem, simprocAttr, sw0]
 obtain rfl := Option.some.inj H
 refine a6 4 (by exact trivial) ?_
 rfl
 replace H := l5 h1 H
 refine d7 ?_
 refine f8 (τ := Unit) [] 0 (fun _ => []) (fun _ => []) _ _ r (by exact Nat.le_refl _) H ?_ ?_
 intro K_ H N2 hN2
 refine a5 ?_
 refine a0 fun K hK => OW.run [0, 3] ?_
 simp only [go_sem, simprocAttr, sw0]
 refine OW.nil (hK _ ?_)
 refine PW.block ?_
 refine g9 (σ := Int) [0, 3] 0 (fun i => [(3, .d (I i))]) (fun i => []) (law06_brief.b1 N l K_) r N (0 : Int) (by exact Nat.le_refl _) H (by (simp only [sw1, go_sem, simprocAttr]; done)) ?_
 rintro n i H N3 hN3
 unfold law06_brief.b1 at H
 try simp only [go_sem, simprocAttr]
 refine a5 ?_
 refine a5 ?_
 refine a0 fun K hK => OW.run [0, 3, 20] ?_
 simp only [go_sem, simprocAttr, sw0]
 refine OW.nil (hK _ ?_)
 refine d6 rfl (fun h4 => ?_) (fun h4 => ?_)
 replace H := l4 h4 H
 refine d7 ?_
 refine a5 ?_
 refine PW.block ?_
 refine a5 ?_
 obtain ⟨c5, H⟩ := d3 H
 obtain ⟨c6, H⟩ := d3 H
 refine a0 fun K hK => ?_
 refine OW.toS [(0, .d (.list l.length (l.flatMap (fun (x : List Int × List Int) => [(L x.1), (L x.2)])))), (3, .d (I i)), (38, .d (Bo ((decide ((((l.getD i.toNat default).1).length : Int) > (12 : Int))) || (decide ((((l.getD i.toNat default).2).length : Int) > (12 : Int))))))] [] ?_ (hK _ ?_)
 intro K hKE
 rcases Bool.eq_false_or_eq_true ((decide ((((l.getD i.toNat default).1).length : Int) > (12 : Int)))) with ha0 | ha0
 ·
  try simp only [ha0, sb0, true_implies, false_implies, forall_const] at c6
  refine OW.run [0, 3, 38] ?_
  (simp only [go_sem, simprocAttr, sw0, f4 2 (fun (x : List Int × List Int) => [(L x.1), (L x.2)]) (fun _ => rfl), q9 2 (fun (x : List Int × List Int) => [(L x.1), (L x.2)]) (fun _ => rfl) l i.toNat (by omega), ha0])
  repeat (refine And.intro (by first | omega | (intro hg; have hq := c6 (by first | exact hg | simpa using hg); first | omega | exact hq | (simp only [List.length_map]; omega)) | (first | omega | assumption | rfl | decide | trivial)) ?_)
  refine OW.nil ((congrArg K ?_).mpr hKE)
  · (first | rfl | (simp only [go_sem, simprocAttr, ha0]; done) | (simp only [go_sem, simprocAttr, ha0]; rfl))
 ·
  try simp only [ha0, sb0, true_implies, false_implies, forall_const] at c6
  refine OW.run [0, 3, 38] ?_
  (simp only [go_sem, simprocAttr, sw0, f4 2 (fun (x : List Int × List Int) => [(L x.1), (L x.2)]) (fun _ => rfl), q9 2 (fun (x : List Int × List Int) => [(L x.1), (L x.2)]) (fun _ => rfl) l i.toNat (by omega), ha0])
  repeat (refine And.intro (by first | omega | (intro hg; have hq := c6 (by first | exact hg | simpa using hg); first | omega | exact hq | (simp only [List.length_map]; omega)) | (first | omega | assumption | rfl | decide | trivial)) ?_)
  refine OW.nil ((congrArg K ?_).mpr hKE)
  · (first | rfl | (simp only [go_sem, simprocAttr, ha0]; done) | (simp only [go_sem, simprocAttr, ha0]; rfl))
 clear hK K
 refine d6 rfl (fun h7 => ?_) (fun h7 => ?_)
 replace H := l4 h7 H
 refine a5 ?_
 refine a0 fun K hK => OW.run [2] ?_
 simp only [go_sem, simprocAttr, sw0]
 refine OW.nil (hK _ ?_)
 refine f0 ?_
 change PW.Ends _ _ _ _ _ _
 refine PW.Ends.intro (.inr rfl) ?_
 simp only [go_sem, simprocAttr, sw0]
 obtain rfl := Option.some.inj H
 refine a6 4 (by exact trivial) ?_
 rfl
 replace H := l5 h7 H
 refine d7 ?_
 refine a0 fun K hK => OW.run [0, 3] ?_
 simp only [go_sem, simprocAttr, sw0]
 refine OW.nil (hK _ ?_)
 refine hN3 [] (w64 (i + (1 : Int))) _ H (by exact trivial) ?_
 simp only [sw1, go_sem, simprocAttr]
 replace H := l5 h4 H
 refine i9 ?_
 refine hN2 [] () _ H (by exact trivial) ?_
 simp only [sw1, go_sem, simprocAttr]
 rintro _ H
 try simp only [go_sem, simprocAttr]
 refine a5 ?_
 refine a0 fun K hK => OW.run [2] ?_
 simp only [go_sem, simprocAttr, sw0]
 refine OW.nil (hK _ ?_)
 refine f0 ?_
 change PW.Ends _ _ _ _ _ _
 refine PW.Ends.intro (.inr rfl) ?_
 simp only [go_sem, simprocAttr, sw0]
 obtain rfl := Option.some.inj H
 refine a6 4 (by exact trivial) ?_
 rfl

theorem ref06_SlotsErr_ok (N : Nat) (Zq : Int) (Zr : Int) (Zs : Int) (Zx : List Int) (bearers : Int) (l : List (List Int × List Int)) (r : Int) (H : ref06_SlotsErr N Zq Zr Zs Zx bearers l = some r) : CallOK Try.prog 103 [(.agg [(I Zq), (I Zr), (I Zs), (L Zx)]), (I bearers), (.list l.length (l.flatMap (fun (x : List Int × List Int) => [(L x.1), (L x.2)])))] (.d (I r)) [] := by
 refine d4 Try.func103 rfl (by rw [Try.results103]) Try.ntmps103 Try.call103 ?_
 change PW _ _ _ _ _
 try simp only [go_sem, simprocAttr]
 unfold ref06_SlotsErr at H
 refine a5 ?_
 refine a0 fun K hK => OW.run [1, 2, 3] ?_
 simp only [go_sem, simprocAttr, sw0]
 refine OW.nil (hK _ ?_)
 refine a5 ?_
 refine a5 ?_
 refine a0 fun K hK => OW.run [1, 2, 3, 11] ?_
 simp only [go_sem, simprocAttr, sw0]
 refine OW.nil (hK _ ?_)
 refine d6 rfl (fun h1 => ?_) (fun h1 => ?_)
 replace H := l4 h1 H
 refine a5 ?_
 refine a0 fun K hK => OW.run [6] ?_
 simp only [go_sem, simprocAttr, sw0]
 refine OW.nil (hK _ ?_)
 refine f0 ?_
 change PW.Ends _ _ _ _ _ _
 refine PW.Ends.intro (.inr rfl) ?_
 simp only [go_sem, simprocAttr, sw0]
 obtain rfl := Option.some.inj H
 refine a6 4 (by exact trivial) ?_
 rfl
 replace H := l5 h1 H
 refine d7 ?_
 refine f8 (τ := Unit) [] 0 (fun _ => []) (fun _ => []) _ _ r (by exact Nat.le_refl _) H ?_ ?_
 intro K_ H N2 hN2
 refine a5 ?_
 refine a0 fun K hK => OW.run [1, 2, 3, 7] ?_
 simp only [go_sem, simprocAttr, sw0]
 refine OW.nil (hK _ ?_)
 refine PW.block ?_
 refine g9 (σ := Int) [1, 2, 3, 7] 1 (fun i => [(7, .d (I i))]) (fun i => [{ cells := [.d (I Zq), .d (I Zr), .d (I Zs), .d (L Zx)], e := 24 }]) (ref06_SlotsErr.b1 N Zq Zr Zs Zx bearers l K_) r N (0 : Int) (by exact Nat.zero_le _) H (by (simp only [sw1, go_sem, simprocAttr]; done)) ?_
 rintro n i H N3 hN3
 unfold ref06_SlotsErr.b1 at H
 try simp only [go_sem, simprocAttr]
 refine a5 ?_
 refine a5 ?_
 refine a0 fun K hK => OW.run [1, 2, 3, 7, 15] ?_
 simp only [go_sem, simprocAttr, sw0]
 refine OW.nil (hK _ ?_)
 refine d6 rfl (fun h4 => ?_) (fun h4 => ?_)
 replace H := l4 h4 H
 refine d7 ?_
 refine f8 (τ := Unit) [1, 2, 3, 7] 1 (fun _ => []) (fun _ => [{ cells := [.d (I Zq), .d (I Zr), .d (I Zs), .d (L Zx)], e := 24 }]) _ _ r (by exact Nat.zero_le _) H ?_ ?_
 intro K_1 H N5 hN5
 refine PW.block ?_
 refine a5 ?_
 refine a5 ?_
 obtain ⟨c6, H⟩ := d3 H
 obtain ⟨c7, H⟩ := d3 H
 refine a0 fun K hK => ?_
 refine OW.toS [(1, .d (I bearers)), (2, .d (.list l.length (l.flatMap (fun (x : List Int × List Int) => [(L x.1), (L x.2)])))), (3, .ptr 0 0), (7, .d (I i)), (35, .d (Bo (((((l.getD i.toNat default).1).length : Int) != bearers) || ((((l.getD i.toNat default).2).length : Int) != bearers))))] [{ cells := [.d (I Zq), .d (I Zr), .d (I Zs), .d (L Zx)], e := 24 }] ?_ (hK _ ?_)
 intro K hKE
 rcases Bool.eq_false_or_eq_true (((((l.getD i.toNat default).1).length : Int) != bearers)) with ha0 | ha0
 ·
  try simp only [ha0, sb0, true_implies, false_implies, forall_const] at c7
  refine OW.run [1, 2, 3, 7, 35] ?_
  (simp only [go_sem, simprocAttr, sw0, f4 2 (fun (x : List Int × List Int) => [(L x.1), (L x.2)]) (fun _ => rfl), q9 2 (fun (x : List Int × List Int) => [(L x.1), (L x.2)]) (fun _ => rfl) l i.toNat (by omega), ha0])
  repeat (refine And.intro (by first | omega | (intro hg; have hq := c7 (by first | exact hg | simpa using hg); first | omega | exact hq | (simp only [List.length_map]; omega)) | (first | omega | assumption | rfl | decide | trivial)) ?_)
  refine OW.nil ((congrArg K ?_).mpr hKE)
  · (first | rfl | (simp only [go_sem, simprocAttr, ha0]; done) | (simp only [go_sem, simprocAttr, ha0]; rfl))
 ·
  try simp only [ha0, sb0, true_implies, false_implies, forall_const] at c7
  refine OW.run [1, 2, 3, 7, 35] ?_
  (simp only [go_sem, simprocAttr, sw0, f4 2 (fun (x : List Int × List Int) => [(L x.1), (L x.2)]) (fun _ => rfl), q9 2 (fun (x : List Int × List Int) => [(L x.1), (L x.2)]) (fun _ => rfl) l i.toNat (by omega), ha0])
  repeat (refine And.intro (by first | omega | (intro hg; have hq := c7 (by first | exact hg | simpa using hg); first | omega | exact hq | (simp only [List.length_map]; omega)) | (first | omega | assumption | rfl | decide | trivial)) ?_)
  refine OW.nil ((congrArg K ?_).mpr hKE)
  · (first | rfl | (simp only [go_sem, simprocAttr, ha0]; done) | (simp only [go_sem, simprocAttr, ha0]; rfl))
 clear hK K
 refine d6 rfl (fun h8 => ?_) (fun h8 => ?_)
 replace H := l4 h8 H
 refine a5 ?_
 refine a0 fun K hK => OW.run [6] ?_
 simp only [go_sem, simprocAttr, sw0]
 refine OW.nil (hK _ ?_)
 refine f0 ?_
 change PW.Ends _ _ _ _ _ _
 refine PW.Ends.intro (.inr rfl) ?_
 simp only [go_sem, simprocAttr, sw0]
 obtain rfl := Option.some.inj H
 refine a6 4 (by exact trivial) ?_
 rfl
 replace H := l5 h8 H
 refine d7 ?_
 refine a5 ?_
 refine a0 fun K hK => OW.run [1, 2, 3, 7, 8] ?_
 simp only [go_sem, simprocAttr, sw0]
 refine OW.nil (hK _ ?_)
 refine PW.block ?_
 refine g9 (σ := Int) [1, 2, 3, 7, 8] 1 (fun k => [(8, .d (I k))]) (fun k => [{ cells := [.d (I Zq), .d (I Zr), .d (I Zs), .d (L Zx)], e := 24 }]) (w6 N Zq Zr Zs Zx bearers l i K_1) r N (0 : Int) (by exact Nat.zero_le _) H (by (simp only [sw1, go_sem, simprocAttr]; done)) ?_
 rintro n k H N9 hN9
 unfold w6 at H
 try simp only [go_sem, simprocAttr]
 refine a5 ?_
 refine a5 ?_
 refine a0 fun K hK => OW.run [1, 2, 3, 7, 8, 38] ?_
 simp only [go_sem, simprocAttr, sw0]
 refine OW.nil (hK _ ?_)
 refine d6 rfl (fun h10 => ?_) (fun h10 => ?_)
 replace H := l4 h10 H
 refine d7 ?_
 refine a5 ?_
 refine PW.block ?_
 refine a5 ?_
 obtain ⟨c11, H⟩ := d3 H
 obtain ⟨c12, H⟩ := d3 H
 obtain ⟨x1, e1, H⟩ := a8 H
 obtain ⟨c13, H⟩ := d3 H
 obtain ⟨c14, H⟩ := d3 H
 obtain ⟨x2, e2, H⟩ := a8 H
 refine j7 18 q6 (by kernel_rfl) fun K hK => ?_
 change FW _ _ _ _ _
 refine FW.toS [(1, .d (I bearers)), (2, .d (.list l.length (l.flatMap (fun (x : List Int × List Int) => [(L x.1), (L x.2)])))), (3, .ptr 0 0), (7, .d (I i)), (8, .d (I k)), (63, .d (Bo ((!x1) || (!x2))))] [{ cells := [.d (I Zq), .d (I Zr), .d (I Zs), .d (L Zx)], e := 24 }] ?_ (hK _ ?_)
 intro K hKE
 rcases Bool.eq_false_or_eq_true (x1) with ha0 | ha0
 ·
  try simp only [ha0, sb0, true_implies, false_implies, forall_const] at c13
  try simp only [ha0, sb0, true_implies, false_implies, forall_const] at c14
  refine FW.run ?_
  (simp only [go_sem, simprocAttr, sw0, f4 2 (fun (x : List Int × List Int) => [(L x.1), (L x.2)]) (fun _ => rfl), q9 2 (fun (x : List Int × List Int) => [(L x.1), (L x.2)]) (fun _ => rfl) l i.toNat (by omega), ha0])
  repeat (refine And.intro (by first | omega | (intro hg; have hq := c13 (by first | exact hg | simpa using hg); first | omega | exact hq | (simp only [List.length_map]; omega)) | (intro hg; have hq := c14 (by first | exact hg | simpa using hg); first | omega | exact hq | (simp only [List.length_map]; omega)) | (first | omega | assumption | rfl | decide | trivial)) ?_)
  refine o8 4 rfl rfl rfl (by ((simp only [go_sem, List.toList_toArray, simprocAttr]); exact rfl)) ?_ (ref06_IsReport_ok N _ _ _ _ _ _ e1) ?_ ?_ ?_ ?_
  rfl
  · (refine a7 ?_; (simp only [go_sem, sw2, scqW7, simprocAttr]; done))
  exact .inl rfl
  (simp only [go_sem, Nat.reduceLT])
  refine FW.run ?_
  (simp only [go_sem, simprocAttr, sw0, f4 2 (fun (x : List Int × List Int) => [(L x.1), (L x.2)]) (fun _ => rfl), q9 2 (fun (x : List Int × List Int) => [(L x.1), (L x.2)]) (fun _ => rfl) l i.toNat (by omega), ha0])
  repeat (refine And.intro (by first | omega | (intro hg; have hq := c13 (by first | exact hg | simpa using hg); first | omega | exact hq | (simp only [List.length_map]; omega)) | (intro hg; have hq := c14 (by first | exact hg | simpa using hg); first | omega | exact hq | (simp only [List.length_map]; omega)) | (first | omega | assumption | rfl | decide | trivial)) ?_)
  refine FW.nil ?_
  change OW _ _ _ _ _ _
  refine OW.run [1, 2, 3, 7, 8, 63] ?_
  (simp only [go_sem, simprocAttr, sw0, f4 2 (fun (x : List Int × List Int) => [(L x.1), (L x.2)]) (fun _ => rfl), q9 2 (fun (x : List Int × List Int) => [(L x.1), (L x.2)]) (fun _ => rfl) l i.toNat (by omega), ha0])
  repeat (refine And.intro (by first | omega | (intro hg; have hq := c13 (by first | exact hg | simpa using hg); first | omega | exact hq | (simp only [List.length_map]; omega)) | (intro hg; have hq := c14 (by first | exact hg | simpa using hg); first | omega | exact hq | (simp only [List.length_map]; omega)) | (first | omega | assumption | rfl | decide | trivial)) ?_)
  refine m6 4 rfl rfl ?_ (fun hg => by first | rfl | (simp only [go_sem, ↓reduceIte]; rfl)) (fun hg => by (first | ((simp only [go_sem, List.toList_toArray, simprocAttr, ha0]); exact rfl) | exact rfl)) (fun hg => ?_) (fun hg => (k6 N _ _ _ _ (w9 hg e2))) ?_ ?_ ?_ ?_
  · (first | rfl | (simp only [go_sem, simprocAttr, ha0]; done) | (simp only [go_sem, simprocAttr, ha0]; rfl))
  · first | (rfl; done) | (exfalso; simp only [ha0, sb0] at hg)
  exact e0 rfl
  exact .inl rfl
  (simp only [go_sem, Nat.reduceLT])
  refine OW.run [1, 2, 3, 7, 8, 63] ?_
  (simp only [go_sem, simprocAttr, sw0, f4 2 (fun (x : List Int × List Int) => [(L x.1), (L x.2)]) (fun _ => rfl), q9 2 (fun (x : List Int × List Int) => [(L x.1), (L x.2)]) (fun _ => rfl) l i.toNat (by omega), ha0])
  repeat (refine And.intro (by first | omega | (intro hg; have hq := c13 (by first | exact hg | simpa using hg); first | omega | exact hq | (simp only [List.length_map]; omega)) | (intro hg; have hq := c14 (by first | exact hg | simpa using hg); first | omega | exact hq | (simp only [List.length_map]; omega)) | (first | omega | assumption | rfl | decide | trivial)) ?_)
  refine OW.nil ((congrArg K ?_).mpr hKE)
  · (first | rfl | (simp only [go_sem, simprocAttr, ha0]; done) | (simp only [go_sem, simprocAttr, ha0]; rfl))
 ·
  try simp only [ha0, sb0, true_implies, false_implies, forall_const] at c13
  try simp only [ha0, sb0, true_implies, false_implies, forall_const] at c14
  refine FW.run ?_
  (simp only [go_sem, simprocAttr, sw0, f4 2 (fun (x : List Int × List Int) => [(L x.1), (L x.2)]) (fun _ => rfl), q9 2 (fun (x : List Int × List Int) => [(L x.1), (L x.2)]) (fun _ => rfl) l i.toNat (by omega), ha0])
  repeat (refine And.intro (by first | omega | (intro hg; have hq := c13 (by first | exact hg | simpa using hg); first | omega | exact hq | (simp only [List.length_map]; omega)) | (intro hg; have hq := c14 (by first | exact hg | simpa using hg); first | omega | exact hq | (simp only [List.length_map]; omega)) | (first | omega | assumption | rfl | decide | trivial)) ?_)
  refine o8 4 rfl rfl rfl (by ((simp only [go_sem, List.toList_toArray, simprocAttr]); exact rfl)) ?_ (ref06_IsReport_ok N _ _ _ _ _ _ e1) ?_ ?_ ?_ ?_
  rfl
  · (refine a7 ?_; (simp only [go_sem, sw2, scqW7, simprocAttr]; done))
  exact .inl rfl
  (simp only [go_sem, Nat.reduceLT])
  refine FW.run ?_
  (simp only [go_sem, simprocAttr, sw0, f4 2 (fun (x : List Int × List Int) => [(L x.1), (L x.2)]) (fun _ => rfl), q9 2 (fun (x : List Int × List Int) => [(L x.1), (L x.2)]) (fun _ => rfl) l i.toNat (by omega), ha0])
  repeat (refine And.intro (by first | omega | (intro hg; have hq := c13 (by first | exact hg | simpa using hg); first | omega | exact hq | (simp only [List.length_map]; omega)) | (intro hg; have hq := c14 (by first | exact hg | simpa using hg); first | omega | exact hq | (simp only [List.length_map]; omega)) | (first | omega | assumption | rfl | decide | trivial)) ?_)
  refine FW.nil ?_
  change OW _ _ _ _ _ _
  refine OW.run [1, 2, 3, 7, 8, 63] ?_
  (simp only [go_sem, simprocAttr, sw0, f4 2 (fun (x : List Int × List Int) => [(L x.1), (L x.2)]) (fun _ => rfl), q9 2 (fun (x : List Int × List Int) => [(L x.1), (L x.2)]) (fun _ => rfl) l i.toNat (by omega), ha0])
  repeat (refine And.intro (by first | omega | (intro hg; have hq := c13 (by first | exact hg | simpa using hg); first | omega | exact hq | (simp only [List.length_map]; omega)) | (intro hg; have hq := c14 (by first | exact hg | simpa using hg); first | omega | exact hq | (simp only [List.length_map]; omega)) | (first | omega | assumption | rfl | decide | trivial)) ?_)
  refine m6 4 rfl rfl ?_ (fun hg => by first | rfl | (simp only [go_sem, ↓reduceIte]; rfl)) (fun hg => by (first | ((simp only [go_sem, List.toList_toArray, simprocAttr, ha0]); exact rfl) | exact rfl)) (fun hg => ?_) (fun hg => (k6 N _ _ _ _ (w9 hg e2))) ?_ ?_ ?_ ?_
  · (first | rfl | (simp only [go_sem, simprocAttr, ha0]; done) | (simp only [go_sem, simprocAttr, ha0]; rfl))
  · first | (rfl; done) | (exfalso; simp only [ha0, sb0] at hg)
  exact e0 rfl
  exact .inl rfl
  (simp only [go_sem, Nat.reduceLT])
  refine OW.run [1, 2, 3, 7, 8, 63] ?_
  (simp only [go_sem, simprocAttr, sw0, f4 2 (fun (x : List Int × List Int) => [(L x.1), (L x.2)]) (fun _ => rfl), q9 2 (fun (x : List Int × List Int) => [(L x.1), (L x.2)]) (fun _ => rfl) l i.toNat (by omega), ha0])
  repeat (refine And.intro (by first | omega | (intro hg; have hq := c13 (by first | exact hg | simpa using hg); first | omega | exact hq | (simp only [List.length_map]; omega)) | (intro hg; have hq := c14 (by first | exact hg | simpa using hg); first | omega | exact hq | (simp only [List.length_map]; omega)) | (first | omega | assumption | rfl | decide | trivial)) ?_)
  refine OW.nil ((congrArg K ?_).mpr hKE)
  · (first | rfl | (simp only [go_sem, simprocAttr, ha0]; done) | (simp only [go_sem, simprocAttr, ha0]; rfl))
 clear hK K
 refine d6 rfl (fun h15 => ?_) (fun h15 => ?_)
 replace H := l4 h15 H
 refine a5 ?_
 refine a0 fun K hK => OW.run [6] ?_
 simp only [go_sem, simprocAttr, sw0]
 refine OW.nil (hK _ ?_)
 refine f0 ?_
 change PW.Ends _ _ _ _ _ _
 refine PW.Ends.intro (.inr rfl) ?_
 simp only [go_sem, simprocAttr, sw0]
 obtain rfl := Option.some.inj H
 refine a6 4 (by exact trivial) ?_
 rfl
 replace H := l5 h15 H
 refine d7 ?_
 refine a0 fun K hK => OW.run [1, 2, 3, 7, 8] ?_
 simp only [go_sem, simprocAttr, sw0]
 refine OW.nil (hK _ ?_)
 refine hN9 [] (w64 (k + (1 : Int))) _ H (by exact trivial) ?_
 simp only [sw1, go_sem, simprocAttr]
 replace H := l5 h10 H
 refine i9 ?_
 refine hN5 [] () _ H (by exact trivial) ?_
 simp only [sw1, go_sem, simprocAttr]
 rintro _ H
 try simp only [go_sem, simprocAttr]
 refine a0 fun K hK => OW.run [1, 2, 3, 7] ?_
 simp only [go_sem, simprocAttr, sw0]
 refine OW.nil (hK _ ?_)
 refine hN3 [] (w64 (i + (1 : Int))) _ H (by exact trivial) ?_
 simp only [sw1, go_sem, simprocAttr]
 replace H := l5 h4 H
 refine i9 ?_
 refine hN2 [] () _ H (by exact trivial) ?_
 simp only [sw1, go_sem, simprocAttr]
 rintro _ H
 try simp only [go_sem, simprocAttr]
 refine a5 ?_
 refine a0 fun K hK => OW.run [6] ?_
 simp only [go_sem, simprocAttr, sw0]
 refine OW.nil (hK _ ?_)
 refine f0 ?_
 change PW.Ends _ _ _ _ _ _
 refine PW.Ends.intro (.inr rfl) ?_
 simp only [go_sem, simprocAttr, sw0]
 obtain rfl := Option.some.inj H
 refine a6 4 (by exact trivial) ?_
 rfl

theorem law06_runErr_ok (N : Nat) (Zq : Int) (Zr : Int) (Zs : Int) (Zx : List Int) (l : List TB) (slots : List (List Int × List Int)) (r : Int) (H : law06_runErr N Zq Zr Zs Zx l slots = some r) : CallOK Try.prog 29 [(.agg [(I Zq), (I Zr), (I Zs), (L Zx)]), (.list l.length (l.flatMap (fun (x : ByteArray × Int × Int × Int × Int × Int × Int × Int × Int) => [(Sx x.1), (I x.2.1), (I x.2.2.1), (I x.2.2.2.1), (I x.2.2.2.2.1), (I x.2.2.2.2.2.1), (I x.2.2.2.2.2.2.1), (I x.2.2.2.2.2.2.2.1), (I x.2.2.2.2.2.2.2.2)]))), (.list slots.length (slots.flatMap (fun (x : List Int × List Int) => [(L x.1), (L x.2)])))] (.d (I r)) [] := by
 refine d4 Try.func29 rfl (by rw [Try.results29]) Try.ntmps29 Try.call29 ?_
 change PW _ _ _ _ _
 try simp only [go_sem, simprocAttr]
 unfold law06_runErr at H
 refine a5 ?_
 refine a0 fun K hK => OW.run [1, 2, 3] ?_
 simp only [go_sem, simprocAttr, sw0]
 refine OW.nil (hK _ ?_)
 refine a5 ?_
 refine a5 ?_
 obtain ⟨x1, e1, H⟩ := a8 H
 refine a0 fun K hK => OW.run [1, 2, 3, 7] ?_
 simp only [go_sem, simprocAttr, sw0]
 refine d8 4 rfl rfl rfl (by ((simp only [go_sem, List.toList_toArray, simprocAttr]); exact rfl)) ?_ (ref06_BothErr_ok N _ _ _ _ _ _ e1) ?_ ?_ ?_ ?_
 rfl
 · (refine a7 ?_; (simp only [go_sem, sw2, scqW7, simprocAttr]; done))
 exact .inl rfl
 (simp only [go_sem, Nat.reduceLT])
 refine OW.run [1, 2, 3, 7] ?_
 simp only [go_sem, simprocAttr, sw0]
 refine OW.nil (hK _ ?_)
 refine a5 ?_
 refine a0 fun K hK => OW.run [1, 2, 3, 7, 12] ?_
 simp only [go_sem, simprocAttr, sw0]
 refine OW.nil (hK _ ?_)
 refine d6 rfl (fun h1 => ?_) (fun h1 => ?_)
 replace H := l4 h1 H
 refine a5 ?_
 refine a0 fun K hK => OW.run [6] ?_
 simp only [go_sem, simprocAttr, sw0]
 refine OW.nil (hK _ ?_)
 refine f0 ?_
 change PW.Ends _ _ _ _ _ _
 refine PW.Ends.intro (.inr rfl) ?_
 simp only [go_sem, simprocAttr, sw0]
 obtain rfl := Option.some.inj H
 refine a6 4 (by exact trivial) ?_
 rfl
 replace H := l5 h1 H
 refine d7 ?_
 refine a5 ?_
 obtain ⟨x2, e2, H⟩ := a8 H
 refine a0 fun K hK => OW.run [6] ?_
 simp only [go_sem, simprocAttr, sw0]
 refine d8 4 rfl rfl rfl (by ((simp only [go_sem, List.toList_toArray, simprocAttr]); exact rfl)) ?_ (ref06_SlotsErr_ok N _ _ _ _ _ _ _ e2) ?_ ?_ ?_ ?_
 rfl
 · (refine a7 ?_; (simp only [go_sem, sw2, scqW7, simprocAttr]; done))
 exact .inl rfl
 (simp only [go_sem, Nat.reduceLT])
 refine OW.run [6] ?_
 simp only [go_sem, simprocAttr, sw0]
 refine OW.nil (hK _ ?_)
 refine f0 ?_
 change PW.Ends _ _ _ _ _ _
 refine PW.Ends.intro (.inr rfl) ?_
 simp only [go_sem, simprocAttr, sw0]
 obtain rfl := Option.some.inj H
 refine a6 4 (by exact trivial) ?_
 rfl

theorem ref06_CopySlots_ok (N : Nat) (l : List (List Int × List Int)) (r : (List (List Int × List Int))) (H : ref06_CopySlots N l = some r) : CallOK Try.prog 31 [(.list l.length (l.flatMap (fun (x : List Int × List Int) => [(L x.1), (L x.2)])))] (.d (.list r.length (r.flatMap (fun (x : List Int × List Int) => [(L x.1), (L x.2)])))) [] := by
 refine d4 Try.func31 rfl (by rw [Try.results31]) Try.ntmps31 Try.call31 ?_
 change PW _ _ _ _ _
 try simp only [go_sem, simprocAttr]
 unfold ref06_CopySlots at H
 refine a5 ?_
 refine a0 fun K hK => OW.run [0] ?_
 simp only [go_sem, simprocAttr, sw0]
 refine OW.nil (hK _ ?_)
 refine a5 ?_
 refine a0 fun K hK => OW.run [0, 3] ?_
 simp only [go_sem, simprocAttr, sw0]
 refine OW.nil (hK _ ?_)
 refine f8 (τ := (List (List Int × List Int))) [3] 1 (fun b0 => [(3, .own 0 0 b0.length 2)]) (fun b0 => [{ cells := (b0.flatMap (fun (x : List Int × List Int) => [(L x.1), (L x.2)])).map .d, e := 57 }]) _ _ r (by exact Nat.zero_le _) H ?_ ?_
 intro K_ H N1 hN1
 refine a5 ?_
 refine a0 fun K hK => OW.run [0, 3, 4] ?_
 simp only [go_sem, simprocAttr, sw0]
 refine OW.nil (hK _ ?_)
 refine PW.block ?_
 refine PW.virt 3 57 2 rfl ?_
 try simp only [go_sem, simprocAttr]
 refine g9 (σ := Int × (List (List Int × List Int))) [0, 3, 4] 1 (fun (i, b01) => [(3, .own 0 0 b01.length 2), (4, .d (I i))]) (fun (i, b01) => [{ cells := (b01.flatMap (fun (x : List Int × List Int) => [(L x.1), (L x.2)])).map .d, e := 57 }]) (ref06_CopySlots.b1 N l K_) r N ((0 : Int), ([] : List (List Int × List Int))) (by exact Nat.zero_le _) H (by (simp only [sw1, go_sem, simprocAttr]; rfl)) ?_
 rintro n ⟨i, b01⟩ H N2 hN2
 unfold ref06_CopySlots.b1 at H
 try simp only [go_sem, simprocAttr]
 refine a5 ?_
 refine a5 ?_
 refine a0 fun K hK => OW.run [0, 3, 4, 8] ?_
 simp only [go_sem, simprocAttr, sw0]
 refine OW.nil (hK _ ?_)
 refine d6 rfl (fun h3 => ?_) (fun h3 => ?_)
 replace H := l4 h3 H
 refine d7 ?_
 refine a5 ?_
 refine PW.block ?_
 obtain ⟨c4, H⟩ := d3 H
 obtain ⟨x1, e1, H⟩ := a8 H
 obtain ⟨c5, H⟩ := d3 H
 obtain ⟨x2, e2, H⟩ := a8 H
 obtain ⟨c6, H⟩ := d3 H
 refine j7 15 q6 (by kernel_rfl) fun K hK => ?_
 change FW _ _ _ _ _
 refine FW.run ?_
 (simp only [go_sem, simprocAttr, sw0, f4 2 (fun (x : List Int × List Int) => [(L x.1), (L x.2)]) (fun _ => rfl), q9 2 (fun (x : List Int × List Int) => [(L x.1), (L x.2)]) (fun _ => rfl) l i.toNat (by omega), B8 (fun (x : List Int × List Int) => [(L x.1), (L x.2)]) (fun _ => rfl)])
 repeat (refine And.intro (by omega) ?_)
 refine o8 4 rfl rfl rfl (by ((simp only [go_sem, List.toList_toArray, simprocAttr]); exact rfl)) ?_ (base_CopyInts_okd N _ _ e1) ?_ ?_ ?_ ?_
 rfl
 exact e0 rfl
 exact .inl rfl
 (simp only [go_sem, Nat.reduceLT])
 refine FW.run ?_
 (simp only [go_sem, simprocAttr, sw0, f4 2 (fun (x : List Int × List Int) => [(L x.1), (L x.2)]) (fun _ => rfl), q9 2 (fun (x : List Int × List Int) => [(L x.1), (L x.2)]) (fun _ => rfl) l i.toNat (by omega), B8 (fun (x : List Int × List Int) => [(L x.1), (L x.2)]) (fun _ => rfl)])
 repeat (refine And.intro (by omega) ?_)
 refine o8 4 rfl rfl rfl (by ((simp only [go_sem, List.toList_toArray, simprocAttr]); exact rfl)) ?_ (base_CopyInts_okd N _ _ e2) ?_ ?_ ?_ ?_
 rfl
 exact e0 rfl
 exact .inl rfl
 (simp only [go_sem, Nat.reduceLT])
 refine FW.run ?_
 (simp only [go_sem, simprocAttr, sw0, f4 2 (fun (x : List Int × List Int) => [(L x.1), (L x.2)]) (fun _ => rfl), q9 2 (fun (x : List Int × List Int) => [(L x.1), (L x.2)]) (fun _ => rfl) l i.toNat (by omega), B8 (fun (x : List Int × List Int) => [(L x.1), (L x.2)]) (fun _ => rfl)])
 refine FW.nil ?_
 change OW _ _ _ _ _ _
 refine OW.run [0, 3, 4] ?_
 (simp only [go_sem, simprocAttr, sw0, f4 2 (fun (x : List Int × List Int) => [(L x.1), (L x.2)]) (fun _ => rfl), q9 2 (fun (x : List Int × List Int) => [(L x.1), (L x.2)]) (fun _ => rfl) l i.toNat (by omega), B8 (fun (x : List Int × List Int) => [(L x.1), (L x.2)]) (fun _ => rfl)])
 repeat (refine And.intro (by omega) ?_)
 refine OW.nil (hK _ ?_)
 refine a0 fun K hK => OW.run [0, 3, 4] ?_
 simp only [go_sem, simprocAttr, sw0]
 refine OW.nil (hK _ ?_)
 refine hN2 [] (w64 (i + (1 : Int)), (b01 ++ ([(x1, x2)] : List (List Int × List Int)))) _ H (by exact trivial) ?_
 simp only [sw1, go_sem, simprocAttr]; simp only [List.length_set, List.length_append, List.length_cons, List.length_nil, Nat.zero_add, List.map_set, List.map_append, List.map_cons, List.map_nil, List.flatMap_append, List.flatMap_cons, List.flatMap_nil, List.append_nil, List.cons_append, List.nil_append]
 replace H := l5 h3 H
 refine i9 ?_
 refine hN1 [] b01 _ H (by exact trivial) ?_
 simp only [sw1, go_sem, simprocAttr]
 ·
  rintro b0 H
  try simp only [go_sem, simprocAttr]
  refine a5 ?_
  refine a0 fun K hK => OW.run [2] ?_
  simp only [go_sem, simprocAttr, sw0]
  refine OW.nil (hK _ ?_)
  refine f0 ?_
  change PW.Ends _ _ _ _ _ _
  refine PW.Ends.intro (.inr rfl) ?_
  simp only [go_sem, simprocAttr, sw0]
  obtain rfl := Option.some.inj H
  have hl0 := f4 2 (fun (x : List Int × List Int) => [(L x.1), (L x.2)]) (fun _ => rfl) b0
  have hn0 : (b0.flatMap (fun (x : List Int × List Int) => [(L x.1), (L x.2)])).map nz = b0.flatMap (fun (x : List Int × List Int) => [(L x.1), (L x.2)]) := map_nz_flat (fun _ => rfl) _
  have ht0 : (b0.flatMap (fun (x : List Int × List Int) => [(L x.1), (L x.2)])).take (b0.length * 2) = b0.flatMap (fun (x : List Int × List Int) => [(L x.1), (L x.2)]) := take_flat _ (fun _ => rfl) rfl
  refine a6 4 (by (simp only [go_sem, sw2, scqW7, simprocAttr]; omega)) ?_
  (((simp only [go_sem, sw1, simprocAttr]; try simp only [seg, go_sem, simprocAttr])); (repeat' (first | rfl | (refine j8 ?_; simp only [List.length_take, List.length_drop, List.length_set, List.length_replicate] <;> omega) | (refine congr (congrArg List.cons ?_) ?_) | (refine congrArg D.agg ?_) | (refine congrArg D.tup ?_) | (refine congrArg D.ref ?_) | (refine congrArg (D.list _) ?_) | (refine congrArg (D.clo _) ?_))))
  all_goals (first | rw [ht0, hn0] | simp only [ht0, hn0])

end Go.Proofs.Ytabojpkmfkjjkaa
