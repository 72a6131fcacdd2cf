import Derived.Test.YtklejiafioalnaaNsBase
import Derived.Test.YtklejiafioalnaaNsW0
import Derived.Test.YtklejiafioalnaaNsW5
import Derived.Test.YtklejiafioalnaaNsW6
import Derived.Test.YtklejiafioalnaaNsW7
import Derived.Test.YtklejiafioalnaaNsW8
import Derived.Test.YtklejiafioalnaaNsW9
set_option linter.all false
namespace Go.Proofs.Ytklejiafioalnaa
open Go.PW Go.Sh

set_option maxRecDepth 20000
set_option maxHeartbeats 8000000
theorem ref09_RootsFor_ok (N : Nat) (Zp : Int) (Zq : List (Int × Int)) (needs : List Int) (all : Int) (r : List Int × Bool) (H : ref09_RootsFor N Zp Zq needs all = some r) : CallOK Try.prog 47 [(.agg [(I Zp), (.list Zq.length (Zq.flatMap (fun (x : Int × Int) => [(I x.1), (I x.2)])))]), (L needs), (I all)] (.d (.tup [(L r.1), (Bo r.2)])) [] := by
 refine CallOK.of_PW Try.func47 rfl (by rw [Try.results47]) Try.ntmps47 Try.call47 ?_
 change PW _ _ _ _ _
 try simp only [go_sem, simprocAttr]
 unfold ref09_RootsFor at H
 refine PW.seq ?_
 refine PW.regionK fun K hK => OW.run [1, 2, 3] ?_
 simp only [go_sem, simprocAttr, sw0]
 refine OW.nil (hK _ ?_)
 refine PW.seq ?_
 refine PW.regionK fun K hK => OW.run [1, 2, 3, 8] ?_
 simp only [go_sem, simprocAttr, sw0]
 refine OW.nil (hK _ ?_)
 refine PW.virt 8 3 1 rfl ?_
 try simp only [go_sem, simprocAttr]
 refine PW.joinS (τ := List Int) [8] 2 (fun b1 => [(8, .own 1 0 b1.length 1)]) (fun b1 => [{ cells := [.d (I Zp), .d (.list Zq.length (Zq.flatMap (fun (x : Int × Int) => [(I x.1), (I x.2)])))], e := 24 }, { cells := (b1.map I).map .d, e := 3 }]) _ _ r (by exact Nat.zero_le _) H ?_ ?_
 intro K_ H N1 hN1
 refine PW.seq ?_
 refine PW.regionK fun K hK => OW.run [1, 2, 3, 8, 9] ?_
 simp only [go_sem, simprocAttr, sw0]
 refine OW.nil (hK _ ?_)
 refine PW.block ?_
 refine PW.loopS (σ := Int × List Int) [1, 2, 3, 8, 9] 2 (fun (i, b11) => [(8, .own 1 0 b11.length 1), (9, .d (I i))]) (fun (i, b11) => [{ cells := [.d (I Zp), .d (.list Zq.length (Zq.flatMap (fun (x : Int × Int) => [(I x.1), (I x.2)])))], e := 24 }, { cells := (b11.map I).map .d, e := 3 }]) (ref09_RootsFor.b1 N Zp Zq needs all K_) r N ((0 : Int), ([] : List Int)) (by exact Nat.zero_le _) H (by (simp only [sw1, go_sem, simprocAttr]; done)) ?_
 rintro n ⟨i, b11⟩ H N2 hN2
 unfold ref09_RootsFor.b1 at H
 try simp only [go_sem, simprocAttr]
 refine PW.seq ?_
 refine PW.seq ?_
 refine PW.regionK fun K hK => OW.run [1, 2, 3, 8, 9, 17] ?_
 simp only [go_sem, simprocAttr, sw0]
 repeat (refine And.intro (by omega) ?_)
 refine OW.nil (hK _ ?_)
 refine PW.cond rfl (fun h3 => ?_) (fun h3 => ?_)
 replace H := br_t h3 H
 refine PW.skip ?_
 refine PW.joinS (τ := List Int) [1, 2, 3, 8, 9] 2 (fun b12 => [(8, .own 1 0 b12.length 1)]) (fun b12 => [{ cells := [.d (I Zp), .d (.list Zq.length (Zq.flatMap (fun (x : Int × Int) => [(I x.1), (I x.2)])))], e := 24 }, { cells := (b12.map I).map .d, e := 3 }]) _ _ r (by exact Nat.zero_le _) H ?_ ?_
 intro K_1 H N4 hN4
 refine PW.block ?_
 refine PW.seq ?_
 refine PW.regionK fun K hK => OW.run [1, 2, 3, 8, 9, 10] ?_
 simp only [go_sem, simprocAttr, sw0]
 refine OW.nil (hK _ ?_)
 refine PW.joinS (τ := Int) [1, 2, 3, 8, 9, 10] 2 (fun found => [(10, .d (I found))]) (fun found => [{ cells := [.d (I Zp), .d (.list Zq.length (Zq.flatMap (fun (x : Int × Int) => [(I x.1), (I x.2)])))], e := 24 }, { cells := (b11.map I).map .d, e := 3 }]) _ _ r (by exact Nat.zero_le _) H ?_ ?_
 intro K_2 H N5 hN5
 refine PW.seq ?_
 refine PW.regionK fun K hK => OW.run [1, 2, 3, 8, 9, 10, 11] ?_
 simp only [go_sem, simprocAttr, sw0]
 refine OW.nil (hK _ ?_)
 refine PW.block ?_
 refine PW.loopS (σ := Int × Int) [1, 2, 3, 8, 9, 10, 11] 2 (fun (found1, first) => [(10, .d (I found1)), (11, .d (I first))]) (fun (found1, first) => [{ cells := [.d (I Zp), .d (.list Zq.length (Zq.flatMap (fun (x : Int × Int) => [(I x.1), (I x.2)])))], e := 24 }, { cells := (b11.map I).map .d, e := 3 }]) (ref09_RootsFor.b2 N Zp Zq needs all i b11 K_2) r N ((-1 : Int), (0 : Int)) (by exact Nat.zero_le _) H (by (simp only [sw1, go_sem, simprocAttr]; done)) ?_
 rintro n ⟨found1, first⟩ H N6 hN6
 unfold ref09_RootsFor.b2 at H
 try simp only [go_sem, simprocAttr]
 refine PW.seq ?_
 refine PW.seq ?_
 obtain ⟨c7, H⟩ := chk_some H
 refine PW.regionK fun K hK => OW.run [1, 2, 3, 8, 9, 10, 11, 31] ?_
 simp only [go_sem, simprocAttr, sw0]
 repeat (refine And.intro (by omega) ?_)
 refine OW.nil (hK _ ?_)
 refine PW.cond rfl (fun h8 => ?_) (fun h8 => ?_)
 replace H := br_t h8 H
 refine PW.skip ?_
 refine PW.joinS (τ := Int) [1, 2, 3, 8, 9, 10, 11] 2 (fun found2 => [(10, .d (I found2))]) (fun found2 => [{ cells := [.d (I Zp), .d (.list Zq.length (Zq.flatMap (fun (x : Int × Int) => [(I x.1), (I x.2)])))], e := 24 }, { cells := (b11.map I).map .d, e := 3 }]) _ _ r (by exact Nat.zero_le _) H ?_ ?_
 intro K_3 H N9 hN9
 refine PW.block ?_
 refine PW.seq ?_
 refine PW.regionK fun K hK => OW.run [1, 2, 3, 8, 9, 10, 11, 12] ?_
 simp only [go_sem, simprocAttr, sw0]
 refine OW.nil (hK _ ?_)
 refine PW.joinS (τ := Bool) [1, 2, 3, 8, 9, 10, 11, 12] 2 (fun right => [(12, .d (Bo right))]) (fun right => [{ cells := [.d (I Zp), .d (.list Zq.length (Zq.flatMap (fun (x : Int × Int) => [(I x.1), (I x.2)])))], e := 24 }, { cells := (b11.map I).map .d, e := 3 }]) _ _ r (by exact Nat.zero_le _) H ?_ ?_
 intro K_4 H N10 hN10
 refine PW.seq ?_
 refine PW.regionK fun K hK => OW.run [1, 2, 3, 8, 9, 10, 11, 12, 13] ?_
 simp only [go_sem, simprocAttr, sw0]
 refine OW.nil (hK _ ?_)
 refine PW.block ?_
 refine PW.loopS (σ := Bool × Int) [1, 2, 3, 8, 9, 10, 11, 12, 13] 2 (fun (right1, k) => [(12, .d (Bo right1)), (13, .d (I k))]) (fun (right1, k) => [{ cells := [.d (I Zp), .d (.list Zq.length (Zq.flatMap (fun (x : Int × Int) => [(I x.1), (I x.2)])))], e := 24 }, { cells := (b11.map I).map .d, e := 3 }]) (ref09_RootsFor.b3 N Zp Zq needs i b11 first K_4) r N (true, (0 : Int)) (by exact Nat.zero_le _) H (by (simp only [sw1, go_sem, simprocAttr]; done)) ?_
 rintro n ⟨right1, k⟩ H N11 hN11
 unfold ref09_RootsFor.b3 at H
 try simp only [go_sem, simprocAttr]
 refine PW.seq ?_
 refine PW.seq ?_
 refine PW.regionK fun K hK => OW.run [1, 2, 3, 8, 9, 10, 11, 12, 13, 36] ?_
 simp only [go_sem, simprocAttr, sw0]
 refine OW.nil (hK _ ?_)
 refine PW.cond rfl (fun h12 => ?_) (fun h12 => ?_)
 replace H := br_t h12 H
 refine PW.skip ?_
 refine PW.seq ?_
 refine PW.block ?_
 obtain ⟨x1, e1, H⟩ := bnd_some H
 obtain ⟨c13, H⟩ := chk_some H
 obtain ⟨c14, H⟩ := chk_some H
 obtain ⟨c15, H⟩ := chk_some H
 obtain ⟨c16, H⟩ := chk_some H
 refine PW.drawK 31 mixed (by kernel_rfl) fun K hK => ?_
 change FW _ _ _ _ _
 refine FW.toS [(1, .d (L needs)), (2, .d (I all)), (3, .ptr 0 0), (8, .own 1 0 b11.length 1), (9, .d (I i)), (10, .d (I found1)), (11, .d (I first)), (12, .d (Bo (right1 && (((!x1) || (decide (w64 (first + (needs.getD i.toNat 0)) ≤ (b11.getD k.toNat 0)))) || (decide (w64 ((b11.getD k.toNat 0) + (needs.getD k.toNat 0)) ≤ first)))))), (13, .d (I k))] [{ cells := [.d (I Zp), .d (.list Zq.length (Zq.flatMap (fun (x : Int × Int) => [(I x.1), (I x.2)])))], e := 24 }, { cells := (b11.map I).map .d, e := 3 }] ?_ (hK _ ?_)
 intro K hKE
 rcases Bool.eq_false_or_eq_true (right1) with ha0 | ha0
 rcases Bool.eq_false_or_eq_true (x1) with ha1 | ha1
 rcases Bool.eq_false_or_eq_true ((decide (w64 (first + (needs.getD i.toNat 0)) ≤ (b11.getD k.toNat 0)))) with ha2 | ha2
 ·
  try simp only [ha0, ha1, ha2, sb0, true_implies, false_implies, forall_const] at c13
  try simp only [ha0, ha1, ha2, sb0, true_implies, false_implies, forall_const] at c14
  try simp only [ha0, ha1, ha2, sb0, true_implies, false_implies, forall_const] at c15
  try simp only [ha0, ha1, ha2, sb0, true_implies, false_implies, forall_const] at c16
  refine FW.run ?_
  (simp only [go_sem, simprocAttr, sw0, ha0, ha1, ha2])
  repeat (refine And.intro (by first | omega | (intro hg; have hq := c13 (by first | exact hg | simpa using hg); first | omega | exact hq | (simp only [List.length_map]; omega)) | (intro hg; have hq := c14 (by first | exact hg | simpa using hg); first | omega | exact hq | (simp only [List.length_map]; omega)) | (intro hg; have hq := c15 (by first | exact hg | simpa using hg); first | omega | exact hq | (simp only [List.length_map]; omega)) | (intro hg; have hq := c16 (by first | exact hg | simpa using hg); first | omega | exact hq | (simp only [List.length_map]; omega)) | (first | omega | assumption | rfl | decide | (simp only [List.length_map, List.length_replicate, List.length_append, List.length_take, List.length_drop, List.length_set, List.length_cons, List.length_nil, Nat.zero_add, Int.toNat_natCast] at *; omega) | (simp only [List.length_map, List.length_replicate, List.length_append, List.length_take, List.length_drop, List.length_set, List.length_cons, List.length_nil, Nat.zero_add, Int.toNat_natCast]; done) | trivial)) ?_)
  refine FW.callGh' 4 rfl rfl ?_ (fun hg => by first | rfl | (simp only [go_sem, ↓reduceIte]; rfl)) (fun hg => by (first | ((simp only [go_sem, List.toList_toArray, simprocAttr, ha0, ha1, ha2]); exact rfl) | exact rfl)) (fun hg => ?_) (fun hg => (ref09_IsNear_ok N _ _ _ _ _ (grd_t hg e1))) ?_ ?_ ?_ ?_
  · (first | rfl | (simp only [go_sem, simprocAttr, ha0, ha1, ha2]; done) | (simp only [go_sem, simprocAttr, ha0, ha1, ha2]; rfl))
  · first | (rfl; done) | (exfalso; simp only [ha0, ha1, ha2, sb0] at hg)
  · intro hg; first | ((refine okAll_intro ?_; (simp only [go_sem, sw2, List.length_set, List.length_replicate, and_true, true_and, Nat.le_refl, simprocAttr]; done)); done) | (exfalso; simp only [ha0, ha1, ha2, sb0] at hg)
  exact .inl rfl
  (simp only [go_sem, Nat.reduceLT])
  refine FW.run ?_
  (simp only [go_sem, simprocAttr, sw0, ha0, ha1, ha2])
  repeat (refine And.intro (by first | omega | (intro hg; have hq := c13 (by first | exact hg | simpa using hg); first | omega | exact hq | (simp only [List.length_map]; omega)) | (intro hg; have hq := c14 (by first | exact hg | simpa using hg); first | omega | exact hq | (simp only [List.length_map]; omega)) | (intro hg; have hq := c15 (by first | exact hg | simpa using hg); first | omega | exact hq | (simp only [List.length_map]; omega)) | (intro hg; have hq := c16 (by first | exact hg | simpa using hg); first | omega | exact hq | (simp only [List.length_map]; omega)) | (first | omega | assumption | rfl | decide | (simp only [List.length_map, List.length_replicate, List.length_append, List.length_take, List.length_drop, List.length_set, List.length_cons, List.length_nil, Nat.zero_add, Int.toNat_natCast] at *; omega) | (simp only [List.length_map, List.length_replicate, List.length_append, List.length_take, List.length_drop, List.length_set, List.length_cons, List.length_nil, Nat.zero_add, Int.toNat_natCast]; done) | trivial)) ?_)
  refine FW.nil ?_
  change OW _ _ _ _ _ _
  refine OW.run [1, 2, 3, 8, 9, 10, 11, 12, 13] ?_
  (simp only [go_sem, simprocAttr, sw0, ha0, ha1, ha2])
  repeat (refine And.intro (by first | omega | (intro hg; have hq := c13 (by first | exact hg | simpa using hg); first | omega | exact hq | (simp only [List.length_map]; omega)) | (intro hg; have hq := c14 (by first | exact hg | simpa using hg); first | omega | exact hq | (simp only [List.length_map]; omega)) | (intro hg; have hq := c15 (by first | exact hg | simpa using hg); first | omega | exact hq | (simp only [List.length_map]; omega)) | (intro hg; have hq := c16 (by first | exact hg | simpa using hg); first | omega | exact hq | (simp only [List.length_map]; omega)) | (first | omega | assumption | rfl | decide | (simp only [List.length_map, List.length_replicate, List.length_append, List.length_take, List.length_drop, List.length_set, List.length_cons, List.length_nil, Nat.zero_add, Int.toNat_natCast] at *; omega) | (simp only [List.length_map, List.length_replicate, List.length_append, List.length_take, List.length_drop, List.length_set, List.length_cons, List.length_nil, Nat.zero_add, Int.toNat_natCast]; done) | trivial)) ?_)
  refine OW.nil ((congrArg K ?_).mpr hKE)
  · (first | rfl | (simp only [go_sem, simprocAttr, ha0, ha1, ha2]; done) | (simp only [go_sem, simprocAttr, ha0, ha1, ha2]; rfl))
 ·
  try simp only [ha0, ha1, ha2, sb0, true_implies, false_implies, forall_const] at c13
  try simp only [ha0, ha1, ha2, sb0, true_implies, false_implies, forall_const] at c14
  try simp only [ha0, ha1, ha2, sb0, true_implies, false_implies, forall_const] at c15
  try simp only [ha0, ha1, ha2, sb0, true_implies, false_implies, forall_const] at c16
  refine FW.run ?_
  (simp only [go_sem, simprocAttr, sw0, ha0, ha1, ha2])
  repeat (refine And.intro (by first | omega | (intro hg; have hq := c13 (by first | exact hg | simpa using hg); first | omega | exact hq | (simp only [List.length_map]; omega)) | (intro hg; have hq := c14 (by first | exact hg | simpa using hg); first | omega | exact hq | (simp only [List.length_map]; omega)) | (intro hg; have hq := c15 (by first | exact hg | simpa using hg); first | omega | exact hq | (simp only [List.length_map]; omega)) | (intro hg; have hq := c16 (by first | exact hg | simpa using hg); first | omega | exact hq | (simp only [List.length_map]; omega)) | (first | omega | assumption | rfl | decide | (simp only [List.length_map, List.length_replicate, List.length_append, List.length_take, List.length_drop, List.length_set, List.length_cons, List.length_nil, Nat.zero_add, Int.toNat_natCast] at *; omega) | (simp only [List.length_map, List.length_replicate, List.length_append, List.length_take, List.length_drop, List.length_set, List.length_cons, List.length_nil, Nat.zero_add, Int.toNat_natCast]; done) | trivial)) ?_)
  refine FW.callGh' 4 rfl rfl ?_ (fun hg => by first | rfl | (simp only [go_sem, ↓reduceIte]; rfl)) (fun hg => by (first | ((simp only [go_sem, List.toList_toArray, simprocAttr, ha0, ha1, ha2]); exact rfl) | exact rfl)) (fun hg => ?_) (fun hg => (ref09_IsNear_ok N _ _ _ _ _ (grd_t hg e1))) ?_ ?_ ?_ ?_
  · (first | rfl | (simp only [go_sem, simprocAttr, ha0, ha1, ha2]; done) | (simp only [go_sem, simprocAttr, ha0, ha1, ha2]; rfl))
  · first | (rfl; done) | (exfalso; simp only [ha0, ha1, ha2, sb0] at hg)
  · intro hg; first | ((refine okAll_intro ?_; (simp only [go_sem, sw2, List.length_set, List.length_replicate, and_true, true_and, Nat.le_refl, simprocAttr]; done)); done) | (exfalso; simp only [ha0, ha1, ha2, sb0] at hg)
  exact .inl rfl
  (simp only [go_sem, Nat.reduceLT])
  refine FW.run ?_
  (simp only [go_sem, simprocAttr, sw0, ha0, ha1, ha2])
  repeat (refine And.intro (by first | omega | (intro hg; have hq := c13 (by first | exact hg | simpa using hg); first | omega | exact hq | (simp only [List.length_map]; omega)) | (intro hg; have hq := c14 (by first | exact hg | simpa using hg); first | omega | exact hq | (simp only [List.length_map]; omega)) | (intro hg; have hq := c15 (by first | exact hg | simpa using hg); first | omega | exact hq | (simp only [List.length_map]; omega)) | (intro hg; have hq := c16 (by first | exact hg | simpa using hg); first | omega | exact hq | (simp only [List.length_map]; omega)) | (first | omega | assumption | rfl | decide | (simp only [List.length_map, List.length_replicate, List.length_append, List.length_take, List.length_drop, List.length_set, List.length_cons, List.length_nil, Nat.zero_add, Int.toNat_natCast] at *; omega) | (simp only [List.length_map, List.length_replicate, List.length_append, List.length_take, List.length_drop, List.length_set, List.length_cons, List.length_nil, Nat.zero_add, Int.toNat_natCast]; done) | trivial)) ?_)
  refine FW.nil ?_
  change OW _ _ _ _ _ _
  refine OW.run [1, 2, 3, 8, 9, 10, 11, 12, 13] ?_
  (simp only [go_sem, simprocAttr, sw0, ha0, ha1, ha2])
  repeat (refine And.intro (by first | omega | (intro hg; have hq := c13 (by first | exact hg | simpa using hg); first | omega | exact hq | (simp only [List.length_map]; omega)) | (intro hg; have hq := c14 (by first | exact hg | simpa using hg); first | omega | exact hq | (simp only [List.length_map]; omega)) | (intro hg; have hq := c15 (by first | exact hg | simpa using hg); first | omega | exact hq | (simp only [List.length_map]; omega)) | (intro hg; have hq := c16 (by first | exact hg | simpa using hg); first | omega | exact hq | (simp only [List.length_map]; omega)) | (first | omega | assumption | rfl | decide | (simp only [List.length_map, List.length_replicate, List.length_append, List.length_take, List.length_drop, List.length_set, List.length_cons, List.length_nil, Nat.zero_add, Int.toNat_natCast] at *; omega) | (simp only [List.length_map, List.length_replicate, List.length_append, List.length_take, List.length_drop, List.length_set, List.length_cons, List.length_nil, Nat.zero_add, Int.toNat_natCast]; done) | trivial)) ?_)
  refine OW.nil ((congrArg K ?_).mpr hKE)
  · (first | rfl | (simp only [go_sem, simprocAttr, ha0, ha1, ha2]; done) | (simp only [go_sem, simprocAttr, ha0, ha1, ha2]; rfl))
 ·
  try simp only [ha0, ha1, sb0, true_implies, false_implies, forall_const] at c13
  try simp only [ha0, ha1, sb0, true_implies, false_implies, forall_const] at c14
  try simp only [ha0, ha1, sb0, true_implies, false_implies, forall_const] at c15
  try simp only [ha0, ha1, sb0, true_implies, false_implies, forall_const] at c16
  refine FW.run ?_
  (simp only [go_sem, simprocAttr, sw0, ha0, ha1])
  repeat (refine And.intro (by first | omega | (intro hg; have hq := c13 (by first | exact hg | simpa using hg); first | omega | exact hq | (simp only [List.length_map]; omega)) | (intro hg; have hq := c14 (by first | exact hg | simpa using hg); first | omega | exact hq | (simp only [List.length_map]; omega)) | (intro hg; have hq := c15 (by first | exact hg | simpa using hg); first | omega | exact hq | (simp only [List.length_map]; omega)) | (intro hg; have hq := c16 (by first | exact hg | simpa using hg); first | omega | exact hq | (simp only [List.length_map]; omega)) | (first | omega | assumption | rfl | decide | (simp only [List.length_map, List.length_replicate, List.length_append, List.length_take, List.length_drop, List.length_set, List.length_cons, List.length_nil, Nat.zero_add, Int.toNat_natCast] at *; omega) | (simp only [List.length_map, List.length_replicate, List.length_append, List.length_take, List.length_drop, List.length_set, List.length_cons, List.length_nil, Nat.zero_add, Int.toNat_natCast]; done) | trivial)) ?_)
  refine FW.callGh' 4 rfl rfl ?_ (fun hg => by first | rfl | (simp only [go_sem, ↓reduceIte]; rfl)) (fun hg => by (first | ((simp only [go_sem, List.toList_toArray, simprocAttr, ha0, ha1]); exact rfl) | exact rfl)) (fun hg => ?_) (fun hg => (ref09_IsNear_ok N _ _ _ _ _ (grd_t hg e1))) ?_ ?_ ?_ ?_
  · (first | rfl | (simp only [go_sem, simprocAttr, ha0, ha1]; done) | (simp only [go_sem, simprocAttr, ha0, ha1]; rfl))
  · first | (rfl; done) | (exfalso; simp only [ha0, ha1, sb0] at hg)
  · intro hg; first | ((refine okAll_intro ?_; (simp only [go_sem, sw2, List.length_set, List.length_replicate, and_true, true_and, Nat.le_refl, simprocAttr]; done)); done) | (exfalso; simp only [ha0, ha1, sb0] at hg)
  exact .inl rfl
  (simp only [go_sem, Nat.reduceLT])
  refine FW.run ?_
  (simp only [go_sem, simprocAttr, sw0, ha0, ha1])
  repeat (refine And.intro (by first | omega | (intro hg; have hq := c13 (by first | exact hg | simpa using hg); first | omega | exact hq | (simp only [List.length_map]; omega)) | (intro hg; have hq := c14 (by first | exact hg | simpa using hg); first | omega | exact hq | (simp only [List.length_map]; omega)) | (intro hg; have hq := c15 (by first | exact hg | simpa using hg); first | omega | exact hq | (simp only [List.length_map]; omega)) | (intro hg; have hq := c16 (by first | exact hg | simpa using hg); first | omega | exact hq | (simp only [List.length_map]; omega)) | (first | omega | assumption | rfl | decide | (simp only [List.length_map, List.length_replicate, List.length_append, List.length_take, List.length_drop, List.length_set, List.length_cons, List.length_nil, Nat.zero_add, Int.toNat_natCast] at *; omega) | (simp only [List.length_map, List.length_replicate, List.length_append, List.length_take, List.length_drop, List.length_set, List.length_cons, List.length_nil, Nat.zero_add, Int.toNat_natCast]; done) | trivial)) ?_)
  refine FW.nil ?_
  change OW _ _ _ _ _ _
  refine OW.run [1, 2, 3, 8, 9, 10, 11, 12, 13] ?_
  (simp only [go_sem, simprocAttr, sw0, ha0, ha1])
  repeat (refine And.intro (by first | omega | (intro hg; have hq := c13 (by first | exact hg | simpa using hg); first | omega | exact hq | (simp only [List.length_map]; omega)) | (intro hg; have hq := c14 (by first | exact hg | simpa using hg); first | omega | exact hq | (simp only [List.length_map]; omega)) | (intro hg; have hq := c15 (by first | exact hg | simpa using hg); first | omega | exact hq | (simp only [List.length_map]; omega)) | (intro hg; have hq := c16 (by first | exact hg | simpa using hg); first | omega | exact hq | (simp only [List.length_map]; omega)) | (first | omega | assumption | rfl | decide | (simp only [List.length_map, List.length_replicate, List.length_append, List.length_take, List.length_drop, List.length_set, List.length_cons, List.length_nil, Nat.zero_add, Int.toNat_natCast] at *; omega) | (simp only [List.length_map, List.length_replicate, List.length_append, List.length_take, List.length_drop, List.length_set, List.length_cons, List.length_nil, Nat.zero_add, Int.toNat_natCast]; done) | trivial)) ?_)
  refine OW.nil ((congrArg K ?_).mpr hKE)
  · (first | rfl | (simp only [go_sem, simprocAttr, ha0, ha1]; done) | (simp only [go_sem, simprocAttr, ha0, ha1]; rfl))
 ·
  try simp only [ha0, sb0, true_implies, false_implies, forall_const] at c13
  try simp only [ha0, sb0, true_implies, false_implies, forall_const] at c14
  try simp only [ha0, sb0, true_implies, false_implies, forall_const] at c15
  try simp only [ha0, sb0, true_implies, false_implies, forall_const] at c16
  refine FW.run ?_
  (simp only [go_sem, simprocAttr, sw0, ha0])
  repeat (refine And.intro (by first | omega | (intro hg; have hq := c13 (by first | exact hg | simpa using hg); first | omega | exact hq | (simp only [List.length_map]; omega)) | (intro hg; have hq := c14 (by first | exact hg | simpa using hg); first | omega | exact hq | (simp only [List.length_map]; omega)) | (intro hg; have hq := c15 (by first | exact hg | simpa using hg); first | omega | exact hq | (simp only [List.length_map]; omega)) | (intro hg; have hq := c16 (by first | exact hg | simpa using hg); first | omega | exact hq | (simp only [List.length_map]; omega)) | (first | omega | assumption | rfl | decide | (simp only [List.length_map, List.length_replicate, List.length_append, List.length_take, List.length_drop, List.length_set, List.length_cons, List.length_nil, Nat.zero_add, Int.toNat_natCast] at *; omega) | (simp only [List.length_map, List.length_replicate, List.length_append, List.length_take, List.length_drop, List.length_set, List.length_cons, List.length_nil, Nat.zero_add, Int.toNat_natCast]; done) | trivial)) ?_)
  refine FW.callGh' 4 rfl rfl ?_ (fun hg => by first | rfl | (simp only [go_sem, ↓reduceIte]; rfl)) (fun hg => by (first | ((simp only [go_sem, List.toList_toArray, simprocAttr, ha0]); exact rfl) | exact rfl)) (fun hg => ?_) (fun hg => (ref09_IsNear_ok N _ _ _ _ _ (grd_t hg e1))) ?_ ?_ ?_ ?_
  · (first | rfl | (simp only [go_sem, simprocAttr, ha0]; done) | (simp only [go_sem, simprocAttr, ha0]; rfl))
  · first | (rfl; done) | (exfalso; simp only [ha0, sb0] at hg)
  · intro hg; first | ((refine okAll_intro ?_; (simp only [go_sem, sw2, List.length_set, List.length_replicate, and_true, true_and, Nat.le_refl, simprocAttr]; done)); done) | (exfalso; simp only [ha0, sb0] at hg)
  exact .inl rfl
  (simp only [go_sem, Nat.reduceLT])
  refine FW.run ?_
  (simp only [go_sem, simprocAttr, sw0, ha0])
  repeat (refine And.intro (by first | omega | (intro hg; have hq := c13 (by first | exact hg | simpa using hg); first | omega | exact hq | (simp only [List.length_map]; omega)) | (intro hg; have hq := c14 (by first | exact hg | simpa using hg); first | omega | exact hq | (simp only [List.length_map]; omega)) | (intro hg; have hq := c15 (by first | exact hg | simpa using hg); first | omega | exact hq | (simp only [List.length_map]; omega)) | (intro hg; have hq := c16 (by first | exact hg | simpa using hg); first | omega | exact hq | (simp only [List.length_map]; omega)) | (first | omega | assumption | rfl | decide | (simp only [List.length_map, List.length_replicate, List.length_append, List.length_take, List.length_drop, List.length_set, List.length_cons, List.length_nil, Nat.zero_add, Int.toNat_natCast] at *; omega) | (simp only [List.length_map, List.length_replicate, List.length_append, List.length_take, List.length_drop, List.length_set, List.length_cons, List.length_nil, Nat.zero_add, Int.toNat_natCast]; done) | trivial)) ?_)
  refine FW.nil ?_
  change OW _ _ _ _ _ _
  refine OW.run [1, 2, 3, 8, 9, 10, 11, 12, 13] ?_
  (simp only [go_sem, simprocAttr, sw0, ha0])
  repeat (refine And.intro (by first | omega | (intro hg; have hq := c13 (by first | exact hg | simpa using hg); first | omega | exact hq | (simp only [List.length_map]; omega)) | (intro hg; have hq := c14 (by first | exact hg | simpa using hg); first | omega | exact hq | (simp only [List.length_map]; omega)) | (intro hg; have hq := c15 (by first | exact hg | simpa using hg); first | omega | exact hq | (simp only [List.length_map]; omega)) | (intro hg; have hq := c16 (by first | exact hg | simpa using hg); first | omega | exact hq | (simp only [List.length_map]; omega)) | (first | omega | assumption | rfl | decide | (simp only [List.length_map, List.length_replicate, List.length_append, List.length_take, List.length_drop, List.length_set, List.length_cons, List.length_nil, Nat.zero_add, Int.toNat_natCast] at *; omega) | (simp only [List.length_map, List.length_replicate, List.length_append, List.length_take, List.length_drop, List.length_set, List.length_cons, List.length_nil, Nat.zero_add, Int.toNat_natCast]; done) | trivial)) ?_)
  refine OW.nil ((congrArg K ?_).mpr hKE)
  · (first | rfl | (simp only [go_sem, simprocAttr, ha0]; done) | (simp only [go_sem, simprocAttr, ha0]; rfl))
 clear hK K
 refine PW.regionK fun K hK => OW.run [1, 2, 3, 8, 9, 10, 11, 12, 13] ?_
 simp only [go_sem, simprocAttr, sw0]
 refine OW.nil (hK _ ?_)
 refine hN11 [] ((right1 && (((!x1) || (decide (w64 (first + (needs.getD i.toNat 0)) ≤ (b11.getD k.toNat 0)))) || (decide (w64 ((b11.getD k.toNat 0) + (needs.getD k.toNat 0)) ≤ first)))), w64 (k + (1 : Int))) _ H (by exact trivial) ?_
 simp only [sw1, go_sem, simprocAttr]
 replace H := br_f h12 H
 refine PW.exit ?_
 refine hN10 [] right1 _ H (by exact trivial) ?_
 simp only [sw1, go_sem, simprocAttr]
 rintro right H
 try simp only [go_sem, simprocAttr]
 refine PW.seq ?_
 refine PW.regionK fun K hK => OW.run [1, 2, 3, 8, 9, 10, 11, 73] ?_
 simp only [go_sem, simprocAttr, sw0]
 refine OW.nil (hK _ ?_)
 refine PW.cond rfl (fun h17 => ?_) (fun h17 => ?_)
 replace H := br_t h17 H
 refine PW.regionK fun K hK => OW.run [1, 2, 3, 8, 9, 10, 11] ?_
 simp only [go_sem, simprocAttr, sw0]
 refine OW.nil (hK _ ?_)
 refine hN9 [] first _ H (by exact trivial) ?_
 simp only [sw1, go_sem, simprocAttr]
 replace H := br_f h17 H
 refine PW.skip ?_
 refine hN9 [] found1 _ H (by exact trivial) ?_
 simp only [sw1, go_sem, simprocAttr]
 rintro found2 H
 try simp only [go_sem, simprocAttr]
 refine PW.regionK fun K hK => OW.run [1, 2, 3, 8, 9, 10, 11] ?_
 simp only [go_sem, simprocAttr, sw0]
 refine OW.nil (hK _ ?_)
 refine hN6 [] (found2, w64 (first + (1 : Int))) _ H (by exact trivial) ?_
 simp only [sw1, go_sem, simprocAttr]
 replace H := br_f h8 H
 refine PW.exit ?_
 refine hN5 [] found1 _ H (by exact trivial) ?_
 simp only [sw1, go_sem, simprocAttr]
 rintro found H
 try simp only [go_sem, simprocAttr]
 refine PW.seq ?_
 refine PW.seq ?_
 refine PW.regionK fun K hK => OW.run [1, 2, 3, 8, 9, 10, 76] ?_
 simp only [go_sem, simprocAttr, sw0]
 refine OW.nil (hK _ ?_)
 refine PW.cond rfl (fun h18 => ?_) (fun h18 => ?_)
 replace H := br_t h18 H
 refine PW.seq ?_
 refine PW.regionK fun K hK => OW.run [6, 7] ?_
 simp only [go_sem, simprocAttr, sw0]
 refine OW.nil (hK _ ?_)
 refine PW.ret ?_
 change PW.Ends _ _ _ _ _ _
 refine PW.Ends.intro (.inr rfl) ?_
 simp only [go_sem, simprocAttr, sw0]
 obtain rfl := Option.some.inj H
 refine RetOK.data' 4 (by exact okD_all rfl) ?_
 rfl
 replace H := br_f h18 H
 refine PW.skip ?_
 change PW _ _ _ _ _
 obtain ⟨c19, H⟩ := chk_some H
 refine PW.regionK fun K hK => OW.run [1, 2, 3, 8, 9] ?_
 simp only [go_sem, simprocAttr, sw0]
 repeat (refine And.intro (by omega) ?_)
 refine OW.nil (hK _ ?_)
 refine hN4 [] (b11 ++ ([found] : List Int)) _ H (by exact trivial) ?_
 simp only [sw1, go_sem, simprocAttr]
 rintro b12 H
 try simp only [go_sem, simprocAttr]
 refine PW.regionK fun K hK => OW.run [1, 2, 3, 8, 9] ?_
 simp only [go_sem, simprocAttr, sw0]
 refine OW.nil (hK _ ?_)
 refine hN2 [] (w64 (i + (1 : Int)), b12) _ H (by exact trivial) ?_
 simp only [sw1, go_sem, simprocAttr]
 replace H := br_f h3 H
 refine PW.exit ?_
 refine hN1 [] b11 _ H (by exact trivial) ?_
 simp only [sw1, go_sem, simprocAttr]
 rintro b1 H
 try simp only [go_sem, simprocAttr]
 refine PW.seq ?_
 refine PW.regionK fun K hK => OW.run [6, 7] ?_
 simp only [go_sem, simprocAttr, sw0]
 refine OW.nil (hK _ ?_)
 refine PW.ret ?_
 change PW.Ends _ _ _ _ _ _
 refine PW.Ends.intro (.inr rfl) ?_
 simp only [go_sem, simprocAttr, sw0]
 obtain rfl := Option.some.inj H
 refine RetOK.data' 4 (by (refine okAll_intro ?_; (simp only [go_sem, sw2, List.length_set, List.length_replicate, and_true, true_and, Nat.le_refl, simprocAttr]; done))) ?_
 · (((simp only [go_sem, sw1, simprocAttr]; try simp only [seg, go_sem, simprocAttr])); done)

theorem law09_PlanRoots_ok (N : Nat) (Zp : Int) (Zq : List (Int × Int)) (Z16 : List Int) (Z15 : List Int) (all : Int) (r : Bool) (H : law09_PlanRoots N Zp Zq Z16 Z15 all = some r) : CallOK Try.prog 9 [(.agg [(I Zp), (.list Zq.length (Zq.flatMap (fun (x : Int × Int) => [(I x.1), (I x.2)])))]), (.agg [(L Z16), (L Z15)]), (I all)] (.d (Bo r)) [] := by
 refine CallOK.of_PW Try.func9 rfl (by rw [Try.results9]) Try.ntmps9 Try.call9 ?_
 change PW _ _ _ _ _
 try simp only [go_sem, simprocAttr]
 unfold law09_PlanRoots at H
 refine PW.seq ?_
 refine PW.regionK fun K hK => OW.run [2, 3, 4] ?_
 simp only [go_sem, simprocAttr, sw0]
 refine OW.nil (hK _ ?_)
 refine PW.seq ?_
 refine PW.seq ?_
 obtain ⟨x1, e1, H⟩ := bnd_some H
 refine PW.regionK fun K hK => OW.run [2, 3, 4, 20] ?_
 simp only [go_sem, simprocAttr, sw0]
 refine OW.call' 4 rfl rfl rfl (by first | exact rfl | ((simp only [go_sem, List.toList_toArray, simprocAttr]); exact rfl)) ?_ (law09_awake_ok N  _ e1) ?_ ?_ ?_ ?_
 rfl
 exact okD_all rfl
 exact .inl rfl
 (simp only [go_sem, Nat.reduceLT])
 refine OW.run [2, 3, 4, 20] ?_
 simp only [go_sem, simprocAttr, sw0]
 refine OW.nil (hK _ ?_)
 refine PW.cond rfl (fun h1 => ?_) (fun h1 => ?_)
 replace H := br_t h1 H
 refine PW.seq ?_
 refine PW.regionK fun K hK => OW.run [6] ?_
 simp only [go_sem, simprocAttr, sw0]
 refine OW.nil (hK _ ?_)
 refine PW.ret ?_
 change PW.Ends _ _ _ _ _ _
 refine PW.Ends.intro (.inr rfl) ?_
 simp only [go_sem, simprocAttr, sw0]
 obtain rfl := Option.some.inj H
 refine RetOK.data' 4 (by exact trivial) ?_
 rfl
 replace H := br_f h1 H
 refine PW.skip ?_
 refine PW.seq ?_
 refine PW.seq ?_
 obtain ⟨x2, e2, H⟩ := bnd_some H
 refine PW.regionK fun K hK => OW.run [2, 3, 4, 35] ?_
 simp only [go_sem, simprocAttr, sw0]
 refine OW.call' 4 rfl rfl rfl (by first | exact rfl | ((simp only [go_sem, List.toList_toArray, simprocAttr]); exact rfl)) ?_ (law09_pairs_ok N _ _ _ e2) ?_ ?_ ?_ ?_
 rfl
 · (refine okAll_intro ?_; (simp only [go_sem, sw2, List.length_set, List.length_replicate, and_true, true_and, Nat.le_refl, simprocAttr]; done))
 exact .inl rfl
 (simp only [go_sem, Nat.reduceLT])
 refine OW.run [2, 3, 4, 35] ?_
 simp only [go_sem, simprocAttr, sw0]
 repeat (refine And.intro (by omega) ?_)
 refine OW.nil (hK _ ?_)
 refine PW.cond rfl (fun h2 => ?_) (fun h2 => ?_)
 replace H := br_t h2 H
 refine PW.seq ?_
 refine PW.regionK fun K hK => OW.run [6] ?_
 simp only [go_sem, simprocAttr, sw0]
 refine OW.nil (hK _ ?_)
 refine PW.ret ?_
 change PW.Ends _ _ _ _ _ _
 refine PW.Ends.intro (.inr rfl) ?_
 simp only [go_sem, simprocAttr, sw0]
 obtain rfl := Option.some.inj H
 refine RetOK.data' 4 (by exact trivial) ?_
 rfl
 replace H := br_f h2 H
 refine PW.skip ?_
 refine PW.seq ?_
 obtain ⟨⟨x3, x31⟩, e3, H⟩ := bnd_some H
 obtain ⟨x4, e4, H⟩ := bnd_some H
 obtain ⟨⟨x5, x51⟩, e5, H⟩ := bnd_some H
 refine PW.drawK 11 mixed (by kernel_rfl) fun K hK => ?_
 change FW _ _ _ _ _
 refine FW.run ?_
 simp only [go_sem, simprocAttr, sw0]
 refine FW.call' 4 rfl rfl rfl (by first | exact rfl | ((simp only [go_sem, List.toList_toArray, simprocAttr]); exact rfl)) ?_ (ref09_CopyNet_ok N _ _ _ e3) ?_ ?_ ?_ ?_
 rfl
 · (refine okAll_intro ?_; (simp only [go_sem, sw2, List.length_set, List.length_replicate, and_true, true_and, Nat.le_refl, simprocAttr]; done))
 exact .inl rfl
 (simp only [go_sem, Nat.reduceLT])
 refine FW.run ?_
 simp only [go_sem, simprocAttr, sw0]
 repeat (refine And.intro (by omega) ?_)
 refine FW.call' 4 rfl rfl rfl (by first | exact rfl | ((simp only [go_sem, List.toList_toArray, simprocAttr]); exact rfl)) ?_ (base_CopyInts_ok N _ _ e4) ?_ ?_ ?_ ?_
 rfl
 exact okD_all rfl
 exact .inl rfl
 (simp only [go_sem, Nat.reduceLT])
 refine FW.run ?_
 simp only [go_sem, simprocAttr, sw0]
 refine FW.call' 4 rfl rfl rfl (by first | exact rfl | ((simp only [go_sem, List.toList_toArray, simprocAttr]); exact rfl)) ?_ (plan_RootsFor_ok N _ _ _ _ _ e5) ?_ ?_ ?_ ?_
 rfl
 exact okD_all rfl
 exact .inl rfl
 (simp only [go_sem, Nat.reduceLT])
 refine FW.run ?_
 simp only [go_sem, simprocAttr, sw0]
 refine FW.nil ?_
 change OW _ _ _ _ _ _
 refine OW.run [2, 3, 4, 7, 8] ?_
 simp only [go_sem, simprocAttr, sw0]
 refine OW.nil (hK _ ?_)
 refine PW.seq ?_
 obtain ⟨⟨x6, x61⟩, e6, H⟩ := bnd_some H
 obtain ⟨x7, e7, H⟩ := bnd_some H
 obtain ⟨x8, e8, H⟩ := bnd_some H
 obtain ⟨⟨x9, x91, x92⟩, e9, H⟩ := bnd_some H
 refine PW.drawO 14 [12] [42] mixed (by kernel_rfl) (by decide) rfl fun K hK => ?_
 refine FWO.run ?_
 simp only [go_sem, simprocAttr, sw0]
 refine FWO.call' 4 (by decide) rfl rfl rfl (by first | exact rfl | ((simp only [go_sem, List.toList_toArray, simprocAttr]); exact rfl)) ?_ (ref09_CopyNet_ok N _ _ _ e6) ?_ ?_ ?_ ?_
 rfl
 · (refine okAll_intro ?_; (simp only [go_sem, sw2, List.length_set, List.length_replicate, and_true, true_and, Nat.le_refl, simprocAttr]; done))
 exact .inl rfl
 (simp only [go_sem, Nat.reduceLT])
 refine FWO.run ?_
 simp only [go_sem, simprocAttr, sw0]
 repeat (refine And.intro (by omega) ?_)
 refine FWO.call' 4 (by decide) rfl rfl rfl (by first | exact rfl | ((simp only [go_sem, List.toList_toArray, simprocAttr]); exact rfl)) ?_ (base_CopyInts_ok N _ _ e7) ?_ ?_ ?_ ?_
 rfl
 exact okD_all rfl
 exact .inl rfl
 (simp only [go_sem, Nat.reduceLT])
 refine FWO.run ?_
 simp only [go_sem, simprocAttr, sw0]
 repeat (refine And.intro (by omega) ?_)
 refine FWO.call' 4 (by decide) rfl rfl rfl (by first | exact rfl | ((simp only [go_sem, List.toList_toArray, simprocAttr]); exact rfl)) ?_ (base_CopyInts_ok N _ _ e8) ?_ ?_ ?_ ?_
 rfl
 exact okD_all rfl
 exact .inl rfl
 (simp only [go_sem, Nat.reduceLT])
 refine FWO.run ?_
 simp only [go_sem, simprocAttr, sw0]
 refine FWO.call' 4 (by decide) rfl rfl rfl (by first | exact rfl | ((simp only [go_sem, List.toList_toArray, simprocAttr]); exact rfl)) ?_ (plan_FirstRootClash_ok N _ _ _ _ _ e9) ?_ ?_ ?_ ?_
 rfl
 exact okD_all rfl
 exact .inl rfl
 (simp only [go_sem, Nat.reduceLT])
 refine FWO.run ?_
 simp only [go_sem, simprocAttr, sw0]
 repeat (refine And.intro (by rfl) ?_)
 first | refine FWO.nil ?_ | skip
 change OW _ _ _ _ _ _
 refine OW.run [2, 3, 4, 7, 8, 9, 10] ?_
 simp only [go_sem, simprocAttr, sw0]
 refine OW.nil (hK _ ?_)
 refine PW.seq ?_
 obtain ⟨x10, e10, H⟩ := bnd_some H
 refine PW.regionK fun K hK => OW.run [2, 3, 4, 7, 8, 9, 10, 11] ?_
 simp only [go_sem, simprocAttr, sw0]
 refine OW.call' 4 rfl rfl rfl (by first | exact rfl | ((simp only [go_sem, List.toList_toArray, simprocAttr]); exact rfl)) ?_ (ref09_NetErr_ok N _ _ _ e10) ?_ ?_ ?_ ?_
 rfl
 · (refine okAll_intro ?_; (simp only [go_sem, sw2, List.length_set, List.length_replicate, and_true, true_and, Nat.le_refl, simprocAttr]; done))
 exact .inl rfl
 (simp only [go_sem, Nat.reduceLT])
 refine OW.run [2, 3, 4, 7, 8, 9, 10, 11] ?_
 simp only [go_sem, simprocAttr, sw0]
 refine OW.nil (hK _ ?_)
 refine PW.joinS (τ := Int) [2, 3, 4, 7, 8, 9, 10, 11] 3 (fun d => [(11, .d (I d))]) (fun d => [{ cells := [.d (I Zp), .d (.list Zq.length (Zq.flatMap (fun (x : Int × Int) => [(I x.1), (I x.2)])))], e := 24 }, { cells := [.d (L Z16), .d (L Z15)], e := 83 }, { cells := [.d (I x9), .d (I x91)], e := 42 }]) _ _ r (by exact Nat.zero_le _) H ?_ ?_
 intro K_ H N3 hN3
 refine PW.seq ?_
 refine PW.regionK fun K hK => OW.run [2, 3, 4, 7, 8, 9, 10, 11, 61] ?_
 simp only [go_sem, simprocAttr, sw0]
 refine OW.nil (hK _ ?_)
 refine PW.cond rfl (fun h4 => ?_) (fun h4 => ?_)
 replace H := br_t h4 H
 obtain ⟨x11, e11, H⟩ := bnd_some H
 refine PW.regionK fun K hK => OW.run [2, 3, 4, 7, 8, 9, 10, 11] ?_
 simp only [go_sem, simprocAttr, sw0]
 repeat (refine And.intro (by omega) ?_)
 refine OW.call' 4 rfl rfl rfl (by first | exact rfl | ((simp only [go_sem, List.toList_toArray, simprocAttr]); exact rfl)) ?_ (ref09_NeedsErr_ok N _ _ _ _ e11) ?_ ?_ ?_ ?_
 rfl
 · (refine okAll_intro ?_; (simp only [go_sem, sw2, List.length_set, List.length_replicate, and_true, true_and, Nat.le_refl, simprocAttr]; done))
 exact .inl rfl
 (simp only [go_sem, Nat.reduceLT])
 refine OW.run [2, 3, 4, 7, 8, 9, 10, 11] ?_
 simp only [go_sem, simprocAttr, sw0]
 refine OW.nil (hK _ ?_)
 refine hN3 [] x11 _ H (by exact trivial) ?_
 simp only [sw1, go_sem, simprocAttr]
 replace H := br_f h4 H
 refine PW.skip ?_
 refine hN3 [] x10 _ H (by exact trivial) ?_
 simp only [sw1, go_sem, simprocAttr]
 rintro d H
 try simp only [go_sem, simprocAttr]
 refine PW.seq ?_
 refine PW.seq ?_
 refine PW.regionK fun K hK => OW.run [2, 3, 4, 7, 8, 9, 10, 11, 67] ?_
 simp only [go_sem, simprocAttr, sw0]
 refine OW.nil (hK _ ?_)
 refine PW.cond rfl (fun h5 => ?_) (fun h5 => ?_)
 replace H := br_t h5 H
 refine PW.seq ?_
 refine PW.regionK fun K hK => ?_
 refine OW.step rfl ?_
 simp only [go_sem, simprocAttr, sw0]
 refine OW.step rfl ?_
 simp only [go_sem, simprocAttr, sw0]
 refine OW.step rfl ?_
 simp only [go_sem, simprocAttr, sw0]
 refine OW.step rfl ?_
 simp only [go_sem, simprocAttr, sw0]
 refine OW.opA (g := (x51 == d)) rfl ?_ (fun hg => ?_) (by (simp only [go_sem, Nat.reduceLT])) ?_
 simp only [go_sem, simprocAttr]
 · (first | decide | ((simp only [go_sem, simprocAttr, sw0]); done) | ((simp only [go_sem, simprocAttr, sw0]); (repeat (refine And.intro (by (first | omega | assumption | rfl | decide | (simp only [List.length_map, List.length_replicate, List.length_append, List.length_take, List.length_drop, List.length_set, List.length_cons, List.length_nil, Nat.zero_add, Int.toNat_natCast] at *; omega) | (simp only [List.length_map, List.length_replicate, List.length_append, List.length_take, List.length_drop, List.length_set, List.length_cons, List.length_nil, Nat.zero_add, Int.toNat_natCast]; done) | trivial)) ?_)); done) | ((simp only [go_sem, simprocAttr, sw0]); repeat (first | omega | rfl | trivial | refine ⟨?_, ?_⟩)))
 try simp only [go_sem, simprocAttr]
 refine OW.opA (g := (x51 == d)) rfl ?_ (fun hg => ?_) (by (simp only [go_sem, Nat.reduceLT])) ?_
 simp only [go_sem, simprocAttr]
 · (first | decide | ((simp only [go_sem, simprocAttr, sw0]); done) | ((simp only [go_sem, simprocAttr, sw0]); (repeat (refine And.intro (by (first | omega | assumption | rfl | decide | (simp only [List.length_map, List.length_replicate, List.length_append, List.length_take, List.length_drop, List.length_set, List.length_cons, List.length_nil, Nat.zero_add, Int.toNat_natCast] at *; omega) | (simp only [List.length_map, List.length_replicate, List.length_append, List.length_take, List.length_drop, List.length_set, List.length_cons, List.length_nil, Nat.zero_add, Int.toNat_natCast]; done) | trivial)) ?_)); done) | ((simp only [go_sem, simprocAttr, sw0]); repeat (first | omega | rfl | trivial | refine ⟨?_, ?_⟩)))
 try simp only [go_sem, simprocAttr]
 refine OW.opA (g := (x51 == d)) rfl ?_ (fun hg => ?_) (by (simp only [go_sem, Nat.reduceLT])) ?_
 simp only [go_sem, simprocAttr]
 · (first | decide | ((simp only [go_sem, simprocAttr, sw0]); done) | ((simp only [go_sem, simprocAttr, sw0]); (repeat (refine And.intro (by (first | omega | assumption | rfl | decide | (simp only [List.length_map, List.length_replicate, List.length_append, List.length_take, List.length_drop, List.length_set, List.length_cons, List.length_nil, Nat.zero_add, Int.toNat_natCast] at *; omega) | (simp only [List.length_map, List.length_replicate, List.length_append, List.length_take, List.length_drop, List.length_set, List.length_cons, List.length_nil, Nat.zero_add, Int.toNat_natCast]; done) | trivial)) ?_)); done) | ((simp only [go_sem, simprocAttr, sw0]); repeat (first | omega | rfl | trivial | refine ⟨?_, ?_⟩)))
 try simp only [go_sem, simprocAttr]
 refine OW.step rfl ?_
 simp only [go_sem, simprocAttr, sw0]
 refine OW.step rfl ?_
 simp only [go_sem, simprocAttr, sw0]
 refine OW.opA (g := ((x51 == d) && (x92 == d))) rfl ?_ (fun hg => ?_) (by (simp only [go_sem, Nat.reduceLT])) ?_
 simp only [go_sem, simprocAttr]
 · (first | decide | ((simp only [go_sem, simprocAttr, sw0]); done) | ((simp only [go_sem, simprocAttr, sw0]); (repeat (refine And.intro (by (first | omega | assumption | rfl | decide | (simp only [List.length_map, List.length_replicate, List.length_append, List.length_take, List.length_drop, List.length_set, List.length_cons, List.length_nil, Nat.zero_add, Int.toNat_natCast] at *; omega) | (simp only [List.length_map, List.length_replicate, List.length_append, List.length_take, List.length_drop, List.length_set, List.length_cons, List.length_nil, Nat.zero_add, Int.toNat_natCast]; done) | trivial)) ?_)); done) | ((simp only [go_sem, simprocAttr, sw0]); repeat (first | omega | rfl | trivial | refine ⟨?_, ?_⟩)))
 try simp only [go_sem, simprocAttr]
 refine OW.opA (g := ((x51 == d) && (x92 == d))) rfl ?_ (fun hg => ?_) (by (simp only [go_sem, Nat.reduceLT])) ?_
 simp only [go_sem, simprocAttr]
 · (first | decide | ((simp only [go_sem, simprocAttr, sw0]); done) | ((simp only [go_sem, simprocAttr, sw0]); (repeat (refine And.intro (by (first | omega | assumption | rfl | decide | (simp only [List.length_map, List.length_replicate, List.length_append, List.length_take, List.length_drop, List.length_set, List.length_cons, List.length_nil, Nat.zero_add, Int.toNat_natCast] at *; omega) | (simp only [List.length_map, List.length_replicate, List.length_append, List.length_take, List.length_drop, List.length_set, List.length_cons, List.length_nil, Nat.zero_add, Int.toNat_natCast]; done) | trivial)) ?_)); done) | ((simp only [go_sem, simprocAttr, sw0]); repeat (first | omega | rfl | trivial | refine ⟨?_, ?_⟩)))
 try simp only [go_sem, simprocAttr]
 refine OW.opA (g := ((x51 == d) && (x92 == d))) rfl ?_ (fun hg => ?_) (by (simp only [go_sem, Nat.reduceLT])) ?_
 simp only [go_sem, simprocAttr]
 · (first | decide | ((simp only [go_sem, simprocAttr, sw0]); done) | ((simp only [go_sem, simprocAttr, sw0]); (repeat (refine And.intro (by (first | omega | assumption | rfl | decide | (simp only [List.length_map, List.length_replicate, List.length_append, List.length_take, List.length_drop, List.length_set, List.length_cons, List.length_nil, Nat.zero_add, Int.toNat_natCast] at *; omega) | (simp only [List.length_map, List.length_replicate, List.length_append, List.length_take, List.length_drop, List.length_set, List.length_cons, List.length_nil, Nat.zero_add, Int.toNat_natCast]; done) | trivial)) ?_)); done) | ((simp only [go_sem, simprocAttr, sw0]); repeat (first | omega | rfl | trivial | refine ⟨?_, ?_⟩)))
 try simp only [go_sem, simprocAttr]
 refine OW.step rfl ?_
 simp only [go_sem, simprocAttr, sw0]
 refine OW.step rfl ?_
 simp only [go_sem, simprocAttr, sw0]
 refine OW.opA (g := (((x51 == d) && (x92 == d)) && ((x5.length : Int) == (0 : Int)))) rfl ?_ (fun hg => ?_) (by (simp only [go_sem, Nat.reduceLT])) ?_
 simp only [go_sem, simprocAttr]
 · (first | decide | ((simp only [go_sem, simprocAttr, sw0]); done) | ((simp only [go_sem, simprocAttr, sw0]); (repeat (refine And.intro (by (first | omega | assumption | rfl | decide | (simp only [List.length_map, List.length_replicate, List.length_append, List.length_take, List.length_drop, List.length_set, List.length_cons, List.length_nil, Nat.zero_add, Int.toNat_natCast] at *; omega) | (simp only [List.length_map, List.length_replicate, List.length_append, List.length_take, List.length_drop, List.length_set, List.length_cons, List.length_nil, Nat.zero_add, Int.toNat_natCast]; done) | trivial)) ?_)); done) | ((simp only [go_sem, simprocAttr, sw0]); repeat (first | omega | rfl | trivial | refine ⟨?_, ?_⟩)))
 try simp only [go_sem, simprocAttr]
 refine OW.opA (g := (((x51 == d) && (x92 == d)) && ((x5.length : Int) == (0 : Int)))) rfl ?_ (fun hg => ?_) (by (simp only [go_sem, Nat.reduceLT])) ?_
 simp only [go_sem, simprocAttr]
 · (first | decide | ((simp only [go_sem, simprocAttr, sw0]); done) | ((simp only [go_sem, simprocAttr, sw0]); (repeat (refine And.intro (by (first | omega | assumption | rfl | decide | (simp only [List.length_map, List.length_replicate, List.length_append, List.length_take, List.length_drop, List.length_set, List.length_cons, List.length_nil, Nat.zero_add, Int.toNat_natCast] at *; omega) | (simp only [List.length_map, List.length_replicate, List.length_append, List.length_take, List.length_drop, List.length_set, List.length_cons, List.length_nil, Nat.zero_add, Int.toNat_natCast]; done) | trivial)) ?_)); done) | ((simp only [go_sem, simprocAttr, sw0]); repeat (first | omega | rfl | trivial | refine ⟨?_, ?_⟩)))
 try simp only [go_sem, simprocAttr]
 refine OW.run [6] ?_
 simp only [go_sem, simprocAttr, sw0]
 refine OW.nil (hK _ ?_)
 refine PW.ret ?_
 change PW.Ends _ _ _ _ _ _
 refine PW.Ends.intro (.inr rfl) ?_
 simp only [go_sem, simprocAttr, sw0]
 obtain rfl := Option.some.inj H
 refine RetOK.data' 4 (by exact trivial) ?_
 rfl
 replace H := br_f h5 H
 refine PW.skip ?_
 refine PW.joinS (τ := Unit) [2, 3, 4, 7, 8] 2 (fun _ => []) (fun _ => [{ cells := [.d (I Zp), .d (.list Zq.length (Zq.flatMap (fun (x : Int × Int) => [(I x.1), (I x.2)])))], e := 24 }, { cells := [.d (L Z16), .d (L Z15)], e := 83 }]) _ _ r (by exact Nat.zero_le _) H ?_ ?_
 intro K_1 H N6 hN6
 refine PW.seq ?_
 obtain ⟨x12, e12, H⟩ := bnd_some H
 refine PW.regionK fun K hK => OW.run [2, 3, 4, 7, 8, 9, 10, 11] ?_
 simp only [go_sem, simprocAttr, sw0]
 repeat (refine And.intro (by omega) ?_)
 refine OW.call' 4 rfl rfl rfl (by first | exact rfl | ((simp only [go_sem, List.toList_toArray, simprocAttr]); exact rfl)) ?_ (ref09_FirstsErr_ok N _ _ _ _ e12) ?_ ?_ ?_ ?_
 rfl
 · (refine okAll_intro ?_; (simp only [go_sem, sw2, List.length_set, List.length_replicate, and_true, true_and, Nat.le_refl, simprocAttr]; done))
 exact .inl rfl
 (simp only [go_sem, Nat.reduceLT])
 refine OW.run [2, 3, 4, 7, 8, 9, 10, 11] ?_
 simp only [go_sem, simprocAttr, sw0]
 refine OW.nil (hK _ ?_)
 refine PW.seq ?_
 refine PW.regionK fun K hK => OW.run [2, 3, 4, 7, 8, 9, 10, 11, 91] ?_
 simp only [go_sem, simprocAttr, sw0]
 refine OW.nil (hK _ ?_)
 refine PW.cond rfl (fun h7 => ?_) (fun h7 => ?_)
 replace H := br_t h7 H
 refine PW.seq ?_
 refine PW.regionK fun K hK => ?_
 refine OW.step rfl ?_
 simp only [go_sem, simprocAttr, sw0]
 refine OW.step rfl ?_
 simp only [go_sem, simprocAttr, sw0]
 refine OW.step rfl ?_
 simp only [go_sem, simprocAttr, sw0]
 refine OW.step rfl ?_
 simp only [go_sem, simprocAttr, sw0]
 refine OW.opA (g := (!(x92 != x12))) rfl ?_ (fun hg => ?_) (by (simp only [go_sem, Nat.reduceLT])) ?_
 simp only [go_sem, simprocAttr]
 · (first | decide | ((simp only [go_sem, simprocAttr, sw0]); done) | ((simp only [go_sem, simprocAttr, sw0]); (repeat (refine And.intro (by (first | omega | assumption | rfl | decide | (simp only [List.length_map, List.length_replicate, List.length_append, List.length_take, List.length_drop, List.length_set, List.length_cons, List.length_nil, Nat.zero_add, Int.toNat_natCast] at *; omega) | (simp only [List.length_map, List.length_replicate, List.length_append, List.length_take, List.length_drop, List.length_set, List.length_cons, List.length_nil, Nat.zero_add, Int.toNat_natCast]; done) | trivial)) ?_)); done) | ((simp only [go_sem, simprocAttr, sw0]); repeat (first | omega | rfl | trivial | refine ⟨?_, ?_⟩)))
 try simp only [go_sem, simprocAttr]
 refine OW.opA (g := (!(x92 != x12))) rfl ?_ (fun hg => ?_) (by (simp only [go_sem, Nat.reduceLT])) ?_
 simp only [go_sem, simprocAttr]
 · (first | decide | ((simp only [go_sem, simprocAttr, sw0]); done) | ((simp only [go_sem, simprocAttr, sw0]); (repeat (refine And.intro (by (first | omega | assumption | rfl | decide | (simp only [List.length_map, List.length_replicate, List.length_append, List.length_take, List.length_drop, List.length_set, List.length_cons, List.length_nil, Nat.zero_add, Int.toNat_natCast] at *; omega) | (simp only [List.length_map, List.length_replicate, List.length_append, List.length_take, List.length_drop, List.length_set, List.length_cons, List.length_nil, Nat.zero_add, Int.toNat_natCast]; done) | trivial)) ?_)); done) | ((simp only [go_sem, simprocAttr, sw0]); repeat (first | omega | rfl | trivial | refine ⟨?_, ?_⟩)))
 try simp only [go_sem, simprocAttr]
 refine OW.run [2, 3, 4, 7, 8, 99] ?_
 simp only [go_sem, simprocAttr, sw0]
 refine OW.nil (hK _ ?_)
 refine PW.cond rfl (fun h8 => ?_) (fun h8 => ?_)
 replace H := br_t h8 H
 refine PW.seq ?_
 refine PW.regionK fun K hK => OW.run [6] ?_
 simp only [go_sem, simprocAttr, sw0]
 refine OW.nil (hK _ ?_)
 refine PW.ret ?_
 change PW.Ends _ _ _ _ _ _
 refine PW.Ends.intro (.inr rfl) ?_
 simp only [go_sem, simprocAttr, sw0]
 obtain rfl := Option.some.inj H
 refine RetOK.data' 4 (by exact trivial) ?_
 rfl
 replace H := br_f h8 H
 refine PW.skip ?_
 refine hN6 [] () _ H (by exact trivial) ?_
 simp only [sw1, go_sem, simprocAttr]
 replace H := br_f h7 H
 refine PW.seq ?_
 obtain ⟨⟨x13, x131, x132⟩, e13, H⟩ := bnd_some H
 refine PW.regionK fun K hK => OW.run [2, 3, 4, 7, 8, 9, 10, 12, 13] ?_
 simp only [go_sem, simprocAttr, sw0]
 repeat (refine And.intro (by omega) ?_)
 refine OW.call' 4 rfl rfl rfl (by first | exact rfl | ((simp only [go_sem, List.toList_toArray, simprocAttr]); exact rfl)) ?_ (ref09_FirstRootClash_ok N _ _ _ _ _ e13) ?_ ?_ ?_ ?_
 rfl
 · (refine okAll_intro ?_; (simp only [go_sem, sw2, List.length_set, List.length_replicate, and_true, true_and, Nat.le_refl, simprocAttr]; done))
 exact .inl rfl
 (simp only [go_sem, Nat.reduceLT])
 refine OW.run [2, 3, 4, 7, 8, 9, 10, 12, 13] ?_
 simp only [go_sem, simprocAttr, sw0]
 refine OW.nil (hK _ ?_)
 refine PW.seq ?_
 refine PW.regionK fun K hK => ?_
 refine OW.toS [(2, .d (I all)), (3, .ptr 0 0), (4, .ptr 1 0), (7, .d (L x5)), (8, .d (I x51)), (131, .d (Bo ((x132 && ((x92 != (0 : Int)) || (!(Bool.and (x9 == x13) (x91 == x131))))) || ((!x132) && ((x92 != (12 : Int)) || (!(Bool.and (x9 == (0 : Int)) (x91 == (0 : Int)))))))))] [{ cells := [.d (I Zp), .d (.list Zq.length (Zq.flatMap (fun (x : Int × Int) => [(I x.1), (I x.2)])))], e := 24 }, { cells := [.d (L Z16), .d (L Z15)], e := 83 }, { cells := [.d (I x9), .d (I x91)], e := 42 }, { cells := [.d (I x13), .d (I x131)], e := 42 }] ?_ (hK _ ?_)
 ·
  intro K hKE
  have hc : ∀ b0 b1 b2 b3 : Bool, b0 = true ∧ b1 = true ∨ b0 = true ∧ b1 = false ∧ b2 = true ∨ b0 = true ∧ b1 = false ∧ b2 = false ∨ b0 = false ∧ b1 = true ∧ b2 = true ∧ b3 = true ∨ b0 = false ∧ b1 = true ∧ b2 = true ∧ b3 = false ∨ b0 = false ∧ b1 = true ∧ b2 = false ∧ b3 = true ∨ b0 = false ∧ b1 = true ∧ b2 = false ∧ b3 = false ∨ b0 = false ∧ b1 = false ∧ b2 = true ∧ b3 = true ∨ b0 = false ∧ b1 = false ∧ b2 = true ∧ b3 = false ∨ b0 = false ∧ b1 = false ∧ b2 = false ∧ b3 = true ∨ b0 = false ∧ b1 = false ∧ b2 = false ∧ b3 = false := by intro b0 b1 b2 b3; cases b0 <;> cases b1 <;> cases b2 <;> cases b3 <;> simp
  rcases hc x132 (x92 != (0 : Int)) (Bool.and (x9 == x13) (x91 == x131)) (x92 != (12 : Int)) with hA | hA | hA | hA | hA | hA | hA | hA | hA | hA | hA
  all_goals
   refine OW.step rfl ?_
   (simp only [go_sem, simprocAttr, sw0, hA])
   (repeat (refine And.intro (by (first | omega | assumption | rfl | decide | (simp only [List.length_map, List.length_replicate, List.length_append, List.length_take, List.length_drop, List.length_set, List.length_cons, List.length_nil, Nat.zero_add, Int.toNat_natCast] at *; omega) | (simp only [List.length_map, List.length_replicate, List.length_append, List.length_take, List.length_drop, List.length_set, List.length_cons, List.length_nil, Nat.zero_add, Int.toNat_natCast]; done) | trivial)) ?_))
   refine OW.step rfl ?_
   (simp only [go_sem, simprocAttr, sw0, hA])
   (repeat (refine And.intro (by (first | omega | assumption | rfl | decide | (simp only [List.length_map, List.length_replicate, List.length_append, List.length_take, List.length_drop, List.length_set, List.length_cons, List.length_nil, Nat.zero_add, Int.toNat_natCast] at *; omega) | (simp only [List.length_map, List.length_replicate, List.length_append, List.length_take, List.length_drop, List.length_set, List.length_cons, List.length_nil, Nat.zero_add, Int.toNat_natCast]; done) | trivial)) ?_))
   refine OW.opA (g := x132) rfl ?_ (fun hg => ?_) (by ((simp only [go_sem, Nat.reduceLT]))) ?_
   · (first | rfl | (simp only [go_sem, simprocAttr, hA]; done) | (simp only [go_sem, simprocAttr, hA]; rfl))
   · first | ((first | decide | ((simp only [go_sem, simprocAttr, sw0]); done) | ((simp only [go_sem, simprocAttr, sw0]); (repeat (refine And.intro (by (first | omega | assumption | rfl | decide | (simp only [List.length_map, List.length_replicate, List.length_append, List.length_take, List.length_drop, List.length_set, List.length_cons, List.length_nil, Nat.zero_add, Int.toNat_natCast] at *; omega) | (simp only [List.length_map, List.length_replicate, List.length_append, List.length_take, List.length_drop, List.length_set, List.length_cons, List.length_nil, Nat.zero_add, Int.toNat_natCast]; done) | trivial)) ?_)); done) | ((simp only [go_sem, simprocAttr, sw0]); repeat (first | omega | rfl | trivial | refine ⟨?_, ?_⟩))); done) | ((simp only [go_sem, simprocAttr, sw0, hA]); done)
   (try simp only [go_sem, simprocAttr])
   refine OW.opA (g := x132) rfl ?_ (fun hg => ?_) (by ((simp only [go_sem, Nat.reduceLT]))) ?_
   · (first | rfl | (simp only [go_sem, simprocAttr, hA]; done) | (simp only [go_sem, simprocAttr, hA]; rfl))
   · first | ((first | decide | ((simp only [go_sem, simprocAttr, sw0]); done) | ((simp only [go_sem, simprocAttr, sw0]); (repeat (refine And.intro (by (first | omega | assumption | rfl | decide | (simp only [List.length_map, List.length_replicate, List.length_append, List.length_take, List.length_drop, List.length_set, List.length_cons, List.length_nil, Nat.zero_add, Int.toNat_natCast] at *; omega) | (simp only [List.length_map, List.length_replicate, List.length_append, List.length_take, List.length_drop, List.length_set, List.length_cons, List.length_nil, Nat.zero_add, Int.toNat_natCast]; done) | trivial)) ?_)); done) | ((simp only [go_sem, simprocAttr, sw0]); repeat (first | omega | rfl | trivial | refine ⟨?_, ?_⟩))); done) | ((simp only [go_sem, simprocAttr, sw0, hA]); done)
   (try simp only [go_sem, simprocAttr])
   refine OW.opA (g := x132) rfl ?_ (fun hg => ?_) (by ((simp only [go_sem, Nat.reduceLT]))) ?_
   · (first | rfl | (simp only [go_sem, simprocAttr, hA]; done) | (simp only [go_sem, simprocAttr, hA]; rfl))
   · first | ((first | decide | ((simp only [go_sem, simprocAttr, sw0]); done) | ((simp only [go_sem, simprocAttr, sw0]); (repeat (refine And.intro (by (first | omega | assumption | rfl | decide | (simp only [List.length_map, List.length_replicate, List.length_append, List.length_take, List.length_drop, List.length_set, List.length_cons, List.length_nil, Nat.zero_add, Int.toNat_natCast] at *; omega) | (simp only [List.length_map, List.length_replicate, List.length_append, List.length_take, List.length_drop, List.length_set, List.length_cons, List.length_nil, Nat.zero_add, Int.toNat_natCast]; done) | trivial)) ?_)); done) | ((simp only [go_sem, simprocAttr, sw0]); repeat (first | omega | rfl | trivial | refine ⟨?_, ?_⟩))); done) | ((simp only [go_sem, simprocAttr, sw0, hA]); done)
   (try simp only [go_sem, simprocAttr])
   refine OW.opA (g := (x132 && (!(x92 != (0 : Int))))) rfl ?_ (fun hg => ?_) (by ((simp only [go_sem, Nat.reduceLT]))) ?_
   · (first | rfl | (simp only [go_sem, simprocAttr, hA]; done) | (simp only [go_sem, simprocAttr, hA]; rfl))
   · first | ((first | decide | ((simp only [go_sem, simprocAttr, sw0]); done) | ((simp only [go_sem, simprocAttr, sw0]); (repeat (refine And.intro (by (first | omega | assumption | rfl | decide | (simp only [List.length_map, List.length_replicate, List.length_append, List.length_take, List.length_drop, List.length_set, List.length_cons, List.length_nil, Nat.zero_add, Int.toNat_natCast] at *; omega) | (simp only [List.length_map, List.length_replicate, List.length_append, List.length_take, List.length_drop, List.length_set, List.length_cons, List.length_nil, Nat.zero_add, Int.toNat_natCast]; done) | trivial)) ?_)); done) | ((simp only [go_sem, simprocAttr, sw0]); repeat (first | omega | rfl | trivial | refine ⟨?_, ?_⟩))); done) | ((simp only [go_sem, simprocAttr, sw0, hA]); done)
   (try simp only [go_sem, simprocAttr])
   refine OW.opA (g := (x132 && (!(x92 != (0 : Int))))) rfl ?_ (fun hg => ?_) (by ((simp only [go_sem, Nat.reduceLT]))) ?_
   · (first | rfl | (simp only [go_sem, simprocAttr, hA]; done) | (simp only [go_sem, simprocAttr, hA]; rfl))
   · first | ((first | decide | ((simp only [go_sem, simprocAttr, sw0]); done) | ((simp only [go_sem, simprocAttr, sw0]); (repeat (refine And.intro (by (first | omega | assumption | rfl | decide | (simp only [List.length_map, List.length_replicate, List.length_append, List.length_take, List.length_drop, List.length_set, List.length_cons, List.length_nil, Nat.zero_add, Int.toNat_natCast] at *; omega) | (simp only [List.length_map, List.length_replicate, List.length_append, List.length_take, List.length_drop, List.length_set, List.length_cons, List.length_nil, Nat.zero_add, Int.toNat_natCast]; done) | trivial)) ?_)); done) | ((simp only [go_sem, simprocAttr, sw0]); repeat (first | omega | rfl | trivial | refine ⟨?_, ?_⟩))); done) | ((simp only [go_sem, simprocAttr, sw0, hA]); done)
   (try simp only [go_sem, simprocAttr])
   refine OW.opA (g := (x132 && (!(x92 != (0 : Int))))) rfl ?_ (fun hg => ?_) (by ((simp only [go_sem, Nat.reduceLT]))) ?_
   · (first | rfl | (simp only [go_sem, simprocAttr, hA]; done) | (simp only [go_sem, simprocAttr, hA]; rfl))
   · first | ((first | decide | ((simp only [go_sem, simprocAttr, sw0]); done) | ((simp only [go_sem, simprocAttr, sw0]); (repeat (refine And.intro (by (first | omega | assumption | rfl | decide | (simp only [List.length_map, List.length_replicate, List.length_append, List.length_take, List.length_drop, List.length_set, List.length_cons, List.length_nil, Nat.zero_add, Int.toNat_natCast] at *; omega) | (simp only [List.length_map, List.length_replicate, List.length_append, List.length_take, List.length_drop, List.length_set, List.length_cons, List.length_nil, Nat.zero_add, Int.toNat_natCast]; done) | trivial)) ?_)); done) | ((simp only [go_sem, simprocAttr, sw0]); repeat (first | omega | rfl | trivial | refine ⟨?_, ?_⟩))); done) | ((simp only [go_sem, simprocAttr, sw0, hA]); done)
   (try simp only [go_sem, simprocAttr])
   refine OW.opA (g := x132) rfl ?_ (fun hg => ?_) (by ((simp only [go_sem, Nat.reduceLT]))) ?_
   · (first | rfl | (simp only [go_sem, simprocAttr, hA]; done) | (simp only [go_sem, simprocAttr, hA]; rfl))
   · first | ((first | decide | ((simp only [go_sem, simprocAttr, sw0]); done) | ((simp only [go_sem, simprocAttr, sw0]); (repeat (refine And.intro (by (first | omega | assumption | rfl | decide | (simp only [List.length_map, List.length_replicate, List.length_append, List.length_take, List.length_drop, List.length_set, List.length_cons, List.length_nil, Nat.zero_add, Int.toNat_natCast] at *; omega) | (simp only [List.length_map, List.length_replicate, List.length_append, List.length_take, List.length_drop, List.length_set, List.length_cons, List.length_nil, Nat.zero_add, Int.toNat_natCast]; done) | trivial)) ?_)); done) | ((simp only [go_sem, simprocAttr, sw0]); repeat (first | omega | rfl | trivial | refine ⟨?_, ?_⟩))); done) | ((simp only [go_sem, simprocAttr, sw0, hA]); done)
   (try simp only [go_sem, simprocAttr])
   refine OW.step rfl ?_
   (simp only [go_sem, simprocAttr, sw0, hA])
   (repeat (refine And.intro (by (first | omega | assumption | rfl | decide | (simp only [List.length_map, List.length_replicate, List.length_append, List.length_take, List.length_drop, List.length_set, List.length_cons, List.length_nil, Nat.zero_add, Int.toNat_natCast] at *; omega) | (simp only [List.length_map, List.length_replicate, List.length_append, List.length_take, List.length_drop, List.length_set, List.length_cons, List.length_nil, Nat.zero_add, Int.toNat_natCast]; done) | trivial)) ?_))
   refine OW.step rfl ?_
   (simp only [go_sem, simprocAttr, sw0, hA])
   (repeat (refine And.intro (by (first | omega | assumption | rfl | decide | (simp only [List.length_map, List.length_replicate, List.length_append, List.length_take, List.length_drop, List.length_set, List.length_cons, List.length_nil, Nat.zero_add, Int.toNat_natCast] at *; omega) | (simp only [List.length_map, List.length_replicate, List.length_append, List.length_take, List.length_drop, List.length_set, List.length_cons, List.length_nil, Nat.zero_add, Int.toNat_natCast]; done) | trivial)) ?_))
   refine OW.opA (g := (!(x132 && ((x92 != (0 : Int)) || (!(Bool.and (x9 == x13) (x91 == x131))))))) rfl ?_ (fun hg => ?_) (by ((simp only [go_sem, Nat.reduceLT]))) ?_
   · (first | rfl | (simp only [go_sem, simprocAttr, hA]; done) | (simp only [go_sem, simprocAttr, hA]; rfl))
   · first | ((first | decide | ((simp only [go_sem, simprocAttr, sw0]); done) | ((simp only [go_sem, simprocAttr, sw0]); (repeat (refine And.intro (by (first | omega | assumption | rfl | decide | (simp only [List.length_map, List.length_replicate, List.length_append, List.length_take, List.length_drop, List.length_set, List.length_cons, List.length_nil, Nat.zero_add, Int.toNat_natCast] at *; omega) | (simp only [List.length_map, List.length_replicate, List.length_append, List.length_take, List.length_drop, List.length_set, List.length_cons, List.length_nil, Nat.zero_add, Int.toNat_natCast]; done) | trivial)) ?_)); done) | ((simp only [go_sem, simprocAttr, sw0]); repeat (first | omega | rfl | trivial | refine ⟨?_, ?_⟩))); done) | ((simp only [go_sem, simprocAttr, sw0, hA]); done)
   (try simp only [go_sem, simprocAttr])
   refine OW.opA (g := (!(x132 && ((x92 != (0 : Int)) || (!(Bool.and (x9 == x13) (x91 == x131))))))) rfl ?_ (fun hg => ?_) (by ((simp only [go_sem, Nat.reduceLT]))) ?_
   · (first | rfl | (simp only [go_sem, simprocAttr, hA]; done) | (simp only [go_sem, simprocAttr, hA]; rfl))
   · first | ((first | decide | ((simp only [go_sem, simprocAttr, sw0]); done) | ((simp only [go_sem, simprocAttr, sw0]); (repeat (refine And.intro (by (first | omega | assumption | rfl | decide | (simp only [List.length_map, List.length_replicate, List.length_append, List.length_take, List.length_drop, List.length_set, List.length_cons, List.length_nil, Nat.zero_add, Int.toNat_natCast] at *; omega) | (simp only [List.length_map, List.length_replicate, List.length_append, List.length_take, List.length_drop, List.length_set, List.length_cons, List.length_nil, Nat.zero_add, Int.toNat_natCast]; done) | trivial)) ?_)); done) | ((simp only [go_sem, simprocAttr, sw0]); repeat (first | omega | rfl | trivial | refine ⟨?_, ?_⟩))); done) | ((simp only [go_sem, simprocAttr, sw0, hA]); done)
   (try simp only [go_sem, simprocAttr])
   refine OW.opA (g := (!(x132 && ((x92 != (0 : Int)) || (!(Bool.and (x9 == x13) (x91 == x131))))))) rfl ?_ (fun hg => ?_) (by ((simp only [go_sem, Nat.reduceLT]))) ?_
   · (first | rfl | (simp only [go_sem, simprocAttr, hA]; done) | (simp only [go_sem, simprocAttr, hA]; rfl))
   · first | ((first | decide | ((simp only [go_sem, simprocAttr, sw0]); done) | ((simp only [go_sem, simprocAttr, sw0]); (repeat (refine And.intro (by (first | omega | assumption | rfl | decide | (simp only [List.length_map, List.length_replicate, List.length_append, List.length_take, List.length_drop, List.length_set, List.length_cons, List.length_nil, Nat.zero_add, Int.toNat_natCast] at *; omega) | (simp only [List.length_map, List.length_replicate, List.length_append, List.length_take, List.length_drop, List.length_set, List.length_cons, List.length_nil, Nat.zero_add, Int.toNat_natCast]; done) | trivial)) ?_)); done) | ((simp only [go_sem, simprocAttr, sw0]); repeat (first | omega | rfl | trivial | refine ⟨?_, ?_⟩))); done) | ((simp only [go_sem, simprocAttr, sw0, hA]); done)
   (try simp only [go_sem, simprocAttr])
   refine OW.opA (g := ((!(x132 && ((x92 != (0 : Int)) || (!(Bool.and (x9 == x13) (x91 == x131)))))) && (!x132))) rfl ?_ (fun hg => ?_) (by ((simp only [go_sem, Nat.reduceLT]))) ?_
   · (first | rfl | (simp only [go_sem, simprocAttr, hA]; done) | (simp only [go_sem, simprocAttr, hA]; rfl))
   · first | ((first | decide | ((simp only [go_sem, simprocAttr, sw0]); done) | ((simp only [go_sem, simprocAttr, sw0]); (repeat (refine And.intro (by (first | omega | assumption | rfl | decide | (simp only [List.length_map, List.length_replicate, List.length_append, List.length_take, List.length_drop, List.length_set, List.length_cons, List.length_nil, Nat.zero_add, Int.toNat_natCast] at *; omega) | (simp only [List.length_map, List.length_replicate, List.length_append, List.length_take, List.length_drop, List.length_set, List.length_cons, List.length_nil, Nat.zero_add, Int.toNat_natCast]; done) | trivial)) ?_)); done) | ((simp only [go_sem, simprocAttr, sw0]); repeat (first | omega | rfl | trivial | refine ⟨?_, ?_⟩))); done) | ((simp only [go_sem, simprocAttr, sw0, hA]); done)
   (try simp only [go_sem, simprocAttr])
   refine OW.opA (g := ((!(x132 && ((x92 != (0 : Int)) || (!(Bool.and (x9 == x13) (x91 == x131)))))) && (!x132))) rfl ?_ (fun hg => ?_) (by ((simp only [go_sem, Nat.reduceLT]))) ?_
   · (first | rfl | (simp only [go_sem, simprocAttr, hA]; done) | (simp only [go_sem, simprocAttr, hA]; rfl))
   · first | ((first | decide | ((simp only [go_sem, simprocAttr, sw0]); done) | ((simp only [go_sem, simprocAttr, sw0]); (repeat (refine And.intro (by (first | omega | assumption | rfl | decide | (simp only [List.length_map, List.length_replicate, List.length_append, List.length_take, List.length_drop, List.length_set, List.length_cons, List.length_nil, Nat.zero_add, Int.toNat_natCast] at *; omega) | (simp only [List.length_map, List.length_replicate, List.length_append, List.length_take, List.length_drop, List.length_set, List.length_cons, List.length_nil, Nat.zero_add, Int.toNat_natCast]; done) | trivial)) ?_)); done) | ((simp only [go_sem, simprocAttr, sw0]); repeat (first | omega | rfl | trivial | refine ⟨?_, ?_⟩))); done) | ((simp only [go_sem, simprocAttr, sw0, hA]); done)
   (try simp only [go_sem, simprocAttr])
   refine OW.opA (g := ((!(x132 && ((x92 != (0 : Int)) || (!(Bool.and (x9 == x13) (x91 == x131)))))) && (!x132))) rfl ?_ (fun hg => ?_) (by ((simp only [go_sem, Nat.reduceLT]))) ?_
   · (first | rfl | (simp only [go_sem, simprocAttr, hA]; done) | (simp only [go_sem, simprocAttr, hA]; rfl))
   · first | ((first | decide | ((simp only [go_sem, simprocAttr, sw0]); done) | ((simp only [go_sem, simprocAttr, sw0]); (repeat (refine And.intro (by (first | omega | assumption | rfl | decide | (simp only [List.length_map, List.length_replicate, List.length_append, List.length_take, List.length_drop, List.length_set, List.length_cons, List.length_nil, Nat.zero_add, Int.toNat_natCast] at *; omega) | (simp only [List.length_map, List.length_replicate, List.length_append, List.length_take, List.length_drop, List.length_set, List.length_cons, List.length_nil, Nat.zero_add, Int.toNat_natCast]; done) | trivial)) ?_)); done) | ((simp only [go_sem, simprocAttr, sw0]); repeat (first | omega | rfl | trivial | refine ⟨?_, ?_⟩))); done) | ((simp only [go_sem, simprocAttr, sw0, hA]); done)
   (try simp only [go_sem, simprocAttr])
   refine OW.opA (g := (((!(x132 && ((x92 != (0 : Int)) || (!(Bool.and (x9 == x13) (x91 == x131)))))) && (!x132)) && (!(x92 != (12 : Int))))) rfl ?_ (fun hg => ?_) (by ((simp only [go_sem, Nat.reduceLT]))) ?_
   · (first | rfl | (simp only [go_sem, simprocAttr, hA]; done) | (simp only [go_sem, simprocAttr, hA]; rfl))
   · first | ((first | decide | ((simp only [go_sem, simprocAttr, sw0]); done) | ((simp only [go_sem, simprocAttr, sw0]); (repeat (refine And.intro (by (first | omega | assumption | rfl | decide | (simp only [List.length_map, List.length_replicate, List.length_append, List.length_take, List.length_drop, List.length_set, List.length_cons, List.length_nil, Nat.zero_add, Int.toNat_natCast] at *; omega) | (simp only [List.length_map, List.length_replicate, List.length_append, List.length_take, List.length_drop, List.length_set, List.length_cons, List.length_nil, Nat.zero_add, Int.toNat_natCast]; done) | trivial)) ?_)); done) | ((simp only [go_sem, simprocAttr, sw0]); repeat (first | omega | rfl | trivial | refine ⟨?_, ?_⟩))); done) | ((simp only [go_sem, simprocAttr, sw0, hA]); done)
   (try simp only [go_sem, simprocAttr])
   refine OW.opA (g := (((!(x132 && ((x92 != (0 : Int)) || (!(Bool.and (x9 == x13) (x91 == x131)))))) && (!x132)) && (!(x92 != (12 : Int))))) rfl ?_ (fun hg => ?_) (by ((simp only [go_sem, Nat.reduceLT]))) ?_
   · (first | rfl | (simp only [go_sem, simprocAttr, hA]; done) | (simp only [go_sem, simprocAttr, hA]; rfl))
   · first | ((first | decide | ((simp only [go_sem, simprocAttr, sw0]); done) | ((simp only [go_sem, simprocAttr, sw0]); (repeat (refine And.intro (by (first | omega | assumption | rfl | decide | (simp only [List.length_map, List.length_replicate, List.length_append, List.length_take, List.length_drop, List.length_set, List.length_cons, List.length_nil, Nat.zero_add, Int.toNat_natCast] at *; omega) | (simp only [List.length_map, List.length_replicate, List.length_append, List.length_take, List.length_drop, List.length_set, List.length_cons, List.length_nil, Nat.zero_add, Int.toNat_natCast]; done) | trivial)) ?_)); done) | ((simp only [go_sem, simprocAttr, sw0]); repeat (first | omega | rfl | trivial | refine ⟨?_, ?_⟩))); done) | ((simp only [go_sem, simprocAttr, sw0, hA]); done)
   (try simp only [go_sem, simprocAttr])
   refine OW.run [2, 3, 4, 7, 8, 131] ?_
   (simp only [go_sem, simprocAttr, sw0, hA])
   (repeat (refine And.intro (by (first | omega | assumption | rfl | decide | (simp only [List.length_map, List.length_replicate, List.length_append, List.length_take, List.length_drop, List.length_set, List.length_cons, List.length_nil, Nat.zero_add, Int.toNat_natCast] at *; omega) | (simp only [List.length_map, List.length_replicate, List.length_append, List.length_take, List.length_drop, List.length_set, List.length_cons, List.length_nil, Nat.zero_add, Int.toNat_natCast]; done) | trivial)) ?_))
   refine OW.nil ((congrArg K ?_).mpr hKE)
   (first | rfl | (simp only [go_sem, simprocAttr, hA]; done) | (simp only [go_sem, simprocAttr, hA]; rfl))
 clear hK K
 refine PW.cond rfl (fun h9 => ?_) (fun h9 => ?_)
 replace H := br_t h9 H
 refine PW.seq ?_
 refine PW.regionK fun K hK => OW.run [6] ?_
 simp only [go_sem, simprocAttr, sw0]
 refine OW.nil (hK _ ?_)
 refine PW.ret ?_
 change PW.Ends _ _ _ _ _ _
 refine PW.Ends.intro (.inr rfl) ?_
 simp only [go_sem, simprocAttr, sw0]
 obtain rfl := Option.some.inj H
 refine RetOK.data' 4 (by exact trivial) ?_
 rfl
 replace H := br_f h9 H
 refine PW.skip ?_
 refine hN6 [] () _ H (by exact trivial) ?_
 simp only [sw1, go_sem, simprocAttr]
 rintro _ H
 try simp only [go_sem, simprocAttr]
 refine PW.seq ?_
 refine PW.seq ?_
 obtain ⟨x14, e14, H⟩ := bnd_some H
 refine PW.regionK fun K hK => OW.run [2, 3, 4, 7, 8, 134] ?_
 simp only [go_sem, simprocAttr, sw0]
 refine OW.call' 4 rfl rfl rfl (by first | exact rfl | ((simp only [go_sem, List.toList_toArray, simprocAttr]); exact rfl)) ?_ (base_Within_ok N _ _ _ _ e14) ?_ ?_ ?_ ?_
 rfl
 exact okD_all rfl
 exact .inl rfl
 (simp only [go_sem, Nat.reduceLT])
 refine OW.run [2, 3, 4, 7, 8, 134] ?_
 simp only [go_sem, simprocAttr, sw0]
 refine OW.nil (hK _ ?_)
 refine PW.cond rfl (fun h10 => ?_) (fun h10 => ?_)
 replace H := br_t h10 H
 refine PW.seq ?_
 refine PW.regionK fun K hK => OW.run [6] ?_
 simp only [go_sem, simprocAttr, sw0]
 refine OW.nil (hK _ ?_)
 refine PW.ret ?_
 change PW.Ends _ _ _ _ _ _
 refine PW.Ends.intro (.inr rfl) ?_
 simp only [go_sem, simprocAttr, sw0]
 obtain rfl := Option.some.inj H
 refine RetOK.data' 4 (by exact trivial) ?_
 rfl
 replace H := br_f h10 H
 refine PW.skip ?_
 refine PW.seq ?_
 obtain ⟨⟨x15, x151⟩, e15, H⟩ := bnd_some H
 refine PW.regionK fun K hK => OW.run [2, 3, 4, 7, 8, 14, 15] ?_
 simp only [go_sem, simprocAttr, sw0]
 repeat (refine And.intro (by omega) ?_)
 refine OW.call' 4 rfl rfl rfl (by first | exact rfl | ((simp only [go_sem, List.toList_toArray, simprocAttr]); exact rfl)) ?_ (ref09_RootsFor_ok N _ _ _ _ _ e15) ?_ ?_ ?_ ?_
 rfl
 · (refine okAll_intro ?_; (simp only [go_sem, sw2, List.length_set, List.length_replicate, and_true, true_and, Nat.le_refl, simprocAttr]; done))
 exact .inl rfl
 (simp only [go_sem, Nat.reduceLT])
 refine OW.run [2, 3, 4, 7, 8, 14, 15] ?_
 simp only [go_sem, simprocAttr, sw0]
 refine OW.nil (hK _ ?_)
 refine PW.seq ?_
 refine PW.seq ?_
 refine PW.regionK fun K hK => OW.run [2, 3, 4, 7, 8, 14, 151] ?_
 simp only [go_sem, simprocAttr, sw0]
 refine OW.nil (hK _ ?_)
 refine PW.cond rfl (fun h11 => ?_) (fun h11 => ?_)
 replace H := br_t h11 H
 refine PW.seq ?_
 refine PW.regionK fun K hK => OW.run [6] ?_
 simp only [go_sem, simprocAttr, sw0]
 refine OW.nil (hK _ ?_)
 refine PW.ret ?_
 change PW.Ends _ _ _ _ _ _
 refine PW.Ends.intro (.inr rfl) ?_
 simp only [go_sem, simprocAttr, sw0]
 obtain rfl := Option.some.inj H
 refine RetOK.data' 4 (by exact trivial) ?_
 rfl
 replace H := br_f h11 H
 refine PW.skip ?_
 refine PW.seq ?_
 refine PW.seq ?_
 obtain ⟨x16, e16, H⟩ := bnd_some H
 refine PW.regionK fun K hK => OW.run [2, 3, 4, 7, 166] ?_
 simp only [go_sem, simprocAttr, sw0]
 refine OW.callG' 4 rfl rfl ?_ (fun hg => by first | rfl | (simp only [go_sem, ↓reduceIte]; rfl)) (fun hg => by ((simp only [go_sem, List.toList_toArray, simprocAttr]); exact rfl)) (fun hg => ?_) (fun hg => (base_Ints_ok N _ _ _ (grd_t hg e16))) ?_ ?_ ?_ ?_
 simp only [go_sem, simprocAttr]
 rfl
 exact okD_all rfl
 exact .inl rfl
 (simp only [go_sem, Nat.reduceLT])
 refine OW.run [2, 3, 4, 7, 166] ?_
 simp only [go_sem, simprocAttr, sw0]
 refine OW.nil (hK _ ?_)
 refine PW.cond rfl (fun h12 => ?_) (fun h12 => ?_)
 replace H := br_t h12 H
 refine PW.seq ?_
 refine PW.regionK fun K hK => OW.run [6] ?_
 simp only [go_sem, simprocAttr, sw0]
 refine OW.nil (hK _ ?_)
 refine PW.ret ?_
 change PW.Ends _ _ _ _ _ _
 refine PW.Ends.intro (.inr rfl) ?_
 simp only [go_sem, simprocAttr, sw0]
 obtain rfl := Option.some.inj H
 refine RetOK.data' 4 (by exact trivial) ?_
 rfl
 replace H := br_f h12 H
 refine PW.skip ?_
 refine PW.joinS (τ := Unit) [3, 4, 7] 2 (fun _ => []) (fun _ => [{ cells := [.d (I Zp), .d (.list Zq.length (Zq.flatMap (fun (x : Int × Int) => [(I x.1), (I x.2)])))], e := 24 }, { cells := [.d (L Z16), .d (L Z15)], e := 83 }]) _ _ r (by exact Nat.zero_le _) H ?_ ?_
 intro K_2 H N13 hN13
 refine PW.seq ?_
 refine PW.regionK fun K hK => OW.run [2, 3, 4, 7, 16] ?_
 simp only [go_sem, simprocAttr, sw0]
 refine OW.nil (hK _ ?_)
 refine PW.block ?_
 refine PW.loopS (σ := Int) [2, 3, 4, 7, 16] 2 (fun i => [(16, .d (I i))]) (fun i => [{ cells := [.d (I Zp), .d (.list Zq.length (Zq.flatMap (fun (x : Int × Int) => [(I x.1), (I x.2)])))], e := 24 }, { cells := [.d (L Z16), .d (L Z15)], e := 83 }]) (law09_PlanRoots.b1 N Z16 all x5 K_2) r N (0 : Int) (by exact Nat.zero_le _) H (by (simp only [sw1, go_sem, simprocAttr]; done)) ?_
 rintro n i H N14 hN14
 unfold law09_PlanRoots.b1 at H
 try simp only [go_sem, simprocAttr]
 refine PW.seq ?_
 refine PW.seq ?_
 refine PW.regionK fun K hK => OW.run [2, 3, 4, 7, 16, 170] ?_
 simp only [go_sem, simprocAttr, sw0]
 refine OW.nil (hK _ ?_)
 refine PW.cond rfl (fun h15 => ?_) (fun h15 => ?_)
 replace H := br_t h15 H
 refine PW.skip ?_
 refine PW.seq ?_
 refine PW.block ?_
 refine PW.seq ?_
 obtain ⟨c16, H⟩ := chk_some H
 obtain ⟨c17, H⟩ := chk_some H
 refine PW.drawK 11 mixed (by kernel_rfl) fun K hK => ?_
 change FW _ _ _ _ _
 refine FW.run ?_
 simp only [go_sem, simprocAttr, sw0]
 repeat (refine And.intro (by omega) ?_)
 refine FW.nil ?_
 change OW _ _ _ _ _ _
 refine OW.run [2, 3, 4, 7, 16, 184] ?_
 simp only [go_sem, simprocAttr, sw0]
 refine OW.nil (hK _ ?_)
 refine PW.cond rfl (fun h18 => ?_) (fun h18 => ?_)
 replace H := br_t h18 H
 refine PW.seq ?_
 refine PW.regionK fun K hK => OW.run [6] ?_
 simp only [go_sem, simprocAttr, sw0]
 refine OW.nil (hK _ ?_)
 refine PW.ret ?_
 change PW.Ends _ _ _ _ _ _
 refine PW.Ends.intro (.inr rfl) ?_
 simp only [go_sem, simprocAttr, sw0]
 obtain rfl := Option.some.inj H
 refine RetOK.data' 4 (by exact trivial) ?_
 rfl
 replace H := br_f h18 H
 refine PW.skip ?_
 refine PW.regionK fun K hK => OW.run [2, 3, 4, 7, 16] ?_
 simp only [go_sem, simprocAttr, sw0]
 refine OW.nil (hK _ ?_)
 refine hN14 [] (w64 (i + (1 : Int))) _ H (by exact trivial) ?_
 simp only [sw1, go_sem, simprocAttr]
 replace H := br_f h15 H
 refine PW.exit ?_
 refine hN13 [] () _ H (by exact trivial) ?_
 simp only [sw1, go_sem, simprocAttr]
 rintro _ H
 try simp only [go_sem, simprocAttr]
 refine PW.seq ?_
 obtain ⟨⟨x17, x171⟩, e17, H⟩ := bnd_some H
 obtain ⟨x18, e18, H⟩ := bnd_some H
 obtain ⟨x19, e19, H⟩ := bnd_some H
 obtain ⟨⟨x20, x201, x202⟩, e20, H⟩ := bnd_some H
 refine PW.drawO 13 [11] [42] mixed (by kernel_rfl) (by decide) rfl fun K hK => ?_
 refine FWO.run ?_
 simp only [go_sem, simprocAttr, sw0]
 refine FWO.call' 4 (by decide) rfl rfl rfl (by first | exact rfl | ((simp only [go_sem, List.toList_toArray, simprocAttr]); exact rfl)) ?_ (ref09_CopyNet_ok N _ _ _ e17) ?_ ?_ ?_ ?_
 rfl
 · (refine okAll_intro ?_; (simp only [go_sem, sw2, List.length_set, List.length_replicate, and_true, true_and, Nat.le_refl, simprocAttr]; done))
 exact .inl rfl
 (simp only [go_sem, Nat.reduceLT])
 refine FWO.run ?_
 simp only [go_sem, simprocAttr, sw0]
 repeat (refine And.intro (by omega) ?_)
 refine FWO.call' 4 (by decide) rfl rfl rfl (by first | exact rfl | ((simp only [go_sem, List.toList_toArray, simprocAttr]); exact rfl)) ?_ (base_CopyInts_ok N _ _ e18) ?_ ?_ ?_ ?_
 rfl
 exact okD_all rfl
 exact .inl rfl
 (simp only [go_sem, Nat.reduceLT])
 refine FWO.run ?_
 simp only [go_sem, simprocAttr, sw0]
 refine FWO.call' 4 (by decide) rfl rfl rfl (by first | exact rfl | ((simp only [go_sem, List.toList_toArray, simprocAttr]); exact rfl)) ?_ (base_CopyInts_ok N _ _ e19) ?_ ?_ ?_ ?_
 rfl
 exact okD_all rfl
 exact .inl rfl
 (simp only [go_sem, Nat.reduceLT])
 refine FWO.run ?_
 simp only [go_sem, simprocAttr, sw0]
 refine FWO.call' 4 (by decide) rfl rfl rfl (by first | exact rfl | ((simp only [go_sem, List.toList_toArray, simprocAttr]); exact rfl)) ?_ (plan_FirstRootClash_ok N _ _ _ _ _ e20) ?_ ?_ ?_ ?_
 rfl
 exact okD_all rfl
 exact .inl rfl
 (simp only [go_sem, Nat.reduceLT])
 refine FWO.run ?_
 simp only [go_sem, simprocAttr, sw0]
 repeat (refine And.intro (by rfl) ?_)
 first | refine FWO.nil ?_ | skip
 change OW _ _ _ _ _ _
 refine OW.run [17, 18] ?_
 simp only [go_sem, simprocAttr, sw0]
 refine OW.nil (hK _ ?_)
 refine PW.seq ?_
 refine PW.regionK fun K hK => ?_
 refine OW.step rfl ?_
 simp only [go_sem, simprocAttr, sw0]
 refine OW.step rfl ?_
 simp only [go_sem, simprocAttr, sw0]
 refine OW.step rfl ?_
 simp only [go_sem, simprocAttr, sw0]
 refine OW.opA (g := (x202 == (12 : Int))) rfl ?_ (fun hg => ?_) (by (simp only [go_sem, Nat.reduceLT])) ?_
 simp only [go_sem, simprocAttr]
 · (first | decide | ((simp only [go_sem, simprocAttr, sw0]); done) | ((simp only [go_sem, simprocAttr, sw0]); (repeat (refine And.intro (by (first | omega | assumption | rfl | decide | (simp only [List.length_map, List.length_replicate, List.length_append, List.length_take, List.length_drop, List.length_set, List.length_cons, List.length_nil, Nat.zero_add, Int.toNat_natCast] at *; omega) | (simp only [List.length_map, List.length_replicate, List.length_append, List.length_take, List.length_drop, List.length_set, List.length_cons, List.length_nil, Nat.zero_add, Int.toNat_natCast]; done) | trivial)) ?_)); done) | ((simp only [go_sem, simprocAttr, sw0]); repeat (first | omega | rfl | trivial | refine ⟨?_, ?_⟩)))
 try simp only [go_sem, simprocAttr]
 refine OW.opA (g := (x202 == (12 : Int))) rfl ?_ (fun hg => ?_) (by (simp only [go_sem, Nat.reduceLT])) ?_
 simp only [go_sem, simprocAttr]
 · (first | decide | ((simp only [go_sem, simprocAttr, sw0]); done) | ((simp only [go_sem, simprocAttr, sw0]); (repeat (refine And.intro (by (first | omega | assumption | rfl | decide | (simp only [List.length_map, List.length_replicate, List.length_append, List.length_take, List.length_drop, List.length_set, List.length_cons, List.length_nil, Nat.zero_add, Int.toNat_natCast] at *; omega) | (simp only [List.length_map, List.length_replicate, List.length_append, List.length_take, List.length_drop, List.length_set, List.length_cons, List.length_nil, Nat.zero_add, Int.toNat_natCast]; done) | trivial)) ?_)); done) | ((simp only [go_sem, simprocAttr, sw0]); repeat (first | omega | rfl | trivial | refine ⟨?_, ?_⟩)))
 try simp only [go_sem, simprocAttr]
 refine OW.run [6] ?_
 simp only [go_sem, simprocAttr, sw0]
 refine OW.nil (hK _ ?_)
 refine PW.ret ?_
 change PW.Ends _ _ _ _ _ _
 refine PW.Ends.intro (.inr rfl) ?_
 simp only [go_sem, simprocAttr, sw0]
 obtain rfl := Option.some.inj H
 refine RetOK.data' 4 (by exact trivial) ?_
 rfl
end Go.Proofs.Ytklejiafioalnaa
