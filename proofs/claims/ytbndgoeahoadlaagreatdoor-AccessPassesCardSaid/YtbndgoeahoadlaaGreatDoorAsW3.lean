import Derived.Test.YtbndgoeahoadlaaGreatDoorAsK
import Derived.Test.YtbndgoeahoadlaaGreatDoorAsW1
import Derived.Test.YtbndgoeahoadlaaGreatDoorAsW2
set_option linter.all false
namespace Go.Proofs.YtbndgoeahoadlaaGreatDoor
open Go.PW Go.Sh

set_option maxRecDepth 20000
set_option maxHeartbeats 8000000
def zf0W3a := allOne_flatF (fun (x : Int × Int × Int × Int × Int × Int × Int) => [(I x.1), (I x.2.1), (I x.2.2.1), (I x.2.2.2.1), (I x.2.2.2.2.1), (I x.2.2.2.2.2.1), (I x.2.2.2.2.2.2)]) (fun _ => rfl)
def zf1W3a := m8 7 (fun (x : Int × Int × Int × Int × Int × Int × Int) => [(I x.1), (I x.2.1), (I x.2.2.1), (I x.2.2.2.1), (I x.2.2.2.2.1), (I x.2.2.2.2.2.1), (I x.2.2.2.2.2.2)]) (fun _ => rfl)
def zf2W3a := sub_el 7 (fun (x : Int × Int × Int × Int × Int × Int × Int) => [(I x.1), (I x.2.1), (I x.2.2.1), (I x.2.2.2.1), (I x.2.2.2.2.1), (I x.2.2.2.2.2.1), (I x.2.2.2.2.2.2)]) (fun _ => rfl)
def zf3W3a := take_flatMap 7 (fun (x : Int × Int × Int × Int × Int × Int × Int) => [(I x.1), (I x.2.1), (I x.2.2.1), (I x.2.2.2.1), (I x.2.2.2.2.1), (I x.2.2.2.2.2.1), (I x.2.2.2.2.2.2)]) (fun _ => rfl)
def zb0W3a := And.intro zf0W3a zf1W3a
theorem ref07_Copy_ok (N : Nat) (Z1k : Int) (Z1o : List (Int × Int × Int × Int × Int × Int × Int)) (r : Int × (List (Int × Int × Int × Int × Int × Int × Int))) (H : A6 N Z1k Z1o = some r) : CallOK Tryz.prog 29 [(.agg [(I Z1k), (.list Z1o.length (Z1o.flatMap (fun (x : Int × Int × Int × Int × Int × Int × Int) => [(I x.1), (I x.2.1), (I x.2.2.1), (I x.2.2.2.1), (I x.2.2.2.2.1), (I x.2.2.2.2.2.1), (I x.2.2.2.2.2.2)])))])] (.d (.agg [(I r.1), (.list r.2.length (r.2.flatMap (fun (x : Int × Int × Int × Int × Int × Int × Int) => [(I x.1), (I x.2.1), (I x.2.2.1), (I x.2.2.2.1), (I x.2.2.2.2.1), (I x.2.2.2.2.2.1), (I x.2.2.2.2.2.2)])))])) [] := by
 refine i7 Tryz.func29 rfl (by rw [Tryz.results29]) Tryz.ntmps29 Tryz.call29 ?_
 change PW _ _ _ _ _
 try simp only [go_sem, simprocAttr]
 unfold A6 at H
 refine b7 ?_
 refine c9 [1, 2] ?_
 simp only [go_sem, simprocAttr, sw0]
 refine b7 ?_
 obtain ⟨c1, H⟩ := j6 H
 refine PW.drawX 6 [2, 5] (fun j => List.getD [[{ cells := [.d (I Z1k), .d (.list Z1o.length (Z1o.flatMap (fun (x : Int × Int × Int × Int × Int × Int × Int) => [(I x.1), (I x.2.1), (I x.2.2.1), (I x.2.2.2.1), (I x.2.2.2.2.1), (I x.2.2.2.2.2.1), (I x.2.2.2.2.2.2)])))], e := 30 }, { cells := [.d (I (0 : Int)), .d (.val (.slice none 0 0))], e := 30 }], [{ cells := [.d (I Z1k), .d (.list Z1o.length (Z1o.flatMap (fun (x : Int × Int × Int × Int × Int × Int × Int) => [(I x.1), (I x.2.1), (I x.2.2.1), (I x.2.2.2.1), (I x.2.2.2.2.1), (I x.2.2.2.2.2.1), (I x.2.2.2.2.2.2)])))], e := 30 }, { cells := [.d (I (0 : Int)), .d (.val (.slice none 0 0))], e := 30 }, { cells := [], e := 71 }], [{ cells := [.d (I Z1k), .d (.list Z1o.length (Z1o.flatMap (fun (x : Int × Int × Int × Int × Int × Int × Int) => [(I x.1), (I x.2.1), (I x.2.2.1), (I x.2.2.2.1), (I x.2.2.2.2.1), (I x.2.2.2.2.2.1), (I x.2.2.2.2.2.2)])))], e := 30 }, { cells := [.d (I (0 : Int)), .d (.val (.slice none 0 0))], e := 30 }, { cells := (Z1o.flatMap (fun (x : Int × Int × Int × Int × Int × Int × Int) => [(I x.1), (I x.2.1), (I x.2.2.1), (I x.2.2.2.1), (I x.2.2.2.2.1), (I x.2.2.2.2.2.1), (I x.2.2.2.2.2.2)])).map .d, e := 71 }]] j []) (κL [(1, 2)]) mixed (by kernel_rfl) (by decide) (by ((refine ⟨by decide, ?_⟩; intro k i i' h1 h2 o ho; match k, h1, h2 with | 0, h1, h2 => (simp at h1 h2 <;> first | (cases h2; done) | (subst h1; subst h2; simp at ho; subst ho; simp [Region.binds]; done)) | 1, h1, h2 => (simp at h1 h2 <;> first | (cases h2; done) | (subst h1; subst h2; simp at ho; subst ho; simp [Region.binds]; done)) | 2, h1, h2 => (simp at h1 h2 <;> first | (cases h2; done) | (subst h1; subst h2; simp at ho; subst ho; simp [Region.binds]; done)) | k + 3, h1, h2 => (simp at h2; done)))) (κL_dead _) (by decide) (freshL rfl) rfl rfl fun K hK => ?_
 change FWX _ _ _ _ _ _ _ _ _ _
 refine FWX.op (by decide) rfl (.ptr 0 0) 0 2 (.inl rfl) (.inl rfl) ?_ ?_ (by (simp only [go_sem, Nat.reduceLT])) ?_
 ·
  intro j hj1 hj2
  have hj : j = 0 ∨ j = 1 ∨ j = 2 := by omega
  rcases hj with rfl | rfl | rfl
  all_goals (refine ⟨?_, ?_⟩)
  all_goals (first | rfl | trivial | ((simp only [go_sem, simprocAttr, sw0, zb0W3a]); first | done | rfl | omega | assumption | decide | (simp only [List.append_assoc, List.cons_append, List.nil_append]; done) | ((repeat (refine And.intro (by first | rfl | omega | assumption | decide) ?_)); first | rfl | omega | assumption | decide)))
 refine KeptX.free [5, 8] (by first | rfl | (simp only [V.kill]; exact if_neg (by omega))) ?_ (by kernel_rfl) ?_
 · repeat (first | exact fun _ h => absurd h List.not_mem_nil | (refine List.forall_mem_cons.2 (And.intro ?_ ?_); · first | exact .inr rfl | (left; simp; done) | (right; simp only [V.kill, ↓reduceIte]; first | rfl | exact if_neg (by omega) | (simp only [V.kill, V.kill.kills, ↓reduceIte]; done))))
 exact KeptX.nil
 try simp only [go_sem, simprocAttr]
 refine FWX.op (by decide) rfl (.d (I Z1k)) 0 2 (.inl rfl) (.inl rfl) ?_ ?_ (by (simp only [go_sem, Nat.reduceLT])) ?_
 ·
  intro j hj1 hj2
  have hj : j = 0 ∨ j = 1 ∨ j = 2 := by omega
  rcases hj with rfl | rfl | rfl
  all_goals (refine ⟨?_, ?_⟩)
  all_goals (first | rfl | trivial | ((simp only [go_sem, simprocAttr, sw0, zb0W3a]); first | done | rfl | omega | assumption | decide | (simp only [List.append_assoc, List.cons_append, List.nil_append]; done) | ((repeat (refine And.intro (by first | rfl | omega | assumption | decide) ?_)); first | rfl | omega | assumption | decide)))
 refine KeptX.free [5, 8] (by first | rfl | (simp only [V.kill]; exact if_neg (by omega))) ?_ (by kernel_rfl) ?_
 · repeat (first | exact fun _ h => absurd h List.not_mem_nil | (refine List.forall_mem_cons.2 (And.intro ?_ ?_); · first | exact .inr rfl | (left; simp; done) | (right; simp only [V.kill, ↓reduceIte]; first | rfl | exact if_neg (by omega) | (simp only [V.kill, V.kill.kills, ↓reduceIte]; done))))
 exact KeptX.nil
 try simp only [go_sem, simprocAttr]
 refine FWX.build (q := 0) (by decide) rfl rfl rfl rfl (Nat.le_of_ble_eq_true rfl) (fun _ => rfl) (.own 2 0 0 7) ?_ ?_ ?_
 · first | rfl | trivial | (simp only [go_sem, simprocAttr, sw0, zb0W3a]; first | done | rfl | omega | assumption | decide | (simp only [List.append_assoc, List.cons_append, List.nil_append]; done) | ((repeat (refine And.intro (by first | rfl | omega | assumption | decide) ?_)); first | rfl | omega | assumption | decide))
 · first | rfl | trivial | (simp only [go_sem, simprocAttr, sw0, zb0W3a]; first | done | rfl | omega | assumption | decide | (simp only [List.append_assoc, List.cons_append, List.nil_append]; done) | ((repeat (refine And.intro (by first | rfl | omega | assumption | decide) ?_)); first | rfl | omega | assumption | decide))
 try simp only [go_sem, simprocAttr]
 refine FWX.op (by decide) rfl (.ptr 0 1) 0 2 (.inl rfl) (.inl rfl) ?_ ?_ (by (simp only [go_sem, Nat.reduceLT])) ?_
 ·
  intro j hj1 hj2
  have hj : j = 0 ∨ j = 1 ∨ j = 2 := by omega
  rcases hj with rfl | rfl | rfl
  all_goals (refine ⟨?_, ?_⟩)
  all_goals (first | rfl | trivial | ((simp only [go_sem, simprocAttr, sw0, zb0W3a]); first | done | rfl | omega | assumption | decide | (simp only [List.append_assoc, List.cons_append, List.nil_append]; done) | ((repeat (refine And.intro (by first | rfl | omega | assumption | decide) ?_)); first | rfl | omega | assumption | decide)))
 refine KeptX.free [5, 8] (by first | rfl | (simp only [V.kill]; exact if_neg (by omega))) ?_ (by kernel_rfl) ?_
 · repeat (first | exact fun _ h => absurd h List.not_mem_nil | (refine List.forall_mem_cons.2 (And.intro ?_ ?_); · first | exact .inr rfl | (left; simp; done) | (right; simp only [V.kill, ↓reduceIte]; first | rfl | exact if_neg (by omega) | (simp only [V.kill, V.kill.kills, ↓reduceIte]; done))))
 exact KeptX.nil
 try simp only [go_sem, simprocAttr]
 refine FWX.op (by decide) rfl (.d (.list Z1o.length (Z1o.flatMap (fun (x : Int × Int × Int × Int × Int × Int × Int) => [(I x.1), (I x.2.1), (I x.2.2.1), (I x.2.2.2.1), (I x.2.2.2.2.1), (I x.2.2.2.2.2.1), (I x.2.2.2.2.2.2)])))) 0 1 (.inl rfl) (.inr ⟨_, _, { on := 4, ground := .data }, rfl, rfl, by simp, rfl, rfl⟩) ?_ ?_ (by (simp only [go_sem, Nat.reduceLT])) ?_
 ·
  intro j hj1 hj2
  have hj : j = 0 ∨ j = 1 := by omega
  rcases hj with rfl | rfl
  all_goals (refine ⟨?_, ?_⟩)
  all_goals (first | rfl | trivial | ((simp only [go_sem, simprocAttr, sw0, zb0W3a]); first | done | rfl | omega | assumption | decide | (simp only [List.append_assoc, List.cons_append, List.nil_append]; done) | ((repeat (refine And.intro (by first | rfl | omega | assumption | decide) ?_)); first | rfl | omega | assumption | decide)))
 refine KeptX.dep rfl rfl ⟨{ on := 4, ground := .data }, by simp, rfl, rfl⟩ ?_
 exact KeptX.nil
 try simp only [go_sem, simprocAttr]
 refine FWX.append 2 (q := 1) (by decide) rfl rfl rfl rfl (Nat.le_of_ble_eq_true rfl) rfl (by first | decide | (first | exact Nat.le_refl _ | exact Nat.zero_le _ | (simp only [go_sem]; omega))) (.own 2 0 Z1o.length 7) ?_ rfl ?_ ?_ ?_
 ·
  refine FreeX.of' rfl [5] ?_ (by kernel_rfl)
  · repeat (first | exact fun _ h => absurd h List.not_mem_nil | (refine List.forall_mem_cons.2 (And.intro ?_ ?_); · first | exact .inr rfl | (left; simp; done) | (right; simp only [V.kill, ↓reduceIte]; first | rfl | exact if_neg (by omega) | (simp only [V.kill, V.kill.kills, ↓reduceIte]; done))))
 · first | rfl | trivial | (simp only [go_sem, simprocAttr, sw0, zb0W3a]; first | done | rfl | omega | assumption | decide | (simp only [List.append_assoc, List.cons_append, List.nil_append]; done) | ((repeat (refine And.intro (by first | rfl | omega | assumption | decide) ?_)); first | rfl | omega | assumption | decide))
 · first | rfl | trivial | (simp only [go_sem, simprocAttr, sw0, zb0W3a]; first | done | rfl | omega | assumption | decide | (simp only [List.append_assoc, List.cons_append, List.nil_append]; done) | ((repeat (refine And.intro (by first | rfl | omega | assumption | decide) ?_)); first | rfl | omega | assumption | decide))
 try (simp only [go_sem, simprocAttr, sw0, zb0W3a])
 refine FWX.nil ?_
 change OW _ _ _ _ _ _
 change OW _ _ _ _ _ _
 refine OW.run [2] ?_
 (simp only [go_sem, simprocAttr, sw0, zb0W3a])
 refine OW.nil (hK _ ?_)
 refine d7 (PW.Ends.intro (.inr rfl) ?_)
 simp only [go_sem, simprocAttr, sw0]
 obtain rfl := Option.some.inj H
 have hl0 := zf1W3a Z1o
 have hn0 : (Z1o.flatMap (fun (x : Int × Int × Int × Int × Int × Int × Int) => [(I x.1), (I x.2.1), (I x.2.2.1), (I x.2.2.2.1), (I x.2.2.2.2.1), (I x.2.2.2.2.2.1), (I x.2.2.2.2.2.2)])).map nz = Z1o.flatMap (fun (x : Int × Int × Int × Int × Int × Int × Int) => [(I x.1), (I x.2.1), (I x.2.2.1), (I x.2.2.2.1), (I x.2.2.2.2.1), (I x.2.2.2.2.2.1), (I x.2.2.2.2.2.2)]) := F1 (fun _ => rfl) _
 have ht0 : (Z1o.flatMap (fun (x : Int × Int × Int × Int × Int × Int × Int) => [(I x.1), (I x.2.1), (I x.2.2.1), (I x.2.2.2.1), (I x.2.2.2.2.1), (I x.2.2.2.2.2.1), (I x.2.2.2.2.2.2)])).take (Z1o.length * 7) = Z1o.flatMap (fun (x : Int × Int × Int × Int × Int × Int × Int) => [(I x.1), (I x.2.1), (I x.2.2.1), (I x.2.2.2.1), (I x.2.2.2.2.1), (I x.2.2.2.2.2.1), (I x.2.2.2.2.2.2)]) := take_flat _ (fun _ => rfl) rfl
 refine b8 4 (by (refine d9 ?_; (simp only [go_sem, sw2, List.length_set, List.length_replicate, and_true, true_and, Nat.le_refl, simprocAttr]; omega))) ?_
 (((simp only [go_sem, sw1, simprocAttr]; try simp only [seg, go_sem, simprocAttr])); (repeat' (first | rfl | (refine list_congr ?_; simp only [List.length_take, List.length_drop, List.length_set, List.length_replicate] <;> omega) | (refine congr (congrArg List.cons ?_) ?_) | (refine congrArg D.agg ?_) | (refine congrArg D.tup ?_) | (refine congrArg D.ref ?_) | (refine congrArg (D.list _) ?_) | (refine congrArg (D.clo _) ?_))))
 all_goals (first | rw [ht0, hn0] | simp only [ht0, hn0])

theorem access_fits_ok (N : Nat) (Zx : Int) (Zv : Int) (Zw : Int) (Zs : Int) (Zz : Int) (Zy : Int) (Zq : Int) (r : Bool) (H : access_fits N Zx Zv Zw Zs Zz Zy Zq = some r) : CallOK Tryz.prog 152 [(.agg [(I Zx), (I Zv), (I Zw), (I Zs), (I Zz), (I Zy), (I Zq)])] (.d (Bo r)) [] := by
 refine i7 Tryz.func152 rfl (by rw [Tryz.results152]) Tryz.ntmps152 Tryz.call152 ?_
 change PW _ _ _ _ _
 try simp only [go_sem, simprocAttr]
 unfold access_fits at H
 obtain ⟨hsp, H⟩ := j6 H
 have hsp2 : Zx = 0 ∨ Zx = 1 ∨ Zx = 2 ∨ Zx = 3 ∨ Zx = 4 ∨ Zx = 5 := by omega
 clear hsp
 rcases hsp2 with rfl | rfl | rfl | rfl | rfl | rfl
 replace H := n6 (by decide) H
 refine b7 ?_
 refine c9 [1] ?_
 simp only [go_sem, simprocAttr, sw0]
 refine b7 ?_
 refine D6 8 [5, 6] [215, 71] mixed (by kernel_rfl) (by decide) rfl fun K hK => ?_
 refine FWO.run ?_
 simp only [go_sem, simprocAttr, sw0]
 repeat (refine And.intro (by first | omega | rfl) ?_)
 first | refine FWO.nil ?_ | skip
 change OW _ _ _ _ _ _
 refine OW.run [1, 3, 4] ?_
 simp only [go_sem, simprocAttr, sw0]
 refine OW.nil (hK _ ?_)
 refine k5 (τ := Unit) [1, 3, 4] 3 (fun _ => []) (fun _ => [{ cells := [.d (I (0 : Int)), .d (I Zv), .d (I Zw), .d (I Zs), .d (I Zz), .d (I Zy), .d (I Zq)], e := 71 }, { cells := [.d (Bo false), .d (Bo false), .d (Bo false), .d (Bo false)], e := 215 }, { cells := [.d (I (0 : Int)), .d (I (-1 : Int)), .d (I (0 : Int)), .d (I Zs), .d (I Zz), .d (I Zy), .d (I Zq)], e := 71 }]) _ _ r (by exact Nat.zero_le _) H ?_ ?_
 intro K_ H N1 hN1
 refine b7 ?_
 refine c9 [1, 3, 4, 12] ?_
 simp only [go_sem, simprocAttr, sw0]
 repeat (refine And.intro (by omega) ?_)
 refine d5 rfl (fun h2 => ?_) (fun h2 => ?_)
 replace H := n6 h2 H
 refine c9 [1, 3, 4] ?_
 simp only [go_sem, simprocAttr, sw0]
 repeat (refine And.intro (by omega) ?_)
 refine hN1 [] () _ H (by exact trivial) ?_
 simp only [sw1, go_sem, simprocAttr]
 replace H := l7 h2 H
 cases H
 rintro _ H
 try simp only [go_sem, simprocAttr]
 refine k5 (τ := Unit) [1, 3, 4] 3 (fun _ => []) (fun _ => [{ cells := [.d (I (0 : Int)), .d (I Zv), .d (I Zw), .d (I Zs), .d (I Zz), .d (I Zy), .d (I Zq)], e := 71 }, { cells := [.d (Bo false), .d (Bo false), .d (Bo false), .d (Bo false)], e := 215 }, { cells := [.d (I (0 : Int)), .d (I (-1 : Int)), .d (I (0 : Int)), .d (I (-1 : Int)), .d (I Zz), .d (I Zy), .d (I Zq)], e := 71 }]) _ _ r (by exact Nat.zero_le _) H ?_ ?_
 intro K_1 H N3 hN3
 refine b7 ?_
 refine c9 [1, 3, 4, 17] ?_
 simp only [go_sem, simprocAttr, sw0]
 repeat (refine And.intro (by omega) ?_)
 refine d5 rfl (fun h4 => ?_) (fun h4 => ?_)
 replace H := n6 h4 H
 refine c9 [1, 3, 4] ?_
 simp only [go_sem, simprocAttr, sw0]
 repeat (refine And.intro (by omega) ?_)
 refine hN3 [] () _ H (by exact trivial) ?_
 simp only [sw1, go_sem, simprocAttr]
 replace H := l7 h4 H
 cases H
 rintro _ H
 try simp only [go_sem, simprocAttr]
 refine k5 (τ := Unit) [1, 3, 4] 3 (fun _ => []) (fun _ => [{ cells := [.d (I (0 : Int)), .d (I Zv), .d (I Zw), .d (I Zs), .d (I Zz), .d (I Zy), .d (I Zq)], e := 71 }, { cells := [.d (Bo false), .d (Bo false), .d (Bo false), .d (Bo false)], e := 215 }, { cells := [.d (I (0 : Int)), .d (I (-1 : Int)), .d (I (0 : Int)), .d (I (-1 : Int)), .d (I (0 : Int)), .d (I Zy), .d (I Zq)], e := 71 }]) _ _ r (by exact Nat.zero_le _) H ?_ ?_
 intro K_2 H N5 hN5
 refine b7 ?_
 refine c9 [1, 3, 4, 21] ?_
 simp only [go_sem, simprocAttr, sw0]
 repeat (refine And.intro (by omega) ?_)
 refine d5 rfl (fun h6 => ?_) (fun h6 => ?_)
 replace H := n6 h6 H
 refine c9 [1, 3, 4] ?_
 simp only [go_sem, simprocAttr, sw0]
 repeat (refine And.intro (by omega) ?_)
 refine hN5 [] () _ H (by exact trivial) ?_
 simp only [sw1, go_sem, simprocAttr]
 replace H := l7 h6 H
 cases H
 rintro _ H
 try simp only [go_sem, simprocAttr]
 refine b7 ?_
 refine b7 ?_
 refine c9 [1, 4, 25] ?_
 simp only [go_sem, simprocAttr, sw0]
 repeat (refine And.intro (by omega) ?_)
 refine d5 rfl (fun h7 => ?_) (fun h7 => ?_)
 replace H := n6 h7 H
 refine c9 [1, 4] ?_
 simp only [go_sem, simprocAttr, sw0]
 repeat (refine And.intro (by omega) ?_)
 refine b7 ?_
 refine c9 [2] ?_
 simp only [go_sem, simprocAttr, sw0]
 refine d7 (PW.Ends.intro (.inr rfl) ?_)
 simp only [go_sem, simprocAttr, sw0]
 obtain rfl := Option.some.inj H
 refine b8 4 (by exact trivial) ?_
 rfl
 replace H := l7 h7 H
 cases H
 replace H := l7 (by decide) H
 replace H := n6 (by decide) H
 refine b7 ?_
 refine c9 [1] ?_
 simp only [go_sem, simprocAttr, sw0]
 refine b7 ?_
 refine D6 8 [5, 6] [215, 71] mixed (by kernel_rfl) (by decide) rfl fun K hK => ?_
 refine FWO.run ?_
 simp only [go_sem, simprocAttr, sw0]
 repeat (refine And.intro (by first | omega | rfl) ?_)
 first | refine FWO.nil ?_ | skip
 change OW _ _ _ _ _ _
 refine OW.run [1, 3, 4] ?_
 simp only [go_sem, simprocAttr, sw0]
 refine OW.nil (hK _ ?_)
 refine k5 (τ := Unit) [1, 3, 4] 3 (fun _ => []) (fun _ => [{ cells := [.d (I (1 : Int)), .d (I Zv), .d (I Zw), .d (I Zs), .d (I Zz), .d (I Zy), .d (I Zq)], e := 71 }, { cells := [.d (Bo true), .d (Bo false), .d (Bo true), .d (Bo true)], e := 215 }, { cells := [.d (I (1 : Int)), .d (I Zv), .d (I Zw), .d (I Zs), .d (I Zz), .d (I Zy), .d (I Zq)], e := 71 }]) _ _ r (by exact Nat.zero_le _) H ?_ ?_
 intro K_3 H N8 hN8
 refine b7 ?_
 refine c9 [1, 3, 4, 12] ?_
 simp only [go_sem, simprocAttr, sw0]
 repeat (refine And.intro (by omega) ?_)
 refine d5 rfl (fun h9 => ?_) (fun h9 => ?_)
 replace H := n6 h9 H
 cases H
 replace H := l7 h9 H
 refine d8 ?_
 refine hN8 [] () _ H (by exact trivial) ?_
 simp only [sw1, go_sem, simprocAttr]
 rintro _ H
 try simp only [go_sem, simprocAttr]
 refine k5 (τ := Unit) [1, 3, 4] 3 (fun _ => []) (fun _ => [{ cells := [.d (I (1 : Int)), .d (I Zv), .d (I Zw), .d (I Zs), .d (I Zz), .d (I Zy), .d (I Zq)], e := 71 }, { cells := [.d (Bo true), .d (Bo false), .d (Bo true), .d (Bo true)], e := 215 }, { cells := [.d (I (1 : Int)), .d (I Zv), .d (I Zw), .d (I (-1 : Int)), .d (I Zz), .d (I Zy), .d (I Zq)], e := 71 }]) _ _ r (by exact Nat.zero_le _) H ?_ ?_
 intro K_4 H N10 hN10
 refine b7 ?_
 refine c9 [1, 3, 4, 17] ?_
 simp only [go_sem, simprocAttr, sw0]
 repeat (refine And.intro (by omega) ?_)
 refine d5 rfl (fun h11 => ?_) (fun h11 => ?_)
 replace H := n6 h11 H
 refine c9 [1, 3, 4] ?_
 simp only [go_sem, simprocAttr, sw0]
 repeat (refine And.intro (by omega) ?_)
 refine hN10 [] () _ H (by exact trivial) ?_
 simp only [sw1, go_sem, simprocAttr]
 replace H := l7 h11 H
 cases H
 rintro _ H
 try simp only [go_sem, simprocAttr]
 refine k5 (τ := Unit) [1, 3, 4] 3 (fun _ => []) (fun _ => [{ cells := [.d (I (1 : Int)), .d (I Zv), .d (I Zw), .d (I Zs), .d (I Zz), .d (I Zy), .d (I Zq)], e := 71 }, { cells := [.d (Bo true), .d (Bo false), .d (Bo true), .d (Bo true)], e := 215 }, { cells := [.d (I (1 : Int)), .d (I Zv), .d (I Zw), .d (I (-1 : Int)), .d (I Zz), .d (I Zy), .d (I Zq)], e := 71 }]) _ _ r (by exact Nat.zero_le _) H ?_ ?_
 intro K_5 H N12 hN12
 refine b7 ?_
 refine c9 [1, 3, 4, 21] ?_
 simp only [go_sem, simprocAttr, sw0]
 repeat (refine And.intro (by omega) ?_)
 refine d5 rfl (fun h13 => ?_) (fun h13 => ?_)
 replace H := n6 h13 H
 cases H
 replace H := l7 h13 H
 refine d8 ?_
 refine hN12 [] () _ H (by exact trivial) ?_
 simp only [sw1, go_sem, simprocAttr]
 rintro _ H
 try simp only [go_sem, simprocAttr]
 refine b7 ?_
 refine b7 ?_
 refine c9 [1, 4, 25] ?_
 simp only [go_sem, simprocAttr, sw0]
 repeat (refine And.intro (by omega) ?_)
 refine d5 rfl (fun h14 => ?_) (fun h14 => ?_)
 replace H := n6 h14 H
 cases H
 replace H := l7 h14 H
 refine d8 ?_
 refine b7 ?_
 refine c9 [2] ?_
 simp only [go_sem, simprocAttr, sw0]
 refine d7 (PW.Ends.intro (.inr rfl) ?_)
 simp only [go_sem, simprocAttr, sw0]
 obtain rfl := Option.some.inj H
 refine b8 4 (by exact trivial) ?_
 rfl
 replace H := l7 (by decide) H
 replace H := l7 (by decide) H
 replace H := n6 (by decide) H
 refine b7 ?_
 refine c9 [1] ?_
 simp only [go_sem, simprocAttr, sw0]
 refine b7 ?_
 refine D6 8 [5, 6] [215, 71] mixed (by kernel_rfl) (by decide) rfl fun K hK => ?_
 refine FWO.run ?_
 simp only [go_sem, simprocAttr, sw0]
 repeat (refine And.intro (by first | omega | rfl) ?_)
 first | refine FWO.nil ?_ | skip
 change OW _ _ _ _ _ _
 refine OW.run [1, 3, 4] ?_
 simp only [go_sem, simprocAttr, sw0]
 refine OW.nil (hK _ ?_)
 refine k5 (τ := Unit) [1, 3, 4] 3 (fun _ => []) (fun _ => [{ cells := [.d (I (2 : Int)), .d (I Zv), .d (I Zw), .d (I Zs), .d (I Zz), .d (I Zy), .d (I Zq)], e := 71 }, { cells := [.d (Bo false), .d (Bo true), .d (Bo true), .d (Bo true)], e := 215 }, { cells := [.d (I (2 : Int)), .d (I (-1 : Int)), .d (I (0 : Int)), .d (I Zs), .d (I Zz), .d (I Zy), .d (I Zq)], e := 71 }]) _ _ r (by exact Nat.zero_le _) H ?_ ?_
 intro K_6 H N15 hN15
 refine b7 ?_
 refine c9 [1, 3, 4, 12] ?_
 simp only [go_sem, simprocAttr, sw0]
 repeat (refine And.intro (by omega) ?_)
 refine d5 rfl (fun h16 => ?_) (fun h16 => ?_)
 replace H := n6 h16 H
 refine c9 [1, 3, 4] ?_
 simp only [go_sem, simprocAttr, sw0]
 repeat (refine And.intro (by omega) ?_)
 refine hN15 [] () _ H (by exact trivial) ?_
 simp only [sw1, go_sem, simprocAttr]
 replace H := l7 h16 H
 cases H
 rintro _ H
 try simp only [go_sem, simprocAttr]
 refine k5 (τ := Unit) [1, 3, 4] 3 (fun _ => []) (fun _ => [{ cells := [.d (I (2 : Int)), .d (I Zv), .d (I Zw), .d (I Zs), .d (I Zz), .d (I Zy), .d (I Zq)], e := 71 }, { cells := [.d (Bo false), .d (Bo true), .d (Bo true), .d (Bo true)], e := 215 }, { cells := [.d (I (2 : Int)), .d (I (-1 : Int)), .d (I (0 : Int)), .d (I Zs), .d (I Zz), .d (I Zy), .d (I Zq)], e := 71 }]) _ _ r (by exact Nat.zero_le _) H ?_ ?_
 intro K_7 H N17 hN17
 refine b7 ?_
 refine c9 [1, 3, 4, 17] ?_
 simp only [go_sem, simprocAttr, sw0]
 repeat (refine And.intro (by omega) ?_)
 refine d5 rfl (fun h18 => ?_) (fun h18 => ?_)
 replace H := n6 h18 H
 cases H
 replace H := l7 h18 H
 refine d8 ?_
 refine hN17 [] () _ H (by exact trivial) ?_
 simp only [sw1, go_sem, simprocAttr]
 rintro _ H
 try simp only [go_sem, simprocAttr]
 refine k5 (τ := Unit) [1, 3, 4] 3 (fun _ => []) (fun _ => [{ cells := [.d (I (2 : Int)), .d (I Zv), .d (I Zw), .d (I Zs), .d (I Zz), .d (I Zy), .d (I Zq)], e := 71 }, { cells := [.d (Bo false), .d (Bo true), .d (Bo true), .d (Bo true)], e := 215 }, { cells := [.d (I (2 : Int)), .d (I (-1 : Int)), .d (I (0 : Int)), .d (I Zs), .d (I Zz), .d (I Zy), .d (I Zq)], e := 71 }]) _ _ r (by exact Nat.zero_le _) H ?_ ?_
 intro K_8 H N19 hN19
 refine b7 ?_
 refine c9 [1, 3, 4, 21] ?_
 simp only [go_sem, simprocAttr, sw0]
 repeat (refine And.intro (by omega) ?_)
 refine d5 rfl (fun h20 => ?_) (fun h20 => ?_)
 replace H := n6 h20 H
 cases H
 replace H := l7 h20 H
 refine d8 ?_
 refine hN19 [] () _ H (by exact trivial) ?_
 simp only [sw1, go_sem, simprocAttr]
 rintro _ H
 try simp only [go_sem, simprocAttr]
 refine b7 ?_
 refine b7 ?_
 refine c9 [1, 4, 25] ?_
 simp only [go_sem, simprocAttr, sw0]
 repeat (refine And.intro (by omega) ?_)
 refine d5 rfl (fun h21 => ?_) (fun h21 => ?_)
 replace H := n6 h21 H
 cases H
 replace H := l7 h21 H
 refine d8 ?_
 refine b7 ?_
 refine c9 [2] ?_
 simp only [go_sem, simprocAttr, sw0]
 refine d7 (PW.Ends.intro (.inr rfl) ?_)
 simp only [go_sem, simprocAttr, sw0]
 obtain rfl := Option.some.inj H
 refine b8 4 (by exact trivial) ?_
 rfl
 replace H := l7 (by decide) H
 replace H := l7 (by decide) H
 replace H := l7 (by decide) H
 replace H := n6 (by decide) H
 refine b7 ?_
 refine c9 [1] ?_
 simp only [go_sem, simprocAttr, sw0]
 refine b7 ?_
 refine D6 8 [5, 6] [215, 71] mixed (by kernel_rfl) (by decide) rfl fun K hK => ?_
 refine FWO.run ?_
 simp only [go_sem, simprocAttr, sw0]
 repeat (refine And.intro (by first | omega | rfl) ?_)
 first | refine FWO.nil ?_ | skip
 change OW _ _ _ _ _ _
 refine OW.run [1, 3, 4] ?_
 simp only [go_sem, simprocAttr, sw0]
 refine OW.nil (hK _ ?_)
 refine k5 (τ := Unit) [1, 3, 4] 3 (fun _ => []) (fun _ => [{ cells := [.d (I (3 : Int)), .d (I Zv), .d (I Zw), .d (I Zs), .d (I Zz), .d (I Zy), .d (I Zq)], e := 71 }, { cells := [.d (Bo false), .d (Bo false), .d (Bo true), .d (Bo true)], e := 215 }, { cells := [.d (I (3 : Int)), .d (I (-1 : Int)), .d (I (0 : Int)), .d (I Zs), .d (I Zz), .d (I Zy), .d (I Zq)], e := 71 }]) _ _ r (by exact Nat.zero_le _) H ?_ ?_
 intro K_9 H N22 hN22
 refine b7 ?_
 refine c9 [1, 3, 4, 12] ?_
 simp only [go_sem, simprocAttr, sw0]
 repeat (refine And.intro (by omega) ?_)
 refine d5 rfl (fun h23 => ?_) (fun h23 => ?_)
 replace H := n6 h23 H
 refine c9 [1, 3, 4] ?_
 simp only [go_sem, simprocAttr, sw0]
 repeat (refine And.intro (by omega) ?_)
 refine hN22 [] () _ H (by exact trivial) ?_
 simp only [sw1, go_sem, simprocAttr]
 replace H := l7 h23 H
 cases H
 rintro _ H
 try simp only [go_sem, simprocAttr]
 refine k5 (τ := Unit) [1, 3, 4] 3 (fun _ => []) (fun _ => [{ cells := [.d (I (3 : Int)), .d (I Zv), .d (I Zw), .d (I Zs), .d (I Zz), .d (I Zy), .d (I Zq)], e := 71 }, { cells := [.d (Bo false), .d (Bo false), .d (Bo true), .d (Bo true)], e := 215 }, { cells := [.d (I (3 : Int)), .d (I (-1 : Int)), .d (I (0 : Int)), .d (I (-1 : Int)), .d (I Zz), .d (I Zy), .d (I Zq)], e := 71 }]) _ _ r (by exact Nat.zero_le _) H ?_ ?_
 intro K_10 H N24 hN24
 refine b7 ?_
 refine c9 [1, 3, 4, 17] ?_
 simp only [go_sem, simprocAttr, sw0]
 repeat (refine And.intro (by omega) ?_)
 refine d5 rfl (fun h25 => ?_) (fun h25 => ?_)
 replace H := n6 h25 H
 refine c9 [1, 3, 4] ?_
 simp only [go_sem, simprocAttr, sw0]
 repeat (refine And.intro (by omega) ?_)
 refine hN24 [] () _ H (by exact trivial) ?_
 simp only [sw1, go_sem, simprocAttr]
 replace H := l7 h25 H
 cases H
 rintro _ H
 try simp only [go_sem, simprocAttr]
 refine k5 (τ := Unit) [1, 3, 4] 3 (fun _ => []) (fun _ => [{ cells := [.d (I (3 : Int)), .d (I Zv), .d (I Zw), .d (I Zs), .d (I Zz), .d (I Zy), .d (I Zq)], e := 71 }, { cells := [.d (Bo false), .d (Bo false), .d (Bo true), .d (Bo true)], e := 215 }, { cells := [.d (I (3 : Int)), .d (I (-1 : Int)), .d (I (0 : Int)), .d (I (-1 : Int)), .d (I Zz), .d (I Zy), .d (I Zq)], e := 71 }]) _ _ r (by exact Nat.zero_le _) H ?_ ?_
 intro K_11 H N26 hN26
 refine b7 ?_
 refine c9 [1, 3, 4, 21] ?_
 simp only [go_sem, simprocAttr, sw0]
 repeat (refine And.intro (by omega) ?_)
 refine d5 rfl (fun h27 => ?_) (fun h27 => ?_)
 replace H := n6 h27 H
 cases H
 replace H := l7 h27 H
 refine d8 ?_
 refine hN26 [] () _ H (by exact trivial) ?_
 simp only [sw1, go_sem, simprocAttr]
 rintro _ H
 try simp only [go_sem, simprocAttr]
 refine b7 ?_
 refine b7 ?_
 refine c9 [1, 4, 25] ?_
 simp only [go_sem, simprocAttr, sw0]
 repeat (refine And.intro (by omega) ?_)
 refine d5 rfl (fun h28 => ?_) (fun h28 => ?_)
 replace H := n6 h28 H
 cases H
 replace H := l7 h28 H
 refine d8 ?_
 refine b7 ?_
 refine c9 [2] ?_
 simp only [go_sem, simprocAttr, sw0]
 refine d7 (PW.Ends.intro (.inr rfl) ?_)
 simp only [go_sem, simprocAttr, sw0]
 obtain rfl := Option.some.inj H
 refine b8 4 (by exact trivial) ?_
 rfl
 replace H := l7 (by decide) H
 replace H := l7 (by decide) H
 replace H := l7 (by decide) H
 replace H := l7 (by decide) H
 replace H := n6 (by decide) H
 refine b7 ?_
 refine c9 [1] ?_
 simp only [go_sem, simprocAttr, sw0]
 refine b7 ?_
 refine D6 8 [5, 6] [215, 71] mixed (by kernel_rfl) (by decide) rfl fun K hK => ?_
 refine FWO.run ?_
 simp only [go_sem, simprocAttr, sw0]
 repeat (refine And.intro (by first | omega | rfl) ?_)
 first | refine FWO.nil ?_ | skip
 change OW _ _ _ _ _ _
 refine OW.run [1, 3, 4] ?_
 simp only [go_sem, simprocAttr, sw0]
 refine OW.nil (hK _ ?_)
 refine k5 (τ := Unit) [1, 3, 4] 3 (fun _ => []) (fun _ => [{ cells := [.d (I (4 : Int)), .d (I Zv), .d (I Zw), .d (I Zs), .d (I Zz), .d (I Zy), .d (I Zq)], e := 71 }, { cells := [.d (Bo false), .d (Bo true), .d (Bo false), .d (Bo false)], e := 215 }, { cells := [.d (I (4 : Int)), .d (I (-1 : Int)), .d (I (0 : Int)), .d (I Zs), .d (I Zz), .d (I Zy), .d (I Zq)], e := 71 }]) _ _ r (by exact Nat.zero_le _) H ?_ ?_
 intro K_12 H N29 hN29
 refine b7 ?_
 refine c9 [1, 3, 4, 12] ?_
 simp only [go_sem, simprocAttr, sw0]
 repeat (refine And.intro (by omega) ?_)
 refine d5 rfl (fun h30 => ?_) (fun h30 => ?_)
 replace H := n6 h30 H
 refine c9 [1, 3, 4] ?_
 simp only [go_sem, simprocAttr, sw0]
 repeat (refine And.intro (by omega) ?_)
 refine hN29 [] () _ H (by exact trivial) ?_
 simp only [sw1, go_sem, simprocAttr]
 replace H := l7 h30 H
 cases H
 rintro _ H
 try simp only [go_sem, simprocAttr]
 refine k5 (τ := Unit) [1, 3, 4] 3 (fun _ => []) (fun _ => [{ cells := [.d (I (4 : Int)), .d (I Zv), .d (I Zw), .d (I Zs), .d (I Zz), .d (I Zy), .d (I Zq)], e := 71 }, { cells := [.d (Bo false), .d (Bo true), .d (Bo false), .d (Bo false)], e := 215 }, { cells := [.d (I (4 : Int)), .d (I (-1 : Int)), .d (I (0 : Int)), .d (I Zs), .d (I Zz), .d (I Zy), .d (I Zq)], e := 71 }]) _ _ r (by exact Nat.zero_le _) H ?_ ?_
 intro K_13 H N31 hN31
 refine b7 ?_
 refine c9 [1, 3, 4, 17] ?_
 simp only [go_sem, simprocAttr, sw0]
 repeat (refine And.intro (by omega) ?_)
 refine d5 rfl (fun h32 => ?_) (fun h32 => ?_)
 replace H := n6 h32 H
 cases H
 replace H := l7 h32 H
 refine d8 ?_
 refine hN31 [] () _ H (by exact trivial) ?_
 simp only [sw1, go_sem, simprocAttr]
 rintro _ H
 try simp only [go_sem, simprocAttr]
 refine k5 (τ := Unit) [1, 3, 4] 3 (fun _ => []) (fun _ => [{ cells := [.d (I (4 : Int)), .d (I Zv), .d (I Zw), .d (I Zs), .d (I Zz), .d (I Zy), .d (I Zq)], e := 71 }, { cells := [.d (Bo false), .d (Bo true), .d (Bo false), .d (Bo false)], e := 215 }, { cells := [.d (I (4 : Int)), .d (I (-1 : Int)), .d (I (0 : Int)), .d (I Zs), .d (I (0 : Int)), .d (I Zy), .d (I Zq)], e := 71 }]) _ _ r (by exact Nat.zero_le _) H ?_ ?_
 intro K_14 H N33 hN33
 refine b7 ?_
 refine c9 [1, 3, 4, 21] ?_
 simp only [go_sem, simprocAttr, sw0]
 repeat (refine And.intro (by omega) ?_)
 refine d5 rfl (fun h34 => ?_) (fun h34 => ?_)
 replace H := n6 h34 H
 refine c9 [1, 3, 4] ?_
 simp only [go_sem, simprocAttr, sw0]
 repeat (refine And.intro (by omega) ?_)
 refine hN33 [] () _ H (by exact trivial) ?_
 simp only [sw1, go_sem, simprocAttr]
 replace H := l7 h34 H
 cases H
 rintro _ H
 try simp only [go_sem, simprocAttr]
 refine b7 ?_
 refine b7 ?_
 refine c9 [1, 4, 25] ?_
 simp only [go_sem, simprocAttr, sw0]
 repeat (refine And.intro (by omega) ?_)
 refine d5 rfl (fun h35 => ?_) (fun h35 => ?_)
 replace H := n6 h35 H
 refine c9 [1, 4] ?_
 simp only [go_sem, simprocAttr, sw0]
 repeat (refine And.intro (by omega) ?_)
 refine b7 ?_
 refine c9 [2] ?_
 simp only [go_sem, simprocAttr, sw0]
 refine d7 (PW.Ends.intro (.inr rfl) ?_)
 simp only [go_sem, simprocAttr, sw0]
 obtain rfl := Option.some.inj H
 refine b8 4 (by exact trivial) ?_
 rfl
 replace H := l7 h35 H
 cases H
 replace H := l7 (by decide) H
 replace H := l7 (by decide) H
 replace H := l7 (by decide) H
 replace H := l7 (by decide) H
 replace H := l7 (by decide) H
 replace H := n6 (by decide) H
 refine b7 ?_
 refine c9 [1] ?_
 simp only [go_sem, simprocAttr, sw0]
 refine b7 ?_
 refine D6 8 [5, 6] [215, 71] mixed (by kernel_rfl) (by decide) rfl fun K hK => ?_
 refine FWO.run ?_
 simp only [go_sem, simprocAttr, sw0]
 repeat (refine And.intro (by first | omega | rfl) ?_)
 first | refine FWO.nil ?_ | skip
 change OW _ _ _ _ _ _
 refine OW.run [1, 3, 4] ?_
 simp only [go_sem, simprocAttr, sw0]
 refine OW.nil (hK _ ?_)
 refine k5 (τ := Unit) [1, 3, 4] 3 (fun _ => []) (fun _ => [{ cells := [.d (I (5 : Int)), .d (I Zv), .d (I Zw), .d (I Zs), .d (I Zz), .d (I Zy), .d (I Zq)], e := 71 }, { cells := [.d (Bo false), .d (Bo false), .d (Bo false), .d (Bo true)], e := 215 }, { cells := [.d (I (5 : Int)), .d (I (-1 : Int)), .d (I (0 : Int)), .d (I Zs), .d (I Zz), .d (I Zy), .d (I Zq)], e := 71 }]) _ _ r (by exact Nat.zero_le _) H ?_ ?_
 intro K_15 H N36 hN36
 refine b7 ?_
 refine c9 [1, 3, 4, 12] ?_
 simp only [go_sem, simprocAttr, sw0]
 repeat (refine And.intro (by omega) ?_)
 refine d5 rfl (fun h37 => ?_) (fun h37 => ?_)
 replace H := n6 h37 H
 refine c9 [1, 3, 4] ?_
 simp only [go_sem, simprocAttr, sw0]
 repeat (refine And.intro (by omega) ?_)
 refine hN36 [] () _ H (by exact trivial) ?_
 simp only [sw1, go_sem, simprocAttr]
 replace H := l7 h37 H
 cases H
 rintro _ H
 try simp only [go_sem, simprocAttr]
 refine k5 (τ := Unit) [1, 3, 4] 3 (fun _ => []) (fun _ => [{ cells := [.d (I (5 : Int)), .d (I Zv), .d (I Zw), .d (I Zs), .d (I Zz), .d (I Zy), .d (I Zq)], e := 71 }, { cells := [.d (Bo false), .d (Bo false), .d (Bo false), .d (Bo true)], e := 215 }, { cells := [.d (I (5 : Int)), .d (I (-1 : Int)), .d (I (0 : Int)), .d (I (-1 : Int)), .d (I Zz), .d (I Zy), .d (I Zq)], e := 71 }]) _ _ r (by exact Nat.zero_le _) H ?_ ?_
 intro K_16 H N38 hN38
 refine b7 ?_
 refine c9 [1, 3, 4, 17] ?_
 simp only [go_sem, simprocAttr, sw0]
 repeat (refine And.intro (by omega) ?_)
 refine d5 rfl (fun h39 => ?_) (fun h39 => ?_)
 replace H := n6 h39 H
 refine c9 [1, 3, 4] ?_
 simp only [go_sem, simprocAttr, sw0]
 repeat (refine And.intro (by omega) ?_)
 refine hN38 [] () _ H (by exact trivial) ?_
 simp only [sw1, go_sem, simprocAttr]
 replace H := l7 h39 H
 cases H
 rintro _ H
 try simp only [go_sem, simprocAttr]
 refine k5 (τ := Unit) [1, 3, 4] 3 (fun _ => []) (fun _ => [{ cells := [.d (I (5 : Int)), .d (I Zv), .d (I Zw), .d (I Zs), .d (I Zz), .d (I Zy), .d (I Zq)], e := 71 }, { cells := [.d (Bo false), .d (Bo false), .d (Bo false), .d (Bo true)], e := 215 }, { cells := [.d (I (5 : Int)), .d (I (-1 : Int)), .d (I (0 : Int)), .d (I (-1 : Int)), .d (I (0 : Int)), .d (I Zy), .d (I Zq)], e := 71 }]) _ _ r (by exact Nat.zero_le _) H ?_ ?_
 intro K_17 H N40 hN40
 refine b7 ?_
 refine c9 [1, 3, 4, 21] ?_
 simp only [go_sem, simprocAttr, sw0]
 repeat (refine And.intro (by omega) ?_)
 refine d5 rfl (fun h41 => ?_) (fun h41 => ?_)
 replace H := n6 h41 H
 refine c9 [1, 3, 4] ?_
 simp only [go_sem, simprocAttr, sw0]
 repeat (refine And.intro (by omega) ?_)
 refine hN40 [] () _ H (by exact trivial) ?_
 simp only [sw1, go_sem, simprocAttr]
 replace H := l7 h41 H
 cases H
 rintro _ H
 try simp only [go_sem, simprocAttr]
 refine b7 ?_
 refine b7 ?_
 refine c9 [1, 4, 25] ?_
 simp only [go_sem, simprocAttr, sw0]
 repeat (refine And.intro (by omega) ?_)
 refine d5 rfl (fun h42 => ?_) (fun h42 => ?_)
 replace H := n6 h42 H
 cases H
 replace H := l7 h42 H
 refine d8 ?_
 refine b7 ?_
 refine c9 [2] ?_
 simp only [go_sem, simprocAttr, sw0]
 refine d7 (PW.Ends.intro (.inr rfl) ?_)
 simp only [go_sem, simprocAttr, sw0]
 obtain rfl := Option.some.inj H
 refine b8 4 (by exact trivial) ?_
 rfl

theorem G8 (N : Nat) (Z1c : Int) (Z1a : Int) (Z1f : Int) (Z1e : Int) (Z1d : Int) (Z19 : Int) (Z1b : Int) (s_at : Int) (s_phones : List (Int × Int × Int × Int × Int × Int × Int)) (tick : Int) (r : Bool) (H : n1 N Z1c Z1a Z1f Z1e Z1d Z19 Z1b s_at s_phones tick = some r) : CallOK Tryz.prog 153 [(.ref [(I Z1c), (I Z1a), (I Z1f), (I Z1e), (I Z1d), (I Z19), (I Z1b), (I s_at), (.list s_phones.length (s_phones.flatMap (fun (x : Int × Int × Int × Int × Int × Int × Int) => [(I x.1), (I x.2.1), (I x.2.2.1), (I x.2.2.2.1), (I x.2.2.2.2.1), (I x.2.2.2.2.2.1), (I x.2.2.2.2.2.2)])))]), (I tick)] (.d (Bo r)) [] := by
 refine i7 Tryz.func153 rfl (by rw [Tryz.results153]) Tryz.ntmps153 Tryz.call153 ?_
 change PW _ _ _ _ _
 try simp only [go_sem, simprocAttr]
 unfold n1 at H
 refine b7 ?_
 refine c9 [0, 1] ?_
 simp only [go_sem, simprocAttr, sw0]
 refine b7 ?_
 obtain ⟨c1, H⟩ := j6 H
 refine c9 [4] ?_
 simp only [go_sem, simprocAttr, sw0]
 repeat (refine And.intro (by omega) ?_)
 refine d7 (PW.Ends.intro (.inr rfl) ?_)
 simp only [go_sem, simprocAttr, sw0]
 obtain rfl := Option.some.inj H
 refine b8 4 (by exact trivial) ?_
 rfl

theorem access_site_isPreamble_ok (N : Nat) (Z1c : Int) (Z1a : Int) (Z1f : Int) (Z1e : Int) (Z1d : Int) (Z19 : Int) (Z1b : Int) (s_at : Int) (s_phones : List (Int × Int × Int × Int × Int × Int × Int)) (n : Int) (r : Bool) (H : w4 N Z1c Z1a Z1f Z1e Z1d Z19 Z1b s_at s_phones n = some r) : CallOK Tryz.prog 154 [(.ref [(I Z1c), (I Z1a), (I Z1f), (I Z1e), (I Z1d), (I Z19), (I Z1b), (I s_at), (.list s_phones.length (s_phones.flatMap (fun (x : Int × Int × Int × Int × Int × Int × Int) => [(I x.1), (I x.2.1), (I x.2.2.1), (I x.2.2.2.1), (I x.2.2.2.2.1), (I x.2.2.2.2.2.1), (I x.2.2.2.2.2.2)])))]), (I n)] (.d (Bo r)) [] := by
 refine i7 Tryz.func154 rfl (by rw [Tryz.results154]) Tryz.ntmps154 Tryz.call154 ?_
 change PW _ _ _ _ _
 try simp only [go_sem, simprocAttr]
 unfold w4 at H
 refine b7 ?_
 refine c9 [0, 1] ?_
 simp only [go_sem, simprocAttr, sw0]
 refine b7 ?_
 obtain ⟨x1, e1, H⟩ := d4 H
 refine d6 fun K hK => OW.run [4] ?_
 simp only [go_sem, simprocAttr, sw0]
 repeat (refine And.intro (by omega) ?_)
 refine g9 4 rfl rfl rfl (by first | exact rfl | ((simp only [go_sem, List.toList_toArray, simprocAttr]); exact rfl)) ?_ (i8 N _ _ _ _ e1) ?_ ?_ ?_ ?_
 rfl
 exact g8 rfl
 exact .inl rfl
 (simp only [go_sem, Nat.reduceLT])
 refine OW.run [4] ?_
 simp only [go_sem, simprocAttr, sw0]
 refine OW.nil (hK _ ?_)
 refine d7 (PW.Ends.intro (.inr rfl) ?_)
 simp only [go_sem, simprocAttr, sw0]
 obtain rfl := Option.some.inj H
 refine b8 4 (by exact trivial) ?_
 rfl

theorem E6 (N : Nat) (Z1c : Int) (Z1a : Int) (Z1f : Int) (Z1e : Int) (Z1d : Int) (Z19 : Int) (Z1b : Int) (s_at : Int) (s_phones : List (Int × Int × Int × Int × Int × Int × Int)) (n : Int) (r : Bool) (H : p8 N Z1c Z1a Z1f Z1e Z1d Z19 Z1b s_at s_phones n = some r) : CallOK Tryz.prog 138 [(.ref [(I Z1c), (I Z1a), (I Z1f), (I Z1e), (I Z1d), (I Z19), (I Z1b), (I s_at), (.list s_phones.length (s_phones.flatMap (fun (x : Int × Int × Int × Int × Int × Int × Int) => [(I x.1), (I x.2.1), (I x.2.2.1), (I x.2.2.2.1), (I x.2.2.2.2.1), (I x.2.2.2.2.2.1), (I x.2.2.2.2.2.2)])))]), (I n)] (.d (Bo r)) [] := by
 refine i7 Tryz.func138 rfl (by rw [Tryz.results138]) Tryz.ntmps138 Tryz.call138 ?_
 change PW _ _ _ _ _
 try simp only [go_sem, simprocAttr]
 unfold p8 at H
 refine b7 ?_
 refine c9 [0, 1] ?_
 simp only [go_sem, simprocAttr, sw0]
 refine b7 ?_
 obtain ⟨x1, e1, H⟩ := d4 H
 refine d6 fun K hK => OW.run [4] ?_
 simp only [go_sem, simprocAttr, sw0]
 repeat (refine And.intro (by omega) ?_)
 refine g9 4 rfl rfl rfl (by first | exact rfl | ((simp only [go_sem, List.toList_toArray, simprocAttr]); exact rfl)) ?_ (i8 N _ _ _ _ e1) ?_ ?_ ?_ ?_
 rfl
 exact g8 rfl
 exact .inl rfl
 (simp only [go_sem, Nat.reduceLT])
 refine OW.run [4] ?_
 simp only [go_sem, simprocAttr, sw0]
 refine OW.nil (hK _ ?_)
 refine d7 (PW.Ends.intro (.inr rfl) ?_)
 simp only [go_sem, simprocAttr, sw0]
 obtain rfl := Option.some.inj H
 refine b8 4 (by exact trivial) ?_
 rfl

theorem access_held_1_ok (N : Nat) (Zx : Int) (Zv : Int) (Zw : Int) (Zs : Int) (Zz : Int) (Zy : Int) (Zq : Int) (a1 : Int) (r : Bool) (H : G9 N Zx Zv Zw Zs Zz Zy Zq a1 = some r) : CallOK Tryz.prog 140 [(.agg [(I Zx), (I Zv), (I Zw), (I Zs), (I Zz), (I Zy), (I Zq)]), (.ref [(I a1)])] (.d (Bo r)) [] := by
 refine i7 Tryz.func140 rfl (by rw [Tryz.results140]) Tryz.ntmps140 Tryz.call140 ?_
 change PW _ _ _ _ _
 try simp only [go_sem, simprocAttr]
 unfold G9 at H
 refine b7 ?_
 refine c9 [1, 2] ?_
 simp only [go_sem, simprocAttr, sw0]
 refine b7 ?_
 refine c9 [3] ?_
 simp only [go_sem, simprocAttr, sw0]
 repeat (refine And.intro (by omega) ?_)
 refine d7 (PW.Ends.intro (.inr rfl) ?_)
 simp only [go_sem, simprocAttr, sw0]
 obtain rfl := Option.some.inj H
 refine b8 4 (by exact trivial) ?_
 rfl

theorem u4 (N : Nat) (s : List (Int × Int × Int × Int × Int × Int × Int)) (f_g : FuncId) (f_c : List D) (f : Int → Int → Int → Int → Int → Int → Int → Option Bool) (f_h : ∀ y0 y1 y2 y3 y4 y5 y6 r0, f y0 y1 y2 y3 y4 y5 y6 = some r0 → CallOK Tryz.prog f_g ((.agg [(I y0), (I y1), (I y2), (I y3), (I y4), (I y5), (I y6)]) :: f_c.map nz) (.d (Bo r0)) []) (r : Int) (H : slices_IndexFunc_api_AccessPhone_api_AccessPhone N s f = some r) : CallOK Tryz.prog 158 [(.list s.length (s.flatMap (fun (x : Int × Int × Int × Int × Int × Int × Int) => [(I x.1), (I x.2.1), (I x.2.2.1), (I x.2.2.2.1), (I x.2.2.2.2.1), (I x.2.2.2.2.2.1), (I x.2.2.2.2.2.2)]))), .clo f_g f_c] (.d (I r)) [] := by
 refine i7 Tryz.func158 rfl (by rw [Tryz.results158]) Tryz.ntmps158 Tryz.call158 ?_
 change PW _ _ _ _ _
 try simp only [go_sem, simprocAttr]
 unfold slices_IndexFunc_api_AccessPhone_api_AccessPhone at H
 refine b7 ?_
 refine c9 [0, 1] ?_
 simp only [go_sem, simprocAttr, sw0]
 refine k5 (τ := Unit) [] 0 (fun _ => []) (fun _ => []) _ _ r (by exact Nat.le_refl _) H ?_ ?_
 intro K_ H N1 hN1
 refine b7 ?_
 refine c9 [0, 1, 7, 8] ?_
 simp only [go_sem, simprocAttr, sw0]
 refine PW.block ?_
 refine C7 (σ := Int) [0, 1, 7, 8] 0 (fun t8 => [(8, .d (I t8))]) (fun t8 => []) (j5 N s f K_) r N (0 : Int) (by exact Nat.le_refl _) H (by (simp only [sw1, go_sem, simprocAttr]; done)) ?_
 rintro n t8 H N2 hN2
 unfold j5 at H
 try simp only [go_sem, simprocAttr]
 refine b7 ?_
 refine c9 [0, 1, 7, 8, 9] ?_
 simp only [go_sem, simprocAttr, sw0]
 refine b7 ?_
 refine d5 rfl (fun h3 => ?_) (fun h3 => ?_)
 replace H := n6 h3 H
 refine d8 ?_
 refine b7 ?_
 refine PW.block ?_
 refine b7 ?_
 refine c9 [0, 1, 5, 7, 8] ?_
 simp only [go_sem, simprocAttr, sw0]
 refine b7 ?_
 obtain ⟨c4, H⟩ := j6 H
 obtain ⟨x1, e1, H⟩ := d4 H
 refine d6 fun K hK => OW.run [0, 1, 5, 7, 8, 16] ?_
 (simp only [go_sem, simprocAttr, sw0, zf1W3a, zf2W3a s t8.toNat (by omega)])
 repeat (refine And.intro (by omega) ?_)
 refine g9 4 rfl rfl rfl (by first | exact rfl | ((simp only [go_sem, List.toList_toArray, simprocAttr]); exact rfl)) ?_ (f_h _ _ _ _ _ _ _ _ e1) ?_ ?_ ?_ ?_
 · (((simp only [go_sem, sw1, simprocAttr]; try simp only [seg, go_sem, simprocAttr])); done)
 · (refine d9 ?_; (simp only [go_sem, sw2, List.length_set, List.length_replicate, and_true, true_and, Nat.le_refl, simprocAttr]; done))
 exact .inr ⟨rfl, rfl⟩
 (simp only [go_sem, Nat.reduceLT])
 refine OW.run [0, 1, 5, 7, 8, 16] ?_
 (simp only [go_sem, simprocAttr, sw0, zf1W3a, zf2W3a s t8.toNat (by omega)])
 refine OW.nil (hK _ ?_)
 refine d5 rfl (fun h5 => ?_) (fun h5 => ?_)
 replace H := n6 h5 H
 refine b7 ?_
 refine c9 [4] ?_
 simp only [go_sem, simprocAttr, sw0]
 refine d7 (PW.Ends.intro (.inr rfl) ?_)
 simp only [go_sem, simprocAttr, sw0]
 obtain rfl := Option.some.inj H
 refine b8 4 (by exact trivial) ?_
 rfl
 replace H := l7 h5 H
 refine d8 ?_
 refine c9 [0, 1, 7, 8] ?_
 simp only [go_sem, simprocAttr, sw0]
 refine hN2 [] (w64 (t8 + (1 : Int))) _ H (by exact trivial) ?_
 simp only [sw1, go_sem, simprocAttr]
 replace H := l7 h3 H
 refine o6 ?_
 refine hN1 [] () _ H (by exact trivial) ?_
 simp only [sw1, go_sem, simprocAttr]
 rintro _ H
 try simp only [go_sem, simprocAttr]
 refine b7 ?_
 refine c9 [4] ?_
 simp only [go_sem, simprocAttr, sw0]
 refine d7 (PW.Ends.intro (.inr rfl) ?_)
 simp only [go_sem, simprocAttr, sw0]
 obtain rfl := Option.some.inj H
 refine b8 4 (by exact trivial) ?_
 rfl

theorem m9 (N : Nat) (s : List (Int × Int × Int × Int × Int × Int × Int)) (f_g : FuncId) (f_c : List D) (f : Int → Int → Int → Int → Int → Int → Int → Option Bool) (f_h : ∀ y0 y1 y2 y3 y4 y5 y6 r0, f y0 y1 y2 y3 y4 y5 y6 = some r0 → CallOK Tryz.prog f_g ((.agg [(I y0), (I y1), (I y2), (I y3), (I y4), (I y5), (I y6)]) :: f_c.map nz) (.d (Bo r0)) []) (r : Bool) (H : j2 N s f = some r) : CallOK Tryz.prog 139 [(.list s.length (s.flatMap (fun (x : Int × Int × Int × Int × Int × Int × Int) => [(I x.1), (I x.2.1), (I x.2.2.1), (I x.2.2.2.1), (I x.2.2.2.2.1), (I x.2.2.2.2.2.1), (I x.2.2.2.2.2.2)]))), .clo f_g f_c] (.d (Bo r)) [] := by
 refine i7 Tryz.func139 rfl (by rw [Tryz.results139]) Tryz.ntmps139 Tryz.call139 ?_
 change PW _ _ _ _ _
 try simp only [go_sem, simprocAttr]
 unfold j2 at H
 refine b7 ?_
 refine c9 [0, 1] ?_
 simp only [go_sem, simprocAttr, sw0]
 refine b7 ?_
 obtain ⟨x1, e1, H⟩ := d4 H
 refine d6 fun K hK => OW.run [4] ?_
 simp only [go_sem, simprocAttr, sw0]
 refine g9 4 rfl rfl rfl (by first | exact rfl | ((simp only [go_sem, List.toList_toArray, simprocAttr]); exact rfl)) ?_ (u4 N _ f_g f_c f f_h _ e1) ?_ ?_ ?_ ?_
 rfl
 exact g8 rfl
 exact .inl rfl
 (simp only [go_sem, Nat.reduceLT])
 refine OW.run [4] ?_
 simp only [go_sem, simprocAttr, sw0]
 refine OW.nil (hK _ ?_)
 refine d7 (PW.Ends.intro (.inr rfl) ?_)
 simp only [go_sem, simprocAttr, sw0]
 obtain rfl := Option.some.inj H
 refine b8 4 (by exact trivial) ?_
 rfl

theorem access_held_ok (N : Nat) (l : List (Int × Int × Int × Int × Int × Int × Int)) (identity : Int) (r : Bool) (H : access_held N l identity = some r) : CallOK Tryz.prog 111 [(.list l.length (l.flatMap (fun (x : Int × Int × Int × Int × Int × Int × Int) => [(I x.1), (I x.2.1), (I x.2.2.1), (I x.2.2.2.1), (I x.2.2.2.2.1), (I x.2.2.2.2.2.1), (I x.2.2.2.2.2.2)]))), (I identity)] (.d (Bo r)) [] := by
 refine i7 Tryz.func111 rfl (by rw [Tryz.results111]) Tryz.ntmps111 Tryz.call111 ?_
 change PW _ _ _ _ _
 try simp only [go_sem, simprocAttr]
 unfold access_held at H
 refine b7 ?_
 refine c9 [0, 3] ?_
 simp only [go_sem, simprocAttr, sw0]
 refine b7 ?_
 obtain ⟨x1, e1, H⟩ := d4 H
 refine d6 fun K hK => OW.run [4] ?_
 simp only [go_sem, simprocAttr, sw0]
 refine g9 4 rfl rfl rfl (by first | exact rfl | ((simp only [go_sem, List.toList_toArray, simprocAttr]); exact rfl)) ?_ (m9 N _ 140 [(.ref [(I identity)])] (fun y0 y1 y2 y3 y4 y5 y6 => G9 N y0 y1 y2 y3 y4 y5 y6 identity) (fun y0 y1 y2 y3 y4 y5 y6 r h => access_held_1_ok N y0 y1 y2 y3 y4 y5 y6 _ r h) _ e1) ?_ ?_ ?_ ?_
 rfl
 · (refine d9 ?_; (simp only [go_sem, sw2, List.length_set, List.length_replicate, and_true, true_and, Nat.le_refl, simprocAttr]; done))
 exact .inr ⟨rfl, rfl⟩
 (simp only [go_sem, Nat.reduceLT])
 refine OW.run [4] ?_
 simp only [go_sem, simprocAttr, sw0]
 refine OW.nil (hK _ ?_)
 refine d7 (PW.Ends.intro (.inr rfl) ?_)
 simp only [go_sem, simprocAttr, sw0]
 obtain rfl := Option.some.inj H
 refine b8 4 (by exact trivial) ?_
 rfl

theorem access_had_1_ok (N : Nat) (Zx : Int) (Zv : Int) (Zw : Int) (Zs : Int) (Zz : Int) (Zy : Int) (Zq : Int) (a1 : Int) (r : Bool) (H : access_had_1 N Zx Zv Zw Zs Zz Zy Zq a1 = some r) : CallOK Tryz.prog 164 [(.agg [(I Zx), (I Zv), (I Zw), (I Zs), (I Zz), (I Zy), (I Zq)]), (.ref [(I a1)])] (.d (Bo r)) [] := by
 refine i7 Tryz.func164 rfl (by rw [Tryz.results164]) Tryz.ntmps164 Tryz.call164 ?_
 change PW _ _ _ _ _
 try simp only [go_sem, simprocAttr]
 unfold access_had_1 at H
 refine b7 ?_
 refine c9 [1, 2] ?_
 simp only [go_sem, simprocAttr, sw0]
 refine b7 ?_
 refine c9 [3] ?_
 simp only [go_sem, simprocAttr, sw0]
 repeat (refine And.intro (by omega) ?_)
 refine d7 (PW.Ends.intro (.inr rfl) ?_)
 simp only [go_sem, simprocAttr, sw0]
 obtain rfl := Option.some.inj H
 refine b8 4 (by exact trivial) ?_
 rfl

theorem access_had_ok (N : Nat) (l : List (Int × Int × Int × Int × Int × Int × Int)) (identity : Int) (r : Bool) (H : access_had N l identity = some r) : CallOK Tryz.prog 155 [(.list l.length (l.flatMap (fun (x : Int × Int × Int × Int × Int × Int × Int) => [(I x.1), (I x.2.1), (I x.2.2.1), (I x.2.2.2.1), (I x.2.2.2.2.1), (I x.2.2.2.2.2.1), (I x.2.2.2.2.2.2)]))), (I identity)] (.d (Bo r)) [] := by
 refine i7 Tryz.func155 rfl (by rw [Tryz.results155]) Tryz.ntmps155 Tryz.call155 ?_
 change PW _ _ _ _ _
 try simp only [go_sem, simprocAttr]
 unfold access_had at H
 refine b7 ?_
 refine c9 [0, 3] ?_
 simp only [go_sem, simprocAttr, sw0]
 refine b7 ?_
 obtain ⟨x1, e1, H⟩ := d4 H
 refine d6 fun K hK => OW.run [4] ?_
 simp only [go_sem, simprocAttr, sw0]
 refine g9 4 rfl rfl rfl (by first | exact rfl | ((simp only [go_sem, List.toList_toArray, simprocAttr]); exact rfl)) ?_ (m9 N _ 164 [(.ref [(I identity)])] (fun y0 y1 y2 y3 y4 y5 y6 => access_had_1 N y0 y1 y2 y3 y4 y5 y6 identity) (fun y0 y1 y2 y3 y4 y5 y6 r h => access_had_1_ok N y0 y1 y2 y3 y4 y5 y6 _ r h) _ e1) ?_ ?_ ?_ ?_
 rfl
 · (refine d9 ?_; (simp only [go_sem, sw2, List.length_set, List.length_replicate, and_true, true_and, Nat.le_refl, simprocAttr]; done))
 exact .inr ⟨rfl, rfl⟩
 (simp only [go_sem, Nat.reduceLT])
 refine OW.run [4] ?_
 simp only [go_sem, simprocAttr, sw0]
 refine OW.nil (hK _ ?_)
 refine d7 (PW.Ends.intro (.inr rfl) ?_)
 simp only [go_sem, simprocAttr, sw0]
 obtain rfl := Option.some.inj H
 refine b8 4 (by exact trivial) ?_
 rfl

theorem access_site_phoneErr_ok (N : Nat) (Z1c : Int) (Z1a : Int) (Z1f : Int) (Z1e : Int) (Z1d : Int) (Z19 : Int) (Z1b : Int) (s_at : Int) (s_phones : List (Int × Int × Int × Int × Int × Int × Int)) (number : Int) (r : Int) (H : o8 N Z1c Z1a Z1f Z1e Z1d Z19 Z1b s_at s_phones number = some r) : CallOK Tryz.prog 123 [(.ref [(I Z1c), (I Z1a), (I Z1f), (I Z1e), (I Z1d), (I Z19), (I Z1b), (I s_at), (.list s_phones.length (s_phones.flatMap (fun (x : Int × Int × Int × Int × Int × Int × Int) => [(I x.1), (I x.2.1), (I x.2.2.1), (I x.2.2.2.1), (I x.2.2.2.2.1), (I x.2.2.2.2.2.1), (I x.2.2.2.2.2.2)])))]), (I number)] (.d (I r)) [] := by
 refine i7 Tryz.func123 rfl (by rw [Tryz.results123]) Tryz.ntmps123 Tryz.call123 ?_
 change PW _ _ _ _ _
 try simp only [go_sem, simprocAttr]
 unfold o8 at H
 refine b7 ?_
 refine c9 [0, 1] ?_
 simp only [go_sem, simprocAttr, sw0]
 refine b7 ?_
 obtain ⟨c1, H⟩ := j6 H
 obtain ⟨c2, H⟩ := j6 H
 refine D6 15 [13] [71] mixed (by kernel_rfl) (by decide) rfl fun K hK => ?_
 refine FWO.run ?_
 (simp only [go_sem, simprocAttr, sw0, zf1W3a, zf2W3a s_phones number.toNat (by omega), zf3W3a, slice_lenF (fun (x : Int × Int × Int × Int × Int × Int × Int) => [(I x.1), (I x.2.1), (I x.2.2.1), (I x.2.2.2.1), (I x.2.2.2.2.1), (I x.2.2.2.2.2.1), (I x.2.2.2.2.2.2)]) (s_phones.take number.toNat) number.toNat (by simp only [List.length_take, List.length_drop]; omega)])
 repeat (refine And.intro (by first | omega | rfl) ?_)
 first | refine FWO.nil ?_ | skip
 change OW _ _ _ _ _ _
 refine OW.run [0, 5, 6] ?_
 (simp only [go_sem, simprocAttr, sw0, zf1W3a, zf2W3a s_phones number.toNat (by omega), zf3W3a, slice_lenF (fun (x : Int × Int × Int × Int × Int × Int × Int) => [(I x.1), (I x.2.1), (I x.2.2.1), (I x.2.2.2.1), (I x.2.2.2.2.1), (I x.2.2.2.2.2.1), (I x.2.2.2.2.2.2)]) (s_phones.take number.toNat) number.toNat (by simp only [List.length_take, List.length_drop]; omega)])
 refine OW.nil (hK _ ?_)
 refine b7 ?_
 refine b7 ?_
 obtain ⟨x1, e1, H⟩ := d4 H
 refine d6 fun K hK => OW.run [0, 5, 6, 26] ?_
 simp only [go_sem, simprocAttr, sw0]
 repeat (refine And.intro (by omega) ?_)
 refine g9 4 rfl rfl rfl (by first | exact rfl | ((simp only [go_sem, List.toList_toArray, simprocAttr]); exact rfl)) ?_ (i8 N _ _ _ _ e1) ?_ ?_ ?_ ?_
 rfl
 exact g8 rfl
 exact .inl rfl
 (simp only [go_sem, Nat.reduceLT])
 refine OW.run [0, 5, 6, 26] ?_
 simp only [go_sem, simprocAttr, sw0]
 refine OW.nil (hK _ ?_)
 refine d5 rfl (fun h3 => ?_) (fun h3 => ?_)
 replace H := n6 h3 H
 refine b7 ?_
 refine c9 [4] ?_
 simp only [go_sem, simprocAttr, sw0]
 refine d7 (PW.Ends.intro (.inr rfl) ?_)
 simp only [go_sem, simprocAttr, sw0]
 obtain rfl := Option.some.inj H
 refine b8 4 (by exact trivial) ?_
 rfl
 replace H := l7 h3 H
 refine d8 ?_
 refine b7 ?_
 refine b7 ?_
 obtain ⟨x2, e2, H⟩ := d4 H
 obtain ⟨x3, e3, H⟩ := d4 H
 obtain ⟨x4, e4, H⟩ := d4 H
 obtain ⟨x5, e5, H⟩ := d4 H
 obtain ⟨x6, e6, H⟩ := d4 H
 refine j4 5 mixed (by kernel_rfl) fun K hK => ?_
 change FW _ _ _ _ _
 refine FW.run ?_
 simp only [go_sem, simprocAttr, sw0]
 repeat (refine And.intro (by omega) ?_)
 refine o2 4 rfl rfl rfl (by first | exact rfl | ((simp only [go_sem, List.toList_toArray, simprocAttr]); exact rfl)) ?_ (access_isDraw_ok N _ _ e2) ?_ ?_ ?_ ?_
 rfl
 exact g8 rfl
 exact .inl rfl
 (simp only [go_sem, Nat.reduceLT])
 refine FW.run ?_
 simp only [go_sem, simprocAttr, sw0]
 refine o2 4 rfl rfl rfl (by first | exact rfl | ((simp only [go_sem, List.toList_toArray, simprocAttr]); exact rfl)) ?_ (i6 N _ _ _ e3) ?_ ?_ ?_ ?_
 rfl
 exact g8 rfl
 exact .inl rfl
 (simp only [go_sem, Nat.reduceLT])
 refine FW.run ?_
 simp only [go_sem, simprocAttr, sw0]
 refine FW.nil ?_
 change OW _ _ _ _ _ _
 refine OW.run [0, 5, 6, 7] ?_
 simp only [go_sem, simprocAttr, sw0]
 refine g9 4 rfl rfl rfl (by first | exact rfl | ((simp only [go_sem, List.toList_toArray, simprocAttr]); exact rfl)) ?_ (access_fits_ok N _ _ _ _ _ _ _ _ e4) ?_ ?_ ?_ ?_
 rfl
 · (refine d9 ?_; (simp only [go_sem, sw2, List.length_set, List.length_replicate, and_true, true_and, Nat.le_refl, simprocAttr]; done))
 exact .inl rfl
 (simp only [go_sem, Nat.reduceLT])
 refine OW.run [0, 5, 6, 7] ?_
 simp only [go_sem, simprocAttr, sw0]
 refine g9 4 rfl rfl rfl (by first | exact rfl | ((simp only [go_sem, List.toList_toArray, simprocAttr]); exact rfl)) ?_ (i6 N _ _ _ e5) ?_ ?_ ?_ ?_
 rfl
 exact g8 rfl
 exact .inl rfl
 (simp only [go_sem, Nat.reduceLT])
 refine OW.run [0, 5, 6, 7] ?_
 simp only [go_sem, simprocAttr, sw0]
 refine g9 4 rfl rfl rfl (by first | exact rfl | ((simp only [go_sem, List.toList_toArray, simprocAttr]); exact rfl)) ?_ (m7 N _ _ e6) ?_ ?_ ?_ ?_
 rfl
 · (refine d9 ?_; (simp only [go_sem, sw2, List.length_set, List.length_replicate, and_true, true_and, Nat.le_refl, simprocAttr]; simp only [seg, go_sem, sw2, List.length_set, List.length_replicate, and_true, true_and, Nat.le_refl, simprocAttr]; done))
 exact .inr ⟨rfl, rfl⟩
 (simp only [go_sem, Nat.reduceLT])
 refine OW.run [0, 5, 6, 7] ?_
 simp only [go_sem, simprocAttr, sw0]
 refine OW.nil (hK _ ?_)
 refine b7 ?_
 refine c9 [0, 5, 6, 7, 37] ?_
 simp only [go_sem, simprocAttr, sw0]
 refine d5 rfl (fun h4 => ?_) (fun h4 => ?_)
 replace H := n6 h4 H
 refine b7 ?_
 refine c9 [4] ?_
 simp only [go_sem, simprocAttr, sw0]
 refine d7 (PW.Ends.intro (.inr rfl) ?_)
 simp only [go_sem, simprocAttr, sw0]
 obtain rfl := Option.some.inj H
 refine b8 4 (by exact trivial) ?_
 rfl
 replace H := l7 h4 H
 refine d8 ?_
 refine b7 ?_
 obtain ⟨x7, e7, H⟩ := d4 H
 refine j4 7 mixed (by kernel_rfl) fun K hK => ?_
 change FW _ _ _ _ _
 refine FW.run ?_
 simp only [go_sem, simprocAttr, sw0]
 repeat (refine And.intro (by omega) ?_)
 refine FW.nil ?_
 change OW _ _ _ _ _ _
 refine OW.run [0, 5, 6, 8] ?_
 simp only [go_sem, simprocAttr, sw0]
 refine g9 4 rfl rfl rfl (by first | exact rfl | ((simp only [go_sem, List.toList_toArray, simprocAttr]); exact rfl)) ?_ (i8 N _ _ _ _ e7) ?_ ?_ ?_ ?_
 rfl
 exact g8 rfl
 exact .inl rfl
 (simp only [go_sem, Nat.reduceLT])
 refine OW.run [0, 5, 6, 8] ?_
 simp only [go_sem, simprocAttr, sw0]
 refine OW.nil (hK _ ?_)
 refine b7 ?_
 refine b7 ?_
 refine c9 [0, 5, 6, 8, 48] ?_
 simp only [go_sem, simprocAttr, sw0]
 repeat (refine And.intro (by omega) ?_)
 refine PW.block ?_
 refine b7 ?_
 refine c9 [0, 5, 6, 8, 48, 49] ?_
 simp only [go_sem, simprocAttr, sw0]
 refine d5 rfl (fun h5 => ?_) (fun h5 => ?_)
 replace H := n6 h5 H
 refine b7 ?_
 obtain ⟨x8, e8, H⟩ := d4 H
 obtain ⟨x9, e9, H⟩ := d4 H
 refine j4 33 mixed (by kernel_rfl) fun K hK => ?_
 change FW _ _ _ _ _
 refine FW.run ?_
 simp only [go_sem, simprocAttr, sw0]
 repeat (refine And.intro (by omega) ?_)
 refine o2 4 rfl rfl rfl (by first | exact rfl | ((simp only [go_sem, List.toList_toArray, simprocAttr]); exact rfl)) ?_ (i8 N _ _ _ _ e8) ?_ ?_ ?_ ?_
 rfl
 exact g8 rfl
 exact .inl rfl
 (simp only [go_sem, Nat.reduceLT])
 refine FW.run ?_
 simp only [go_sem, simprocAttr, sw0]
 repeat (refine And.intro (by omega) ?_)
 refine FW.callG' 4 rfl rfl ?_ (fun hg => by first | rfl | (simp only [go_sem, ↓reduceIte]; rfl)) (fun hg => by ((simp only [go_sem, List.toList_toArray, simprocAttr]); exact rfl)) (fun hg => ?_) (fun hg => (G8 N _ _ _ _ _ _ _ _ _ _ _ (grd_t hg e9))) ?_ ?_ ?_ ?_
 simp only [go_sem, simprocAttr]
 rfl
 exact g8 rfl
 exact .inl rfl
 (simp only [go_sem, Nat.reduceLT])
 refine FW.run ?_
 simp only [go_sem, simprocAttr, sw0]
 repeat (refine And.intro (by omega) ?_)
 refine FW.nil ?_
 change OW _ _ _ _ _ _
 refine OW.run [0, 5, 8, 9] ?_
 simp only [go_sem, simprocAttr, sw0]
 refine OW.nil (hK _ ?_)
 refine b7 ?_
 obtain ⟨x10, e10, H⟩ := d4 H
 obtain ⟨x11, e11, H⟩ := d4 H
 obtain ⟨x12, e12, H⟩ := d4 H
 obtain ⟨x13, e13, H⟩ := d4 H
 obtain ⟨x14, e14, H⟩ := d4 H
 refine d6 fun K hK => OW.run [4] ?_
 simp only [go_sem, simprocAttr, sw0]
 repeat (refine And.intro (by omega) ?_)
 refine g9 4 rfl rfl rfl (by first | exact rfl | ((simp only [go_sem, List.toList_toArray, simprocAttr]); exact rfl)) ?_ (access_site_isPreamble_ok N _ _ _ _ _ _ _ _ _ _ _ e10) ?_ ?_ ?_ ?_
 rfl
 exact g8 rfl
 exact .inl rfl
 (simp only [go_sem, Nat.reduceLT])
 refine OW.run [4] ?_
 simp only [go_sem, simprocAttr, sw0]
 refine g9 4 rfl rfl rfl (by first | exact rfl | ((simp only [go_sem, List.toList_toArray, simprocAttr]); exact rfl)) ?_ (i6 N _ _ _ e11) ?_ ?_ ?_ ?_
 rfl
 exact g8 rfl
 exact .inl rfl
 (simp only [go_sem, Nat.reduceLT])
 refine OW.run [4] ?_
 simp only [go_sem, simprocAttr, sw0]
 refine g9 4 rfl rfl rfl (by first | exact rfl | ((simp only [go_sem, List.toList_toArray, simprocAttr]); exact rfl)) ?_ (i6 N _ _ _ e12) ?_ ?_ ?_ ?_
 rfl
 exact g8 rfl
 exact .inl rfl
 (simp only [go_sem, Nat.reduceLT])
 refine OW.run [4] ?_
 simp only [go_sem, simprocAttr, sw0]
 refine g9 4 rfl rfl rfl (by first | exact rfl | ((simp only [go_sem, List.toList_toArray, simprocAttr]); exact rfl)) ?_ (i6 N _ _ _ e13) ?_ ?_ ?_ ?_
 rfl
 exact g8 rfl
 exact .inl rfl
 (simp only [go_sem, Nat.reduceLT])
 refine OW.run [4] ?_
 simp only [go_sem, simprocAttr, sw0]
 refine g9 4 rfl rfl rfl (by first | exact rfl | ((simp only [go_sem, List.toList_toArray, simprocAttr]); exact rfl)) ?_ (m7 N _ _ e14) ?_ ?_ ?_ ?_
 rfl
 · (refine d9 ?_; (simp only [go_sem, sw2, List.length_set, List.length_replicate, and_true, true_and, Nat.le_refl, simprocAttr]; simp only [seg, go_sem, sw2, List.length_set, List.length_replicate, and_true, true_and, Nat.le_refl, simprocAttr]; done))
 exact .inr ⟨rfl, rfl⟩
 (simp only [go_sem, Nat.reduceLT])
 refine OW.run [4] ?_
 simp only [go_sem, simprocAttr, sw0]
 refine OW.nil (hK _ ?_)
 refine d7 (PW.Ends.intro (.inr rfl) ?_)
 simp only [go_sem, simprocAttr, sw0]
 obtain rfl := Option.some.inj H
 refine b8 4 (by exact trivial) ?_
 rfl
 replace H := l7 h5 H
 refine b7 ?_
 refine c9 [0, 5, 6, 8, 48, 97] ?_
 simp only [go_sem, simprocAttr, sw0]
 refine d5 rfl (fun h6 => ?_) (fun h6 => ?_)
 replace H := n6 h6 H
 refine b7 ?_
 obtain ⟨x15, e15, H⟩ := d4 H
 obtain ⟨x16, e16, H⟩ := d4 H
 obtain ⟨x17, e17, H⟩ := d4 H
 obtain ⟨x18, e18, H⟩ := d4 H
 obtain ⟨x19, e19, H⟩ := d4 H
 obtain ⟨x20, e20, H⟩ := d4 H
 obtain ⟨x21, e21, H⟩ := d4 H
 obtain ⟨x22, e22, H⟩ := d4 H
 refine j4 28 mixed (by kernel_rfl) fun K hK => ?_
 change FW _ _ _ _ _
 refine FW.run ?_
 simp only [go_sem, simprocAttr, sw0]
 repeat (refine And.intro (by omega) ?_)
 refine o2 4 rfl rfl rfl (by first | exact rfl | ((simp only [go_sem, List.toList_toArray, simprocAttr]); exact rfl)) ?_ (E6 N _ _ _ _ _ _ _ _ _ _ _ e15) ?_ ?_ ?_ ?_
 rfl
 exact g8 rfl
 exact .inl rfl
 (simp only [go_sem, Nat.reduceLT])
 refine FW.run ?_
 simp only [go_sem, simprocAttr, sw0]
 refine o2 4 rfl rfl rfl (by first | exact rfl | ((simp only [go_sem, List.toList_toArray, simprocAttr]); exact rfl)) ?_ (i6 N _ _ _ e16) ?_ ?_ ?_ ?_
 rfl
 exact g8 rfl
 exact .inl rfl
 (simp only [go_sem, Nat.reduceLT])
 refine FW.run ?_
 simp only [go_sem, simprocAttr, sw0]
 repeat (refine And.intro (by omega) ?_)
 refine o2 4 rfl rfl rfl (by first | exact rfl | ((simp only [go_sem, List.toList_toArray, simprocAttr]); exact rfl)) ?_ (i8 N _ _ _ _ e17) ?_ ?_ ?_ ?_
 rfl
 exact g8 rfl
 exact .inl rfl
 (simp only [go_sem, Nat.reduceLT])
 refine FW.run ?_
 simp only [go_sem, simprocAttr, sw0]
 refine o2 4 rfl rfl rfl (by first | exact rfl | ((simp only [go_sem, List.toList_toArray, simprocAttr]); exact rfl)) ?_ (i6 N _ _ _ e18) ?_ ?_ ?_ ?_
 rfl
 exact g8 rfl
 exact .inl rfl
 (simp only [go_sem, Nat.reduceLT])
 refine FW.run ?_
 simp only [go_sem, simprocAttr, sw0]
 refine o2 4 rfl rfl rfl (by first | exact rfl | ((simp only [go_sem, List.toList_toArray, simprocAttr]); exact rfl)) ?_ (i6 N _ _ _ e19) ?_ ?_ ?_ ?_
 rfl
 exact g8 rfl
 exact .inl rfl
 (simp only [go_sem, Nat.reduceLT])
 refine FW.run ?_
 simp only [go_sem, simprocAttr, sw0]
 repeat (refine And.intro (by omega) ?_)
 refine FW.nil ?_
 change OW _ _ _ _ _ _
 refine OW.run [4] ?_
 simp only [go_sem, simprocAttr, sw0]
 refine g9 4 rfl rfl rfl (by first | exact rfl | ((simp only [go_sem, List.toList_toArray, simprocAttr]); exact rfl)) ?_ (access_held_ok N _ _ _ e20) ?_ ?_ ?_ ?_
 rfl
 exact g8 rfl
 exact .inl rfl
 (simp only [go_sem, Nat.reduceLT])
 refine OW.run [4] ?_
 simp only [go_sem, simprocAttr, sw0]
 refine g9 4 rfl rfl rfl (by first | exact rfl | ((simp only [go_sem, List.toList_toArray, simprocAttr]); exact rfl)) ?_ (i6 N _ _ _ e21) ?_ ?_ ?_ ?_
 rfl
 exact g8 rfl
 exact .inl rfl
 (simp only [go_sem, Nat.reduceLT])
 refine OW.run [4] ?_
 simp only [go_sem, simprocAttr, sw0]
 refine g9 4 rfl rfl rfl (by first | exact rfl | ((simp only [go_sem, List.toList_toArray, simprocAttr]); exact rfl)) ?_ (m7 N _ _ e22) ?_ ?_ ?_ ?_
 rfl
 · (refine d9 ?_; (simp only [go_sem, sw2, List.length_set, List.length_replicate, and_true, true_and, Nat.le_refl, simprocAttr]; simp only [seg, go_sem, sw2, List.length_set, List.length_replicate, and_true, true_and, Nat.le_refl, simprocAttr]; done))
 exact .inr ⟨rfl, rfl⟩
 (simp only [go_sem, Nat.reduceLT])
 refine OW.run [4] ?_
 simp only [go_sem, simprocAttr, sw0]
 refine OW.nil (hK _ ?_)
 refine d7 (PW.Ends.intro (.inr rfl) ?_)
 simp only [go_sem, simprocAttr, sw0]
 obtain rfl := Option.some.inj H
 refine b8 4 (by exact trivial) ?_
 rfl
 replace H := l7 h6 H
 refine b7 ?_
 refine c9 [0, 5, 6, 8, 48, 132] ?_
 simp only [go_sem, simprocAttr, sw0]
 refine d5 rfl (fun h7 => ?_) (fun h7 => ?_)
 replace H := n6 h7 H
 refine b7 ?_
 obtain ⟨x23, e23, H⟩ := d4 H
 obtain ⟨x24, e24, H⟩ := d4 H
 obtain ⟨x25, e25, H⟩ := d4 H
 obtain ⟨x26, e26, H⟩ := d4 H
 refine j4 23 mixed (by kernel_rfl) fun K hK => ?_
 change FW _ _ _ _ _
 refine FW.run ?_
 simp only [go_sem, simprocAttr, sw0]
 repeat (refine And.intro (by omega) ?_)
 refine o2 4 rfl rfl rfl (by first | exact rfl | ((simp only [go_sem, List.toList_toArray, simprocAttr]); exact rfl)) ?_ (i8 N _ _ _ _ e23) ?_ ?_ ?_ ?_
 rfl
 exact g8 rfl
 exact .inl rfl
 (simp only [go_sem, Nat.reduceLT])
 refine FW.run ?_
 simp only [go_sem, simprocAttr, sw0]
 refine o2 4 rfl rfl rfl (by first | exact rfl | ((simp only [go_sem, List.toList_toArray, simprocAttr]); exact rfl)) ?_ (i6 N _ _ _ e24) ?_ ?_ ?_ ?_
 rfl
 exact g8 rfl
 exact .inl rfl
 (simp only [go_sem, Nat.reduceLT])
 refine FW.run ?_
 simp only [go_sem, simprocAttr, sw0]
 repeat (refine And.intro (by omega) ?_)
 refine FW.nil ?_
 change OW _ _ _ _ _ _
 refine OW.run [4] ?_
 simp only [go_sem, simprocAttr, sw0]
 refine g9 4 rfl rfl rfl (by first | exact rfl | ((simp only [go_sem, List.toList_toArray, simprocAttr]); exact rfl)) ?_ (i6 N _ _ _ e25) ?_ ?_ ?_ ?_
 rfl
 exact g8 rfl
 exact .inl rfl
 (simp only [go_sem, Nat.reduceLT])
 refine OW.run [4] ?_
 simp only [go_sem, simprocAttr, sw0]
 refine g9 4 rfl rfl rfl (by first | exact rfl | ((simp only [go_sem, List.toList_toArray, simprocAttr]); exact rfl)) ?_ (m7 N _ _ e26) ?_ ?_ ?_ ?_
 rfl
 · (refine d9 ?_; (simp only [go_sem, sw2, List.length_set, List.length_replicate, and_true, true_and, Nat.le_refl, simprocAttr]; simp only [seg, go_sem, sw2, List.length_set, List.length_replicate, and_true, true_and, Nat.le_refl, simprocAttr]; done))
 exact .inr ⟨rfl, rfl⟩
 (simp only [go_sem, Nat.reduceLT])
 refine OW.run [4] ?_
 simp only [go_sem, simprocAttr, sw0]
 refine OW.nil (hK _ ?_)
 refine d7 (PW.Ends.intro (.inr rfl) ?_)
 simp only [go_sem, simprocAttr, sw0]
 obtain rfl := Option.some.inj H
 refine b8 4 (by exact trivial) ?_
 rfl
 replace H := l7 h7 H
 refine b7 ?_
 refine c9 [0, 5, 6, 48, 162] ?_
 simp only [go_sem, simprocAttr, sw0]
 refine d5 rfl (fun h8 => ?_) (fun h8 => ?_)
 replace H := n6 h8 H
 refine b7 ?_
 obtain ⟨x27, e27, H⟩ := d4 H
 obtain ⟨x28, e28, H⟩ := d4 H
 obtain ⟨x29, e29, H⟩ := d4 H
 obtain ⟨x30, e30, H⟩ := d4 H
 obtain ⟨x31, e31, H⟩ := d4 H
 refine j4 8 mixed (by kernel_rfl) fun K hK => ?_
 change FW _ _ _ _ _
 refine FW.run ?_
 simp only [go_sem, simprocAttr, sw0]
 repeat (refine And.intro (by omega) ?_)
 refine o2 4 rfl rfl rfl (by first | exact rfl | ((simp only [go_sem, List.toList_toArray, simprocAttr]); exact rfl)) ?_ (E6 N _ _ _ _ _ _ _ _ _ _ _ e27) ?_ ?_ ?_ ?_
 rfl
 exact g8 rfl
 exact .inl rfl
 (simp only [go_sem, Nat.reduceLT])
 refine FW.run ?_
 simp only [go_sem, simprocAttr, sw0]
 refine o2 4 rfl rfl rfl (by first | exact rfl | ((simp only [go_sem, List.toList_toArray, simprocAttr]); exact rfl)) ?_ (i6 N _ _ _ e28) ?_ ?_ ?_ ?_
 rfl
 exact g8 rfl
 exact .inl rfl
 (simp only [go_sem, Nat.reduceLT])
 refine FW.run ?_
 simp only [go_sem, simprocAttr, sw0]
 repeat (refine And.intro (by omega) ?_)
 refine FW.nil ?_
 change OW _ _ _ _ _ _
 refine OW.run [4] ?_
 simp only [go_sem, simprocAttr, sw0]
 refine g9 4 rfl rfl rfl (by first | exact rfl | ((simp only [go_sem, List.toList_toArray, simprocAttr]); exact rfl)) ?_ (access_had_ok N _ _ _ e29) ?_ ?_ ?_ ?_
 rfl
 exact g8 rfl
 exact .inl rfl
 (simp only [go_sem, Nat.reduceLT])
 refine OW.run [4] ?_
 simp only [go_sem, simprocAttr, sw0]
 refine g9 4 rfl rfl rfl (by first | exact rfl | ((simp only [go_sem, List.toList_toArray, simprocAttr]); exact rfl)) ?_ (i6 N _ _ _ e30) ?_ ?_ ?_ ?_
 rfl
 exact g8 rfl
 exact .inl rfl
 (simp only [go_sem, Nat.reduceLT])
 refine OW.run [4] ?_
 simp only [go_sem, simprocAttr, sw0]
 refine g9 4 rfl rfl rfl (by first | exact rfl | ((simp only [go_sem, List.toList_toArray, simprocAttr]); exact rfl)) ?_ (m7 N _ _ e31) ?_ ?_ ?_ ?_
 rfl
 · (refine d9 ?_; (simp only [go_sem, sw2, List.length_set, List.length_replicate, and_true, true_and, Nat.le_refl, simprocAttr]; simp only [seg, go_sem, sw2, List.length_set, List.length_replicate, and_true, true_and, Nat.le_refl, simprocAttr]; done))
 exact .inr ⟨rfl, rfl⟩
 (simp only [go_sem, Nat.reduceLT])
 refine OW.run [4] ?_
 simp only [go_sem, simprocAttr, sw0]
 refine OW.nil (hK _ ?_)
 refine d7 (PW.Ends.intro (.inr rfl) ?_)
 simp only [go_sem, simprocAttr, sw0]
 obtain rfl := Option.some.inj H
 refine b8 4 (by exact trivial) ?_
 rfl
 replace H := l7 h8 H
 refine b7 ?_
 refine c9 [0, 5, 177] ?_
 simp only [go_sem, simprocAttr, sw0]
 refine d5 rfl (fun h9 => ?_) (fun h9 => ?_)
 replace H := n6 h9 H
 refine b7 ?_
 obtain ⟨x32, e32, H⟩ := d4 H
 refine j4 7 mixed (by kernel_rfl) fun K hK => ?_
 change FW _ _ _ _ _
 refine FW.run ?_
 simp only [go_sem, simprocAttr, sw0]
 repeat (refine And.intro (by omega) ?_)
 refine FW.nil ?_
 change OW _ _ _ _ _ _
 refine OW.run [4] ?_
 simp only [go_sem, simprocAttr, sw0]
 refine g9 4 rfl rfl rfl (by first | exact rfl | ((simp only [go_sem, List.toList_toArray, simprocAttr]); exact rfl)) ?_ (i6 N _ _ _ e32) ?_ ?_ ?_ ?_
 rfl
 exact g8 rfl
 exact .inl rfl
 (simp only [go_sem, Nat.reduceLT])
 refine OW.run [4] ?_
 simp only [go_sem, simprocAttr, sw0]
 refine OW.nil (hK _ ?_)
 refine d7 (PW.Ends.intro (.inr rfl) ?_)
 simp only [go_sem, simprocAttr, sw0]
 obtain rfl := Option.some.inj H
 refine b8 4 (by exact trivial) ?_
 rfl
 replace H := l7 h9 H
 refine d8 ?_
 refine b7 ?_
 refine c9 [4] ?_
 simp only [go_sem, simprocAttr, sw0]
 refine d7 (PW.Ends.intro (.inr rfl) ?_)
 simp only [go_sem, simprocAttr, sw0]
 obtain rfl := Option.some.inj H
 refine b8 4 (by exact trivial) ?_
 rfl
end Go.Proofs.YtbndgoeahoadlaaGreatDoor
