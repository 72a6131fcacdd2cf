import Derived.Test.YtklejiafioalnaaNsBase
import Derived.Test.YtklejiafioalnaaNsW0
set_option linter.all false
namespace Go.Proofs.Ytklejiafioalnaa
open Go.PW Go.Sh

set_option maxRecDepth 20000
set_option maxHeartbeats 8000000
theorem base_IsName_ok (N : Nat) (s : ByteArray) (r : Bool) (H : base_IsName N s = some r) : CallOK Try.prog 116 [(Sx s)] (.d (Bo r)) [] := by
 refine CallOK.of_PW Try.func116 rfl (by rw [Try.results116]) Try.ntmps116 Try.call116 ?_
 change PW _ _ _ _ _
 try simp only [go_sem, simprocAttr]
 unfold base_IsName at H
 refine PW.seq ?_
 refine PW.regionK fun K hK => OW.run [0] ?_
 simp only [go_sem, simprocAttr, sw0]
 refine OW.nil (hK _ ?_)
 refine PW.seq ?_
 refine PW.seq ?_
 refine PW.regionK fun K hK => OW.run [0, 13] ?_
 simp only [go_sem, simprocAttr, sw0]
 refine OW.nil (hK _ ?_)
 refine PW.cond rfl (fun h1 => ?_) (fun h1 => ?_)
 replace H := br_t h1 H
 refine PW.seq ?_
 refine PW.regionK fun K hK => OW.run [2] ?_
 simp only [go_sem, simprocAttr, sw0]
 refine OW.nil (hK _ ?_)
 refine PW.ret ?_
 change PW.Ends _ _ _ _ _ _
 refine PW.Ends.intro (.inr rfl) ?_
 simp only [go_sem, simprocAttr, sw0]
 obtain rfl := Option.some.inj H
 refine RetOK.data' 4 (by exact trivial) ?_
 rfl
 replace H := br_f h1 H
 refine PW.skip ?_
 refine PW.joinS (τ := Unit) [] 0 (fun _ => []) (fun _ => []) _ _ r (by exact Nat.le_refl _) H ?_ ?_
 intro K_ H N2 hN2
 refine PW.seq ?_
 refine PW.regionK fun K hK => OW.run [0, 3] ?_
 simp only [go_sem, simprocAttr, sw0]
 refine OW.nil (hK _ ?_)
 refine PW.block ?_
 refine PW.loopS (σ := Int) [0, 3] 0 (fun i => [(3, .d (I i))]) (fun i => []) (base_IsName.b1 N s K_) r N (0 : Int) (by exact Nat.le_refl _) H (by (simp only [sw1, go_sem, simprocAttr]; done)) ?_
 rintro n i H N3 hN3
 unfold base_IsName.b1 at H
 try simp only [go_sem, simprocAttr]
 refine PW.seq ?_
 refine PW.seq ?_
 refine PW.regionK fun K hK => OW.run [0, 3, 17] ?_
 simp only [go_sem, simprocAttr, sw0]
 refine OW.nil (hK _ ?_)
 refine PW.cond rfl (fun h4 => ?_) (fun h4 => ?_)
 replace H := br_t h4 H
 refine PW.skip ?_
 refine PW.seq ?_
 refine PW.block ?_
 refine PW.seq ?_
 obtain ⟨c5, H⟩ := chk_some H
 refine PW.regionK fun K hK => OW.run [0, 3, 4] ?_
 simp only [go_sem, simprocAttr, sw0]
 repeat (refine And.intro (by omega) ?_)
 refine OW.nil (hK _ ?_)
 refine PW.seq ?_
 refine PW.regionK fun K hK => ?_
 refine OW.toS [(0, .d (Sx s)), (3, .d (I i)), (4, .d (.val (.int .u8 ((s.data.getD i.toNat 0).toNat)))), (5, .d (Bo (((decide ((s.data.getD i.toNat 0).toNat ≥ (97 : Int))) && (decide ((s.data.getD i.toNat 0).toNat ≤ (122 : Int)))) || ((decide ((s.data.getD i.toNat 0).toNat ≥ (65 : Int))) && (decide ((s.data.getD i.toNat 0).toNat ≤ (90 : Int)))))))] [] ?_ (hK _ ?_)
 intro K hKE
 rcases Bool.eq_false_or_eq_true ((decide ((s.data.getD i.toNat 0).toNat ≥ (97 : Int)))) with ha0 | ha0
 rcases Bool.eq_false_or_eq_true ((decide ((s.data.getD i.toNat 0).toNat ≤ (122 : Int)))) with ha1 | ha1
 refine OW.run [0, 3, 4, 5] ?_
 (simp only [go_sem, simprocAttr, sw0, ha0, ha1])
 refine OW.nil ((congrArg K ?_).mpr hKE)
 · (first | rfl | (simp only [go_sem, simprocAttr, ha0, ha1]; done) | (simp only [go_sem, simprocAttr, ha0, ha1]; rfl))
 rcases Bool.eq_false_or_eq_true ((decide ((s.data.getD i.toNat 0).toNat ≥ (65 : Int)))) with ha2 | ha2
 refine OW.run [0, 3, 4, 5] ?_
 (simp only [go_sem, simprocAttr, sw0, ha0, ha1, ha2])
 refine OW.nil ((congrArg K ?_).mpr hKE)
 · (first | rfl | (simp only [go_sem, simprocAttr, ha0, ha1, ha2]; done) | (simp only [go_sem, simprocAttr, ha0, ha1, ha2]; rfl))
 refine OW.run [0, 3, 4, 5] ?_
 (simp only [go_sem, simprocAttr, sw0, ha0, ha1, ha2])
 refine OW.nil ((congrArg K ?_).mpr hKE)
 · (first | rfl | (simp only [go_sem, simprocAttr, ha0, ha1, ha2]; done) | (simp only [go_sem, simprocAttr, ha0, ha1, ha2]; rfl))
 rcases Bool.eq_false_or_eq_true ((decide ((s.data.getD i.toNat 0).toNat ≤ (122 : Int)))) with ha1 | ha1
 rcases Bool.eq_false_or_eq_true ((decide ((s.data.getD i.toNat 0).toNat ≥ (65 : Int)))) with ha2 | ha2
 refine OW.run [0, 3, 4, 5] ?_
 (simp only [go_sem, simprocAttr, sw0, ha0, ha1, ha2])
 refine OW.nil ((congrArg K ?_).mpr hKE)
 · (first | rfl | (simp only [go_sem, simprocAttr, ha0, ha1, ha2]; done) | (simp only [go_sem, simprocAttr, ha0, ha1, ha2]; rfl))
 refine OW.run [0, 3, 4, 5] ?_
 (simp only [go_sem, simprocAttr, sw0, ha0, ha1, ha2])
 refine OW.nil ((congrArg K ?_).mpr hKE)
 · (first | rfl | (simp only [go_sem, simprocAttr, ha0, ha1, ha2]; done) | (simp only [go_sem, simprocAttr, ha0, ha1, ha2]; rfl))
 rcases Bool.eq_false_or_eq_true ((decide ((s.data.getD i.toNat 0).toNat ≥ (65 : Int)))) with ha2 | ha2
 refine OW.run [0, 3, 4, 5] ?_
 (simp only [go_sem, simprocAttr, sw0, ha0, ha1, ha2])
 refine OW.nil ((congrArg K ?_).mpr hKE)
 · (first | rfl | (simp only [go_sem, simprocAttr, ha0, ha1, ha2]; done) | (simp only [go_sem, simprocAttr, ha0, ha1, ha2]; rfl))
 refine OW.run [0, 3, 4, 5] ?_
 (simp only [go_sem, simprocAttr, sw0, ha0, ha1, ha2])
 refine OW.nil ((congrArg K ?_).mpr hKE)
 · (first | rfl | (simp only [go_sem, simprocAttr, ha0, ha1, ha2]; done) | (simp only [go_sem, simprocAttr, ha0, ha1, ha2]; rfl))
 clear hK K
 refine PW.seq ?_
 refine PW.regionK fun K hK => ?_
 refine OW.toS [(0, .d (Sx s)), (3, .d (I i)), (54, .d (Bo ((!(((decide ((s.data.getD i.toNat 0).toNat ≥ (97 : Int))) && (decide ((s.data.getD i.toNat 0).toNat ≤ (122 : Int)))) || ((decide ((s.data.getD i.toNat 0).toNat ≥ (65 : Int))) && (decide ((s.data.getD i.toNat 0).toNat ≤ (90 : Int)))))) && ((i == (0 : Int)) || (((s.data.getD i.toNat 0).toNat != (45 : Int)) && ((decide ((s.data.getD i.toNat 0).toNat < (48 : Int))) || (decide ((s.data.getD i.toNat 0).toNat > (57 : Int)))))))))] [] ?_ (hK _ ?_)
 intro K hKE
 rcases Bool.eq_false_or_eq_true ((decide ((s.data.getD i.toNat 0).toNat ≥ (97 : Int)))) with ha0 | ha0
 rcases Bool.eq_false_or_eq_true ((decide ((s.data.getD i.toNat 0).toNat ≤ (122 : Int)))) with ha1 | ha1
 refine OW.run [0, 3, 54] ?_
 (simp only [go_sem, simprocAttr, sw0, ha0, ha1])
 refine OW.nil ((congrArg K ?_).mpr hKE)
 · (first | rfl | (simp only [go_sem, simprocAttr, ha0, ha1]; done) | (simp only [go_sem, simprocAttr, ha0, ha1]; rfl))
 rcases Bool.eq_false_or_eq_true ((decide ((s.data.getD i.toNat 0).toNat ≥ (65 : Int)))) with ha2 | ha2
 rcases Bool.eq_false_or_eq_true ((decide ((s.data.getD i.toNat 0).toNat ≤ (90 : Int)))) with ha3 | ha3
 refine OW.run [0, 3, 54] ?_
 (simp only [go_sem, simprocAttr, sw0, ha0, ha1, ha2, ha3])
 refine OW.nil ((congrArg K ?_).mpr hKE)
 · (first | rfl | (simp only [go_sem, simprocAttr, ha0, ha1, ha2, ha3]; done) | (simp only [go_sem, simprocAttr, ha0, ha1, ha2, ha3]; rfl))
 rcases Bool.eq_false_or_eq_true ((i == (0 : Int))) with ha4 | ha4
 refine OW.run [0, 3, 54] ?_
 (simp only [go_sem, simprocAttr, sw0, ha0, ha1, ha2, ha3, ha4])
 refine OW.nil ((congrArg K ?_).mpr hKE)
 · (first | rfl | (simp only [go_sem, simprocAttr, ha0, ha1, ha2, ha3, ha4]; done) | (simp only [go_sem, simprocAttr, ha0, ha1, ha2, ha3, ha4]; rfl))
 rcases Bool.eq_false_or_eq_true (((s.data.getD i.toNat 0).toNat != (45 : Int))) with ha5 | ha5
 rcases Bool.eq_false_or_eq_true ((decide ((s.data.getD i.toNat 0).toNat < (48 : Int)))) with ha6 | ha6
 refine OW.run [0, 3, 54] ?_
 (simp only [go_sem, simprocAttr, sw0, ha0, ha1, ha2, ha3, ha4, ha5, ha6])
 refine OW.nil ((congrArg K ?_).mpr hKE)
 · (first | rfl | (simp only [go_sem, simprocAttr, ha0, ha1, ha2, ha3, ha4, ha5, ha6]; done) | (simp only [go_sem, simprocAttr, ha0, ha1, ha2, ha3, ha4, ha5, ha6]; rfl))
 refine OW.run [0, 3, 54] ?_
 (simp only [go_sem, simprocAttr, sw0, ha0, ha1, ha2, ha3, ha4, ha5, ha6])
 refine OW.nil ((congrArg K ?_).mpr hKE)
 · (first | rfl | (simp only [go_sem, simprocAttr, ha0, ha1, ha2, ha3, ha4, ha5, ha6]; done) | (simp only [go_sem, simprocAttr, ha0, ha1, ha2, ha3, ha4, ha5, ha6]; rfl))
 refine OW.run [0, 3, 54] ?_
 (simp only [go_sem, simprocAttr, sw0, ha0, ha1, ha2, ha3, ha4, ha5])
 refine OW.nil ((congrArg K ?_).mpr hKE)
 · (first | rfl | (simp only [go_sem, simprocAttr, ha0, ha1, ha2, ha3, ha4, ha5]; done) | (simp only [go_sem, simprocAttr, ha0, ha1, ha2, ha3, ha4, ha5]; rfl))
 rcases Bool.eq_false_or_eq_true ((decide ((s.data.getD i.toNat 0).toNat ≤ (90 : Int)))) with ha3 | ha3
 rcases Bool.eq_false_or_eq_true ((i == (0 : Int))) with ha4 | ha4
 refine OW.run [0, 3, 54] ?_
 (simp only [go_sem, simprocAttr, sw0, ha0, ha1, ha2, ha3, ha4])
 refine OW.nil ((congrArg K ?_).mpr hKE)
 · (first | rfl | (simp only [go_sem, simprocAttr, ha0, ha1, ha2, ha3, ha4]; done) | (simp only [go_sem, simprocAttr, ha0, ha1, ha2, ha3, ha4]; rfl))
 rcases Bool.eq_false_or_eq_true (((s.data.getD i.toNat 0).toNat != (45 : Int))) with ha5 | ha5
 rcases Bool.eq_false_or_eq_true ((decide ((s.data.getD i.toNat 0).toNat < (48 : Int)))) with ha6 | ha6
 refine OW.run [0, 3, 54] ?_
 (simp only [go_sem, simprocAttr, sw0, ha0, ha1, ha2, ha3, ha4, ha5, ha6])
 refine OW.nil ((congrArg K ?_).mpr hKE)
 · (first | rfl | (simp only [go_sem, simprocAttr, ha0, ha1, ha2, ha3, ha4, ha5, ha6]; done) | (simp only [go_sem, simprocAttr, ha0, ha1, ha2, ha3, ha4, ha5, ha6]; rfl))
 refine OW.run [0, 3, 54] ?_
 (simp only [go_sem, simprocAttr, sw0, ha0, ha1, ha2, ha3, ha4, ha5, ha6])
 refine OW.nil ((congrArg K ?_).mpr hKE)
 · (first | rfl | (simp only [go_sem, simprocAttr, ha0, ha1, ha2, ha3, ha4, ha5, ha6]; done) | (simp only [go_sem, simprocAttr, ha0, ha1, ha2, ha3, ha4, ha5, ha6]; rfl))
 refine OW.run [0, 3, 54] ?_
 (simp only [go_sem, simprocAttr, sw0, ha0, ha1, ha2, ha3, ha4, ha5])
 refine OW.nil ((congrArg K ?_).mpr hKE)
 · (first | rfl | (simp only [go_sem, simprocAttr, ha0, ha1, ha2, ha3, ha4, ha5]; done) | (simp only [go_sem, simprocAttr, ha0, ha1, ha2, ha3, ha4, ha5]; rfl))
 rcases Bool.eq_false_or_eq_true ((i == (0 : Int))) with ha4 | ha4
 refine OW.run [0, 3, 54] ?_
 (simp only [go_sem, simprocAttr, sw0, ha0, ha1, ha2, ha3, ha4])
 refine OW.nil ((congrArg K ?_).mpr hKE)
 · (first | rfl | (simp only [go_sem, simprocAttr, ha0, ha1, ha2, ha3, ha4]; done) | (simp only [go_sem, simprocAttr, ha0, ha1, ha2, ha3, ha4]; rfl))
 rcases Bool.eq_false_or_eq_true (((s.data.getD i.toNat 0).toNat != (45 : Int))) with ha5 | ha5
 rcases Bool.eq_false_or_eq_true ((decide ((s.data.getD i.toNat 0).toNat < (48 : Int)))) with ha6 | ha6
 refine OW.run [0, 3, 54] ?_
 (simp only [go_sem, simprocAttr, sw0, ha0, ha1, ha2, ha3, ha4, ha5, ha6])
 refine OW.nil ((congrArg K ?_).mpr hKE)
 · (first | rfl | (simp only [go_sem, simprocAttr, ha0, ha1, ha2, ha3, ha4, ha5, ha6]; done) | (simp only [go_sem, simprocAttr, ha0, ha1, ha2, ha3, ha4, ha5, ha6]; rfl))
 refine OW.run [0, 3, 54] ?_
 (simp only [go_sem, simprocAttr, sw0, ha0, ha1, ha2, ha3, ha4, ha5, ha6])
 refine OW.nil ((congrArg K ?_).mpr hKE)
 · (first | rfl | (simp only [go_sem, simprocAttr, ha0, ha1, ha2, ha3, ha4, ha5, ha6]; done) | (simp only [go_sem, simprocAttr, ha0, ha1, ha2, ha3, ha4, ha5, ha6]; rfl))
 refine OW.run [0, 3, 54] ?_
 (simp only [go_sem, simprocAttr, sw0, ha0, ha1, ha2, ha3, ha4, ha5])
 refine OW.nil ((congrArg K ?_).mpr hKE)
 · (first | rfl | (simp only [go_sem, simprocAttr, ha0, ha1, ha2, ha3, ha4, ha5]; done) | (simp only [go_sem, simprocAttr, ha0, ha1, ha2, ha3, ha4, ha5]; rfl))
 rcases Bool.eq_false_or_eq_true ((decide ((s.data.getD i.toNat 0).toNat ≤ (122 : Int)))) with ha1 | ha1
 rcases Bool.eq_false_or_eq_true ((decide ((s.data.getD i.toNat 0).toNat ≥ (65 : Int)))) with ha2 | ha2
 rcases Bool.eq_false_or_eq_true ((decide ((s.data.getD i.toNat 0).toNat ≤ (90 : Int)))) with ha3 | ha3
 refine OW.run [0, 3, 54] ?_
 (simp only [go_sem, simprocAttr, sw0, ha0, ha1, ha2, ha3])
 refine OW.nil ((congrArg K ?_).mpr hKE)
 · (first | rfl | (simp only [go_sem, simprocAttr, ha0, ha1, ha2, ha3]; done) | (simp only [go_sem, simprocAttr, ha0, ha1, ha2, ha3]; rfl))
 rcases Bool.eq_false_or_eq_true ((i == (0 : Int))) with ha4 | ha4
 refine OW.run [0, 3, 54] ?_
 (simp only [go_sem, simprocAttr, sw0, ha0, ha1, ha2, ha3, ha4])
 refine OW.nil ((congrArg K ?_).mpr hKE)
 · (first | rfl | (simp only [go_sem, simprocAttr, ha0, ha1, ha2, ha3, ha4]; done) | (simp only [go_sem, simprocAttr, ha0, ha1, ha2, ha3, ha4]; rfl))
 rcases Bool.eq_false_or_eq_true (((s.data.getD i.toNat 0).toNat != (45 : Int))) with ha5 | ha5
 rcases Bool.eq_false_or_eq_true ((decide ((s.data.getD i.toNat 0).toNat < (48 : Int)))) with ha6 | ha6
 refine OW.run [0, 3, 54] ?_
 (simp only [go_sem, simprocAttr, sw0, ha0, ha1, ha2, ha3, ha4, ha5, ha6])
 refine OW.nil ((congrArg K ?_).mpr hKE)
 · (first | rfl | (simp only [go_sem, simprocAttr, ha0, ha1, ha2, ha3, ha4, ha5, ha6]; done) | (simp only [go_sem, simprocAttr, ha0, ha1, ha2, ha3, ha4, ha5, ha6]; rfl))
 refine OW.run [0, 3, 54] ?_
 (simp only [go_sem, simprocAttr, sw0, ha0, ha1, ha2, ha3, ha4, ha5, ha6])
 refine OW.nil ((congrArg K ?_).mpr hKE)
 · (first | rfl | (simp only [go_sem, simprocAttr, ha0, ha1, ha2, ha3, ha4, ha5, ha6]; done) | (simp only [go_sem, simprocAttr, ha0, ha1, ha2, ha3, ha4, ha5, ha6]; rfl))
 refine OW.run [0, 3, 54] ?_
 (simp only [go_sem, simprocAttr, sw0, ha0, ha1, ha2, ha3, ha4, ha5])
 refine OW.nil ((congrArg K ?_).mpr hKE)
 · (first | rfl | (simp only [go_sem, simprocAttr, ha0, ha1, ha2, ha3, ha4, ha5]; done) | (simp only [go_sem, simprocAttr, ha0, ha1, ha2, ha3, ha4, ha5]; rfl))
 rcases Bool.eq_false_or_eq_true ((decide ((s.data.getD i.toNat 0).toNat ≤ (90 : Int)))) with ha3 | ha3
 rcases Bool.eq_false_or_eq_true ((i == (0 : Int))) with ha4 | ha4
 refine OW.run [0, 3, 54] ?_
 (simp only [go_sem, simprocAttr, sw0, ha0, ha1, ha2, ha3, ha4])
 refine OW.nil ((congrArg K ?_).mpr hKE)
 · (first | rfl | (simp only [go_sem, simprocAttr, ha0, ha1, ha2, ha3, ha4]; done) | (simp only [go_sem, simprocAttr, ha0, ha1, ha2, ha3, ha4]; rfl))
 rcases Bool.eq_false_or_eq_true (((s.data.getD i.toNat 0).toNat != (45 : Int))) with ha5 | ha5
 rcases Bool.eq_false_or_eq_true ((decide ((s.data.getD i.toNat 0).toNat < (48 : Int)))) with ha6 | ha6
 refine OW.run [0, 3, 54] ?_
 (simp only [go_sem, simprocAttr, sw0, ha0, ha1, ha2, ha3, ha4, ha5, ha6])
 refine OW.nil ((congrArg K ?_).mpr hKE)
 · (first | rfl | (simp only [go_sem, simprocAttr, ha0, ha1, ha2, ha3, ha4, ha5, ha6]; done) | (simp only [go_sem, simprocAttr, ha0, ha1, ha2, ha3, ha4, ha5, ha6]; rfl))
 refine OW.run [0, 3, 54] ?_
 (simp only [go_sem, simprocAttr, sw0, ha0, ha1, ha2, ha3, ha4, ha5, ha6])
 refine OW.nil ((congrArg K ?_).mpr hKE)
 · (first | rfl | (simp only [go_sem, simprocAttr, ha0, ha1, ha2, ha3, ha4, ha5, ha6]; done) | (simp only [go_sem, simprocAttr, ha0, ha1, ha2, ha3, ha4, ha5, ha6]; rfl))
 refine OW.run [0, 3, 54] ?_
 (simp only [go_sem, simprocAttr, sw0, ha0, ha1, ha2, ha3, ha4, ha5])
 refine OW.nil ((congrArg K ?_).mpr hKE)
 · (first | rfl | (simp only [go_sem, simprocAttr, ha0, ha1, ha2, ha3, ha4, ha5]; done) | (simp only [go_sem, simprocAttr, ha0, ha1, ha2, ha3, ha4, ha5]; rfl))
 rcases Bool.eq_false_or_eq_true ((i == (0 : Int))) with ha4 | ha4
 refine OW.run [0, 3, 54] ?_
 (simp only [go_sem, simprocAttr, sw0, ha0, ha1, ha2, ha3, ha4])
 refine OW.nil ((congrArg K ?_).mpr hKE)
 · (first | rfl | (simp only [go_sem, simprocAttr, ha0, ha1, ha2, ha3, ha4]; done) | (simp only [go_sem, simprocAttr, ha0, ha1, ha2, ha3, ha4]; rfl))
 rcases Bool.eq_false_or_eq_true (((s.data.getD i.toNat 0).toNat != (45 : Int))) with ha5 | ha5
 rcases Bool.eq_false_or_eq_true ((decide ((s.data.getD i.toNat 0).toNat < (48 : Int)))) with ha6 | ha6
 refine OW.run [0, 3, 54] ?_
 (simp only [go_sem, simprocAttr, sw0, ha0, ha1, ha2, ha3, ha4, ha5, ha6])
 refine OW.nil ((congrArg K ?_).mpr hKE)
 · (first | rfl | (simp only [go_sem, simprocAttr, ha0, ha1, ha2, ha3, ha4, ha5, ha6]; done) | (simp only [go_sem, simprocAttr, ha0, ha1, ha2, ha3, ha4, ha5, ha6]; rfl))
 refine OW.run [0, 3, 54] ?_
 (simp only [go_sem, simprocAttr, sw0, ha0, ha1, ha2, ha3, ha4, ha5, ha6])
 refine OW.nil ((congrArg K ?_).mpr hKE)
 · (first | rfl | (simp only [go_sem, simprocAttr, ha0, ha1, ha2, ha3, ha4, ha5, ha6]; done) | (simp only [go_sem, simprocAttr, ha0, ha1, ha2, ha3, ha4, ha5, ha6]; rfl))
 refine OW.run [0, 3, 54] ?_
 (simp only [go_sem, simprocAttr, sw0, ha0, ha1, ha2, ha3, ha4, ha5])
 refine OW.nil ((congrArg K ?_).mpr hKE)
 · (first | rfl | (simp only [go_sem, simprocAttr, ha0, ha1, ha2, ha3, ha4, ha5]; done) | (simp only [go_sem, simprocAttr, ha0, ha1, ha2, ha3, ha4, ha5]; rfl))
 rcases Bool.eq_false_or_eq_true ((decide ((s.data.getD i.toNat 0).toNat ≥ (65 : Int)))) with ha2 | ha2
 rcases Bool.eq_false_or_eq_true ((decide ((s.data.getD i.toNat 0).toNat ≤ (90 : Int)))) with ha3 | ha3
 refine OW.run [0, 3, 54] ?_
 (simp only [go_sem, simprocAttr, sw0, ha0, ha1, ha2, ha3])
 refine OW.nil ((congrArg K ?_).mpr hKE)
 · (first | rfl | (simp only [go_sem, simprocAttr, ha0, ha1, ha2, ha3]; done) | (simp only [go_sem, simprocAttr, ha0, ha1, ha2, ha3]; rfl))
 rcases Bool.eq_false_or_eq_true ((i == (0 : Int))) with ha4 | ha4
 refine OW.run [0, 3, 54] ?_
 (simp only [go_sem, simprocAttr, sw0, ha0, ha1, ha2, ha3, ha4])
 refine OW.nil ((congrArg K ?_).mpr hKE)
 · (first | rfl | (simp only [go_sem, simprocAttr, ha0, ha1, ha2, ha3, ha4]; done) | (simp only [go_sem, simprocAttr, ha0, ha1, ha2, ha3, ha4]; rfl))
 rcases Bool.eq_false_or_eq_true (((s.data.getD i.toNat 0).toNat != (45 : Int))) with ha5 | ha5
 rcases Bool.eq_false_or_eq_true ((decide ((s.data.getD i.toNat 0).toNat < (48 : Int)))) with ha6 | ha6
 refine OW.run [0, 3, 54] ?_
 (simp only [go_sem, simprocAttr, sw0, ha0, ha1, ha2, ha3, ha4, ha5, ha6])
 refine OW.nil ((congrArg K ?_).mpr hKE)
 · (first | rfl | (simp only [go_sem, simprocAttr, ha0, ha1, ha2, ha3, ha4, ha5, ha6]; done) | (simp only [go_sem, simprocAttr, ha0, ha1, ha2, ha3, ha4, ha5, ha6]; rfl))
 refine OW.run [0, 3, 54] ?_
 (simp only [go_sem, simprocAttr, sw0, ha0, ha1, ha2, ha3, ha4, ha5, ha6])
 refine OW.nil ((congrArg K ?_).mpr hKE)
 · (first | rfl | (simp only [go_sem, simprocAttr, ha0, ha1, ha2, ha3, ha4, ha5, ha6]; done) | (simp only [go_sem, simprocAttr, ha0, ha1, ha2, ha3, ha4, ha5, ha6]; rfl))
 refine OW.run [0, 3, 54] ?_
 (simp only [go_sem, simprocAttr, sw0, ha0, ha1, ha2, ha3, ha4, ha5])
 refine OW.nil ((congrArg K ?_).mpr hKE)
 · (first | rfl | (simp only [go_sem, simprocAttr, ha0, ha1, ha2, ha3, ha4, ha5]; done) | (simp only [go_sem, simprocAttr, ha0, ha1, ha2, ha3, ha4, ha5]; rfl))
 rcases Bool.eq_false_or_eq_true ((decide ((s.data.getD i.toNat 0).toNat ≤ (90 : Int)))) with ha3 | ha3
 rcases Bool.eq_false_or_eq_true ((i == (0 : Int))) with ha4 | ha4
 refine OW.run [0, 3, 54] ?_
 (simp only [go_sem, simprocAttr, sw0, ha0, ha1, ha2, ha3, ha4])
 refine OW.nil ((congrArg K ?_).mpr hKE)
 · (first | rfl | (simp only [go_sem, simprocAttr, ha0, ha1, ha2, ha3, ha4]; done) | (simp only [go_sem, simprocAttr, ha0, ha1, ha2, ha3, ha4]; rfl))
 rcases Bool.eq_false_or_eq_true (((s.data.getD i.toNat 0).toNat != (45 : Int))) with ha5 | ha5
 rcases Bool.eq_false_or_eq_true ((decide ((s.data.getD i.toNat 0).toNat < (48 : Int)))) with ha6 | ha6
 refine OW.run [0, 3, 54] ?_
 (simp only [go_sem, simprocAttr, sw0, ha0, ha1, ha2, ha3, ha4, ha5, ha6])
 refine OW.nil ((congrArg K ?_).mpr hKE)
 · (first | rfl | (simp only [go_sem, simprocAttr, ha0, ha1, ha2, ha3, ha4, ha5, ha6]; done) | (simp only [go_sem, simprocAttr, ha0, ha1, ha2, ha3, ha4, ha5, ha6]; rfl))
 refine OW.run [0, 3, 54] ?_
 (simp only [go_sem, simprocAttr, sw0, ha0, ha1, ha2, ha3, ha4, ha5, ha6])
 refine OW.nil ((congrArg K ?_).mpr hKE)
 · (first | rfl | (simp only [go_sem, simprocAttr, ha0, ha1, ha2, ha3, ha4, ha5, ha6]; done) | (simp only [go_sem, simprocAttr, ha0, ha1, ha2, ha3, ha4, ha5, ha6]; rfl))
 refine OW.run [0, 3, 54] ?_
 (simp only [go_sem, simprocAttr, sw0, ha0, ha1, ha2, ha3, ha4, ha5])
 refine OW.nil ((congrArg K ?_).mpr hKE)
 · (first | rfl | (simp only [go_sem, simprocAttr, ha0, ha1, ha2, ha3, ha4, ha5]; done) | (simp only [go_sem, simprocAttr, ha0, ha1, ha2, ha3, ha4, ha5]; rfl))
 rcases Bool.eq_false_or_eq_true ((i == (0 : Int))) with ha4 | ha4
 refine OW.run [0, 3, 54] ?_
 (simp only [go_sem, simprocAttr, sw0, ha0, ha1, ha2, ha3, ha4])
 refine OW.nil ((congrArg K ?_).mpr hKE)
 · (first | rfl | (simp only [go_sem, simprocAttr, ha0, ha1, ha2, ha3, ha4]; done) | (simp only [go_sem, simprocAttr, ha0, ha1, ha2, ha3, ha4]; rfl))
 rcases Bool.eq_false_or_eq_true (((s.data.getD i.toNat 0).toNat != (45 : Int))) with ha5 | ha5
 rcases Bool.eq_false_or_eq_true ((decide ((s.data.getD i.toNat 0).toNat < (48 : Int)))) with ha6 | ha6
 refine OW.run [0, 3, 54] ?_
 (simp only [go_sem, simprocAttr, sw0, ha0, ha1, ha2, ha3, ha4, ha5, ha6])
 refine OW.nil ((congrArg K ?_).mpr hKE)
 · (first | rfl | (simp only [go_sem, simprocAttr, ha0, ha1, ha2, ha3, ha4, ha5, ha6]; done) | (simp only [go_sem, simprocAttr, ha0, ha1, ha2, ha3, ha4, ha5, ha6]; rfl))
 refine OW.run [0, 3, 54] ?_
 (simp only [go_sem, simprocAttr, sw0, ha0, ha1, ha2, ha3, ha4, ha5, ha6])
 refine OW.nil ((congrArg K ?_).mpr hKE)
 · (first | rfl | (simp only [go_sem, simprocAttr, ha0, ha1, ha2, ha3, ha4, ha5, ha6]; done) | (simp only [go_sem, simprocAttr, ha0, ha1, ha2, ha3, ha4, ha5, ha6]; rfl))
 refine OW.run [0, 3, 54] ?_
 (simp only [go_sem, simprocAttr, sw0, ha0, ha1, ha2, ha3, ha4, ha5])
 refine OW.nil ((congrArg K ?_).mpr hKE)
 · (first | rfl | (simp only [go_sem, simprocAttr, ha0, ha1, ha2, ha3, ha4, ha5]; done) | (simp only [go_sem, simprocAttr, ha0, ha1, ha2, ha3, ha4, ha5]; rfl))
 clear hK K
 refine PW.cond rfl (fun h6 => ?_) (fun h6 => ?_)
 replace H := br_t h6 H
 refine PW.seq ?_
 refine PW.regionK fun K hK => OW.run [2] ?_
 simp only [go_sem, simprocAttr, sw0]
 refine OW.nil (hK _ ?_)
 refine PW.ret ?_
 change PW.Ends _ _ _ _ _ _
 refine PW.Ends.intro (.inr rfl) ?_
 simp only [go_sem, simprocAttr, sw0]
 obtain rfl := Option.some.inj H
 refine RetOK.data' 4 (by exact trivial) ?_
 rfl
 replace H := br_f h6 H
 refine PW.skip ?_
 refine PW.regionK fun K hK => OW.run [0, 3] ?_
 simp only [go_sem, simprocAttr, sw0]
 refine OW.nil (hK _ ?_)
 refine hN3 [] (w64 (i + (1 : Int))) _ H (by exact trivial) ?_
 simp only [sw1, go_sem, simprocAttr]
 replace H := br_f h4 H
 refine PW.exit ?_
 refine hN2 [] () _ H (by exact trivial) ?_
 simp only [sw1, go_sem, simprocAttr]
 rintro _ H
 try simp only [go_sem, simprocAttr]
 refine PW.seq ?_
 refine PW.regionK fun K hK => OW.run [2] ?_
 simp only [go_sem, simprocAttr, sw0]
 refine OW.nil (hK _ ?_)
 refine PW.ret ?_
 change PW.Ends _ _ _ _ _ _
 refine PW.Ends.intro (.inr rfl) ?_
 simp only [go_sem, simprocAttr, sw0]
 obtain rfl := Option.some.inj H
 refine RetOK.data' 4 (by exact trivial) ?_
 rfl

theorem ref09_IdentityErr_ok (N : Nat) (n : Int) (r : Int) (H : ref09_IdentityErr N n = some r) : CallOK Try.prog 69 [(I n)] (.d (I r)) [] := by
 refine CallOK.of_PW Try.func69 rfl (by rw [Try.results69]) Try.ntmps69 Try.call69 ?_
 change PW _ _ _ _ _
 try simp only [go_sem, simprocAttr]
 unfold ref09_IdentityErr at H
 refine PW.seq ?_
 refine PW.regionK fun K hK => OW.run [0] ?_
 simp only [go_sem, simprocAttr, sw0]
 refine OW.nil (hK _ ?_)
 refine PW.seq ?_
 refine PW.seq ?_
 obtain ⟨x1, e1, H⟩ := bnd_some H
 refine PW.regionK fun K hK => OW.run [5] ?_
 simp only [go_sem, simprocAttr, sw0]
 refine OW.call' 4 rfl rfl rfl (by ((simp only [go_sem, List.toList_toArray, simprocAttr]); exact rfl)) ?_ (base_Within_ok N _ _ _ _ e1) ?_ ?_ ?_ ?_
 rfl
 exact okD_all rfl
 exact .inl rfl
 (simp only [go_sem, Nat.reduceLT])
 refine OW.run [5] ?_
 simp only [go_sem, simprocAttr, sw0]
 refine OW.nil (hK _ ?_)
 refine PW.cond rfl (fun h1 => ?_) (fun h1 => ?_)
 replace H := br_t h1 H
 refine PW.seq ?_
 refine PW.regionK fun K hK => OW.run [2] ?_
 simp only [go_sem, simprocAttr, sw0]
 refine OW.nil (hK _ ?_)
 refine PW.ret ?_
 change PW.Ends _ _ _ _ _ _
 refine PW.Ends.intro (.inr rfl) ?_
 simp only [go_sem, simprocAttr, sw0]
 obtain rfl := Option.some.inj H
 refine RetOK.data' 4 (by exact trivial) ?_
 rfl
 replace H := br_f h1 H
 refine PW.skip ?_
 refine PW.seq ?_
 refine PW.regionK fun K hK => OW.run [2] ?_
 simp only [go_sem, simprocAttr, sw0]
 refine OW.nil (hK _ ?_)
 refine PW.ret ?_
 change PW.Ends _ _ _ _ _ _
 refine PW.Ends.intro (.inr rfl) ?_
 simp only [go_sem, simprocAttr, sw0]
 obtain rfl := Option.some.inj H
 refine RetOK.data' 4 (by exact trivial) ?_
 rfl

theorem ref09_ItselfErr_ok (N : Nat) (Z4 : ByteArray) (Z2 : Int) (Z0 : Int) (Z1 : Int) (Z3 : Int) (Z5 : Int) (Z6 : Int) (r : Int) (H : ref09_ItselfErr N Z4 Z2 Z0 Z1 Z3 Z5 Z6 = some r) : CallOK Try.prog 90 [(.agg [(Sx Z4), (I Z2), (I Z0), (I Z1), (I Z3), (I Z5), (I Z6)])] (.d (I r)) [] := by
 refine CallOK.of_PW Try.func90 rfl (by rw [Try.results90]) Try.ntmps90 Try.call90 ?_
 change PW _ _ _ _ _
 try simp only [go_sem, simprocAttr]
 unfold ref09_ItselfErr at H
 refine PW.seq ?_
 refine PW.regionK fun K hK => OW.run [1] ?_
 simp only [go_sem, simprocAttr, sw0]
 refine OW.nil (hK _ ?_)
 refine PW.seq ?_
 refine PW.seq ?_
 obtain ⟨x1, e1, H⟩ := bnd_some H
 refine PW.regionK fun K hK => OW.run [1, 6] ?_
 simp only [go_sem, simprocAttr, sw0]
 repeat (refine And.intro (by omega) ?_)
 refine OW.call' 4 rfl rfl rfl (by ((simp only [go_sem, List.toList_toArray, simprocAttr]); exact rfl)) ?_ (base_IsName_ok N _ _ e1) ?_ ?_ ?_ ?_
 rfl
 exact okD_all rfl
 exact .inl rfl
 (simp only [go_sem, Nat.reduceLT])
 refine OW.run [1, 6] ?_
 simp only [go_sem, simprocAttr, sw0]
 refine OW.nil (hK _ ?_)
 refine PW.cond rfl (fun h1 => ?_) (fun h1 => ?_)
 replace H := br_t h1 H
 refine PW.seq ?_
 refine PW.regionK fun K hK => OW.run [2] ?_
 simp only [go_sem, simprocAttr, sw0]
 refine OW.nil (hK _ ?_)
 refine PW.ret ?_
 change PW.Ends _ _ _ _ _ _
 refine PW.Ends.intro (.inr rfl) ?_
 simp only [go_sem, simprocAttr, sw0]
 obtain rfl := Option.some.inj H
 refine RetOK.data' 4 (by exact trivial) ?_
 rfl
 replace H := br_f h1 H
 refine PW.skip ?_
 refine PW.seq ?_
 obtain ⟨x2, e2, H⟩ := bnd_some H
 refine PW.regionK fun K hK => OW.run [2] ?_
 simp only [go_sem, simprocAttr, sw0]
 repeat (refine And.intro (by omega) ?_)
 refine OW.call' 4 rfl rfl rfl (by ((simp only [go_sem, List.toList_toArray, simprocAttr]); exact rfl)) ?_ (ref09_IdentityErr_ok N _ _ e2) ?_ ?_ ?_ ?_
 rfl
 exact okD_all rfl
 exact .inl rfl
 (simp only [go_sem, Nat.reduceLT])
 refine OW.run [2] ?_
 simp only [go_sem, simprocAttr, sw0]
 refine OW.nil (hK _ ?_)
 refine PW.ret ?_
 change PW.Ends _ _ _ _ _ _
 refine PW.Ends.intro (.inr rfl) ?_
 simp only [go_sem, simprocAttr, sw0]
 obtain rfl := Option.some.inj H
 refine RetOK.data' 4 (by exact trivial) ?_
 rfl

theorem ref09_PointErr_ok (N : Nat) (Z7 : List (List Int)) (at_0 : Int) (at_1 : Int) (r : Int) (H : ref09_PointErr N Z7 at_0 at_1 = some r) : CallOK Try.prog 49 [(.agg [(.list Z7.length (Z7.map L))]), (.agg [(I at_0), (I at_1)])] (.d (I r)) [] := by
 refine CallOK.of_PW Try.func49 rfl (by rw [Try.results49]) Try.ntmps49 Try.call49 ?_
 change PW _ _ _ _ _
 try simp only [go_sem, simprocAttr]
 unfold ref09_PointErr at H
 refine PW.seq ?_
 refine PW.regionK fun K hK => OW.run [2, 3] ?_
 simp only [go_sem, simprocAttr, sw0]
 refine OW.nil (hK _ ?_)
 refine PW.seq ?_
 refine PW.seq ?_
 obtain ⟨x1, e1, H⟩ := bnd_some H
 obtain ⟨c1, H⟩ := chk_some H
 obtain ⟨x2, e2, H⟩ := bnd_some H
 refine PW.drawK 17 mixed (by kernel_rfl) fun K hK => ?_
 change FW _ _ _ _ _
 refine FW.toS [(24, .d (Bo ((!x1) || (!x2))))] [{ cells := [.d (.list Z7.length (Z7.map L))], e := 51 }, { cells := [.d (I at_0), .d (I at_1)], e := 42 }] ?_ (hK _ ?_)
 intro K hKE
 rcases Bool.eq_false_or_eq_true (x1) with ha0 | ha0
 ·
  try simp only [ha0, sb0, true_implies, false_implies, forall_const] at c1
  refine FW.run ?_
  (simp only [go_sem, simprocAttr, sw0, getD_mapF L Z7 0 default (by omega), ha0])
  repeat (refine And.intro (by first | omega | (intro hg; have hq := c1 (by first | exact hg | simpa using hg); first | omega | exact hq | (simp only [List.length_map]; omega)) | (first | omega | assumption | rfl | decide | (simp only [List.length_map, List.length_replicate, List.length_append, List.length_take, List.length_drop, List.length_set, List.length_cons, List.length_nil, Nat.zero_add, Int.toNat_natCast] at *; omega) | (simp only [List.length_map, List.length_replicate, List.length_append, List.length_take, List.length_drop, List.length_set, List.length_cons, List.length_nil, Nat.zero_add, Int.toNat_natCast]; done) | trivial)) ?_)
  refine FW.call' 4 rfl rfl rfl (by ((simp only [go_sem, List.toList_toArray, simprocAttr]); exact rfl)) ?_ (base_Within_ok N _ _ _ _ e1) ?_ ?_ ?_ ?_
  · (first | (rfl; done) | (first | rfl | (simp only [go_sem, sw1, simprocAttr, ha0, Bool.and_true, Bool.true_and, Bool.and_false, Bool.false_and, Bool.or_true, Bool.true_or, Bool.or_false, Bool.false_or, Bool.not_true, Bool.not_false]; done) | (simp only [go_sem, sw1, simprocAttr, ha0, Bool.and_true, Bool.true_and, Bool.and_false, Bool.false_and, Bool.or_true, Bool.true_or, Bool.or_false, Bool.false_or, Bool.not_true, Bool.not_false]; rfl) | (simp only [go_sem, sw1, simprocAttr, ha0, Bool.and_true, Bool.true_and, Bool.and_false, Bool.false_and, Bool.or_true, Bool.true_or, Bool.or_false, Bool.false_or, Bool.not_true, Bool.not_false]; simp only [seg, asD, go_sem, sw1, simprocAttr, ha0, Bool.and_true, Bool.true_and, Bool.and_false, Bool.false_and, Bool.or_true, Bool.true_or, Bool.or_false, Bool.false_or, Bool.not_true, Bool.not_false]; done) | (simp only [go_sem, sw1, simprocAttr, ha0, Bool.and_true, Bool.true_and, Bool.and_false, Bool.false_and, Bool.or_true, Bool.true_or, Bool.or_false, Bool.false_or, Bool.not_true, Bool.not_false]; simp only [seg, asD, go_sem, sw1, simprocAttr, ha0, Bool.and_true, Bool.true_and, Bool.and_false, Bool.false_and, Bool.or_true, Bool.true_or, Bool.or_false, Bool.false_or, Bool.not_true, Bool.not_false]; rfl) | ((try simp only [go_sem, sw1, simprocAttr, ha0, Bool.and_true, Bool.true_and, Bool.and_false, Bool.false_and, Bool.or_true, Bool.true_or, Bool.or_false, Bool.false_or, Bool.not_true, Bool.not_false]); (repeat' (first | rfl | (refine list_congr ?_; simp only [List.length_take, List.length_drop, List.length_set, List.length_replicate] <;> omega) | (refine congr (congrArg List.cons ?_) ?_) | (refine congrArg D.agg ?_) | (refine congrArg D.tup ?_) | (refine congrArg D.ref ?_) | (refine congrArg (D.list _) ?_) | (refine congrArg (D.clo _) ?_))))))
  exact okD_all rfl
  exact .inl rfl
  (simp only [go_sem, Nat.reduceLT])
  refine FW.run ?_
  (simp only [go_sem, simprocAttr, sw0, getD_mapF L Z7 0 default (by omega), ha0])
  repeat (refine And.intro (by first | omega | (intro hg; have hq := c1 (by first | exact hg | simpa using hg); first | omega | exact hq | (simp only [List.length_map]; omega)) | (first | omega | assumption | rfl | decide | (simp only [List.length_map, List.length_replicate, List.length_append, List.length_take, List.length_drop, List.length_set, List.length_cons, List.length_nil, Nat.zero_add, Int.toNat_natCast] at *; omega) | (simp only [List.length_map, List.length_replicate, List.length_append, List.length_take, List.length_drop, List.length_set, List.length_cons, List.length_nil, Nat.zero_add, Int.toNat_natCast]; done) | trivial)) ?_)
  refine FW.nil ?_
  change OW _ _ _ _ _ _
  refine OW.run [24] ?_
  (simp only [go_sem, simprocAttr, sw0, getD_mapF L Z7 0 default (by omega), ha0])
  repeat (refine And.intro (by first | omega | (intro hg; have hq := c1 (by first | exact hg | simpa using hg); first | omega | exact hq | (simp only [List.length_map]; omega)) | (first | omega | assumption | rfl | decide | (simp only [List.length_map, List.length_replicate, List.length_append, List.length_take, List.length_drop, List.length_set, List.length_cons, List.length_nil, Nat.zero_add, Int.toNat_natCast] at *; omega) | (simp only [List.length_map, List.length_replicate, List.length_append, List.length_take, List.length_drop, List.length_set, List.length_cons, List.length_nil, Nat.zero_add, Int.toNat_natCast]; done) | trivial)) ?_)
  refine OW.callGh' 4 rfl rfl ?_ (fun hg => by first | rfl | (simp only [go_sem, ↓reduceIte]; rfl)) (fun hg => by (first | ((simp only [go_sem, List.toList_toArray, simprocAttr, ha0]); exact rfl) | exact rfl)) (fun hg => ?_) (fun hg => (base_Within_ok N _ _ _ _ (grd_t hg e2))) ?_ ?_ ?_ ?_
  · (first | rfl | (simp only [go_sem, simprocAttr, ha0]; done) | (simp only [go_sem, simprocAttr, ha0]; rfl))
  · first | (rfl; done) | (exfalso; simp only [ha0, sb0] at hg)
  · intro hg; first | (exact okD_all rfl; done) | (exfalso; simp only [ha0, sb0] at hg)
  exact .inl rfl
  (simp only [go_sem, Nat.reduceLT])
  refine OW.run [24] ?_
  (simp only [go_sem, simprocAttr, sw0, getD_mapF L Z7 0 default (by omega), ha0])
  repeat (refine And.intro (by first | omega | (intro hg; have hq := c1 (by first | exact hg | simpa using hg); first | omega | exact hq | (simp only [List.length_map]; omega)) | (first | omega | assumption | rfl | decide | (simp only [List.length_map, List.length_replicate, List.length_append, List.length_take, List.length_drop, List.length_set, List.length_cons, List.length_nil, Nat.zero_add, Int.toNat_natCast] at *; omega) | (simp only [List.length_map, List.length_replicate, List.length_append, List.length_take, List.length_drop, List.length_set, List.length_cons, List.length_nil, Nat.zero_add, Int.toNat_natCast]; done) | trivial)) ?_)
  refine OW.nil ((congrArg K ?_).mpr hKE)
  · (first | rfl | (simp only [go_sem, simprocAttr, ha0]; done) | (simp only [go_sem, simprocAttr, ha0]; rfl))
 ·
  try simp only [ha0, sb0, true_implies, false_implies, forall_const] at c1
  refine FW.run ?_
  (simp only [go_sem, simprocAttr, sw0, ha0])
  repeat (refine And.intro (by first | omega | (intro hg; have hq := c1 (by first | exact hg | simpa using hg); first | omega | exact hq | (simp only [List.length_map]; omega)) | (first | omega | assumption | rfl | decide | (simp only [List.length_map, List.length_replicate, List.length_append, List.length_take, List.length_drop, List.length_set, List.length_cons, List.length_nil, Nat.zero_add, Int.toNat_natCast] at *; omega) | (simp only [List.length_map, List.length_replicate, List.length_append, List.length_take, List.length_drop, List.length_set, List.length_cons, List.length_nil, Nat.zero_add, Int.toNat_natCast]; done) | trivial)) ?_)
  refine FW.call' 4 rfl rfl rfl (by ((simp only [go_sem, List.toList_toArray, simprocAttr]); exact rfl)) ?_ (base_Within_ok N _ _ _ _ e1) ?_ ?_ ?_ ?_
  · (first | (rfl; done) | (first | rfl | (simp only [go_sem, sw1, simprocAttr, ha0, Bool.and_true, Bool.true_and, Bool.and_false, Bool.false_and, Bool.or_true, Bool.true_or, Bool.or_false, Bool.false_or, Bool.not_true, Bool.not_false]; done) | (simp only [go_sem, sw1, simprocAttr, ha0, Bool.and_true, Bool.true_and, Bool.and_false, Bool.false_and, Bool.or_true, Bool.true_or, Bool.or_false, Bool.false_or, Bool.not_true, Bool.not_false]; rfl) | (simp only [go_sem, sw1, simprocAttr, ha0, Bool.and_true, Bool.true_and, Bool.and_false, Bool.false_and, Bool.or_true, Bool.true_or, Bool.or_false, Bool.false_or, Bool.not_true, Bool.not_false]; simp only [seg, asD, go_sem, sw1, simprocAttr, ha0, Bool.and_true, Bool.true_and, Bool.and_false, Bool.false_and, Bool.or_true, Bool.true_or, Bool.or_false, Bool.false_or, Bool.not_true, Bool.not_false]; done) | (simp only [go_sem, sw1, simprocAttr, ha0, Bool.and_true, Bool.true_and, Bool.and_false, Bool.false_and, Bool.or_true, Bool.true_or, Bool.or_false, Bool.false_or, Bool.not_true, Bool.not_false]; simp only [seg, asD, go_sem, sw1, simprocAttr, ha0, Bool.and_true, Bool.true_and, Bool.and_false, Bool.false_and, Bool.or_true, Bool.true_or, Bool.or_false, Bool.false_or, Bool.not_true, Bool.not_false]; rfl) | ((try simp only [go_sem, sw1, simprocAttr, ha0, Bool.and_true, Bool.true_and, Bool.and_false, Bool.false_and, Bool.or_true, Bool.true_or, Bool.or_false, Bool.false_or, Bool.not_true, Bool.not_false]); (repeat' (first | rfl | (refine list_congr ?_; simp only [List.length_take, List.length_drop, List.length_set, List.length_replicate] <;> omega) | (refine congr (congrArg List.cons ?_) ?_) | (refine congrArg D.agg ?_) | (refine congrArg D.tup ?_) | (refine congrArg D.ref ?_) | (refine congrArg (D.list _) ?_) | (refine congrArg (D.clo _) ?_))))))
  exact okD_all rfl
  exact .inl rfl
  (simp only [go_sem, Nat.reduceLT])
  refine FW.run ?_
  (simp only [go_sem, simprocAttr, sw0, ha0])
  repeat (refine And.intro (by first | omega | (intro hg; have hq := c1 (by first | exact hg | simpa using hg); first | omega | exact hq | (simp only [List.length_map]; omega)) | (first | omega | assumption | rfl | decide | (simp only [List.length_map, List.length_replicate, List.length_append, List.length_take, List.length_drop, List.length_set, List.length_cons, List.length_nil, Nat.zero_add, Int.toNat_natCast] at *; omega) | (simp only [List.length_map, List.length_replicate, List.length_append, List.length_take, List.length_drop, List.length_set, List.length_cons, List.length_nil, Nat.zero_add, Int.toNat_natCast]; done) | trivial)) ?_)
  refine FW.nil ?_
  change OW _ _ _ _ _ _
  refine OW.run [24] ?_
  (simp only [go_sem, simprocAttr, sw0, ha0])
  repeat (refine And.intro (by first | omega | (intro hg; have hq := c1 (by first | exact hg | simpa using hg); first | omega | exact hq | (simp only [List.length_map]; omega)) | (first | omega | assumption | rfl | decide | (simp only [List.length_map, List.length_replicate, List.length_append, List.length_take, List.length_drop, List.length_set, List.length_cons, List.length_nil, Nat.zero_add, Int.toNat_natCast] at *; omega) | (simp only [List.length_map, List.length_replicate, List.length_append, List.length_take, List.length_drop, List.length_set, List.length_cons, List.length_nil, Nat.zero_add, Int.toNat_natCast]; done) | trivial)) ?_)
  refine OW.callGh' 4 rfl rfl ?_ (fun hg => by first | rfl | (simp only [go_sem, ↓reduceIte]; rfl)) (fun hg => by (first | ((simp only [go_sem, List.toList_toArray, simprocAttr, ha0]); exact rfl) | exact rfl)) (fun hg => ?_) (fun hg => (base_Within_ok N _ _ _ _ (grd_t hg e2))) ?_ ?_ ?_ ?_
  · (first | rfl | (simp only [go_sem, simprocAttr, ha0]; done) | (simp only [go_sem, simprocAttr, ha0]; rfl))
  · first | ((((simp only [go_sem, sw1, simprocAttr]; try simp only [seg, go_sem, simprocAttr])); (repeat' (first | rfl | (refine list_congr ?_; simp only [List.length_take, List.length_drop, List.length_set, List.length_replicate] <;> omega) | (refine congr (congrArg List.cons ?_) ?_) | (refine congrArg D.agg ?_) | (refine congrArg D.tup ?_) | (refine congrArg D.ref ?_) | (refine congrArg (D.list _) ?_) | (refine congrArg (D.clo _) ?_)))); done) | (exfalso; simp only [ha0, sb0] at hg)
  · intro hg; first | ((first | exact trivial | exact okD_all rfl | (refine okAll_intro ?_; (first | (simp only [go_sem, sw2, List.length_set, List.length_replicate, and_true, true_and, Nat.le_refl, simprocAttr]; done) | (simp only [go_sem, sw2, List.length_set, List.length_replicate, and_true, true_and, Nat.le_refl, simprocAttr]; omega) | (simp only [go_sem, sw2, List.length_set, List.length_replicate, and_true, true_and, Nat.le_refl, simprocAttr]; simp only [seg, go_sem, sw2, List.length_set, List.length_replicate, and_true, true_and, Nat.le_refl, simprocAttr]; done) | (simp only [go_sem, sw2, List.length_set, List.length_replicate, and_true, true_and, Nat.le_refl, simprocAttr]; simp only [seg, go_sem, sw2, List.length_set, List.length_replicate, and_true, true_and, Nat.le_refl, simprocAttr]; omega) | (simp only [go_sem, sw2, List.length_set, List.length_replicate, and_true, true_and, Nat.le_refl, simprocAttr, List.length_take, List.length_drop]; omega) | (simp only [go_sem, sw2, List.length_append, List.length_map, List.length_cons, List.length_nil, List.length_set, List.length_replicate, and_true, true_and, Nat.le_refl, Nat.zero_add, simprocAttr]; done) | (simp only [go_sem, sw2, List.length_append, List.length_map, List.length_cons, List.length_nil, List.length_set, List.length_replicate, and_true, true_and, Nat.le_refl, Nat.zero_add, simprocAttr]; omega))) | (first | (simp only [go_sem, sw2, List.length_set, List.length_replicate, and_true, true_and, Nat.le_refl, simprocAttr]; done) | (simp only [go_sem, sw2, List.length_set, List.length_replicate, and_true, true_and, Nat.le_refl, simprocAttr]; omega) | (simp only [go_sem, sw2, List.length_set, List.length_replicate, and_true, true_and, Nat.le_refl, simprocAttr]; simp only [seg, go_sem, sw2, List.length_set, List.length_replicate, and_true, true_and, Nat.le_refl, simprocAttr]; done) | (simp only [go_sem, sw2, List.length_set, List.length_replicate, and_true, true_and, Nat.le_refl, simprocAttr]; simp only [seg, go_sem, sw2, List.length_set, List.length_replicate, and_true, true_and, Nat.le_refl, simprocAttr]; omega) | (simp only [go_sem, sw2, List.length_set, List.length_replicate, and_true, true_and, Nat.le_refl, simprocAttr, List.length_take, List.length_drop]; omega) | (simp only [go_sem, sw2, List.length_append, List.length_map, List.length_cons, List.length_nil, List.length_set, List.length_replicate, and_true, true_and, Nat.le_refl, Nat.zero_add, simprocAttr]; done) | (simp only [go_sem, sw2, List.length_append, List.length_map, List.length_cons, List.length_nil, List.length_set, List.length_replicate, and_true, true_and, Nat.le_refl, Nat.zero_add, simprocAttr]; omega))); done) | (exfalso; simp only [ha0, sb0] at hg)
  exact .inr rfl
  (simp only [go_sem, Nat.reduceLT])
  refine OW.run [24] ?_
  (simp only [go_sem, simprocAttr, sw0, ha0])
  repeat (refine And.intro (by first | omega | (intro hg; have hq := c1 (by first | exact hg | simpa using hg); first | omega | exact hq | (simp only [List.length_map]; omega)) | (first | omega | assumption | rfl | decide | (simp only [List.length_map, List.length_replicate, List.length_append, List.length_take, List.length_drop, List.length_set, List.length_cons, List.length_nil, Nat.zero_add, Int.toNat_natCast] at *; omega) | (simp only [List.length_map, List.length_replicate, List.length_append, List.length_take, List.length_drop, List.length_set, List.length_cons, List.length_nil, Nat.zero_add, Int.toNat_natCast]; done) | trivial)) ?_)
  refine OW.nil ((congrArg K ?_).mpr hKE)
  · (first | rfl | (simp only [go_sem, simprocAttr, ha0]; done) | (simp only [go_sem, simprocAttr, ha0]; rfl))
 clear hK K
 refine PW.cond rfl (fun h2 => ?_) (fun h2 => ?_)
 replace H := br_t h2 H
 refine PW.seq ?_
 refine PW.regionK fun K hK => OW.run [4] ?_
 simp only [go_sem, simprocAttr, sw0]
 refine OW.nil (hK _ ?_)
 refine PW.ret ?_
 change PW.Ends _ _ _ _ _ _
 refine PW.Ends.intro (.inr rfl) ?_
 simp only [go_sem, simprocAttr, sw0]
 obtain rfl := Option.some.inj H
 refine RetOK.data' 4 (by exact trivial) ?_
 rfl
 replace H := br_f h2 H
 refine PW.skip ?_
 refine PW.seq ?_
 refine PW.regionK fun K hK => OW.run [4] ?_
 simp only [go_sem, simprocAttr, sw0]
 refine OW.nil (hK _ ?_)
 refine PW.ret ?_
 change PW.Ends _ _ _ _ _ _
 refine PW.Ends.intro (.inr rfl) ?_
 simp only [go_sem, simprocAttr, sw0]
 obtain rfl := Option.some.inj H
 refine RetOK.data' 4 (by exact trivial) ?_
 rfl

theorem ref09_isTilt_ok (N : Nat) (n : Int) (r : Bool) (H : ref09_isTilt N n = some r) : CallOK Try.prog 117 [(I n)] (.d (Bo r)) [] := by
 refine CallOK.of_PW Try.func117 rfl (by rw [Try.results117]) Try.ntmps117 Try.call117 ?_
 change PW _ _ _ _ _
 try simp only [go_sem, simprocAttr]
 unfold ref09_isTilt at H
 refine PW.seq ?_
 refine PW.regionK fun K hK => OW.run [0] ?_
 simp only [go_sem, simprocAttr, sw0]
 refine OW.nil (hK _ ?_)
 refine PW.seq ?_
 obtain ⟨x1, e1, H⟩ := bnd_some H
 refine PW.regionK fun K hK => OW.run [2] ?_
 simp only [go_sem, simprocAttr, sw0]
 refine OW.call' 4 rfl rfl rfl (by ((simp only [go_sem, List.toList_toArray, simprocAttr]); exact rfl)) ?_ (base_Within_ok N _ _ _ _ e1) ?_ ?_ ?_ ?_
 rfl
 exact okD_all rfl
 exact .inl rfl
 (simp only [go_sem, Nat.reduceLT])
 refine OW.run [2] ?_
 simp only [go_sem, simprocAttr, sw0]
 refine OW.nil (hK _ ?_)
 refine PW.ret ?_
 change PW.Ends _ _ _ _ _ _
 refine PW.Ends.intro (.inr rfl) ?_
 simp only [go_sem, simprocAttr, sw0]
 obtain rfl := Option.some.inj H
 refine RetOK.data' 4 (by exact trivial) ?_
 rfl

theorem ref09_NumbersErr_ok (N : Nat) (Z4 : ByteArray) (Z2 : Int) (Z0 : Int) (Z1 : Int) (Z3 : Int) (Z5 : Int) (Z6 : Int) (r : Int) (H : ref09_NumbersErr N Z4 Z2 Z0 Z1 Z3 Z5 Z6 = some r) : CallOK Try.prog 91 [(.agg [(Sx Z4), (I Z2), (I Z0), (I Z1), (I Z3), (I Z5), (I Z6)])] (.d (I r)) [] := by
 refine CallOK.of_PW Try.func91 rfl (by rw [Try.results91]) Try.ntmps91 Try.call91 ?_
 change PW _ _ _ _ _
 try simp only [go_sem, simprocAttr]
 unfold ref09_NumbersErr at H
 refine PW.seq ?_
 refine PW.regionK fun K hK => OW.run [1] ?_
 simp only [go_sem, simprocAttr, sw0]
 refine OW.nil (hK _ ?_)
 refine PW.seq ?_
 refine PW.seq ?_
 obtain ⟨x1, e1, H⟩ := bnd_some H
 obtain ⟨x2, e2, H⟩ := bnd_some H
 obtain ⟨x3, e3, H⟩ := bnd_some H
 refine PW.regionK fun K hK => OW.run [18] ?_
 simp only [go_sem, simprocAttr, sw0]
 repeat (refine And.intro (by omega) ?_)
 refine OW.call' 4 rfl rfl rfl (by ((simp only [go_sem, List.toList_toArray, simprocAttr]); exact rfl)) ?_ (base_Within_ok N _ _ _ _ e1) ?_ ?_ ?_ ?_
 rfl
 exact okD_all rfl
 exact .inl rfl
 (simp only [go_sem, Nat.reduceLT])
 refine OW.run [18] ?_
 simp only [go_sem, simprocAttr, sw0]
 repeat (refine And.intro (by omega) ?_)
 refine OW.callG' 4 rfl rfl ?_ (fun hg => by first | rfl | (simp only [go_sem, ↓reduceIte]; rfl)) (fun hg => by ((simp only [go_sem, List.toList_toArray, simprocAttr]); exact rfl)) (fun hg => ?_) (fun hg => (base_Within_ok N _ _ _ _ (grd_t hg e2))) ?_ ?_ ?_ ?_
 simp only [go_sem, simprocAttr]
 rfl
 exact okD_all rfl
 exact .inl rfl
 (simp only [go_sem, Nat.reduceLT])
 refine OW.run [18] ?_
 simp only [go_sem, simprocAttr, sw0]
 repeat (refine And.intro (by omega) ?_)
 refine OW.callG' 4 rfl rfl ?_ (fun hg => by first | rfl | (simp only [go_sem, ↓reduceIte]; rfl)) (fun hg => by ((simp only [go_sem, List.toList_toArray, simprocAttr]); exact rfl)) (fun hg => ?_) (fun hg => (ref09_isTilt_ok N _ _ (grd_t hg e3))) ?_ ?_ ?_ ?_
 simp only [go_sem, simprocAttr]
 rfl
 exact okD_all rfl
 exact .inl rfl
 (simp only [go_sem, Nat.reduceLT])
 refine OW.run [18] ?_
 simp only [go_sem, simprocAttr, sw0]
 refine OW.nil (hK _ ?_)
 refine PW.cond rfl (fun h1 => ?_) (fun h1 => ?_)
 replace H := br_t h1 H
 refine PW.seq ?_
 refine PW.regionK fun K hK => OW.run [2] ?_
 simp only [go_sem, simprocAttr, sw0]
 refine OW.nil (hK _ ?_)
 refine PW.ret ?_
 change PW.Ends _ _ _ _ _ _
 refine PW.Ends.intro (.inr rfl) ?_
 simp only [go_sem, simprocAttr, sw0]
 obtain rfl := Option.some.inj H
 refine RetOK.data' 4 (by exact trivial) ?_
 rfl
 replace H := br_f h1 H
 refine PW.skip ?_
 refine PW.seq ?_
 refine PW.regionK fun K hK => OW.run [2] ?_
 simp only [go_sem, simprocAttr, sw0]
 refine OW.nil (hK _ ?_)
 refine PW.ret ?_
 change PW.Ends _ _ _ _ _ _
 refine PW.Ends.intro (.inr rfl) ?_
 simp only [go_sem, simprocAttr, sw0]
 obtain rfl := Option.some.inj H
 refine RetOK.data' 4 (by exact trivial) ?_
 rfl

theorem ref09_CellErr_ok (N : Nat) (Z7 : List (List Int)) (Z4 : ByteArray) (Z2 : Int) (Z0 : Int) (Z1 : Int) (Z3 : Int) (Z5 : Int) (Z6 : Int) (r : Int) (H : ref09_CellErr N Z7 Z4 Z2 Z0 Z1 Z3 Z5 Z6 = some r) : CallOK Try.prog 41 [(.agg [(.list Z7.length (Z7.map L))]), (.agg [(Sx Z4), (I Z2), (I Z0), (I Z1), (I Z3), (I Z5), (I Z6)])] (.d (I r)) [] := by
 refine CallOK.of_PW Try.func41 rfl (by rw [Try.results41]) Try.ntmps41 Try.call41 ?_
 change PW _ _ _ _ _
 try simp only [go_sem, simprocAttr]
 unfold ref09_CellErr at H
 refine PW.seq ?_
 refine PW.regionK fun K hK => OW.run [2, 3] ?_
 simp only [go_sem, simprocAttr, sw0]
 refine OW.nil (hK _ ?_)
 refine PW.seq ?_
 refine PW.seq ?_
 obtain ⟨x1, e1, H⟩ := bnd_some H
 refine PW.regionK fun K hK => OW.run [2, 3, 5] ?_
 simp only [go_sem, simprocAttr, sw0]
 refine OW.call' 4 rfl rfl rfl (by ((simp only [go_sem, List.toList_toArray, simprocAttr]); exact rfl)) ?_ (ref09_RasterErr_ok N _ _ e1) ?_ ?_ ?_ ?_
 rfl
 · (refine okAll_intro ?_; (simp only [go_sem, sw2, List.length_set, List.length_replicate, and_true, true_and, Nat.le_refl, simprocAttr]; done))
 exact .inl rfl
 (simp only [go_sem, Nat.reduceLT])
 refine OW.run [2, 3, 5] ?_
 simp only [go_sem, simprocAttr, sw0]
 refine OW.nil (hK _ ?_)
 refine PW.seq ?_
 refine PW.regionK fun K hK => OW.run [2, 3, 5, 11] ?_
 simp only [go_sem, simprocAttr, sw0]
 refine OW.nil (hK _ ?_)
 refine PW.cond rfl (fun h1 => ?_) (fun h1 => ?_)
 replace H := br_t h1 H
 refine PW.seq ?_
 refine PW.regionK fun K hK => OW.run [4] ?_
 simp only [go_sem, simprocAttr, sw0]
 refine OW.nil (hK _ ?_)
 refine PW.ret ?_
 change PW.Ends _ _ _ _ _ _
 refine PW.Ends.intro (.inr rfl) ?_
 simp only [go_sem, simprocAttr, sw0]
 obtain rfl := Option.some.inj H
 refine RetOK.data' 4 (by exact trivial) ?_
 rfl
 replace H := br_f h1 H
 refine PW.skip ?_
 refine PW.seq ?_
 refine PW.seq ?_
 obtain ⟨x2, e2, H⟩ := bnd_some H
 refine PW.regionK fun K hK => OW.run [2, 3, 6] ?_
 simp only [go_sem, simprocAttr, sw0]
 refine OW.call' 4 rfl rfl rfl (by ((simp only [go_sem, List.toList_toArray, simprocAttr]); exact rfl)) ?_ (ref09_ItselfErr_ok N _ _ _ _ _ _ _ _ e2) ?_ ?_ ?_ ?_
 rfl
 · (refine okAll_intro ?_; (simp only [go_sem, sw2, List.length_set, List.length_replicate, and_true, true_and, Nat.le_refl, simprocAttr]; done))
 exact .inl rfl
 (simp only [go_sem, Nat.reduceLT])
 refine OW.run [2, 3, 6] ?_
 simp only [go_sem, simprocAttr, sw0]
 refine OW.nil (hK _ ?_)
 refine PW.seq ?_
 refine PW.regionK fun K hK => OW.run [2, 3, 6, 16] ?_
 simp only [go_sem, simprocAttr, sw0]
 refine OW.nil (hK _ ?_)
 refine PW.cond rfl (fun h2 => ?_) (fun h2 => ?_)
 replace H := br_t h2 H
 refine PW.seq ?_
 refine PW.regionK fun K hK => OW.run [4] ?_
 simp only [go_sem, simprocAttr, sw0]
 refine OW.nil (hK _ ?_)
 refine PW.ret ?_
 change PW.Ends _ _ _ _ _ _
 refine PW.Ends.intro (.inr rfl) ?_
 simp only [go_sem, simprocAttr, sw0]
 obtain rfl := Option.some.inj H
 refine RetOK.data' 4 (by exact trivial) ?_
 rfl
 replace H := br_f h2 H
 refine PW.skip ?_
 refine PW.seq ?_
 refine PW.seq ?_
 obtain ⟨x3, e3, H⟩ := bnd_some H
 refine PW.regionK fun K hK => OW.run [3, 7] ?_
 simp only [go_sem, simprocAttr, sw0]
 repeat (refine And.intro (by omega) ?_)
 refine OW.call' 4 rfl rfl rfl (by ((simp only [go_sem, List.toList_toArray, simprocAttr]); exact rfl)) ?_ (ref09_PointErr_ok N _ _ _ _ e3) ?_ ?_ ?_ ?_
 rfl
 · (refine okAll_intro ?_; (simp only [go_sem, sw2, List.length_set, List.length_replicate, and_true, true_and, Nat.le_refl, simprocAttr]; done))
 exact .inl rfl
 (simp only [go_sem, Nat.reduceLT])
 refine OW.run [3, 7] ?_
 simp only [go_sem, simprocAttr, sw0]
 refine OW.nil (hK _ ?_)
 refine PW.seq ?_
 refine PW.regionK fun K hK => OW.run [3, 7, 23] ?_
 simp only [go_sem, simprocAttr, sw0]
 refine OW.nil (hK _ ?_)
 refine PW.cond rfl (fun h3 => ?_) (fun h3 => ?_)
 replace H := br_t h3 H
 refine PW.seq ?_
 refine PW.regionK fun K hK => OW.run [4] ?_
 simp only [go_sem, simprocAttr, sw0]
 refine OW.nil (hK _ ?_)
 refine PW.ret ?_
 change PW.Ends _ _ _ _ _ _
 refine PW.Ends.intro (.inr rfl) ?_
 simp only [go_sem, simprocAttr, sw0]
 obtain rfl := Option.some.inj H
 refine RetOK.data' 4 (by exact trivial) ?_
 rfl
 replace H := br_f h3 H
 refine PW.skip ?_
 refine PW.seq ?_
 obtain ⟨x4, e4, H⟩ := bnd_some H
 refine PW.regionK fun K hK => OW.run [4] ?_
 simp only [go_sem, simprocAttr, sw0]
 refine OW.call' 4 rfl rfl rfl (by ((simp only [go_sem, List.toList_toArray, simprocAttr]); exact rfl)) ?_ (ref09_NumbersErr_ok N _ _ _ _ _ _ _ _ e4) ?_ ?_ ?_ ?_
 rfl
 · (refine okAll_intro ?_; (simp only [go_sem, sw2, List.length_set, List.length_replicate, and_true, true_and, Nat.le_refl, simprocAttr]; done))
 exact .inl rfl
 (simp only [go_sem, Nat.reduceLT])
 refine OW.run [4] ?_
 simp only [go_sem, simprocAttr, sw0]
 refine OW.nil (hK _ ?_)
 refine PW.ret ?_
 change PW.Ends _ _ _ _ _ _
 refine PW.Ends.intro (.inr rfl) ?_
 simp only [go_sem, simprocAttr, sw0]
 obtain rfl := Option.some.inj H
 refine RetOK.data' 4 (by exact trivial) ?_
 rfl

theorem law09_PlanRasters_ok (N : Nat) (Z7 : List (List Int)) (Z4 : ByteArray) (Z2 : Int) (Z0 : Int) (Z1 : Int) (Z3 : Int) (Z5 : Int) (Z6 : Int) (r : Bool) (H : law09_PlanRasters N Z7 Z4 Z2 Z0 Z1 Z3 Z5 Z6 = some r) : CallOK Try.prog 8 [(.agg [(.list Z7.length (Z7.map L))]), (.agg [(Sx Z4), (I Z2), (I Z0), (I Z1), (I Z3), (I Z5), (I Z6)])] (.d (Bo r)) [] := by
 refine CallOK.of_PW Try.func8 rfl (by rw [Try.results8]) Try.ntmps8 Try.call8 ?_
 change PW _ _ _ _ _
 try simp only [go_sem, simprocAttr]
 unfold law09_PlanRasters at H
 refine PW.seq ?_
 refine PW.regionK fun K hK => OW.run [2, 3] ?_
 simp only [go_sem, simprocAttr, sw0]
 refine OW.nil (hK _ ?_)
 refine PW.seq ?_
 refine PW.seq ?_
 obtain ⟨x1, e1, H⟩ := bnd_some H
 refine PW.regionK fun K hK => OW.run [2, 3, 11] ?_
 simp only [go_sem, simprocAttr, sw0]
 refine OW.call' 4 rfl rfl rfl (by ((simp only [go_sem, List.toList_toArray, simprocAttr]); exact rfl)) ?_ (law09_awake_ok N  _ e1) ?_ ?_ ?_ ?_
 rfl
 exact okD_all rfl
 exact .inl rfl
 (simp only [go_sem, Nat.reduceLT])
 refine OW.run [2, 3, 11] ?_
 simp only [go_sem, simprocAttr, sw0]
 refine OW.nil (hK _ ?_)
 refine PW.cond rfl (fun h1 => ?_) (fun h1 => ?_)
 replace H := br_t h1 H
 refine PW.seq ?_
 refine PW.regionK fun K hK => OW.run [4] ?_
 simp only [go_sem, simprocAttr, sw0]
 refine OW.nil (hK _ ?_)
 refine PW.ret ?_
 change PW.Ends _ _ _ _ _ _
 refine PW.Ends.intro (.inr rfl) ?_
 simp only [go_sem, simprocAttr, sw0]
 obtain rfl := Option.some.inj H
 refine RetOK.data' 4 (by exact trivial) ?_
 rfl
 replace H := br_f h1 H
 refine PW.skip ?_
 refine PW.seq ?_
 refine PW.seq ?_
 obtain ⟨x2, e2, H⟩ := bnd_some H
 refine PW.regionK fun K hK => OW.run [2, 3, 20] ?_
 simp only [go_sem, simprocAttr, sw0]
 refine OW.call' 4 rfl rfl rfl (by ((simp only [go_sem, List.toList_toArray, simprocAttr]); exact rfl)) ?_ (law09_raster_ok N _ _ e2) ?_ ?_ ?_ ?_
 rfl
 · (refine okAll_intro ?_; (simp only [go_sem, sw2, List.length_set, List.length_replicate, and_true, true_and, Nat.le_refl, simprocAttr]; done))
 exact .inl rfl
 (simp only [go_sem, Nat.reduceLT])
 refine OW.run [2, 3, 20] ?_
 simp only [go_sem, simprocAttr, sw0]
 repeat (refine And.intro (by omega) ?_)
 refine OW.nil (hK _ ?_)
 refine PW.cond rfl (fun h2 => ?_) (fun h2 => ?_)
 replace H := br_t h2 H
 refine PW.seq ?_
 refine PW.regionK fun K hK => OW.run [4] ?_
 simp only [go_sem, simprocAttr, sw0]
 refine OW.nil (hK _ ?_)
 refine PW.ret ?_
 change PW.Ends _ _ _ _ _ _
 refine PW.Ends.intro (.inr rfl) ?_
 simp only [go_sem, simprocAttr, sw0]
 obtain rfl := Option.some.inj H
 refine RetOK.data' 4 (by exact trivial) ?_
 rfl
 replace H := br_f h2 H
 refine PW.skip ?_
 refine PW.seq ?_
 obtain ⟨x3, e3, H⟩ := bnd_some H
 obtain ⟨⟨x4, x41, x42⟩, e4, H⟩ := bnd_some H
 refine PW.regionK fun K hK => OW.run [2, 3, 5, 6] ?_
 simp only [go_sem, simprocAttr, sw0]
 refine OW.call' 4 rfl rfl rfl (by ((simp only [go_sem, List.toList_toArray, simprocAttr]); exact rfl)) ?_ (ref09_CopyRaster_ok N _ _ e3) ?_ ?_ ?_ ?_
 rfl
 · (refine okAll_intro ?_; (simp only [go_sem, sw2, List.length_set, List.length_replicate, and_true, true_and, Nat.le_refl, simprocAttr]; done))
 exact .inl rfl
 (simp only [go_sem, Nat.reduceLT])
 refine OW.run [2, 3, 5, 6] ?_
 simp only [go_sem, simprocAttr, sw0]
 refine OW.call' 4 rfl rfl rfl (by ((simp only [go_sem, List.toList_toArray, simprocAttr]); exact rfl)) ?_ (plan_CheckRaster_ok N _ _ e4) ?_ ?_ ?_ ?_
 rfl
 exact okD_all rfl
 exact .inl rfl
 (simp only [go_sem, Nat.reduceLT])
 refine OW.run [2, 3, 5, 6] ?_
 simp only [go_sem, simprocAttr, sw0]
 refine OW.nil (hK _ ?_)
 refine PW.seq ?_
 obtain ⟨x5, e5, H⟩ := bnd_some H
 obtain ⟨x6, e6, H⟩ := bnd_some H
 refine PW.drawK 3 mixed (by kernel_rfl) fun K hK => ?_
 change FW _ _ _ _ _
 refine FW.run ?_
 simp only [go_sem, simprocAttr, sw0]
 refine FW.call' 4 rfl rfl rfl (by ((simp only [go_sem, List.toList_toArray, simprocAttr]); exact rfl)) ?_ (ref09_CopyRaster_ok N _ _ e5) ?_ ?_ ?_ ?_
 rfl
 · (refine okAll_intro ?_; (simp only [go_sem, sw2, List.length_set, List.length_replicate, and_true, true_and, Nat.le_refl, simprocAttr]; done))
 exact .inl rfl
 (simp only [go_sem, Nat.reduceLT])
 refine FW.run ?_
 simp only [go_sem, simprocAttr, sw0]
 refine FW.nil ?_
 change OW _ _ _ _ _ _
 refine OW.run [2, 3, 5, 6, 7] ?_
 simp only [go_sem, simprocAttr, sw0]
 refine OW.call' 4 rfl rfl rfl (by ((simp only [go_sem, List.toList_toArray, simprocAttr]); exact rfl)) ?_ (plan_CheckCell_ok N _ _ _ _ _ _ _ _ _ e6) ?_ ?_ ?_ ?_
 rfl
 · (refine okAll_intro ?_; (simp only [go_sem, sw2, List.length_set, List.length_replicate, and_true, true_and, Nat.le_refl, simprocAttr]; done))
 exact .inl rfl
 (simp only [go_sem, Nat.reduceLT])
 refine OW.run [2, 3, 5, 6, 7] ?_
 simp only [go_sem, simprocAttr, sw0]
 refine OW.nil (hK _ ?_)
 refine PW.seq ?_
 obtain ⟨⟨x7, x71, x72⟩, e7, H⟩ := bnd_some H
 refine PW.regionK fun K hK => OW.run [2, 3, 5, 6, 7, 8, 9] ?_
 simp only [go_sem, simprocAttr, sw0]
 refine OW.call' 4 rfl rfl rfl (by ((simp only [go_sem, List.toList_toArray, simprocAttr]); exact rfl)) ?_ (ref09_CheckRaster_ok N _ _ e7) ?_ ?_ ?_ ?_
 rfl
 · (refine okAll_intro ?_; (simp only [go_sem, sw2, List.length_set, List.length_replicate, and_true, true_and, Nat.le_refl, simprocAttr]; done))
 exact .inl rfl
 (simp only [go_sem, Nat.reduceLT])
 refine OW.run [2, 3, 5, 6, 7, 8, 9] ?_
 simp only [go_sem, simprocAttr, sw0]
 refine OW.nil (hK _ ?_)
 refine PW.seq ?_
 obtain ⟨x8, e8, H⟩ := bnd_some H
 refine PW.regionK fun K hK => OW.run [4] ?_
 simp only [go_sem, simprocAttr, sw0]
 refine OW.callG' 4 rfl rfl ?_ (fun hg => by first | rfl | (simp only [go_sem, ↓reduceIte]; rfl)) (fun hg => by ((simp only [go_sem, List.toList_toArray, simprocAttr]); exact rfl)) (fun hg => ?_) (fun hg => (ref09_CellErr_ok N _ _ _ _ _ _ _ _ _ (grd_t hg e8))) ?_ ?_ ?_ ?_
 simp only [go_sem, simprocAttr]
 rfl
 · (refine okAll_intro ?_; (simp only [go_sem, sw2, List.length_set, List.length_replicate, and_true, true_and, Nat.le_refl, simprocAttr]; done))
 exact .inl rfl
 (simp only [go_sem, Nat.reduceLT])
 refine OW.run [4] ?_
 simp only [go_sem, simprocAttr, sw0]
 refine OW.nil (hK _ ?_)
 refine PW.ret ?_
 change PW.Ends _ _ _ _ _ _
 refine PW.Ends.intro (.inr rfl) ?_
 simp only [go_sem, simprocAttr, sw0]
 obtain rfl := Option.some.inj H
 refine RetOK.data' 4 (by exact trivial) ?_
 rfl
end Go.Proofs.Ytklejiafioalnaa
