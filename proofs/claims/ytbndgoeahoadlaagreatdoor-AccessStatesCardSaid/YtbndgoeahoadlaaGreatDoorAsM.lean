import Derived.Test.YtbndgoeahoadlaaGreatDoorAsTy
import Derived.Test.YtbndgoeahoadlaaGreatDoorPwX
import Derived.Test.YtbndgoeahoadlaaGreatDoorPwF3
import Derived.Test.YtbndgoeahoadlaaGreatDoorPwG5
import Derived.Test.YtbndgoeahoadlaaGreatDoorPwF8
import Derived.Test.YtbndgoeahoadlaaGreatDoorAsH
set_option linter.all false
namespace Go.Proofs.YtbndgoeahoadlaaGreatDoor
open Go.PW Go.Sh

set_option maxRecDepth 20000
set_option maxHeartbeats 8000000
set_option maxRecDepth 20000 in
theorem slices_Clone_pp_ok (N : Nat) (s : List Ph) (r : List Ph) (H : slices_Clone_pp N s = some r) : CallOK Tryz.prog 120 [.list s.length (s.flatMap (fun x : Int × Int × Int × Int × Int × Int × Int => [I x.1, I x.2.1, I x.2.2.1, I x.2.2.2.1, I x.2.2.2.2.1, I x.2.2.2.2.2.1, I x.2.2.2.2.2.2]))] (.own 0 0 r.length 7) [(r.flatMap (fun x : Int × Int × Int × Int × Int × Int × Int => [I x.1, I x.2.1, I x.2.2.1, I x.2.2.2.1, I x.2.2.2.2.1, I x.2.2.2.2.2.1, I x.2.2.2.2.2.2]), 71)] := by
 refine CallOK.of_PW Tryz.func120 rfl (by rw [Tryz.results120]) Tryz.ntmps120 Tryz.call120 ?_
 change PW _ _ _ _ _
 try simp only [go_sem, simprocAttr]
 unfold slices_Clone_pp at H
 obtain ⟨c1, H⟩ := chk_some H
 obtain rfl := Option.some.inj H
 refine PW.seq ?_
 refine PW.regionK fun K hK => OW.run [0] ?_
 simp only [go_sem, simprocAttr, sw0]
 refine OW.nil (hK _ ?_)
 refine PW.seq ?_
 refine PW.seq ?_
 refine PW.regionK fun K hK => ?_
 refine OW.step rfl ?_
 simp only [go_sem, simprocAttr, sw0]
 refine OW.binNil rfl rfl se28 rfl rfl (by (simp only [go_sem, Nat.reduceLT])) ?_
 intro b hb
 refine OW.run [0, 4] ?_
 simp only [go_sem, simprocAttr, sw0]
 refine OW.nil (hK _ ?_)
 refine PW.cond rfl (fun h => ?_) (fun h => ?_)
 have hs : s = [] := by
  have h0 := hb h
  cases s with
  | nil => rfl
  | cons x s => simp at h0
 subst hs
 refine PW.seq ?_
 refine PW.regionK fun K hK => OW.run [2] ?_
 try simp only [go_sem, simprocAttr]
 refine OW.nil (hK _ ?_)
 refine PW.ret ?_
 change PW.Ends _ _ _ _ _ _
 refine PW.Ends.intro (.inr rfl) ?_
 try simp only [go_sem, simprocAttr]
 exact RetOK.nilOwn
 refine PW.skip ?_
 refine PW.seq ?_
 refine PW.regionK fun K hK => OW.run [2] ?_
 (simp only [go_sem, simprocAttr, sw0, flatMap_length 7 (fun x : Int × Int × Int × Int × Int × Int × Int => [I x.1, I x.2.1, I x.2.2.1, I x.2.2.2.1, I x.2.2.2.2.1, I x.2.2.2.2.2.1, I x.2.2.2.2.2.2]) (fun _ => rfl), allOne_flatF (fun x : Int × Int × Int × Int × Int × Int × Int => [I x.1, I x.2.1, I x.2.2.1, I x.2.2.2.1, I x.2.2.2.2.1, I x.2.2.2.2.2.1, I x.2.2.2.2.2.2]) (fun _ => rfl)])
 repeat (refine And.intro (by omega) ?_)
 refine OW.nil (hK _ ?_)
 refine PW.ret ?_
 change PW.Ends _ _ _ _ _ _
 refine PW.Ends.intro (.inr rfl) ?_
 try simp only [go_sem, simprocAttr]
 refine RetOK.own 0 _ _ rfl ?_
 rfl

def isI : D → Bool
 | .val (.int .i64 _) => true
 | _ => false
theorem allI : ∀ {l : List D}, l.all isI = true → ∃ s : List Int, l = s.map I
 | [], _ => ⟨[], rfl⟩
 | x :: l, h => by
  simp only [List.all_cons, Bool.and_eq_true] at h
  obtain ⟨s, rfl⟩ := allI h.2
  obtain ⟨n, rfl⟩ : ∃ n, x = I n := by
   have h1 := h.1
   unfold isI at h1
   split at h1
   · exact ⟨_, rfl⟩
   · cases h1
  exact ⟨n :: s, rfl⟩
def phF (x : Ph) : List D := [I x.1, I x.2.1, I x.2.2.1, I x.2.2.2.1, I x.2.2.2.2.1, I x.2.2.2.2.2.1, I x.2.2.2.2.2.2]
theorem chunk7 : ∀ (n : Nat) (l : List Int), l.length = n * 7 → ∃ s : List Ph, s.length = n ∧ s.flatMap phF = l.map I
 | 0, l, h => ⟨[], rfl, by
  have : l = [] := List.length_eq_zero_iff.1 (by omega)
  subst this; rfl⟩
 | n + 1, l, h => by
  match l, h with
  | a :: b :: c :: d :: e :: f :: g :: l, h =>
   obtain ⟨s, h1, h2⟩ := chunk7 n l (by simp only [List.length_cons] at h; omega)
   exact ⟨(a, b, c, d, e, f, g) :: s, by simp [h1], by simp only [List.flatMap_cons, h2, phF, List.map_cons, List.cons_append, List.nil_append]⟩
  | [], h => exact absurd h (by simp only [List.length_cons, List.length_nil]; omega)
  | [_], h => exact absurd h (by simp only [List.length_cons, List.length_nil]; omega)
  | [_, _], h => exact absurd h (by simp only [List.length_cons, List.length_nil]; omega)
  | [_, _, _], h => exact absurd h (by simp only [List.length_cons, List.length_nil]; omega)
  | [_, _, _, _], h => exact absurd h (by simp only [List.length_cons, List.length_nil]; omega)
  | [_, _, _, _, _], h => exact absurd h (by simp only [List.length_cons, List.length_nil]; omega)
  | [_, _, _, _, _, _], h => exact absurd h (by simp only [List.length_cons, List.length_nil]; omega)
def cloneM (args : List V) (O : List Ob) : Option (V × List Ob × List Nat) :=
 match args with
 | [.d (.list n cells)] => if cells.all isI && Nat.beq cells.length (n * 7) && Nat.ble n 1000 then some (.own O.length 0 n 7, O ++ [⟨cells.map .d, 71⟩], []) else none
 | _ => none
theorem cloneM_ok {args : List V} {O O' : List Ob} {r : V} {ks : List Nat} (h : cloneM args O = some (r, O', ks)) : CallM Tryz.prog 120 args O r O' ks := by
 unfold cloneM at h
 split at h
 rename_i n cells
 split at h
 rename_i hc
 simp only [Bool.and_eq_true, Nat.beq_eq, Nat.ble_eq] at hc
 obtain ⟨⟨h1, h2⟩, h3⟩ := hc
 obtain ⟨l, rfl⟩ := allI h1
 obtain ⟨s, hs, hf⟩ := chunk7 n l (by simpa using h2)
 cases h
 have e := slices_Clone_pp_ok 0 s s (by unfold slices_Clone_pp chk; rw [if_pos (by omega)])
 have hF : s.flatMap (fun x : Int × Int × Int × Int × Int × Int × Int => [I x.1, I x.2.1, I x.2.2.1, I x.2.2.2.1, I x.2.2.2.2.1, I x.2.2.2.2.2.1, I x.2.2.2.2.2.2]) = l.map I := hf
 rw [hF, hs] at e
 refine CallM.ofOwn' 4 e rfl (by simp [okD]) ?_ ?_ ?_
 simp only [List.map_cons, List.map_nil, toD, nz]
 simp only [V.shift, Nat.zero_add]
 simp [Env.addObs, bare, toOb, List.map_map]
 cases h
 cases h
end Go.Proofs.YtbndgoeahoadlaaGreatDoor
