/-
 Phones that are on in cycles: how often, and when next. Plain numbers.
-/
import Derived.Test.YtbndgoeahoadlaaGreatDoorPlA
import Derived.Test.YtbndgoeahoadlaaGreatDoorAsS
set_option linter.all false
namespace Go.Sh
open Go.PW

end Go.Sh

/-
 Occasions: the next one of a frame and a subframe. Plain numbers.
-/
namespace Go.Sh
open Go.PW

end Go.Sh

/-
 Phones that sleep: what the functions of both sides come to.
-/
namespace Go.Sh
open Go.PW
noncomputable section

theorem grd_val {α : Type} (g : Bool) (d b : α) : grd g d (some b) = some (if g = true then b else d) := by unfold grd; split <;> rfl
theorem br_val {α : Type} (g : Bool) (a b : α) : br g (some a) (some b) = some (if g = true then a else b) := by unfold br; split <;> rfl
def inB (n lo hi : Int) : Bool := decide (lo ≤ n) && decide (n ≤ hi)
theorem inB_true {n lo hi : Int} : inB n lo hi = true ↔ lo ≤ n ∧ n ≤ hi := by simp [inB]
theorem within_eq (N : Nat) (n lo hi : Int) : access_within N n lo hi = some (inB n lo hi) := rfl
theorem Within_eq (N : Nat) (n lo hi : Int) : base_Within N n lo hi = some (inB n lo hi) := rfl
theorem unless_eq (N : Nat) (b : Bool) (e : Int) : access_unless N b e = some (if b = true then 0 else e) := br_val b 0 e
def firstF : List Int → Int
 | [] => 0
 | e :: l => if e = 0 then firstF l else e
theorem first_eq {N : Nat} {l : List Int} (hl : l.length < N) (hb : l.length ≤ 1000) : access_first N l = some (firstF l) := by
 have key : rds (access_first.b1 N l fun _ => some 0) N (0 : Int) = some (firstF (l.drop (0 : Int).toNat)) := by
  refine rds_spec (fun k : Int => 0 ≤ k ∧ k ≤ l.length) (fun k => l.length - k.toNat) (fun k => some (firstF (l.drop k.toNat))) (fun rec k hk hrec => ?_) N 0 (by omega) (by simp; omega)
  unfold access_first.b1
  by_cases h : k < (l.length : Int)
  ·
   rw [br_pos (by simpa using h), chk_pos (by omega)]
   have hkn : k.toNat < l.length := by omega
   have hd : l.drop k.toNat = l.getD k.toNat 0 :: l.drop (k.toNat + 1) := by
    rw [List.drop_eq_getElem_cons hkn]
    simp [List.getD_eq_getElem?_getD, hkn]
   rw [hd]
   by_cases he : l.getD k.toNat 0 = 0
   ·
    rw [br_neg (by simpa using he), w64_id (by omega), hrec (k + 1) (by omega) (by omega)]
    simp only [firstF, he, if_true]
    rw [show (k + 1).toNat = k.toNat + 1 by omega]
   ·
    rw [br_pos (by simpa using he)]
    simp only [firstF, he, if_false]
  ·
   rw [br_neg (by simpa using h)]
   rw [List.drop_eq_nil_of_le (by omega)]; rfl
 exact key
end
end Go.Sh

/-
 The beginning: rules, draws, the first state.
-/
namespace Go.Sh
open Go.PW
noncomputable section
section
variable {N : Nat} {Pr Ev Wi Wa Tr Ba Id : Int}
def okRules (Pr Ev Wi Wa Tr Ba Id : Int) : Prop := (1 ≤ Pr ∧ Pr ≤ 8) ∧ (1 ≤ Ev ∧ Ev ≤ 100) ∧ (1 ≤ Wi ∧ Wi ≤ 100) ∧ (1 ≤ Wa ∧ Wa ≤ 100) ∧ (1 ≤ Tr ∧ Tr ≤ 10) ∧ (0 ≤ Ba ∧ Ba ≤ 1000) ∧ 1 ≤ Id ∧ Id ≤ 16
instance (Pr Ev Wi Wa Tr Ba Id : Int) : Decidable (okRules Pr Ev Wi Wa Tr Ba Id) := by unfold okRules; infer_instance
def rulesE (Pr Ev Wi Wa Tr Ba Id : Int) : Int := if okRules Pr Ev Wi Wa Tr Ba Id then 0 else 2
theorem br_chain {α : Type} (b : Bool) (e : α) (p : Prop) [Decidable p] (x : α) : br (!b) (some e) (some (if p then x else e)) = some (if b = true ∧ p then x else e) := by
 cases b
 · simp
 · simp
theorem CheckRules_eq (N : Nat) (Pr Ev Wi Wa Tr Ba Id : Int) : access_CheckRules N Pr Ev Wi Wa Tr Ba Id = some (rulesE Pr Ev Wi Wa Tr Ba Id) := by
 unfold access_CheckRules jn
 simp only [within_eq, bnd_val]
 rw [show (some 0 : Option Int) = some (if True then 0 else 2) from rfl]
 simp only [br_chain]
 simp only [inB_true, and_true]
 rfl
theorem CheckRulesR_eq (N : Nat) (Pr Ev Wi Wa Tr Ba Id : Int) : ref07_CheckRules N Pr Ev Wi Wa Tr Ba Id = some (rulesE Pr Ev Wi Wa Tr Ba Id) := by
 unfold ref07_CheckRules
 simp only [Within_eq, bnd_val, grd_val, br_val]
 unfold rulesE okRules
 simp only [← inB_true]
 cases inB Pr 1 8 <;> cases inB Ev 1 100 <;> cases inB Wi 1 100 <;> cases inB Wa 1 100 <;> cases inB Tr 1 10 <;> cases inB Ba 0 1000 <;> cases inB Id 1 16 <;> rfl
def isD7 (n : Int) : Bool := inB n 0 998244352
def drawsE (l : List Int) : Int := if l.length = 0 then 10 else if l.length > 8 then 8 else if l.all isD7 = true then 0 else 2
def idxF (g : Int → Bool) : List Int → Int → Int
 | [], _ => -1
 | x :: r, k => if g x = true then k else idxF g r (k + 1)
theorem idxF_any (g : Int → Bool) : ∀ (l : List Int) (k : Int), 0 ≤ k → decide (idxF g l k ≥ 0) = l.any g
 | [], k, _ => rfl
 | x :: r, k, hk => by
  unfold idxF
  rw [List.any_cons]
  cases h : g x
  · rw [if_neg (by simp), Bool.false_or]; exact idxF_any g r (k + 1) (by omega)
  · rw [if_pos rfl, Bool.true_or]; simpa using hk
theorem drop_at {l : List Int} {k : Nat} (h : k < l.length) : l.drop k = l.getD k 0 :: l.drop (k + 1) := by
 rw [List.drop_eq_getElem_cons h]
 simp [List.getD_eq_getElem?_getD, h]
theorem Contains_eq {l : List Int} {f : Int → Option Bool} {g : Int → Bool} (hf : ∀ x, f x = some (g x)) (hl : l.length < N) (hb : l.length ≤ 1000) : slices_ContainsFunc_ii N l f = some (l.any g) := by
 unfold slices_ContainsFunc_ii slices_IndexFunc_ii jn
 have key : rds (slices_IndexFunc_ii.b1 N l f fun _ => some (-1)) N (0 : Int) = some (idxF g (l.drop (0 : Int).toNat) 0) := by
  refine rds_spec (fun k : Int => 0 ≤ k ∧ k ≤ l.length) (fun k => l.length - k.toNat) (fun k => some (idxF g (l.drop k.toNat) k)) (fun rec k hk hrec => ?_) N 0 (by omega) (by simp; omega)
  unfold slices_IndexFunc_ii.b1
  by_cases h : k < (l.length : Int)
  ·
   rw [br_pos (by simpa using h), chk_pos (by omega), drop_at (by omega), hf]
   simp only [bnd_val]
   unfold idxF
   cases hg : g (l.getD k.toNat 0)
   · rw [br_false, if_neg (by simp), w64_id (by omega), hrec (k + 1) (by omega) (by omega), show (k + 1).toNat = k.toNat + 1 by omega]
   · rw [br_true, if_pos rfl]
  · rw [br_neg (by simpa using h), List.drop_eq_nil_of_le (by omega)]; rfl
 dsimp only
 rw [key]
 simp only [bnd_val]
 rw [idxF_any g _ 0 (by omega)]
 rfl
theorem areDraws_eq {l : List Int} (hl : l.length < N) (hb : l.length ≤ 1000) : access_areDraws N l = some (if l.all isD7 = true then 0 else 2) := by
 unfold access_areDraws
 rw [Contains_eq (f := fun y0 => access_areDraws_1 N y0) (g := fun n => !isD7 n) (fun x => rfl) hl hb]
 simp only [bnd_val, unless_eq]
 have : (!l.any fun n => !isD7 n) = l.all isD7 := by rw [List.all_eq_not_any_not]
 rw [this]
theorem phonesErr_eq {n : Int} (hN : 10 ≤ N) : access_phonesErr N n = some (firstF [if n > 0 then 0 else 10, if n ≤ 8 then 0 else 8]) := by
 unfold access_phonesErr
 simp only [unless_eq, bnd_val, decide_eq_true_eq]
 rw [first_eq (by simp; omega) (by simp)]
 rfl
theorem DrawsErrR_eq {l : List Int} (hN : 20 ≤ N) : ref07_DrawsErr N l = some (drawsE l) := by
 unfold ref07_DrawsErr drawsE jn
 by_cases h0 : l.length = 0
 · rw [br_pos (by simp [h0]), if_pos h0]
 rw [br_neg (by simp; intro e; exact h0 (by rw [e]; rfl)), if_neg h0]
 by_cases h8 : l.length > 8
 · rw [br_pos (by simp; omega), if_pos h8]
 rw [br_neg (by simp; omega), if_neg h8]
 have key : rds (ref07_DrawsErr.b1 N l fun _ => some 0) N (0 : Int) = some (if (l.drop (0 : Int).toNat).all isD7 = true then 0 else 2) := by
  refine rds_spec (fun k : Int => 0 ≤ k ∧ k ≤ l.length) (fun k => l.length - k.toNat) (fun k => some (if (l.drop k.toNat).all isD7 = true then 0 else 2)) (fun rec k hk hrec => ?_) N 0 (by omega) (by simp; omega)
  unfold ref07_DrawsErr.b1
  by_cases h : k < (l.length : Int)
  ·
   rw [br_pos (by simpa using h), chk_pos (by omega), drop_at (by omega), List.all_cons]
   have : ref07_isDraw N (l.getD k.toNat 0) = some (isD7 (l.getD k.toNat 0)) := rfl
   rw [this]
   simp only [bnd_val]
   cases isD7 (l.getD k.toNat 0)
   · rw [br_pos (by rfl)]; simp
   · rw [br_neg (by rfl), w64_id (by omega), hrec (k + 1) (by omega) (by omega), show (k + 1).toNat = k.toNat + 1 by omega, Bool.true_and]
  · rw [br_neg (by simpa using h), List.drop_eq_nil_of_le (by omega)]; rfl
 exact key
def idleT (d : Int) : Ph := (0, -1, 0, -1, 0, 0, d)
theorem Begin_c {l : List Int} (hN : 20 ≤ N) (hl : l.length ≤ 10) : access_Begin N Pr Ev Wi Wa Tr Ba Id l = some (if firstF [rulesE Pr Ev Wi Wa Tr Ba Id, drawsE l] = 0 then (0, l.map idleT, 0) else (0, [], firstF [rulesE Pr Ev Wi Wa Tr Ba Id, drawsE l])) := by
 have he : firstF [rulesE Pr Ev Wi Wa Tr Ba Id, firstF [if (l.length : Int) > 0 then 0 else 10, if (l.length : Int) ≤ 8 then 0 else 8], if l.all isD7 = true then 0 else 2] = firstF [rulesE Pr Ev Wi Wa Tr Ba Id, drawsE l] := by
  by_cases hr : rulesE Pr Ev Wi Wa Tr Ba Id = 0
  ·
   rw [hr]
   unfold drawsE
   by_cases h0 : l.length = 0
   · rw [if_neg (by omega), if_pos h0]; simp [firstF]
   ·
    rw [if_pos (show (l.length : Int) > 0 by omega), if_neg h0]
    by_cases h8 : l.length > 8
    · rw [if_neg (by omega), if_pos h8]; simp [firstF]
    · rw [if_pos (show (l.length : Int) ≤ 8 by omega), if_neg h8]; simp [firstF]
  · simp [firstF, hr]
 unfold access_Begin
 rw [CheckRules_eq, phonesErr_eq (by omega), areDraws_eq (by omega) (by omega)]
 simp only [bnd_val]
 rw [first_eq (by simp; omega) (by simp), he]
 simp only [bnd_val]
 by_cases h : firstF [rulesE Pr Ev Wi Wa Tr Ba Id, drawsE l] = 0
 rotate_left
 · rw [br_pos (by simpa using h), if_neg h]
 rw [br_neg (by simp [h]), if_pos h]
 unfold jn
 have key : rds (access_Begin.b1 N l fun b => some (0, b, 0)) N ((0 : Int), ([] : List Ph)) = some (0, [] ++ (l.drop (0 : Int).toNat).map idleT, 0) := by
  refine rds_spec (fun x : Int × List Ph => (0 ≤ x.1 ∧ x.1 ≤ l.length) ∧ (x.2.length : Int) = x.1) (fun x => l.length - x.1.toNat) (fun x => some (0, x.2 ++ (l.drop x.1.toNat).map idleT, 0)) (fun rec x hk hrec => ?_) N (0, []) (by simp) (by simp; omega)
  obtain ⟨k, b⟩ := x
  simp only at hk
  unfold access_Begin.b1
  dsimp only
  by_cases h : k < (l.length : Int)
  ·
   rw [br_pos (by simpa using h), chk_pos (by omega), drop_at (by omega)]
   have : access_idle N (l.getD k.toNat 0) = some (idleT (l.getD k.toNat 0)) := rfl
   rw [this]
   simp only [bnd_val]
   rw [chk_pos (by simp only [List.length_cons, List.length_nil]; omega), w64_id (by omega), hrec (k + 1, b ++ [idleT (l.getD k.toNat 0)]) ⟨⟨by show 0 ≤ k + 1; omega, by show k + 1 ≤ _; omega⟩, by show ((b ++ [_]).length : Int) = k + 1; simp; omega⟩ (by show l.length - (k + 1).toNat < l.length - k.toNat; omega)]
   show some (0, (b ++ [idleT (l.getD k.toNat 0)]) ++ (l.drop (k + 1).toNat).map idleT, 0) = _
   rw [show (k + 1).toNat = k.toNat + 1 by omega, List.map_cons, List.append_assoc]; rfl
  · rw [br_neg (by simpa using h), List.drop_eq_nil_of_le (by omega), List.map_nil, List.append_nil]
 exact key
theorem BeginR_c {l : List Int} (hN : 20 ≤ N) (hl : l.length ≤ 10) : ref07_Begin N l = some (0, l.map idleT) := by
 unfold ref07_Begin jn
 have key : rds (ref07_Begin.b1 N l fun b => some (0, b)) N ((0 : Int), ([] : List Ph)) = some (0, [] ++ (l.drop (0 : Int).toNat).map idleT) := by
  refine rds_spec (fun x : Int × List Ph => (0 ≤ x.1 ∧ x.1 ≤ l.length) ∧ (x.2.length : Int) = x.1) (fun x => l.length - x.1.toNat) (fun x => some (0, x.2 ++ (l.drop x.1.toNat).map idleT)) (fun rec x hk hrec => ?_) N (0, []) (by simp) (by simp; omega)
  obtain ⟨k, b⟩ := x
  simp only at hk
  unfold ref07_Begin.b1
  dsimp only
  by_cases h : k < (l.length : Int)
  ·
   rw [br_pos (by simpa using h), chk_pos (by omega), drop_at (by omega)]
   have : ref07_plain N 0 (l.getD k.toNat 0) = some (idleT (l.getD k.toNat 0)) := rfl
   rw [this]
   simp only [bnd_val]
   rw [chk_pos (by simp only [List.length_cons, List.length_nil]; omega), w64_id (by omega), hrec (k + 1, b ++ [idleT (l.getD k.toNat 0)]) ⟨⟨by show 0 ≤ k + 1; omega, by show k + 1 ≤ _; omega⟩, by show ((b ++ [_]).length : Int) = k + 1; simp; omega⟩ (by show l.length - (k + 1).toNat < l.length - k.toNat; omega)]
   show some (0, (b ++ [idleT (l.getD k.toNat 0)]) ++ (l.drop (k + 1).toNat).map idleT) = _
   rw [show (k + 1).toNat = k.toNat + 1 by omega, List.map_cons, List.append_assoc]; rfl
  · rw [br_neg (by simpa using h), List.drop_eq_nil_of_le (by omega), List.map_nil, List.append_nil]
 exact key
theorem Same_self {t : Int} {l : List Ph} (hl : l.length < N) (hb : l.length ≤ 1000) : ref07_Same N t l t l = some true := by
 unfold ref07_Same jn
 rw [br_neg (by simp)]
 have key : rds (ref07_Same.b1 N l l fun _ => some true) N (0 : Int) = some true := by
  refine rds_spec (fun k : Int => 0 ≤ k ∧ k ≤ l.length) (fun k => l.length - k.toNat) (fun _ => some true) (fun rec k hk hrec => ?_) N 0 (by omega) (by simp; omega)
  unfold ref07_Same.b1
  by_cases h : k < (l.length : Int)
  ·
   rw [br_pos (by simpa using h), chk_pos (by omega), chk_pos (by omega), br_neg (by simp), w64_id (by omega)]
   exact hrec (k + 1) (by omega) (by omega)
  · rw [br_neg (by simpa using h)]
 exact key
theorem law_AccessBegins (hN : 20 ≤ N) (l : List Int) : law07_AccessBegins N Pr Ev Wi Wa Tr Ba Id l = some true := by
 unfold law07_AccessBegins
 simp only [law07_awake, bnd_val, Bool.not_true, br_false, CheckRules_eq, CheckRulesR_eq]
 by_cases hl : l.length ≤ 10
 rotate_left
 · rw [br_pos (by simp; omega)]
 rw [br_neg (by simp; omega)]
 unfold base_CopyInts
 rw [chk_pos (by simp; omega)]
 simp only [bnd_val, List.nil_append]
 rw [Begin_c hN hl, DrawsErrR_eq hN, BeginR_c hN hl]
 simp only [bnd_val]
 rw [br_neg (by simp)]
 unfold jn
 dsimp only
 by_cases hr : rulesE Pr Ev Wi Wa Tr Ba Id = 0
 ·
  rw [br_pos (by simpa using hr)]
  by_cases hd : drawsE l = 0
  ·
   rw [if_pos (by simp [firstF, hr, hd])]
   simp only [bnd_val, grd_val]
   rw [hd, br_neg (by simp), beq_self_eq_true, if_pos rfl, Same_self (by simp; omega) (by simp; omega)]
   rfl
  ·
   have e : firstF [rulesE Pr Ev Wi Wa Tr Ba Id, drawsE l] = drawsE l := by simp [firstF, hr, hd]
   rw [e, if_neg hd]
   simp only [bnd_val, grd_val]
   rw [br_pos (by simpa using hd), Same_self (by simp; omega) (by simp)]
   simp
 ·
  rw [br_neg (by simpa using hr)]
  have e : firstF [rulesE Pr Ev Wi Wa Tr Ba Id, drawsE l] = rulesE Pr Ev Wi Wa Tr Ba Id := by simp [firstF, hr]
  rw [e, if_neg hr]
  simp only [bnd_val, grd_val]
  rw [br_pos (by simpa using hr), Same_self (by simp; omega) (by simp)]
  simp
end
end
end Go.Sh
