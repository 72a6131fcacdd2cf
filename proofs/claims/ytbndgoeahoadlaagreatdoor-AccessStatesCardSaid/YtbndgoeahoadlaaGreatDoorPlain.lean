/-
 Phones that are on in cycles: how often, and when next. Plain numbers.
-/
import Derived.Test.YtbndgoeahoadlaaGreatDoorPlA
import Derived.Test.YtbndgoeahoadlaaGreatDoorAsS
import Derived.Test.YtbndgoeahoadlaaGreatDoorAsS2
set_option linter.all false
namespace Go.Sh
open Go.PW

end Go.Sh

/-
 Occasions: the next one of a frame and a subframe. Plain numbers.
-/
namespace Go.Sh
open Go.PW

end Go.Sh

/-
 Phones that sleep: what the functions of both sides come to.
-/
namespace Go.Sh
open Go.PW
noncomputable section

theorem grd_val {α : Type} (g : Bool) (d b : α) : grd g d (some b) = some (if g = true then b else d) := by unfold grd; split <;> rfl
theorem br_val {α : Type} (g : Bool) (a b : α) : br g (some a) (some b) = some (if g = true then a else b) := by unfold br; split <;> rfl
theorem ite_and_false (g b : Bool) : (if g = true then b else false) = (g && b) := by cases g <;> rfl
def inB (n lo hi : Int) : Bool := decide (lo ≤ n) && decide (n ≤ hi)
theorem inB_true {n lo hi : Int} : inB n lo hi = true ↔ lo ≤ n ∧ n ≤ hi := by simp [inB]
theorem within_eq (N : Nat) (n lo hi : Int) : access_within N n lo hi = some (inB n lo hi) := rfl
theorem Within_eq (N : Nat) (n lo hi : Int) : base_Within N n lo hi = some (inB n lo hi) := rfl
theorem unless_eq (N : Nat) (b : Bool) (e : Int) : access_unless N b e = some (if b = true then 0 else e) := br_val b 0 e
def firstF : List Int → Int
 | [] => 0
 | e :: l => if e = 0 then firstF l else e
theorem first_eq {N : Nat} {l : List Int} (hl : l.length < N) (hb : l.length ≤ 1000) : access_first N l = some (firstF l) := by
 have key : rds (access_first.b1 N l fun _ => some 0) N (0 : Int) = some (firstF (l.drop (0 : Int).toNat)) := by
  refine rds_spec (fun k : Int => 0 ≤ k ∧ k ≤ l.length) (fun k => l.length - k.toNat) (fun k => some (firstF (l.drop k.toNat))) (fun rec k hk hrec => ?_) N 0 (by omega) (by simp; omega)
  unfold access_first.b1
  by_cases h : k < (l.length : Int)
  ·
   rw [br_pos (by simpa using h), chk_pos (by omega)]
   have hkn : k.toNat < l.length := by omega
   have hd : l.drop k.toNat = l.getD k.toNat 0 :: l.drop (k.toNat + 1) := by
    rw [List.drop_eq_getElem_cons hkn]
    simp [List.getD_eq_getElem?_getD, hkn]
   rw [hd]
   by_cases he : l.getD k.toNat 0 = 0
   ·
    rw [br_neg (by simpa using he), w64_id (by omega), hrec (k + 1) (by omega) (by omega)]
    simp only [firstF, he, if_true]
    rw [show (k + 1).toNat = k.toNat + 1 by omega]
   ·
    rw [br_pos (by simpa using he)]
    simp only [firstF, he, if_false]
  ·
   rw [br_neg (by simpa using h)]
   rw [List.drop_eq_nil_of_le (by omega)]; rfl
 exact key
def tickE (t : Int) : Int := if 0 ≤ t ∧ t ≤ 1000000000 then 0 else 2
theorem isTick_eq (N : Nat) (t : Int) : access_isTick N t = some (inB t 0 1000000000) := rfl
theorem tickErr_eq (N : Nat) (t : Int) : access_tickErr N t = some (tickE t) := by
 unfold access_tickErr
 simp only [isTick_eq, unless_eq, bnd_val, tickE, inB_true]
theorem TickErr_eq (N : Nat) (t : Int) : ref07_TickErr N t = some (tickE t) := by
 unfold ref07_TickErr
 simp only [Within_eq, bnd_val, br_val, tickE]
 by_cases h : 0 ≤ t ∧ t ≤ 1000000000
 · rw [if_pos h, inB_true.2 h]; rfl
 · rw [if_neg h, Bool.eq_false_iff.2 (fun e => h (inB_true.1 e))]; rfl
end
end Go.Sh

/-
 The beginning: rules, draws, the first state.
-/
namespace Go.Sh
open Go.PW
noncomputable section
section
variable {N : Nat} {Pr Ev Wi Wa Tr Ba Id : Int}
def okRules (Pr Ev Wi Wa Tr Ba Id : Int) : Prop := (1 ≤ Pr ∧ Pr ≤ 8) ∧ (1 ≤ Ev ∧ Ev ≤ 100) ∧ (1 ≤ Wi ∧ Wi ≤ 100) ∧ (1 ≤ Wa ∧ Wa ≤ 100) ∧ (1 ≤ Tr ∧ Tr ≤ 10) ∧ (0 ≤ Ba ∧ Ba ≤ 1000) ∧ 1 ≤ Id ∧ Id ≤ 16
instance (Pr Ev Wi Wa Tr Ba Id : Int) : Decidable (okRules Pr Ev Wi Wa Tr Ba Id) := by unfold okRules; infer_instance
def rulesE (Pr Ev Wi Wa Tr Ba Id : Int) : Int := if okRules Pr Ev Wi Wa Tr Ba Id then 0 else 2
theorem inBd (n lo hi : Int) : inB n lo hi = decide (lo ≤ n ∧ n ≤ hi) := by unfold inB; rw [Bool.decide_and]
theorem br_chain {α : Type} (b : Bool) (e : α) (p : Prop) [Decidable p] (x : α) : br (!b) (some e) (some (if p then x else e)) = some (if b = true ∧ p then x else e) := by
 cases b
 · simp
 · simp
theorem CheckRules_eq (N : Nat) (Pr Ev Wi Wa Tr Ba Id : Int) : access_CheckRules N Pr Ev Wi Wa Tr Ba Id = some (rulesE Pr Ev Wi Wa Tr Ba Id) := by
 unfold access_CheckRules jn
 simp only [within_eq, bnd_val]
 rw [show (some 0 : Option Int) = some (if True then 0 else 2) from rfl]
 simp only [br_chain]
 simp only [inB_true, and_true]
 rfl
theorem CheckRulesR_eq (N : Nat) (Pr Ev Wi Wa Tr Ba Id : Int) : ref07_CheckRules N Pr Ev Wi Wa Tr Ba Id = some (rulesE Pr Ev Wi Wa Tr Ba Id) := by
 unfold ref07_CheckRules
 simp only [Within_eq, bnd_val, grd_val, br_val]
 unfold rulesE okRules
 simp only [← inB_true]
 cases inB Pr 1 8 <;> cases inB Ev 1 100 <;> cases inB Wi 1 100 <;> cases inB Wa 1 100 <;> cases inB Tr 1 10 <;> cases inB Ba 0 1000 <;> cases inB Id 1 16 <;> rfl
def isD7 (n : Int) : Bool := inB n 0 998244352
theorem phonesErr_eq {n : Int} (hN : 10 ≤ N) : access_phonesErr N n = some (firstF [if n > 0 then 0 else 10, if n ≤ 8 then 0 else 8]) := by
 unfold access_phonesErr
 simp only [unless_eq, bnd_val, decide_eq_true_eq]
 rw [first_eq (by simp; omega) (by simp)]
 rfl
end
end
end Go.Sh

/-
 States of a site: which are right, by both sides.
-/
namespace Go.Sh
open Go.PW
noncomputable section
section
variable {N : Nat} {Pr Ev Wi Wa Tr Ba Id : Int}
theorem dropP {α : Type} [Inhabited α] {l : List α} {k : Nat} (h : k < l.length) : l.drop k = l.getD k default :: l.drop (k + 1) := by
 rw [List.drop_eq_getElem_cons h]
 simp [List.getD_eq_getElem?_getD, h]
def idxA {α : Type} (g : α → Bool) : List α → Int → Int
 | [], _ => -1
 | x :: r, k => if g x = true then k else idxA g r (k + 1)
theorem idxA_any {α : Type} (g : α → Bool) : ∀ (l : List α) (k : Int), 0 ≤ k → decide (idxA g l k ≥ 0) = l.any g
 | [], k, _ => rfl
 | x :: r, k, hk => by
  unfold idxA
  rw [List.any_cons]
  cases h : g x
  · rw [if_neg (by simp), Bool.false_or]; exact idxA_any g r (k + 1) (by omega)
  · rw [if_pos rfl, Bool.true_or]; simpa using hk
theorem ContainsP_eq {l : List Ph} {f : Int → Int → Int → Int → Int → Int → Int → Option Bool} {g : Ph → Bool} (hf : ∀ p : Ph, f p.1 p.2.1 p.2.2.1 p.2.2.2.1 p.2.2.2.2.1 p.2.2.2.2.2.1 p.2.2.2.2.2.2 = some (g p)) (hl : l.length < N) (hb : l.length ≤ 1000) : slices_ContainsFunc_api_AccessPhone_api_AccessPhone N l f = some (l.any g) := by
 unfold slices_ContainsFunc_api_AccessPhone_api_AccessPhone slices_IndexFunc_api_AccessPhone_api_AccessPhone jn
 have key : rds (slices_IndexFunc_api_AccessPhone_api_AccessPhone.b1 N l f fun _ => some (-1)) N (0 : Int) = some (idxA g (l.drop (0 : Int).toNat) 0) := by
  refine rds_spec (fun k : Int => 0 ≤ k ∧ k ≤ l.length) (fun k => l.length - k.toNat) (fun k => some (idxA g (l.drop k.toNat) k)) (fun rec k hk hrec => ?_) N 0 (by omega) (by simp; omega)
  unfold slices_IndexFunc_api_AccessPhone_api_AccessPhone.b1
  by_cases h : k < (l.length : Int)
  ·
   rw [br_pos (by simpa using h), chk_pos (by omega), dropP (by omega), hf]
   simp only [bnd_val]
   unfold idxA
   cases hg : g (l.getD k.toNat default)
   · rw [br_false, if_neg (by simp), w64_id (by omega), hrec (k + 1) (by omega) (by omega), show (k + 1).toNat = k.toNat + 1 by omega]
   · rw [br_true, if_pos rfl]
  · rw [br_neg (by simpa using h), List.drop_eq_nil_of_le (by omega)]; rfl
 dsimp only
 rw [key]
 simp only [bnd_val]
 rw [idxA_any g _ 0 (by omega)]
 rfl
def heldB (id : Int) (p : Ph) : Bool := (p.1 == (4 : Int)) && (p.2.2.2.1 == id)
def hadB (id : Int) (p : Ph) : Bool := p.2.2.2.1 == id
theorem held_eq {l : List Ph} {id : Int} (hl : l.length < N) (hb : l.length ≤ 1000) : access_held N l id = some (l.any (heldB id)) := by
 unfold access_held
 rw [ContainsP_eq (f := fun y0 y1 y2 y3 y4 y5 y6 => access_held_1 N y0 y1 y2 y3 y4 y5 y6 id) (g := heldB id) (fun p => rfl) hl hb]
 rfl
theorem had_eq {l : List Ph} {id : Int} (hl : l.length < N) (hb : l.length ≤ 1000) : access_had N l id = some (l.any (hadB id)) := by
 unfold access_had
 rw [ContainsP_eq (f := fun y0 y1 y2 y3 y4 y5 y6 => access_had_1 N y0 y1 y2 y3 y4 y5 y6 id) (g := hadB id) (fun p => rfl) hl hb]
 rfl
def formB (p : Ph) : Bool :=
 if p.1 = 1 then decide (p.2.2.2.1 = -1)
 else if p.1 = 2 then decide (p.2.1 = -1 ∧ p.2.2.1 = 0)
 else if p.1 = 3 then decide (p.2.1 = -1 ∧ p.2.2.1 = 0 ∧ p.2.2.2.1 = -1)
 else if p.1 = 4 then decide (p.2.1 = -1 ∧ p.2.2.1 = 0 ∧ p.2.2.2.2.1 = 0 ∧ p.2.2.2.2.2.1 = 0)
 else if p.1 = 5 then decide (p.2.1 = -1 ∧ p.2.2.1 = 0 ∧ p.2.2.2.1 = -1 ∧ p.2.2.2.2.1 = 0)
 else decide (p.2.1 = -1 ∧ p.2.2.1 = 0 ∧ p.2.2.2.1 = -1 ∧ p.2.2.2.2.1 = 0 ∧ p.2.2.2.2.2.1 = 0)
theorem fits_eq (p : Ph) (h : 0 ≤ p.1 ∧ p.1 ≤ 5) : access_fits N p.1 p.2.1 p.2.2.1 p.2.2.2.1 p.2.2.2.2.1 p.2.2.2.2.2.1 p.2.2.2.2.2.2 = some (formB p) := by
 obtain ⟨st, a, b, c, d, e, f⟩ := p
 simp only at h ⊢
 unfold access_fits formB jn
 rw [chk_pos (by omega)]
 have hs : st = 0 ∨ st = 1 ∨ st = 2 ∨ st = 3 ∨ st = 4 ∨ st = 5 := by omega
 rcases hs with rfl | rfl | rfl | rfl | rfl | rfl
 all_goals
  simp only [br_val, br_true, br_false, show ((0 : Int) == 0) = true from rfl, show ((1 : Int) == 0) = false from rfl, show ((1 : Int) == 1) = true from rfl, show ((2 : Int) == 0) = false from rfl, show ((2 : Int) == 1) = false from rfl, show ((2 : Int) == 2) = true from rfl, show ((3 : Int) == 0) = false from rfl, show ((3 : Int) == 1) = false from rfl, show ((3 : Int) == 2) = false from rfl, show ((3 : Int) == 3) = true from rfl, show ((4 : Int) == 0) = false from rfl, show ((4 : Int) == 1) = false from rfl, show ((4 : Int) == 2) = false from rfl, show ((4 : Int) == 3) = false from rfl, show ((4 : Int) == 4) = true from rfl, show ((5 : Int) == 0) = false from rfl, show ((5 : Int) == 1) = false from rfl, show ((5 : Int) == 2) = false from rfl, show ((5 : Int) == 3) = false from rfl, show ((5 : Int) == 4) = false from rfl, show ((5 : Int) == 5) = true from rfl]
  congr 1
  rw [Bool.eq_iff_iff]
  simp [and_assoc]
theorem formed_eq (p : Ph) (h : 0 ≤ p.1 ∧ p.1 ≤ 5) : ref07_formed N p.1 p.2.1 p.2.2.1 p.2.2.2.1 p.2.2.2.2.1 p.2.2.2.2.2.1 p.2.2.2.2.2.2 = some (formB p) := by
 obtain ⟨st, a, b, c, d, e, f⟩ := p
 simp only at h ⊢
 unfold ref07_formed formB ref07_plain
 simp only [bnd_val, br_val]
 have hs : st = 0 ∨ st = 1 ∨ st = 2 ∨ st = 3 ∨ st = 4 ∨ st = 5 := by omega
 rcases hs with rfl | rfl | rfl | rfl | rfl | rfl
 all_goals
  congr 1
  rw [Bool.eq_iff_iff]
  simp
  try omega
def phEp (Pr Ev Wi Wa Tr Ba Id at_ : Int) (p : Ph) (pre : List Ph) : Int :=
 firstF [if 0 ≤ p.1 ∧ p.1 ≤ 5 then 0 else 15, if isD7 p.2.2.2.2.2.2 = true then 0 else 2, if formB p = true then 0 else 3,
  if p.1 = 1 then firstF [if inB p.2.1 0 (w64 (Pr - 1)) = true then 0 else 6, if (((inB p.2.2.1 0 at_ && (p.2.2.1.tmod Ev == 0)) && (p.2.2.2.2.1 == w64 (p.2.2.1 + Wi))) && decide (p.2.2.2.2.1 ≥ at_)) = true then 0 else 22, if inB p.2.2.2.2.2.1 1 Tr = true then 0 else 2]
  else if p.1 = 2 then firstF [if inB p.2.2.2.1 0 (w64 (Id - 1)) = true then 0 else 6, if inB p.2.2.2.2.1 at_ (w64 (at_ + Wa)) = true then 0 else 22, if inB p.2.2.2.2.2.1 1 Tr = true then 0 else 2, if pre.any (heldB p.2.2.2.1) = true then 13 else 0]
  else if p.1 = 3 then firstF [if inB p.2.2.2.2.1 0 (w64 (at_ + Ba)) = true then 0 else 22, if inB p.2.2.2.2.2.1 1 (Tr - 1) = true then 0 else 2]
  else if p.1 = 4 then firstF [if inB p.2.2.2.1 0 (w64 (Id - 1)) = true then 0 else 6, if pre.any (hadB p.2.2.2.1) = true then 13 else 0]
  else if p.1 = 5 then (if p.2.2.2.2.2.1 = Tr then 0 else 2) else 0]
def phE (Pr Ev Wi Wa Tr Ba Id at_ : Int) (l : List Ph) (i : Nat) : Int := phEp Pr Ev Wi Wa Tr Ba Id at_ (l.getD i default) (l.take i)
theorem firstF_nz {e : Int} {l : List Int} (h : e ≠ 0) : firstF (e :: l) = e := by simp [firstF, h]
theorem firstF_z {l : List Int} : firstF (0 :: l) = firstF l := by simp [firstF]
theorem firstF_one (e : Int) : firstF [e] = e := by by_cases h : e = 0 <;> simp [firstF, h]
theorem andL (a b : Bool) : (a && (a && b)) = (a && b) := by cases a <;> rfl
theorem not_if (b : Bool) (x y : Int) : (if (!b) = true then x else y) = if b = true then y else x := by cases b <;> rfl
theorem phoneErr_eq {at_ : Int} {l : List Ph} {i : Nat} (hN : 20 ≤ N) (hr : okRules Pr Ev Wi Wa Tr Ba Id) (hi : i < l.length) (hl : l.length ≤ 10) : access_site_phoneErr N Pr Ev Wi Wa Tr Ba Id at_ l (i : Int) = some (phE Pr Ev Wi Wa Tr Ba Id at_ l i) := by
 obtain ⟨_, hE, _, _, hT, _⟩ := id hr
 unfold access_site_phoneErr phE
 rw [chk_pos (by omega), chk_pos (by omega)]
 simp only [Int.toNat_natCast]
 obtain ⟨p, hpp⟩ : ∃ p : Ph, p = l.getD i default := ⟨_, rfl⟩
 simp only [← hpp]
 unfold phEp
 simp only [within_eq, bnd_val]
 by_cases hs : 0 ≤ p.1 ∧ p.1 ≤ 5
 rotate_left
 · rw [br_pos (by rw [inBd, decide_eq_false hs]; rfl), if_neg hs, firstF_nz (by decide)]
 rw [br_neg (by rw [inB_true.2 hs]; rfl), if_pos hs, firstF_z, fits_eq p hs]
 have hd : access_isDraw N p.2.2.2.2.2.2 = some (isD7 p.2.2.2.2.2.2) := rfl
 rw [hd]
 simp only [bnd_val, unless_eq]
 rw [first_eq (by simp; omega) (by simp)]
 simp only [bnd_val]
 by_cases h1 : isD7 p.2.2.2.2.2.2 = true
 rotate_left
 · rw [if_neg h1, firstF_nz (by decide), br_pos (by decide), firstF_nz (by decide)]
 rw [if_pos h1, firstF_z, firstF_z]
 by_cases h2 : formB p = true
 rotate_left
 · rw [if_neg h2, firstF_nz (by decide), br_pos (by decide), firstF_nz (by decide)]
 rw [if_pos h2, firstF_z, firstF_z, firstF_one, br_neg (by rfl)]
 have htk : (l.take i).length ≤ 10 := by rw [List.length_take]; omega
 rw [held_eq (by omega) (by omega), had_eq (by omega) (by omega)]
 have hc : ∀ n, access_site_isChance N Pr Ev Wi Wa Tr Ba Id at_ l n = some (n.tmod Ev == 0) := fun n => by unfold access_site_isChance; rw [chk_pos (by omega)]
 have hp : ∀ n, access_site_isPreamble N Pr Ev Wi Wa Tr Ba Id at_ l n = some (inB n 0 (w64 (Pr - 1))) := fun n => rfl
 have hid : ∀ n, access_site_isIdentity N Pr Ev Wi Wa Tr Ba Id at_ l n = some (inB n 0 (w64 (Id - 1))) := fun n => rfl
 rw [hc, hp, hid]
 simp only [bnd_val, grd_val, unless_eq, ite_and_false, andL, not_if]
 by_cases s1 : p.1 = 1
 · rw [br_pos (by simpa using s1), if_pos s1, first_eq (by simp; omega) (by simp)]; simp only [bnd_val]
 rw [br_neg (by simpa using s1), if_neg s1]
 by_cases s2 : p.1 = 2
 · rw [br_pos (by simpa using s2), if_pos s2, first_eq (by simp; omega) (by simp)]; simp only [bnd_val]
 rw [br_neg (by simpa using s2), if_neg s2]
 by_cases s3 : p.1 = 3
 ·
  rw [br_pos (by simpa using s3), if_pos s3, first_eq (by simp; omega) (by simp)]; simp only [bnd_val]
  have : (inB p.2.2.2.2.2.1 1 Tr && decide (p.2.2.2.2.2.1 < Tr)) = inB p.2.2.2.2.2.1 1 (Tr - 1) := by
   rw [Bool.eq_iff_iff, Bool.and_eq_true, inB_true, inB_true, decide_eq_true_eq]; omega
  rw [this]
 rw [br_neg (by simpa using s3), if_neg s3]
 by_cases s4 : p.1 = 4
 · rw [br_pos (by simpa using s4), if_pos s4, first_eq (by simp; omega) (by simp)]; simp only [bnd_val]
 rw [br_neg (by simpa using s4), if_neg s4]
 by_cases s5 : p.1 = 5
 ·
  rw [br_pos (by simpa using s5), if_pos s5]
  simp only [beq_iff_eq]
 rw [br_neg (by simpa using s5), if_neg s5]
theorem triesErr_eq (N : Nat) (p : Ph) (most : Int) : ref07_triesErr N p.1 p.2.1 p.2.2.1 p.2.2.2.1 p.2.2.2.2.1 p.2.2.2.2.2.1 p.2.2.2.2.2.2 most = some (if inB p.2.2.2.2.2.1 1 most = true then 0 else 2) := by
 unfold ref07_triesErr
 simp only [Within_eq, bnd_val, br_val, not_if]
theorem IdentityErr_eq (N : Nat) (n : Int) : ref07_IdentityErr N Pr Ev Wi Wa Tr Ba Id n = some (if inB n 0 (w64 (Id - 1)) = true then 0 else 6) := by
 unfold ref07_IdentityErr
 simp only [Within_eq, bnd_val, br_val, not_if]
theorem takeD {l : List Ph} {i k : Nat} (h : k < i) : (l.take i).getD k default = l.getD k default := by simp [List.getD_eq_getElem?_getD, List.getElem?_take, h]
theorem loopHeld {l : List Ph} {i : Nat} (hN : 20 ≤ N) (hi : i < l.length) (hl : l.length ≤ 10) : rds (ref07_phoneErr.b1 N l (i : Int) fun _ => some 0) N (0 : Int) = some (if (l.take i).any (heldB (l.getD i default).2.2.2.1) = true then 13 else 0) := by
 have hti : (l.take i).length = i := by rw [List.length_take]; omega
 have key : rds (ref07_phoneErr.b1 N l (i : Int) fun _ => some 0) N (0 : Int) = some (if ((l.take i).drop (0 : Int).toNat).any (heldB (l.getD i default).2.2.2.1) = true then 13 else 0) := by
  refine rds_spec (fun k : Int => 0 ≤ k ∧ k ≤ i) (fun k => i - k.toNat) (fun k => some (if ((l.take i).drop k.toNat).any (heldB (l.getD i default).2.2.2.1) = true then 13 else 0)) (fun rec k hk hrec => ?_) N 0 (by omega) (by simp; omega)
  unfold ref07_phoneErr.b1
  by_cases h : k < (i : Int)
  ·
   rw [br_pos (by simpa using h), chk_pos (by omega), chk_pos (fun _ => by omega), dropP (by omega), takeD (by omega), List.any_cons]
   show br (heldB (l.getD i default).2.2.2.1 (l.getD k.toNat default)) _ _ = _
   cases heldB (l.getD i default).2.2.2.1 (l.getD k.toNat default)
   · rw [br_false, w64_id (by omega), hrec (k + 1) (by omega) (by omega), show (k + 1).toNat = k.toNat + 1 by omega, Bool.false_or]
   · rw [br_true]; simp
  · rw [br_neg (by simpa using h), List.drop_eq_nil_of_le (by omega)]; rfl
 exact key
theorem loopHad {l : List Ph} {i : Nat} (hN : 20 ≤ N) (hi : i < l.length) (hl : l.length ≤ 10) : rds (ref07_phoneErr.b2 N l (i : Int) fun _ => some 0) N (0 : Int) = some (if (l.take i).any (hadB (l.getD i default).2.2.2.1) = true then 13 else 0) := by
 have hti : (l.take i).length = i := by rw [List.length_take]; omega
 have key : rds (ref07_phoneErr.b2 N l (i : Int) fun _ => some 0) N (0 : Int) = some (if ((l.take i).drop (0 : Int).toNat).any (hadB (l.getD i default).2.2.2.1) = true then 13 else 0) := by
  refine rds_spec (fun k : Int => 0 ≤ k ∧ k ≤ i) (fun k => i - k.toNat) (fun k => some (if ((l.take i).drop k.toNat).any (hadB (l.getD i default).2.2.2.1) = true then 13 else 0)) (fun rec k hk hrec => ?_) N 0 (by omega) (by simp; omega)
  unfold ref07_phoneErr.b2
  by_cases h : k < (i : Int)
  ·
   rw [br_pos (by simpa using h), chk_pos (by omega), dropP (by omega), takeD (by omega), List.any_cons]
   show br (hadB (l.getD i default).2.2.2.1 (l.getD k.toNat default)) _ _ = _
   cases hadB (l.getD i default).2.2.2.1 (l.getD k.toNat default)
   · rw [br_false, w64_id (by omega), hrec (k + 1) (by omega) (by omega), show (k + 1).toNat = k.toNat + 1 by omega, Bool.false_or]
   · rw [br_true]; simp
  · rw [br_neg (by simpa using h), List.drop_eq_nil_of_le (by omega)]; rfl
 exact key
theorem f3 (b1 b2 b3 : Bool) : br (!b1) (some (6 : Int)) (br (!b2) (some 22) (some (if b3 = true then 0 else 2))) = some (firstF [if b1 = true then 0 else 6, if b2 = true then 0 else 22, if b3 = true then 0 else 2]) := by cases b1 <;> cases b2 <;> cases b3 <;> rfl
theorem f2 (b2 b3 : Bool) : br (!b2) (some (22 : Int)) (some (if b3 = true then 0 else 2)) = some (firstF [if b2 = true then 0 else 22, if b3 = true then 0 else 2]) := by cases b2 <;> cases b3 <;> rfl
theorem f4 (b1 b2 b3 b4 : Bool) : br ((if b1 = true then (0 : Int) else 6) != 0) (some (if b1 = true then (0 : Int) else 6)) (br (!b2) (some 22) (br ((if b3 = true then (0 : Int) else 2) != 0) (some (if b3 = true then (0 : Int) else 2)) (some (if b4 = true then 13 else 0)))) = some (firstF [if b1 = true then 0 else 6, if b2 = true then 0 else 22, if b3 = true then 0 else 2, if b4 = true then 13 else 0]) := by cases b1 <;> cases b2 <;> cases b3 <;> cases b4 <;> rfl
theorem f1 (b1 b4 : Bool) : br ((if b1 = true then (0 : Int) else 6) != 0) (some (if b1 = true then (0 : Int) else 6)) (some (if b4 = true then 13 else 0)) = some (firstF [if b1 = true then 0 else 6, if b4 = true then 13 else 0]) := by cases b1 <;> cases b4 <;> rfl
theorem sentB (a : Bool) (b c d e : Int) (x y : Int) : ((((!a) || (b != c)) || (d != e)) || decide (x < y)) = !(((a && (b == c)) && (d == e)) && decide (x ≥ y)) := by
 by_cases h : x < y
 · rw [decide_eq_true h, decide_eq_false (show ¬ x ≥ y by omega)]; simp
 · rw [decide_eq_false h, decide_eq_true (show x ≥ y by omega)]; simp [bne]
theorem phoneErrR_eq {at_ : Int} {l : List Ph} {i : Nat} (hN : 20 ≤ N) (hr : okRules Pr Ev Wi Wa Tr Ba Id) (hi : i < l.length) (hl : l.length ≤ 10) : ref07_phoneErr N Pr Ev Wi Wa Tr Ba Id at_ l (i : Int) = some (phE Pr Ev Wi Wa Tr Ba Id at_ l i) := by
 obtain ⟨_, hE, _, _, hT, _⟩ := id hr
 have hh := loopHeld hN hi hl
 have hd2 := loopHad hN hi hl
 unfold ref07_phoneErr phE jn
 rw [chk_pos (by omega)]
 simp only [Int.toNat_natCast]
 obtain ⟨p, hpp⟩ : ∃ p : Ph, p = l.getD i default := ⟨_, rfl⟩
 simp only [← hpp] at hh hd2 ⊢
 unfold phEp
 simp only [Within_eq, bnd_val]
 by_cases hs : 0 ≤ p.1 ∧ p.1 ≤ 5
 rotate_left
 · rw [br_pos (by rw [inBd, decide_eq_false hs]; rfl), if_neg hs, firstF_nz (by decide)]
 rw [br_neg (by rw [inB_true.2 hs]; rfl), if_pos hs, firstF_z, formed_eq p hs]
 have hd : ref07_isDraw N p.2.2.2.2.2.2 = some (isD7 p.2.2.2.2.2.2) := rfl
 rw [hd]
 simp only [bnd_val]
 by_cases h1 : isD7 p.2.2.2.2.2.2 = true
 rotate_left
 · rw [if_neg h1, firstF_nz (by decide), br_pos (by simpa using h1)]
 rw [if_pos h1, firstF_z, br_neg (by rw [h1]; rfl)]
 by_cases h2 : formB p = true
 rotate_left
 · rw [if_neg h2, firstF_nz (by decide), br_pos (by simpa using h2)]
 rw [if_pos h2, firstF_z, firstF_one, br_neg (by rw [h2]; rfl)]
 simp only [triesErr_eq, IdentityErr_eq, bnd_val]
 by_cases s1 : p.1 = 1
 · rw [br_pos (by simpa using s1), if_pos s1, chk_pos (fun _ => by omega), sentB, f3]
 rw [br_neg (by simpa using s1), if_neg s1]
 by_cases s2 : p.1 = 2
 · rw [br_pos (by simpa using s2), if_pos s2, hh, f4]
 rw [br_neg (by simpa using s2), if_neg s2]
 by_cases s3 : p.1 = 3
 · rw [br_pos (by simpa using s3), if_pos s3, w64_id (n := Tr - 1) (by omega), f2]
 rw [br_neg (by simpa using s3), if_neg s3]
 by_cases s4 : p.1 = 4
 · rw [br_pos (by simpa using s4), if_pos s4, hd2, f1]
 rw [br_neg (by simpa using s4), if_neg s4]
 by_cases s5 : p.1 = 5
 ·
  rw [br_pos (by simpa using s5), if_pos s5, br_val]
  congr 1
  by_cases h : p.2.2.2.2.2.1 = Tr <;> simp [h]
 rw [br_neg (by simpa using s5), if_neg s5]
def lenE (n : Nat) : Int := if n = 0 then 10 else if n > 8 then 8 else 0
def psE (Pr Ev Wi Wa Tr Ba Id at_ : Int) (l : List Ph) : Int := firstF ((List.range' 0 l.length).map (phE Pr Ev Wi Wa Tr Ba Id at_ l))
def stE (Pr Ev Wi Wa Tr Ba Id at_ : Int) (l : List Ph) : Int := firstF [rulesE Pr Ev Wi Wa Tr Ba Id, tickE at_, lenE l.length, psE Pr Ev Wi Wa Tr Ba Id at_ l]
theorem rulesE_zero : rulesE Pr Ev Wi Wa Tr Ba Id = 0 ↔ okRules Pr Ev Wi Wa Tr Ba Id := by unfold rulesE; split <;> simp_all
theorem lenE_eq (n : Nat) : firstF [if (n : Int) > 0 then 0 else 10, if (n : Int) ≤ 8 then 0 else 8] = lenE n := by
 unfold lenE
 by_cases h0 : n = 0
 · rw [if_neg (by omega), if_pos h0]; simp [firstF]
 ·
  rw [if_pos (show (n : Int) > 0 by omega), if_neg h0]
  by_cases h8 : n > 8
  · rw [if_neg (by omega), if_pos h8]; simp [firstF]
  · rw [if_pos (show (n : Int) ≤ 8 by omega), if_neg h8]; simp [firstF]
theorem phLoop {R : Type} {b : (Int → Option R) → Int → Option R} {l : List Ph} {E : Nat → Int} {bad : Int → Option R} {fin : Option R} (hN : 20 ≤ N) (hl : l.length ≤ 10)
  (hb : ∀ (rec : Int → Option R) (k : Nat), k < l.length → b rec (k : Int) = if E k = 0 then rec ((k : Int) + 1) else bad (E k)) (he : ∀ rec : Int → Option R, b rec (l.length : Int) = fin) :
  rds b N (0 : Int) = if firstF ((List.range' 0 l.length).map E) = 0 then fin else bad (firstF ((List.range' 0 l.length).map E)) := by
 have key : rds b N (0 : Int) = if firstF ((List.range' (0 : Int).toNat (l.length - (0 : Int).toNat)).map E) = 0 then fin else bad (firstF ((List.range' (0 : Int).toNat (l.length - (0 : Int).toNat)).map E)) := by
  refine rds_spec (fun k : Int => 0 ≤ k ∧ k ≤ l.length) (fun k => l.length - k.toNat) (fun k => if firstF ((List.range' k.toNat (l.length - k.toNat)).map E) = 0 then fin else bad (firstF ((List.range' k.toNat (l.length - k.toNat)).map E))) (fun rec k hk hrec => ?_) N 0 (by omega) (by simp; omega)
  obtain ⟨n, rfl⟩ : ∃ n : Nat, k = n := ⟨k.toNat, by omega⟩
  simp only [Int.toNat_natCast]
  by_cases h : n < l.length
  ·
   rw [hb rec n h, show l.length - n = (l.length - (n + 1)) + 1 by omega]
   show _ = if firstF (E n :: (List.range' (n + 1) (l.length - (n + 1))).map E) = 0 then fin else bad (firstF (E n :: (List.range' (n + 1) (l.length - (n + 1))).map E))
   by_cases hE : E n = 0
   · rw [if_pos hE, hE, firstF_z, hrec ((n : Int) + 1) (by omega) (by omega), show ((n : Int) + 1).toNat = n + 1 by omega]
   · rw [if_neg hE, firstF_nz hE, if_neg hE]
  ·
   have : n = l.length := by omega
   subst this
   rw [he rec, Nat.sub_self]; rfl
 rw [key]; rfl
theorem CheckStateR_eq {at_ : Int} {l : List Ph} (hN : 20 ≤ N) (hr : okRules Pr Ev Wi Wa Tr Ba Id) (hl : l.length ≤ 10) : ref07_CheckState N Pr Ev Wi Wa Tr Ba Id at_ l = some (firstF [tickE at_, lenE l.length, psE Pr Ev Wi Wa Tr Ba Id at_ l]) := by
 unfold ref07_CheckState
 rw [TickErr_eq]
 simp only [bnd_val]
 by_cases ht : tickE at_ = 0
 rotate_left
 · rw [br_pos (by simpa using ht), firstF_nz ht]
 rw [br_neg (by simp [ht]), ht, firstF_z]
 unfold lenE
 by_cases h0 : l.length = 0
 · rw [br_pos (by simp [h0]), if_pos h0, firstF_nz (by decide)]
 rw [br_neg (by simp; intro e; exact h0 (by rw [e]; rfl)), if_neg h0]
 by_cases h8 : l.length > 8
 · rw [br_pos (by simp; omega), if_pos h8, firstF_nz (by decide)]
 rw [br_neg (by simp; omega), if_neg h8, firstF_z, firstF_one]
 unfold jn psE
 dsimp only
 rw [phLoop (E := phE Pr Ev Wi Wa Tr Ba Id at_ l) (bad := fun e => some e) (fin := some 0) hN hl ?_ ?_]
 ·
  split
  · rename_i e; rw [e]
  · rfl
 ·
  intro rec k hk
  unfold ref07_CheckState.b1
  rw [br_pos (by simpa using hk), phoneErrR_eq hN hr hk hl]
  simp only [bnd_val]
  by_cases hE : phE Pr Ev Wi Wa Tr Ba Id at_ l k = 0
  · rw [br_neg (by simp [hE]), if_pos hE, w64_id (by omega)]
  · rw [br_pos (by simpa using hE), if_neg hE]
 ·
  intro rec
  unfold ref07_CheckState.b1
  rw [br_neg (by simp)]
end
end
end Go.Sh

/-
 Phones that sleep: the loops of both sides.
-/
namespace Go.Sh
open Go.PW
noncomputable section
section
variable {N : Nat} {C S O I : Int}
end
end
end Go.Sh

/-
 Questions: the next chance, who holds an identity, who asks with it.
-/
namespace Go.Sh
open Go.PW
noncomputable section
section
variable {N : Nat} {Pr Ev Wi Wa Tr Ba Id : Int}
theorem open_err {at_ : Int} {l : List Ph} (hN : 20 ≤ N) : access_first N [rulesE Pr Ev Wi Wa Tr Ba Id, tickE at_, lenE l.length] = some (firstF [rulesE Pr Ev Wi Wa Tr Ba Id, tickE at_, lenE l.length]) := first_eq (by simp; omega) (by simp)
theorem firstF_3 {a b c d : Int} (h : firstF [a, b, c] = 0) : firstF [a, b, c, d] = d := by
 by_cases ha : a = 0
 ·
  by_cases hb : b = 0
  ·
   by_cases hc : c = 0
   · rw [ha, hb, hc, firstF_z, firstF_z, firstF_z, firstF_one]
   · simp [firstF, ha, hb, hc] at h
  · simp [firstF, ha, hb] at h
 · simp [firstF, ha] at h
theorem firstF_3n {a b c d : Int} (h : firstF [a, b, c] ≠ 0) : firstF [a, b, c, d] = firstF [a, b, c] := by
 by_cases ha : a = 0
 ·
  by_cases hb : b = 0
  ·
   by_cases hc : c = 0
   · simp [ha, hb, hc, firstF] at h
   · simp [firstF, ha, hb, hc]
  · simp [firstF, ha, hb]
 · simp [firstF, ha]
theorem clone_eq {l : List Ph} (hl : l.length ≤ 10) : slices_Clone_pp N l = some l := by unfold slices_Clone_pp; rw [chk_pos (by omega)]
theorem br00 {α : Type} (a b : Option α) : br ((0 : Int) == 0) a b = a := rfl
theorem tick_zero {t : Int} : tickE t = 0 ↔ 0 ≤ t ∧ t ≤ 1000000000 := by unfold tickE; split <;> simp_all
end
end
end Go.Sh

/-
 Which states and events are right: both sides agree.
-/
namespace Go.Sh
open Go.PW
noncomputable section
section
variable {N : Nat} {Pr Ev Wi Wa Tr Ba Id : Int}
theorem CheckState_eq {at_ : Int} {l : List Ph} (hN : 20 ≤ N) (hl : l.length ≤ 10) : access_CheckState N Pr Ev Wi Wa Tr Ba Id at_ l = some (stE Pr Ev Wi Wa Tr Ba Id at_ l) := by
 unfold access_CheckState
 rw [CheckRules_eq, tickErr_eq, phonesErr_eq (by omega), lenE_eq]
 simp only [bnd_val]
 rw [open_err hN]
 simp only [bnd_val]
 by_cases h0 : firstF [rulesE Pr Ev Wi Wa Tr Ba Id, tickE at_, lenE l.length] = 0
 rotate_left
 ·
  rw [br_pos (by simpa using h0)]
  unfold stE
  rw [firstF_3n h0]
 have hr : okRules Pr Ev Wi Wa Tr Ba Id := by
  rw [← rulesE_zero]
  by_cases h : rulesE Pr Ev Wi Wa Tr Ba Id = 0
  · exact h
  · rw [firstF_nz h] at h0; exact h0
 have hst : stE Pr Ev Wi Wa Tr Ba Id at_ l = psE Pr Ev Wi Wa Tr Ba Id at_ l := by unfold stE; exact firstF_3 h0
 rw [br_neg (by simp [h0]), clone_eq hl]
 simp only [bnd_val]
 unfold jn
 dsimp only
 rw [phLoop (E := phE Pr Ev Wi Wa Tr Ba Id at_ l) (bad := fun e => some e) (fin := some 0) hN hl ?_ ?_]
 ·
  rw [hst]
  show (if psE Pr Ev Wi Wa Tr Ba Id at_ l = 0 then some 0 else some (psE Pr Ev Wi Wa Tr Ba Id at_ l)) = _
  by_cases hp : psE Pr Ev Wi Wa Tr Ba Id at_ l = 0
  · rw [if_pos hp, hp]
  · rw [if_neg hp]
 ·
  intro rec k hk
  unfold access_CheckState.b1
  rw [br_pos (by simpa using hk), phoneErr_eq hN hr hk hl]
  simp only [bnd_val]
  by_cases hE : phE Pr Ev Wi Wa Tr Ba Id at_ l k = 0
  · rw [br_neg (by simp [hE]), if_pos hE, w64_id (by omega)]
  · rw [br_pos (by simpa using hE), if_neg hE]
 ·
  intro rec
  unfold access_CheckState.b1
  rw [br_neg (by simp)]
def evE (Pr Id n k a p m s i : Int) : Int :=
 firstF [if 0 ≤ k ∧ k ≤ 4 then 0 else 15, tickE a,
  if k = 0 then (if s = 0 ∧ i = 0 then 0 else 3) else if k = 1 then (if p = 0 ∧ i = 0 then 0 else 3) else if k = 2 then (if m = 0 ∧ s = 0 then 0 else 3) else if k = 3 then (if m = 0 ∧ s = 0 ∧ i = 0 then 0 else 3) else (if p = 0 ∧ m = 0 ∧ s = 0 ∧ i = 0 then 0 else 3),
  if k = 0 then (if inB p 0 (w64 (n - 1)) = true ∧ inB m 0 (w64 (Pr - 1)) = true then 0 else 6) else if k = 1 then (if inB m 0 (w64 (Pr - 1)) = true then 0 else 6) else if k = 2 then (if inB i 0 (w64 (Id - 1)) = true ∧ inB p 0 (w64 (n - 1)) = true then 0 else 6) else if k = 3 then (if inB p 0 (w64 (n - 1)) = true then 0 else 6) else 0,
  if k = 1 then (if inB s 0 a = true then 0 else 2) else 0]
theorem use_0 (N : Nat) (k a p m s i : Int) : access_use_of N 0 k a p m s i = some p := by unfold access_use_of; rw [chk_pos (by omega)]; rfl
theorem use_1 (N : Nat) (k a p m s i : Int) : access_use_of N 1 k a p m s i = some m := by unfold access_use_of; rw [chk_pos (by omega)]; rfl
theorem use_2 (N : Nat) (k a p m s i : Int) : access_use_of N 2 k a p m s i = some s := by unfold access_use_of; rw [chk_pos (by omega)]; rfl
theorem use_3 (N : Nat) (k a p m s i : Int) : access_use_of N 3 k a p m s i = some i := by unfold access_use_of; rw [chk_pos (by omega)]; rfl
theorem eventErr_eq {n k a p m s i : Int} (hN : 20 ≤ N) : access_eventErr N Pr Ev Wi Wa Tr Ba Id n k a p m s i = some (evE Pr Id n k a p m s i) := by
 have hk : access_isKind N k = some (inB k 0 4) := rfl
 unfold access_eventErr evE
 rw [hk, tickErr_eq]
 simp only [bnd_val, unless_eq]
 rw [first_eq (by simp; omega) (by simp)]
 simp only [bnd_val]
 by_cases h1 : 0 ≤ k ∧ k ≤ 4
 rotate_left
 · rw [inBd, decide_eq_false h1, if_neg h1, if_neg (by simp), firstF_nz (by decide), firstF_nz (by decide), br_pos (by decide)]
 rw [inB_true.2 h1, if_pos h1, if_pos rfl, firstF_z, firstF_z, firstF_one]
 by_cases h2 : tickE a = 0
 rotate_left
 · rw [br_pos (by simpa using h2), firstF_nz h2]
 have h2' := tick_zero.1 h2
 rw [br_neg (by simp [h2]), h2, firstF_z, chk_pos (by omega)]
 have hs : k = 0 ∨ k = 1 ∨ k = 2 ∨ k = 3 ∨ k = 4 := by omega
 have hz : inB 0 0 a = true := inB_true.2 (by omega)
 have hg : ∀ x y : Int, (x == y) = decide (x = y) := fun _ _ => rfl
 unfold jn
 rcases hs with rfl | rfl | rfl | rfl | rfl
 · by_cases c1 : s = 0 <;> by_cases c2 : i = 0 <;> cases c3 : inB p 0 (w64 (n - 1)) <;> cases c4 : inB m 0 (w64 (Pr - 1)) <;> simp [br, chk, use_0, use_1, use_2, use_3, within_eq, unless_eq, grd_val, c1, c2, c3, c4, hz, firstF, @eq_comm Int 0]
 · by_cases c1 : p = 0 <;> by_cases c2 : i = 0 <;> cases c3 : inB m 0 (w64 (Pr - 1)) <;> cases c4 : inB s 0 a <;> simp [br, chk, use_0, use_1, use_2, use_3, within_eq, unless_eq, grd_val, c1, c2, c3, c4, hz, firstF, @eq_comm Int 0]
 · by_cases c1 : m = 0 <;> by_cases c2 : s = 0 <;> cases c3 : inB p 0 (w64 (n - 1)) <;> cases c4 : inB i 0 (w64 (Id - 1)) <;> simp [br, chk, use_0, use_1, use_2, use_3, within_eq, unless_eq, grd_val, c1, c2, c3, c4, hz, firstF, @eq_comm Int 0]
 · by_cases c1 : m = 0 <;> by_cases c2 : s = 0 <;> by_cases c5 : i = 0 <;> cases c3 : inB p 0 (w64 (n - 1)) <;> simp [br, chk, use_0, use_1, use_2, use_3, within_eq, unless_eq, grd_val, c1, c2, c3, c5, hz, firstF, @eq_comm Int 0]
 · by_cases c1 : m = 0 <;> by_cases c2 : s = 0 <;> by_cases c5 : i = 0 <;> by_cases c3 : p = 0 <;> simp [br, chk, use_0, use_1, use_2, use_3, within_eq, unless_eq, grd_val, c1, c2, c3, c5, hz, firstF, @eq_comm Int 0]
theorem CheckEventR_eq {n k a p m s i : Int} : ref07_CheckEvent N Pr Ev Wi Wa Tr Ba Id n k a p m s i = some (evE Pr Id n k a p m s i) := by
 unfold ref07_CheckEvent evE
 rw [TickErr_eq]
 simp only [bnd_val, Within_eq, IdentityErr_eq]
 by_cases h1 : 0 ≤ k ∧ k ≤ 4
 rotate_left
 · rw [inBd, decide_eq_false h1, if_neg h1, firstF_nz (by decide), br_pos (by decide)]
 rw [inB_true.2 h1, if_pos h1, firstF_z, br_neg (by decide)]
 by_cases h2 : tickE a = 0
 rotate_left
 · rw [br_pos (by simpa using h2), firstF_nz h2]
 have h2' := tick_zero.1 h2
 rw [br_neg (by simp [h2]), h2, firstF_z]
 have hs : k = 0 ∨ k = 1 ∨ k = 2 ∨ k = 3 ∨ k = 4 := by omega
 have hz : inB 0 0 a = true := inB_true.2 (by omega)
 unfold ref07_used
 rcases hs with rfl | rfl | rfl | rfl | rfl
 · by_cases c1 : s = 0 <;> by_cases c2 : i = 0 <;> cases c3 : inB p 0 (w64 (n - 1)) <;> cases c4 : inB m 0 (w64 (Pr - 1)) <;> simp [br, grd_val, c1, c2, c3, c4, hz, firstF, @eq_comm Int 0]
 · by_cases c1 : p = 0 <;> by_cases c2 : i = 0 <;> cases c3 : inB m 0 (w64 (Pr - 1)) <;> cases c4 : inB s 0 a <;> simp [br, grd_val, c1, c2, c3, c4, hz, firstF, @eq_comm Int 0]
 · by_cases c1 : m = 0 <;> by_cases c2 : s = 0 <;> cases c3 : inB p 0 (w64 (n - 1)) <;> cases c4 : inB i 0 (w64 (Id - 1)) <;> simp [br, grd_val, c1, c2, c3, c4, hz, firstF, @eq_comm Int 0]
 · by_cases c1 : m = 0 <;> by_cases c2 : s = 0 <;> by_cases c5 : i = 0 <;> cases c3 : inB p 0 (w64 (n - 1)) <;> simp [br, grd_val, c1, c2, c3, c5, hz, firstF, @eq_comm Int 0]
 · by_cases c1 : m = 0 <;> by_cases c2 : s = 0 <;> by_cases c5 : i = 0 <;> by_cases c3 : p = 0 <;> simp [br, grd_val, c1, c2, c3, c5, hz, firstF, @eq_comm Int 0]
def ceE (Pr Ev Wi Wa Tr Ba Id n k a p m s i : Int) : Int := firstF [rulesE Pr Ev Wi Wa Tr Ba Id, if inB n 1 8 = true then 0 else 2, evE Pr Id n k a p m s i]
theorem CheckEvent_eq {n k a p m s i : Int} (hN : 20 ≤ N) : access_CheckEvent N Pr Ev Wi Wa Tr Ba Id n k a p m s i = some (ceE Pr Ev Wi Wa Tr Ba Id n k a p m s i) := by
 unfold access_CheckEvent ceE
 rw [CheckRules_eq, eventErr_eq hN]
 simp only [bnd_val, within_eq, unless_eq]
 rw [first_eq (by simp; omega) (by simp)]
 simp only [bnd_val]
 by_cases h1 : rulesE Pr Ev Wi Wa Tr Ba Id = 0
 ·
  rw [h1, firstF_z, firstF_one, firstF_z]
  cases inB n 1 8
  · rw [br_pos (by rfl), firstF_nz (by decide)]
  · rw [br_neg (by rfl), if_pos rfl, firstF_z, firstF_one]
 · rw [firstF_nz h1, br_pos (by simpa using h1), firstF_nz h1]
theorem law_AccessStates (hN : 30000 ≤ N) (at_ : Int) (l : List Ph) (k a p m s i n : Int) : law07_AccessStates N Pr Ev Wi Wa Tr Ba Id at_ l k a p m s i n = some true := by
 have hN20 : 20 ≤ N := by omega
 unfold law07_AccessStates law07_Few
 simp only [law07_awake, bnd_val, Bool.not_true, br_false, CheckRulesR_eq]
 by_cases hl : l.length ≤ 10
 rotate_left
 · rw [br_pos (by simp; omega)]
 rw [br_neg (by simp; omega)]
 have hcp : ref07_Copy N at_ l = some (at_, l) := by unfold ref07_Copy; rw [chk_pos (by omega)]
 rw [hcp]
 simp only [bnd_val]
 rw [CheckState_eq hN20 hl, CheckEvent_eq hN20, CheckEventR_eq]
 simp only [bnd_val, Within_eq, grd_val]
 unfold jn
 dsimp only
 unfold ceE
 by_cases hr0 : rulesE Pr Ev Wi Wa Tr Ba Id = 0
 rotate_left
 ·
  have hst : stE Pr Ev Wi Wa Tr Ba Id at_ l = rulesE Pr Ev Wi Wa Tr Ba Id := by unfold stE; rw [firstF_nz hr0]
  rw [hst, firstF_nz hr0, br_neg (by simpa using hr0), br_neg (by simp), br_neg (by simp [hr0]), br_neg (by simpa using hr0)]
  simp
 have hr := rulesE_zero.1 hr0
 have hst : firstF [tickE at_, lenE l.length, psE Pr Ev Wi Wa Tr Ba Id at_ l] = stE Pr Ev Wi Wa Tr Ba Id at_ l := by unfold stE; rw [hr0, firstF_z]
 rw [CheckStateR_eq hN20 hr hl, hst, hr0]
 simp only [bnd_val, br00, br_true, firstF_z, beq_self_eq_true, Bool.true_and, if_true]
 rw [br_neg (by simp)]
 cases inB n 1 8
 ·
  rw [br_pos (by rfl), br_neg (by rfl)]
  simp [firstF]
 ·
  rw [br_neg (by rfl)]
  simp [firstF_one, firstF_z]
end
end
end Go.Sh
