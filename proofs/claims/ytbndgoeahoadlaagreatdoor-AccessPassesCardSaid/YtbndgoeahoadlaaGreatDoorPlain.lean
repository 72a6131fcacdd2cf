import Derived.Test.YtbndgoeahoadlaaGreatDoorPlA
import Derived.Test.YtbndgoeahoadlaaGreatDoorAsS
import Derived.Test.YtbndgoeahoadlaaGreatDoorAsS2
import Derived.Test.YtbndgoeahoadlaaGreatDoorAsS4
import Derived.Test.YtbndgoeahoadlaaGreatDoorAsS5
set_option linter.all false
namespace Go.Sh
open Go.PW

end Go.Sh

/-
 Occasions: the next one of a frame and a subframe. Plain numbers.
-/
namespace Go.Sh
open Go.PW

end Go.Sh

/-
 Phones that sleep: what the functions of both sides come to.
-/
namespace Go.Sh
open Go.PW
noncomputable section

theorem grd_val {α : Type} (g : Bool) (d b : α) : grd g d (some b) = some (if g = true then b else d) := by unfold grd; split <;> rfl
theorem br_val {α : Type} (g : Bool) (a b : α) : br g (some a) (some b) = some (if g = true then a else b) := by unfold br; split <;> rfl
theorem ite_and_false (g b : Bool) : (if g = true then b else false) = (g && b) := by cases g <;> rfl
def inB (n lo hi : Int) : Bool := decide (lo ≤ n) && decide (n ≤ hi)
theorem v8 {n lo hi : Int} : inB n lo hi = true ↔ lo ≤ n ∧ n ≤ hi := by simp [inB]
theorem within_eq (N : Nat) (n lo hi : Int) : j1 N n lo hi = some (inB n lo hi) := rfl
theorem Within_eq (N : Nat) (n lo hi : Int) : k4 N n lo hi = some (inB n lo hi) := rfl
theorem y7 (N : Nat) (b : Bool) (e : Int) : j0 N b e = some (if b = true then 0 else e) := br_val b 0 e
def j7 : List Int → Int
 | [] => 0
 | e :: l => if e = 0 then j7 l else e
theorem E8 {N : Nat} {l : List Int} (hl : l.length < N) (hb : l.length ≤ 1000) : access_first N l = some (j7 l) := by
 have key : rds (D1 N l fun _ => some 0) N (0 : Int) = some (j7 (l.drop (0 : Int).toNat)) := by
  refine D3 (fun k : Int => 0 ≤ k ∧ k ≤ l.length) (fun k => l.length - k.toNat) (fun k => some (j7 (l.drop k.toNat))) (fun rec k hk hrec => ?_) N 0 (by omega) (by simp; omega)
  unfold D1
  by_cases h : k < (l.length : Int)
  ·
   rw [l0 (by simpa using h), l9 (by omega)]
   have hkn : k.toNat < l.length := by omega
   have hd : l.drop k.toNat = l.getD k.toNat 0 :: l.drop (k.toNat + 1) := by
    rw [List.drop_eq_getElem_cons hkn]
    simp [List.getD_eq_getElem?_getD, hkn]
   rw [hd]
   by_cases he : l.getD k.toNat 0 = 0
   ·
    rw [l4 (by simpa using he), n4 (by omega), hrec (k + 1) (by omega) (by omega)]
    simp only [j7, he, if_true]
    rw [show (k + 1).toNat = k.toNat + 1 by omega]
   ·
    rw [l0 (by simpa using he)]
    simp only [j7, he, if_false]
  ·
   rw [l4 (by simpa using h)]
   rw [List.drop_eq_nil_of_le (by omega)]; rfl
 exact key
def tickE (t : Int) : Int := if 0 ≤ t ∧ t ≤ 1000000000 then 0 else 2
theorem isTick_eq (N : Nat) (t : Int) : access_isTick N t = some (inB t 0 1000000000) := rfl
theorem tickErr_eq (N : Nat) (t : Int) : A3 N t = some (tickE t) := by
 unfold A3
 simp only [isTick_eq, y7, j9, tickE, v8]
theorem TickErr_eq (N : Nat) (t : Int) : B4 N t = some (tickE t) := by
 unfold B4
 simp only [Within_eq, j9, br_val, tickE]
 by_cases h : 0 ≤ t ∧ t ≤ 1000000000
 · rw [if_pos h, v8.2 h]; rfl
 · rw [if_neg h, Bool.eq_false_iff.2 (fun e => h (v8.1 e))]; rfl
end
end Go.Sh

/-
 The beginning: rules, draws, the first state.
-/
namespace Go.Sh
open Go.PW
noncomputable section
section
variable {N : Nat} {Pr Ev Wi Wa Tr Ba Id : Int}
def C5 (Pr Ev Wi Wa Tr Ba Id : Int) : Prop := (1 ≤ Pr ∧ Pr ≤ 8) ∧ (1 ≤ Ev ∧ Ev ≤ 100) ∧ (1 ≤ Wi ∧ Wi ≤ 100) ∧ (1 ≤ Wa ∧ Wa ≤ 100) ∧ (1 ≤ Tr ∧ Tr ≤ 10) ∧ (0 ≤ Ba ∧ Ba ≤ 1000) ∧ 1 ≤ Id ∧ Id ≤ 16
instance (Pr Ev Wi Wa Tr Ba Id : Int) : Decidable (C5 Pr Ev Wi Wa Tr Ba Id) := by unfold C5; infer_instance
def rulesE (Pr Ev Wi Wa Tr Ba Id : Int) : Int := if C5 Pr Ev Wi Wa Tr Ba Id then 0 else 2
theorem inBd (n lo hi : Int) : inB n lo hi = decide (lo ≤ n ∧ n ≤ hi) := by unfold inB; rw [Bool.decide_and]
theorem br_chain {α : Type} (b : Bool) (e : α) (p : Prop) [Decidable p] (x : α) : br (!b) (some e) (some (if p then x else e)) = some (if b = true ∧ p then x else e) := by
 cases b
 · simp
 · simp
theorem CheckRules_eq (N : Nat) (Pr Ev Wi Wa Tr Ba Id : Int) : q5 N Pr Ev Wi Wa Tr Ba Id = some (rulesE Pr Ev Wi Wa Tr Ba Id) := by
 unfold q5 jn
 simp only [within_eq, j9]
 rw [show (some 0 : Option Int) = some (if True then 0 else 2) from rfl]
 simp only [br_chain]
 simp only [v8, and_true]
 rfl
theorem CheckRulesR_eq (N : Nat) (Pr Ev Wi Wa Tr Ba Id : Int) : w8 N Pr Ev Wi Wa Tr Ba Id = some (rulesE Pr Ev Wi Wa Tr Ba Id) := by
 unfold w8
 simp only [Within_eq, j9, grd_val, br_val]
 unfold rulesE C5
 simp only [← v8]
 cases inB Pr 1 8 <;> cases inB Ev 1 100 <;> cases inB Wi 1 100 <;> cases inB Wa 1 100 <;> cases inB Tr 1 10 <;> cases inB Ba 0 1000 <;> cases inB Id 1 16 <;> rfl
def isD7 (n : Int) : Bool := inB n 0 998244352
theorem drop_at {l : List Int} {k : Nat} (h : k < l.length) : l.drop k = l.getD k 0 :: l.drop (k + 1) := by
 rw [List.drop_eq_getElem_cons h]
 simp [List.getD_eq_getElem?_getD, h]
theorem phonesErr_eq {n : Int} (hN : 10 ≤ N) : w9 N n = some (j7 [if n > 0 then 0 else 10, if n ≤ 8 then 0 else 8]) := by
 unfold w9
 simp only [y7, j9, decide_eq_true_eq]
 rw [E8 (by simp; omega) (by simp)]
 rfl
def idleT (d : Int) : Ph := (0, -1, 0, -1, 0, 0, d)
theorem Same_self {t : Int} {l : List Ph} (hl : l.length < N) (hb : l.length ≤ 1000) : ref07_Same N t l t l = some true := by
 unfold ref07_Same jn
 rw [l4 (by simp)]
 have key : rds (G6 N l l fun _ => some true) N (0 : Int) = some true := by
  refine D3 (fun k : Int => 0 ≤ k ∧ k ≤ l.length) (fun k => l.length - k.toNat) (fun _ => some true) (fun rec k hk hrec => ?_) N 0 (by omega) (by simp; omega)
  unfold G6
  by_cases h : k < (l.length : Int)
  ·
   rw [l0 (by simpa using h), l9 (by omega), l9 (by omega), l4 (by simp), n4 (by omega)]
   exact hrec (k + 1) (by omega) (by omega)
  · rw [l4 (by simpa using h)]
 exact key
end
end
end Go.Sh

/-
 States of a site: which are right, by both sides.
-/
namespace Go.Sh
open Go.PW
noncomputable section
section
variable {N : Nat} {Pr Ev Wi Wa Tr Ba Id : Int}
theorem dropP {α : Type} [Inhabited α] {l : List α} {k : Nat} (h : k < l.length) : l.drop k = l.getD k default :: l.drop (k + 1) := by
 rw [List.drop_eq_getElem_cons h]
 simp [List.getD_eq_getElem?_getD, h]
def idxA {α : Type} (g : α → Bool) : List α → Int → Int
 | [], _ => -1
 | x :: r, k => if g x = true then k else idxA g r (k + 1)
theorem idxA_any {α : Type} (g : α → Bool) : ∀ (l : List α) (k : Int), 0 ≤ k → decide (idxA g l k ≥ 0) = l.any g
 | [], k, _ => rfl
 | x :: r, k, hk => by
  unfold idxA
  rw [List.any_cons]
  cases h : g x
  · rw [if_neg (by simp), Bool.false_or]; exact idxA_any g r (k + 1) (by omega)
  · rw [if_pos rfl, Bool.true_or]; simpa using hk
theorem ContainsP_eq {l : List Ph} {f : Int → Int → Int → Int → Int → Int → Int → Option Bool} {g : Ph → Bool} (hf : ∀ p : Ph, f p.1 p.2.1 p.2.2.1 p.2.2.2.1 p.2.2.2.2.1 p.2.2.2.2.2.1 p.2.2.2.2.2.2 = some (g p)) (hl : l.length < N) (hb : l.length ≤ 1000) : j2 N l f = some (l.any g) := by
 unfold j2 slices_IndexFunc_api_AccessPhone_api_AccessPhone jn
 have key : rds (j5 N l f fun _ => some (-1)) N (0 : Int) = some (idxA g (l.drop (0 : Int).toNat) 0) := by
  refine D3 (fun k : Int => 0 ≤ k ∧ k ≤ l.length) (fun k => l.length - k.toNat) (fun k => some (idxA g (l.drop k.toNat) k)) (fun rec k hk hrec => ?_) N 0 (by omega) (by simp; omega)
  unfold j5
  by_cases h : k < (l.length : Int)
  ·
   rw [l0 (by simpa using h), l9 (by omega), dropP (by omega), hf]
   simp only [j9]
   unfold idxA
   cases hg : g (l.getD k.toNat default)
   · rw [br_false, if_neg (by simp), n4 (by omega), hrec (k + 1) (by omega) (by omega), show (k + 1).toNat = k.toNat + 1 by omega]
   · rw [br_true, if_pos rfl]
  · rw [l4 (by simpa using h), List.drop_eq_nil_of_le (by omega)]; rfl
 dsimp only
 rw [key]
 simp only [j9]
 rw [idxA_any g _ 0 (by omega)]
 rfl
def heldB (id : Int) (p : Ph) : Bool := (p.1 == (4 : Int)) && (p.2.2.2.1 == id)
def hadB (id : Int) (p : Ph) : Bool := p.2.2.2.1 == id
theorem held_eq {l : List Ph} {id : Int} (hl : l.length < N) (hb : l.length ≤ 1000) : access_held N l id = some (l.any (heldB id)) := by
 unfold access_held
 rw [ContainsP_eq (f := fun y0 y1 y2 y3 y4 y5 y6 => G9 N y0 y1 y2 y3 y4 y5 y6 id) (g := heldB id) (fun p => rfl) hl hb]
 rfl
theorem had_eq {l : List Ph} {id : Int} (hl : l.length < N) (hb : l.length ≤ 1000) : access_had N l id = some (l.any (hadB id)) := by
 unfold access_had
 rw [ContainsP_eq (f := fun y0 y1 y2 y3 y4 y5 y6 => access_had_1 N y0 y1 y2 y3 y4 y5 y6 id) (g := hadB id) (fun p => rfl) hl hb]
 rfl
def formB (p : Ph) : Bool :=
 if p.1 = 1 then decide (p.2.2.2.1 = -1)
 else if p.1 = 2 then decide (p.2.1 = -1 ∧ p.2.2.1 = 0)
 else if p.1 = 3 then decide (p.2.1 = -1 ∧ p.2.2.1 = 0 ∧ p.2.2.2.1 = -1)
 else if p.1 = 4 then decide (p.2.1 = -1 ∧ p.2.2.1 = 0 ∧ p.2.2.2.2.1 = 0 ∧ p.2.2.2.2.2.1 = 0)
 else if p.1 = 5 then decide (p.2.1 = -1 ∧ p.2.2.1 = 0 ∧ p.2.2.2.1 = -1 ∧ p.2.2.2.2.1 = 0)
 else decide (p.2.1 = -1 ∧ p.2.2.1 = 0 ∧ p.2.2.2.1 = -1 ∧ p.2.2.2.2.1 = 0 ∧ p.2.2.2.2.2.1 = 0)
theorem fits_eq (p : Ph) (h : 0 ≤ p.1 ∧ p.1 ≤ 5) : access_fits N p.1 p.2.1 p.2.2.1 p.2.2.2.1 p.2.2.2.2.1 p.2.2.2.2.2.1 p.2.2.2.2.2.2 = some (formB p) := by
 obtain ⟨st, a, b, c, d, e, f⟩ := p
 simp only at h ⊢
 unfold access_fits formB jn
 rw [l9 (by omega)]
 have hs : st = 0 ∨ st = 1 ∨ st = 2 ∨ st = 3 ∨ st = 4 ∨ st = 5 := by omega
 rcases hs with rfl | rfl | rfl | rfl | rfl | rfl
 all_goals
  simp only [br_val, br_true, br_false, show ((0 : Int) == 0) = true from rfl, show ((1 : Int) == 0) = false from rfl, show ((1 : Int) == 1) = true from rfl, show ((2 : Int) == 0) = false from rfl, show ((2 : Int) == 1) = false from rfl, show ((2 : Int) == 2) = true from rfl, show ((3 : Int) == 0) = false from rfl, show ((3 : Int) == 1) = false from rfl, show ((3 : Int) == 2) = false from rfl, show ((3 : Int) == 3) = true from rfl, show ((4 : Int) == 0) = false from rfl, show ((4 : Int) == 1) = false from rfl, show ((4 : Int) == 2) = false from rfl, show ((4 : Int) == 3) = false from rfl, show ((4 : Int) == 4) = true from rfl, show ((5 : Int) == 0) = false from rfl, show ((5 : Int) == 1) = false from rfl, show ((5 : Int) == 2) = false from rfl, show ((5 : Int) == 3) = false from rfl, show ((5 : Int) == 4) = false from rfl, show ((5 : Int) == 5) = true from rfl]
  congr 1
  rw [Bool.eq_iff_iff]
  simp [and_assoc]
theorem formed_eq (p : Ph) (h : 0 ≤ p.1 ∧ p.1 ≤ 5) : ref07_formed N p.1 p.2.1 p.2.2.1 p.2.2.2.1 p.2.2.2.2.1 p.2.2.2.2.2.1 p.2.2.2.2.2.2 = some (formB p) := by
 obtain ⟨st, a, b, c, d, e, f⟩ := p
 simp only at h ⊢
 unfold ref07_formed formB u5
 simp only [j9, br_val]
 have hs : st = 0 ∨ st = 1 ∨ st = 2 ∨ st = 3 ∨ st = 4 ∨ st = 5 := by omega
 rcases hs with rfl | rfl | rfl | rfl | rfl | rfl
 all_goals
  congr 1
  rw [Bool.eq_iff_iff]
  simp
  try omega
def phEp (Pr Ev Wi Wa Tr Ba Id at_ : Int) (p : Ph) (pre : List Ph) : Int :=
 j7 [if 0 ≤ p.1 ∧ p.1 ≤ 5 then 0 else 15, if isD7 p.2.2.2.2.2.2 = true then 0 else 2, if formB p = true then 0 else 3,
  if p.1 = 1 then j7 [if inB p.2.1 0 (w64 (Pr - 1)) = true then 0 else 6, if (((inB p.2.2.1 0 at_ && (p.2.2.1.tmod Ev == 0)) && (p.2.2.2.2.1 == w64 (p.2.2.1 + Wi))) && decide (p.2.2.2.2.1 ≥ at_)) = true then 0 else 22, if inB p.2.2.2.2.2.1 1 Tr = true then 0 else 2]
  else if p.1 = 2 then j7 [if inB p.2.2.2.1 0 (w64 (Id - 1)) = true then 0 else 6, if inB p.2.2.2.2.1 at_ (w64 (at_ + Wa)) = true then 0 else 22, if inB p.2.2.2.2.2.1 1 Tr = true then 0 else 2, if pre.any (heldB p.2.2.2.1) = true then 13 else 0]
  else if p.1 = 3 then j7 [if inB p.2.2.2.2.1 0 (w64 (at_ + Ba)) = true then 0 else 22, if inB p.2.2.2.2.2.1 1 (Tr - 1) = true then 0 else 2]
  else if p.1 = 4 then j7 [if inB p.2.2.2.1 0 (w64 (Id - 1)) = true then 0 else 6, if pre.any (hadB p.2.2.2.1) = true then 13 else 0]
  else if p.1 = 5 then (if p.2.2.2.2.2.1 = Tr then 0 else 2) else 0]
def phE (Pr Ev Wi Wa Tr Ba Id at_ : Int) (l : List Ph) (i : Nat) : Int := phEp Pr Ev Wi Wa Tr Ba Id at_ (l.getD i default) (l.take i)
theorem p7 {e : Int} {l : List Int} (h : e ≠ 0) : j7 (e :: l) = e := by simp [j7, h]
theorem p5 {l : List Int} : j7 (0 :: l) = j7 l := by simp [j7]
theorem firstF_one (e : Int) : j7 [e] = e := by by_cases h : e = 0 <;> simp [j7, h]
theorem andL (a b : Bool) : (a && (a && b)) = (a && b) := by cases a <;> rfl
theorem not_if (b : Bool) (x y : Int) : (if (!b) = true then x else y) = if b = true then y else x := by cases b <;> rfl
theorem phoneErr_eq {at_ : Int} {l : List Ph} {i : Nat} (hN : 20 ≤ N) (hr : C5 Pr Ev Wi Wa Tr Ba Id) (hi : i < l.length) (hl : l.length ≤ 10) : o8 N Pr Ev Wi Wa Tr Ba Id at_ l (i : Int) = some (phE Pr Ev Wi Wa Tr Ba Id at_ l i) := by
 obtain ⟨_, hE, _, _, hT, _⟩ := id hr
 unfold o8 phE
 rw [l9 (by omega), l9 (by omega)]
 simp only [Int.toNat_natCast]
 obtain ⟨p, hpp⟩ : ∃ p : Ph, p = l.getD i default := ⟨_, rfl⟩
 simp only [← hpp]
 unfold phEp
 simp only [within_eq, j9]
 by_cases hs : 0 ≤ p.1 ∧ p.1 ≤ 5
 rotate_left
 · rw [l0 (by rw [inBd, decide_eq_false hs]; rfl), if_neg hs, p7 (by decide)]
 rw [l4 (by rw [v8.2 hs]; rfl), if_pos hs, p5, fits_eq p hs]
 have hd : access_isDraw N p.2.2.2.2.2.2 = some (isD7 p.2.2.2.2.2.2) := rfl
 rw [hd]
 simp only [j9, y7]
 rw [E8 (by simp; omega) (by simp)]
 simp only [j9]
 by_cases h1 : isD7 p.2.2.2.2.2.2 = true
 rotate_left
 · rw [if_neg h1, p7 (by decide), l0 (by decide), p7 (by decide)]
 rw [if_pos h1, p5, p5]
 by_cases h2 : formB p = true
 rotate_left
 · rw [if_neg h2, p7 (by decide), l0 (by decide), p7 (by decide)]
 rw [if_pos h2, p5, p5, firstF_one, l4 (by rfl)]
 have htk : (l.take i).length ≤ 10 := by rw [List.length_take]; omega
 rw [held_eq (by omega) (by omega), had_eq (by omega) (by omega)]
 have hc : ∀ n, n1 N Pr Ev Wi Wa Tr Ba Id at_ l n = some (n.tmod Ev == 0) := fun n => by unfold n1; rw [l9 (by omega)]
 have hp : ∀ n, w4 N Pr Ev Wi Wa Tr Ba Id at_ l n = some (inB n 0 (w64 (Pr - 1))) := fun n => rfl
 have hid : ∀ n, p8 N Pr Ev Wi Wa Tr Ba Id at_ l n = some (inB n 0 (w64 (Id - 1))) := fun n => rfl
 rw [hc, hp, hid]
 simp only [j9, grd_val, y7, ite_and_false, andL, not_if]
 by_cases s1 : p.1 = 1
 · rw [l0 (by simpa using s1), if_pos s1, E8 (by simp; omega) (by simp)]; simp only [j9]
 rw [l4 (by simpa using s1), if_neg s1]
 by_cases s2 : p.1 = 2
 · rw [l0 (by simpa using s2), if_pos s2, E8 (by simp; omega) (by simp)]; simp only [j9]
 rw [l4 (by simpa using s2), if_neg s2]
 by_cases s3 : p.1 = 3
 ·
  rw [l0 (by simpa using s3), if_pos s3, E8 (by simp; omega) (by simp)]; simp only [j9]
  have : (inB p.2.2.2.2.2.1 1 Tr && decide (p.2.2.2.2.2.1 < Tr)) = inB p.2.2.2.2.2.1 1 (Tr - 1) := by
   rw [Bool.eq_iff_iff, Bool.and_eq_true, v8, v8, decide_eq_true_eq]; omega
  rw [this]
 rw [l4 (by simpa using s3), if_neg s3]
 by_cases s4 : p.1 = 4
 · rw [l0 (by simpa using s4), if_pos s4, E8 (by simp; omega) (by simp)]; simp only [j9]
 rw [l4 (by simpa using s4), if_neg s4]
 by_cases s5 : p.1 = 5
 ·
  rw [l0 (by simpa using s5), if_pos s5]
  simp only [beq_iff_eq]
 rw [l4 (by simpa using s5), if_neg s5]
theorem triesErr_eq (N : Nat) (p : Ph) (most : Int) : A1 N p.1 p.2.1 p.2.2.1 p.2.2.2.1 p.2.2.2.2.1 p.2.2.2.2.2.1 p.2.2.2.2.2.2 most = some (if inB p.2.2.2.2.2.1 1 most = true then 0 else 2) := by
 unfold A1
 simp only [Within_eq, j9, br_val, not_if]
theorem IdentityErr_eq (N : Nat) (n : Int) : q0 N Pr Ev Wi Wa Tr Ba Id n = some (if inB n 0 (w64 (Id - 1)) = true then 0 else 6) := by
 unfold q0
 simp only [Within_eq, j9, br_val, not_if]
theorem takeD {l : List Ph} {i k : Nat} (h : k < i) : (l.take i).getD k default = l.getD k default := by simp [List.getD_eq_getElem?_getD, List.getElem?_take, h]
theorem loopHeld {l : List Ph} {i : Nat} (hN : 20 ≤ N) (hi : i < l.length) (hl : l.length ≤ 10) : rds (u0 N l (i : Int) fun _ => some 0) N (0 : Int) = some (if (l.take i).any (heldB (l.getD i default).2.2.2.1) = true then 13 else 0) := by
 have hti : (l.take i).length = i := by rw [List.length_take]; omega
 have key : rds (u0 N l (i : Int) fun _ => some 0) N (0 : Int) = some (if ((l.take i).drop (0 : Int).toNat).any (heldB (l.getD i default).2.2.2.1) = true then 13 else 0) := by
  refine D3 (fun k : Int => 0 ≤ k ∧ k ≤ i) (fun k => i - k.toNat) (fun k => some (if ((l.take i).drop k.toNat).any (heldB (l.getD i default).2.2.2.1) = true then 13 else 0)) (fun rec k hk hrec => ?_) N 0 (by omega) (by simp; omega)
  unfold u0
  by_cases h : k < (i : Int)
  ·
   rw [l0 (by simpa using h), l9 (by omega), l9 (fun _ => by omega), dropP (by omega), takeD (by omega), List.any_cons]
   show br (heldB (l.getD i default).2.2.2.1 (l.getD k.toNat default)) _ _ = _
   cases heldB (l.getD i default).2.2.2.1 (l.getD k.toNat default)
   · rw [br_false, n4 (by omega), hrec (k + 1) (by omega) (by omega), show (k + 1).toNat = k.toNat + 1 by omega, Bool.false_or]
   · rw [br_true]; simp
  · rw [l4 (by simpa using h), List.drop_eq_nil_of_le (by omega)]; rfl
 exact key
theorem loopHad {l : List Ph} {i : Nat} (hN : 20 ≤ N) (hi : i < l.length) (hl : l.length ≤ 10) : rds (s9 N l (i : Int) fun _ => some 0) N (0 : Int) = some (if (l.take i).any (hadB (l.getD i default).2.2.2.1) = true then 13 else 0) := by
 have hti : (l.take i).length = i := by rw [List.length_take]; omega
 have key : rds (s9 N l (i : Int) fun _ => some 0) N (0 : Int) = some (if ((l.take i).drop (0 : Int).toNat).any (hadB (l.getD i default).2.2.2.1) = true then 13 else 0) := by
  refine D3 (fun k : Int => 0 ≤ k ∧ k ≤ i) (fun k => i - k.toNat) (fun k => some (if ((l.take i).drop k.toNat).any (hadB (l.getD i default).2.2.2.1) = true then 13 else 0)) (fun rec k hk hrec => ?_) N 0 (by omega) (by simp; omega)
  unfold s9
  by_cases h : k < (i : Int)
  ·
   rw [l0 (by simpa using h), l9 (by omega), dropP (by omega), takeD (by omega), List.any_cons]
   show br (hadB (l.getD i default).2.2.2.1 (l.getD k.toNat default)) _ _ = _
   cases hadB (l.getD i default).2.2.2.1 (l.getD k.toNat default)
   · rw [br_false, n4 (by omega), hrec (k + 1) (by omega) (by omega), show (k + 1).toNat = k.toNat + 1 by omega, Bool.false_or]
   · rw [br_true]; simp
  · rw [l4 (by simpa using h), List.drop_eq_nil_of_le (by omega)]; rfl
 exact key
theorem f3 (b1 b2 b3 : Bool) : br (!b1) (some (6 : Int)) (br (!b2) (some 22) (some (if b3 = true then 0 else 2))) = some (j7 [if b1 = true then 0 else 6, if b2 = true then 0 else 22, if b3 = true then 0 else 2]) := by cases b1 <;> cases b2 <;> cases b3 <;> rfl
theorem f2 (b2 b3 : Bool) : br (!b2) (some (22 : Int)) (some (if b3 = true then 0 else 2)) = some (j7 [if b2 = true then 0 else 22, if b3 = true then 0 else 2]) := by cases b2 <;> cases b3 <;> rfl
theorem f4 (b1 b2 b3 b4 : Bool) : br ((if b1 = true then (0 : Int) else 6) != 0) (some (if b1 = true then (0 : Int) else 6)) (br (!b2) (some 22) (br ((if b3 = true then (0 : Int) else 2) != 0) (some (if b3 = true then (0 : Int) else 2)) (some (if b4 = true then 13 else 0)))) = some (j7 [if b1 = true then 0 else 6, if b2 = true then 0 else 22, if b3 = true then 0 else 2, if b4 = true then 13 else 0]) := by cases b1 <;> cases b2 <;> cases b3 <;> cases b4 <;> rfl
theorem f1 (b1 b4 : Bool) : br ((if b1 = true then (0 : Int) else 6) != 0) (some (if b1 = true then (0 : Int) else 6)) (some (if b4 = true then 13 else 0)) = some (j7 [if b1 = true then 0 else 6, if b4 = true then 13 else 0]) := by cases b1 <;> cases b4 <;> rfl
theorem sentB (a : Bool) (b c d e : Int) (x y : Int) : ((((!a) || (b != c)) || (d != e)) || decide (x < y)) = !(((a && (b == c)) && (d == e)) && decide (x ≥ y)) := by
 by_cases h : x < y
 · rw [decide_eq_true h, decide_eq_false (show ¬ x ≥ y by omega)]; simp
 · rw [decide_eq_false h, decide_eq_true (show x ≥ y by omega)]; simp [bne]
theorem phoneErrR_eq {at_ : Int} {l : List Ph} {i : Nat} (hN : 20 ≤ N) (hr : C5 Pr Ev Wi Wa Tr Ba Id) (hi : i < l.length) (hl : l.length ≤ 10) : ref07_phoneErr N Pr Ev Wi Wa Tr Ba Id at_ l (i : Int) = some (phE Pr Ev Wi Wa Tr Ba Id at_ l i) := by
 obtain ⟨_, hE, _, _, hT, _⟩ := id hr
 have hh := loopHeld hN hi hl
 have hd2 := loopHad hN hi hl
 unfold ref07_phoneErr phE jn
 rw [l9 (by omega)]
 simp only [Int.toNat_natCast]
 obtain ⟨p, hpp⟩ : ∃ p : Ph, p = l.getD i default := ⟨_, rfl⟩
 simp only [← hpp] at hh hd2 ⊢
 unfold phEp
 simp only [Within_eq, j9]
 by_cases hs : 0 ≤ p.1 ∧ p.1 ≤ 5
 rotate_left
 · rw [l0 (by rw [inBd, decide_eq_false hs]; rfl), if_neg hs, p7 (by decide)]
 rw [l4 (by rw [v8.2 hs]; rfl), if_pos hs, p5, formed_eq p hs]
 have hd : ref07_isDraw N p.2.2.2.2.2.2 = some (isD7 p.2.2.2.2.2.2) := rfl
 rw [hd]
 simp only [j9]
 by_cases h1 : isD7 p.2.2.2.2.2.2 = true
 rotate_left
 · rw [if_neg h1, p7 (by decide), l0 (by simpa using h1)]
 rw [if_pos h1, p5, l4 (by rw [h1]; rfl)]
 by_cases h2 : formB p = true
 rotate_left
 · rw [if_neg h2, p7 (by decide), l0 (by simpa using h2)]
 rw [if_pos h2, p5, firstF_one, l4 (by rw [h2]; rfl)]
 simp only [triesErr_eq, IdentityErr_eq, j9]
 by_cases s1 : p.1 = 1
 · rw [l0 (by simpa using s1), if_pos s1, l9 (fun _ => by omega), sentB, f3]
 rw [l4 (by simpa using s1), if_neg s1]
 by_cases s2 : p.1 = 2
 · rw [l0 (by simpa using s2), if_pos s2, hh, f4]
 rw [l4 (by simpa using s2), if_neg s2]
 by_cases s3 : p.1 = 3
 · rw [l0 (by simpa using s3), if_pos s3, n4 (n := Tr - 1) (by omega), f2]
 rw [l4 (by simpa using s3), if_neg s3]
 by_cases s4 : p.1 = 4
 · rw [l0 (by simpa using s4), if_pos s4, hd2, f1]
 rw [l4 (by simpa using s4), if_neg s4]
 by_cases s5 : p.1 = 5
 ·
  rw [l0 (by simpa using s5), if_pos s5, br_val]
  congr 1
  by_cases h : p.2.2.2.2.2.1 = Tr <;> simp [h]
 rw [l4 (by simpa using s5), if_neg s5]
def lenE (n : Nat) : Int := if n = 0 then 10 else if n > 8 then 8 else 0
def psE (Pr Ev Wi Wa Tr Ba Id at_ : Int) (l : List Ph) : Int := j7 ((List.range' 0 l.length).map (phE Pr Ev Wi Wa Tr Ba Id at_ l))
def stE (Pr Ev Wi Wa Tr Ba Id at_ : Int) (l : List Ph) : Int := j7 [rulesE Pr Ev Wi Wa Tr Ba Id, tickE at_, lenE l.length, psE Pr Ev Wi Wa Tr Ba Id at_ l]
theorem rulesE_zero : rulesE Pr Ev Wi Wa Tr Ba Id = 0 ↔ C5 Pr Ev Wi Wa Tr Ba Id := by unfold rulesE; split <;> simp_all
theorem lenE_eq (n : Nat) : j7 [if (n : Int) > 0 then 0 else 10, if (n : Int) ≤ 8 then 0 else 8] = lenE n := by
 unfold lenE
 by_cases h0 : n = 0
 · rw [if_neg (by omega), if_pos h0]; simp [j7]
 ·
  rw [if_pos (show (n : Int) > 0 by omega), if_neg h0]
  by_cases h8 : n > 8
  · rw [if_neg (by omega), if_pos h8]; simp [j7]
  · rw [if_pos (show (n : Int) ≤ 8 by omega), if_neg h8]; simp [j7]
theorem phLoop {R : Type} {b : (Int → Option R) → Int → Option R} {l : List Ph} {E : Nat → Int} {bad : Int → Option R} {fin : Option R} (hN : 20 ≤ N) (hl : l.length ≤ 10)
  (hb : ∀ (rec : Int → Option R) (k : Nat), k < l.length → b rec (k : Int) = if E k = 0 then rec ((k : Int) + 1) else bad (E k)) (he : ∀ rec : Int → Option R, b rec (l.length : Int) = fin) :
  rds b N (0 : Int) = if j7 ((List.range' 0 l.length).map E) = 0 then fin else bad (j7 ((List.range' 0 l.length).map E)) := by
 have key : rds b N (0 : Int) = if j7 ((List.range' (0 : Int).toNat (l.length - (0 : Int).toNat)).map E) = 0 then fin else bad (j7 ((List.range' (0 : Int).toNat (l.length - (0 : Int).toNat)).map E)) := by
  refine D3 (fun k : Int => 0 ≤ k ∧ k ≤ l.length) (fun k => l.length - k.toNat) (fun k => if j7 ((List.range' k.toNat (l.length - k.toNat)).map E) = 0 then fin else bad (j7 ((List.range' k.toNat (l.length - k.toNat)).map E))) (fun rec k hk hrec => ?_) N 0 (by omega) (by simp; omega)
  obtain ⟨n, rfl⟩ : ∃ n : Nat, k = n := ⟨k.toNat, by omega⟩
  simp only [Int.toNat_natCast]
  by_cases h : n < l.length
  ·
   rw [hb rec n h, show l.length - n = (l.length - (n + 1)) + 1 by omega]
   show _ = if j7 (E n :: (List.range' (n + 1) (l.length - (n + 1))).map E) = 0 then fin else bad (j7 (E n :: (List.range' (n + 1) (l.length - (n + 1))).map E))
   by_cases hE : E n = 0
   · rw [if_pos hE, hE, p5, hrec ((n : Int) + 1) (by omega) (by omega), show ((n : Int) + 1).toNat = n + 1 by omega]
   · rw [if_neg hE, p7 hE, if_neg hE]
  ·
   have : n = l.length := by omega
   subst this
   rw [he rec, Nat.sub_self]; rfl
 rw [key]; rfl
theorem CheckStateR_eq {at_ : Int} {l : List Ph} (hN : 20 ≤ N) (hr : C5 Pr Ev Wi Wa Tr Ba Id) (hl : l.length ≤ 10) : ref07_CheckState N Pr Ev Wi Wa Tr Ba Id at_ l = some (j7 [tickE at_, lenE l.length, psE Pr Ev Wi Wa Tr Ba Id at_ l]) := by
 unfold ref07_CheckState
 rw [TickErr_eq]
 simp only [j9]
 by_cases ht : tickE at_ = 0
 rotate_left
 · rw [l0 (by simpa using ht), p7 ht]
 rw [l4 (by simp [ht]), ht, p5]
 unfold lenE
 by_cases h0 : l.length = 0
 · rw [l0 (by simp [h0]), if_pos h0, p7 (by decide)]
 rw [l4 (by simp; intro e; exact h0 (by rw [e]; rfl)), if_neg h0]
 by_cases h8 : l.length > 8
 · rw [l0 (by simp; omega), if_pos h8, p7 (by decide)]
 rw [l4 (by simp; omega), if_neg h8, p5, firstF_one]
 unfold jn psE
 dsimp only
 rw [phLoop (E := phE Pr Ev Wi Wa Tr Ba Id at_ l) (bad := fun e => some e) (fin := some 0) hN hl ?_ ?_]
 ·
  split
  · rename_i e; rw [e]
  · rfl
 ·
  intro rec k hk
  unfold u6
  rw [l0 (by simpa using hk), phoneErrR_eq hN hr hk hl]
  simp only [j9]
  by_cases hE : phE Pr Ev Wi Wa Tr Ba Id at_ l k = 0
  · rw [l4 (by simp [hE]), if_pos hE, n4 (by omega)]
  · rw [l0 (by simpa using hE), if_neg hE]
 ·
  intro rec
  unfold u6
  rw [l4 (by simp)]
end
end
end Go.Sh

/-
 Phones that sleep: the loops of both sides.
-/
namespace Go.Sh
open Go.PW
noncomputable section
section
variable {N : Nat} {C S O I : Int}
end
end
end Go.Sh

/-
 Questions: the next chance, who holds an identity, who asks with it.
-/
namespace Go.Sh
open Go.PW
noncomputable section
section
variable {N : Nat} {Pr Ev Wi Wa Tr Ba Id : Int}
theorem open_err {at_ : Int} {l : List Ph} (hN : 20 ≤ N) : access_first N [rulesE Pr Ev Wi Wa Tr Ba Id, tickE at_, lenE l.length] = some (j7 [rulesE Pr Ev Wi Wa Tr Ba Id, tickE at_, lenE l.length]) := E8 (by simp; omega) (by simp)
theorem firstF_3 {a b c d : Int} (h : j7 [a, b, c] = 0) : j7 [a, b, c, d] = d := by
 by_cases ha : a = 0
 ·
  by_cases hb : b = 0
  ·
   by_cases hc : c = 0
   · rw [ha, hb, hc, p5, p5, p5, firstF_one]
   · simp [j7, ha, hb, hc] at h
  · simp [j7, ha, hb] at h
 · simp [j7, ha] at h
theorem firstF_3n {a b c d : Int} (h : j7 [a, b, c] ≠ 0) : j7 [a, b, c, d] = j7 [a, b, c] := by
 by_cases ha : a = 0
 ·
  by_cases hb : b = 0
  ·
   by_cases hc : c = 0
   · simp [ha, hb, hc, j7] at h
   · simp [j7, ha, hb, hc]
  · simp [j7, ha, hb]
 · simp [j7, ha]
theorem clone_eq {l : List Ph} (hl : l.length ≤ 10) : q6 N l = some l := by unfold q6; rw [l9 (by omega)]
def askB (id : Int) (p : Ph) : Bool := (p.1 == (2 : Int)) && (p.2.2.2.1 == id)
def asF (g : Ph → Bool) : List Ph → Int → List Int
 | [], _ => []
 | x :: r, k => if g x = true then k :: asF g r (k + 1) else asF g r (k + 1)
theorem asF_len (g : Ph → Bool) : ∀ (l : List Ph) (k : Int), (asF g l k).length ≤ l.length
 | [], _ => by simp [asF]
 | x :: r, k => by
  have := asF_len g r (k + 1)
  unfold asF
  split <;> simp <;> omega
theorem asking_c {at_ id : Int} {l : List Ph} (hN : 20 ≤ N) (hl : l.length ≤ 10) : access_site_asking N Pr Ev Wi Wa Tr Ba Id at_ l id = some (asF (askB id) l 0) := by
 unfold access_site_asking jn
 have key : rds (q9 N l id fun b => some b) N ((0 : Int), ([] : List Int)) = some ([] ++ asF (askB id) (l.drop (0 : Int).toNat) 0) := by
  refine D3 (fun x : Int × List Int => (0 ≤ x.1 ∧ x.1 ≤ l.length) ∧ (x.2.length : Int) ≤ x.1) (fun x => l.length - x.1.toNat) (fun x => some (x.2 ++ asF (askB id) (l.drop x.1.toNat) x.1)) (fun rec x hk hrec => ?_) N (0, []) (by simp) (by simp; omega)
  obtain ⟨k, b⟩ := x
  simp only at hk
  unfold q9
  dsimp only
  by_cases h : k < (l.length : Int)
  ·
   rw [l0 (by simpa using h), l9 (by omega), dropP (by omega)]
   show br (askB id (l.getD k.toNat default)) _ _ = _
   unfold asF
   cases askB id (l.getD k.toNat default)
   ·
    rw [br_false, if_neg (by simp), n4 (by omega), hrec (k + 1, b) ⟨⟨by show 0 ≤ k + 1; omega, by show k + 1 ≤ _; omega⟩, by show (b.length : Int) ≤ k + 1; omega⟩ (by show l.length - (k + 1).toNat < l.length - k.toNat; omega)]
    show some (b ++ asF (askB id) (l.drop (k + 1).toNat) (k + 1)) = _
    rw [show (k + 1).toNat = k.toNat + 1 by omega]
   ·
    rw [br_true, if_pos rfl, l9 (by simp only [List.length_cons, List.length_nil]; omega), n4 (by omega), hrec (k + 1, b ++ [k]) ⟨⟨by show 0 ≤ k + 1; omega, by show k + 1 ≤ _; omega⟩, by show ((b ++ [k]).length : Int) ≤ k + 1; simp; omega⟩ (by show l.length - (k + 1).toNat < l.length - k.toNat; omega)]
    show some ((b ++ [k]) ++ asF (askB id) (l.drop (k + 1).toNat) (k + 1)) = _
    rw [show (k + 1).toNat = k.toNat + 1 by omega, List.append_assoc]; rfl
  ·
   rw [l4 (by simpa using h), List.drop_eq_nil_of_le (by omega)]
   simp [asF]
 exact key
theorem tick_zero {t : Int} : tickE t = 0 ↔ 0 ≤ t ∧ t ≤ 1000000000 := by unfold tickE; split <;> simp_all
end
end
end Go.Sh

/-
 Which states and events are right: both sides agree.
-/
namespace Go.Sh
open Go.PW
noncomputable section
section
variable {N : Nat} {Pr Ev Wi Wa Tr Ba Id : Int}
def evE (Pr Id n k a p m s i : Int) : Int :=
 j7 [if 0 ≤ k ∧ k ≤ 4 then 0 else 15, tickE a,
  if k = 0 then (if s = 0 ∧ i = 0 then 0 else 3) else if k = 1 then (if p = 0 ∧ i = 0 then 0 else 3) else if k = 2 then (if m = 0 ∧ s = 0 then 0 else 3) else if k = 3 then (if m = 0 ∧ s = 0 ∧ i = 0 then 0 else 3) else (if p = 0 ∧ m = 0 ∧ s = 0 ∧ i = 0 then 0 else 3),
  if k = 0 then (if inB p 0 (w64 (n - 1)) = true ∧ inB m 0 (w64 (Pr - 1)) = true then 0 else 6) else if k = 1 then (if inB m 0 (w64 (Pr - 1)) = true then 0 else 6) else if k = 2 then (if inB i 0 (w64 (Id - 1)) = true ∧ inB p 0 (w64 (n - 1)) = true then 0 else 6) else if k = 3 then (if inB p 0 (w64 (n - 1)) = true then 0 else 6) else 0,
  if k = 1 then (if inB s 0 a = true then 0 else 2) else 0]
theorem use_0 (N : Nat) (k a p m s i : Int) : l1 N 0 k a p m s i = some p := by unfold l1; rw [l9 (by omega)]; rfl
theorem use_1 (N : Nat) (k a p m s i : Int) : l1 N 1 k a p m s i = some m := by unfold l1; rw [l9 (by omega)]; rfl
theorem use_2 (N : Nat) (k a p m s i : Int) : l1 N 2 k a p m s i = some s := by unfold l1; rw [l9 (by omega)]; rfl
theorem use_3 (N : Nat) (k a p m s i : Int) : l1 N 3 k a p m s i = some i := by unfold l1; rw [l9 (by omega)]; rfl
theorem eventErr_eq {n k a p m s i : Int} (hN : 20 ≤ N) : A9 N Pr Ev Wi Wa Tr Ba Id n k a p m s i = some (evE Pr Id n k a p m s i) := by
 have hk : access_isKind N k = some (inB k 0 4) := rfl
 unfold A9 evE
 rw [hk, tickErr_eq]
 simp only [j9, y7]
 rw [E8 (by simp; omega) (by simp)]
 simp only [j9]
 by_cases h1 : 0 ≤ k ∧ k ≤ 4
 rotate_left
 · rw [inBd, decide_eq_false h1, if_neg h1, if_neg (by simp), p7 (by decide), p7 (by decide), l0 (by decide)]
 rw [v8.2 h1, if_pos h1, if_pos rfl, p5, p5, firstF_one]
 by_cases h2 : tickE a = 0
 rotate_left
 · rw [l0 (by simpa using h2), p7 h2]
 have h2' := tick_zero.1 h2
 rw [l4 (by simp [h2]), h2, p5, l9 (by omega)]
 have hs : k = 0 ∨ k = 1 ∨ k = 2 ∨ k = 3 ∨ k = 4 := by omega
 have hz : inB 0 0 a = true := v8.2 (by omega)
 have hg : ∀ x y : Int, (x == y) = decide (x = y) := fun _ _ => rfl
 unfold jn
 rcases hs with rfl | rfl | rfl | rfl | rfl
 · by_cases c1 : s = 0 <;> by_cases c2 : i = 0 <;> cases c3 : inB p 0 (w64 (n - 1)) <;> cases c4 : inB m 0 (w64 (Pr - 1)) <;> simp [br, chk, use_0, use_1, use_2, use_3, within_eq, y7, grd_val, c1, c2, c3, c4, hz, j7, @eq_comm Int 0]
 · by_cases c1 : p = 0 <;> by_cases c2 : i = 0 <;> cases c3 : inB m 0 (w64 (Pr - 1)) <;> cases c4 : inB s 0 a <;> simp [br, chk, use_0, use_1, use_2, use_3, within_eq, y7, grd_val, c1, c2, c3, c4, hz, j7, @eq_comm Int 0]
 · by_cases c1 : m = 0 <;> by_cases c2 : s = 0 <;> cases c3 : inB p 0 (w64 (n - 1)) <;> cases c4 : inB i 0 (w64 (Id - 1)) <;> simp [br, chk, use_0, use_1, use_2, use_3, within_eq, y7, grd_val, c1, c2, c3, c4, hz, j7, @eq_comm Int 0]
 · by_cases c1 : m = 0 <;> by_cases c2 : s = 0 <;> by_cases c5 : i = 0 <;> cases c3 : inB p 0 (w64 (n - 1)) <;> simp [br, chk, use_0, use_1, use_2, use_3, within_eq, y7, grd_val, c1, c2, c3, c5, hz, j7, @eq_comm Int 0]
 · by_cases c1 : m = 0 <;> by_cases c2 : s = 0 <;> by_cases c5 : i = 0 <;> by_cases c3 : p = 0 <;> simp [br, chk, use_0, use_1, use_2, use_3, within_eq, y7, grd_val, c1, c2, c3, c5, hz, j7, @eq_comm Int 0]
end
end
end Go.Sh

/-
 Time passes: both sides of Apply let the same phones lose.
-/
namespace Go.Sh
open Go.PW
noncomputable section
section
variable {N : Nat} {Pr Ev Wi Wa Tr Ba Id : Int}
def drawW (d : Int) : Int := (w64 (w64 (48271 * d) + 1)).tmod 998244353
def lostW (Tr Ba : Int) (p : Ph) (t : Int) : Ph :=
 if p.2.2.2.2.2.1 ≥ Tr then (5, -1, 0, -1, 0, p.2.2.2.2.2.1, p.2.2.2.2.2.2) else (3, -1, 0, -1, w64 (t + (drawW p.2.2.2.2.2.2).tmod (w64 (Ba + 1))), p.2.2.2.2.2.1, drawW p.2.2.2.2.2.2)
def timeB (to : Int) (p : Ph) : Bool := ((p.1 == (1 : Int)) || (p.1 == (2 : Int))) && decide (p.2.2.2.2.1 < to)
def z7 (Tr Ba to : Int) (p : Ph) : Ph := if timeB to p = true then lostW Tr Ba p (w64 (p.2.2.2.2.1 + 1)) else p
theorem setP_self {l : List Ph} {k : Nat} : l.set k (l.getD k default) = l := by
 by_cases h : k < l.length
 · rw [List.getD_eq_getElem?_getD, List.getElem?_eq_getElem h, Option.getD_some, List.set_getElem_self]
 · rw [List.set_eq_of_length_le (by omega)]
theorem setLoop {R : Type} {b : (Int × List Ph → Option R) → Int × List Ph → Option R} {l : List Ph} {f : Ph → Ph} {fin : List Ph → Option R} (hN : 20 ≤ N) (hl : l.length ≤ 10)
  (hb : ∀ (rec : Int × List Ph → Option R) (k : Nat) (m : List Ph), m.length = l.length → k < l.length → m.getD k default = l.getD k default → b rec ((k : Int), m) = rec ((k : Int) + 1, m.set k (f (l.getD k default))))
  (he : ∀ (rec : Int × List Ph → Option R) (m : List Ph), m.length = l.length → b rec ((l.length : Int), m) = fin m) :
  rds b N ((0 : Int), l) = fin (l.map f) := by
 refine D3 (fun x : Int × List Ph => (0 ≤ x.1 ∧ x.1 ≤ l.length) ∧ x.2 = (l.take x.1.toNat).map f ++ l.drop x.1.toNat) (fun x => l.length - x.1.toNat) (fun _ => fin (l.map f)) (fun rec x hk hrec => ?_) N (0, l) (by simp) (by simp; omega)
 obtain ⟨k, m⟩ := x
 obtain ⟨hk, hm⟩ := hk
 simp only at hk hm
 obtain ⟨n, rfl⟩ : ∃ n : Nat, k = n := ⟨k.toNat, by omega⟩
 rw [Int.toNat_natCast] at hm
 have hml : m.length = l.length := by rw [hm]; simp; omega
 by_cases h : n < l.length
 ·
  have hg : m.getD n default = l.getD n default := by
   rw [hm, List.getD_eq_getElem?_getD, List.getElem?_append_right (by simp; omega), List.getElem?_drop, List.getD_eq_getElem?_getD]
   simp only [List.length_map, List.length_take]
   rw [show n + (n - min n l.length) = n by omega]
  rw [hb rec n m hml h hg]
  refine hrec _ ⟨⟨by show 0 ≤ (n : Int) + 1; omega, by show (n : Int) + 1 ≤ _; omega⟩, ?_⟩ (by show l.length - ((n : Int) + 1).toNat < l.length - (n : Int).toNat; omega)
  show m.set n (f (l.getD n default)) = (l.take ((n : Int) + 1).toNat).map f ++ l.drop ((n : Int) + 1).toNat
  rw [show ((n : Int) + 1).toNat = n + 1 by omega, hm, List.set_append_right _ _ (by simp; omega), List.take_succ_eq_append_getElem h, List.map_append, List.append_assoc]
  congr 1
  have e0 : n - ((l.take n).map f).length = 0 := by simp; omega
  rw [e0, dropP h, List.set_cons_zero]
  simp [List.getD_eq_getElem?_getD, h]
 ·
  have : n = l.length := by omega
  subst this
  rw [he rec m hml, hm]
  simp
theorem passA {l : List Ph} {to : Int} {K : List Ph → Option (Int × List Ph × Int)} (hN : 20 ≤ N) (hl : l.length ≤ 10) (hB : w64 (Ba + 1) ≠ 0) (ht : ∀ k, k < l.length → timeB to (l.getD k default) = true → (l.getD k default).2.2.2.2.2.1 ≤ Tr) :
  rds (B2 N Tr Ba to l K) N ((0 : Int), l) = K (l.map (z7 Tr Ba to)) := by
 refine setLoop hN hl (fun rec k m hm hk hg => ?_) fun rec m hm => ?_
 ·
  unfold B2
  dsimp only
  rw [l0 (by simpa using hk), l9 (by omega)]
  simp only [Int.toNat_natCast, hg]
  have hi : D0 N (l.getD k default).2.2.2.2.2.2 = some (idleT (l.getD k default).2.2.2.2.2.2) := rfl
  rw [hi]
  simp only [j9]
  rw [n4 (n := (k : Int) + 1) (by omega)]
  show br (timeB to (l.getD k default)) _ _ = _
  unfold z7
  cases hT : timeB to (l.getD k default)
  · rw [br_false, if_neg (by simp), ← hg, setP_self]
  ·
   have h2 := ht k hk hT
   rw [br_true, if_pos rfl]
   unfold lostW
   by_cases h3 : (l.getD k default).2.2.2.2.2.1 = Tr
   · rw [l0 (by simpa using h3), if_pos (by omega)]; rfl
   · rw [l4 (by simpa using h3), if_neg (by omega), l9 hB]; rfl
 ·
  unfold B2
  dsimp only
  rw [l4 (by simp)]
end
end
end Go.Sh

/-
 What events do to phones: both sides of Apply, event by event.
-/
namespace Go.Sh
open Go.PW
noncomputable section
section
variable {N : Nat} {Pr Ev Wi Wa Tr Ba Id : Int}
def finA (at_ : Int) (x : Int × List Ph) : Option (Int × List Ph × Int) := br (x.1 != 0) (some (0, [], x.1)) (some (at_, x.2, 0))
theorem finA_err {at_ c : Int} {l m : List Ph} (h : c ≠ 0) : finA at_ (c, l) = finA at_ (c, m) := by
 unfold finA
 rw [l0 (by simpa using h), l0 (by simpa using h)]
def sendE (Ev at_ : Int) (p : Ph) : Int := j7 [if p.1 = 3 ∨ p.1 = 0 then 0 else 22, if p.1 ≠ 3 ∨ p.2.2.2.2.1 ≤ at_ then 0 else 17, if at_.tmod Ev = 0 then 0 else 13]
def sendP (Wi at_ pre : Int) (p : Ph) : Ph := (1, pre, at_, -1, w64 (at_ + Wi), w64 (p.2.2.2.2.2.1 + 1), p.2.2.2.2.2.2)
theorem m1_eq {at_ ph pre : Int} {b : List Ph} (hN : 20 ≤ N) (hE : Ev ≠ 0) (h : 0 ≤ ph ∧ ph < (b.length : Int)) :
  H3 N Pr Ev Wi Wa Tr Ba Id at_ ph pre b = some (sendE Ev at_ (b.getD ph.toNat default), if sendE Ev at_ (b.getD ph.toNat default) = 0 then b.set ph.toNat (sendP Wi at_ pre (b.getD ph.toNat default)) else b) := by
 have hc : n1 N Pr Ev Wi Wa Tr Ba Id at_ b at_ = some (at_.tmod Ev == 0) := by unfold n1; rw [l9 hE]
 unfold H3
 rw [l9 h, hc]
 simp only [y7, j9]
 rw [E8 (by simp; omega) (by simp)]
 simp only [j9]
 have he : j7 [if ((b.getD ph.toNat default).1 == (3 : Int) || (b.getD ph.toNat default).1 == (0 : Int)) = true then 0 else 22, if (!((b.getD ph.toNat default).1 == (3 : Int)) || decide ((b.getD ph.toNat default).2.2.2.2.1 ≤ at_)) = true then 0 else 17, if (at_.tmod Ev == 0) = true then 0 else 13] = sendE Ev at_ (b.getD ph.toNat default) := by
  unfold sendE
  simp only [Bool.or_eq_true, beq_iff_eq, Bool.not_eq_true', beq_eq_false_iff_ne, decide_eq_true_eq]
 rw [he]
 by_cases h0 : sendE Ev at_ (b.getD ph.toNat default) = 0
 · rw [l4 (by rw [h0]; rfl), if_pos h0, h0]; rfl
 · rw [l0 (bne_iff_ne.2 h0), if_neg h0]
def relE (p : Ph) : Int := if p.1 ≠ 4 ∧ p.1 ≠ 5 then 22 else 0
theorem m4_eq {ph : Int} {b : List Ph} (h : 0 ≤ ph ∧ ph < (b.length : Int)) :
  H0 N ph b = some (relE (b.getD ph.toNat default), if relE (b.getD ph.toNat default) = 0 then b.set ph.toNat (idleT (b.getD ph.toNat default).2.2.2.2.2.2) else b) := by
 unfold H0 relE
 rw [l9 h]
 by_cases h1 : (b.getD ph.toNat default).1 ≠ 4 ∧ (b.getD ph.toNat default).1 ≠ 5
 · rw [l0 (by simpa using h1), if_pos h1, if_neg (by decide)]
 · rw [l4 (by simp only [bne, Bool.and_eq_false_iff, Bool.not_eq_false', beq_iff_eq]; omega), if_neg h1, if_pos rfl]; rfl
def frR (q : Int → Bool) : Nat → Nat → Int
 | _, 0 => -1
 | n, m + 1 => if q (n : Int) = true then frR q (n + 1) m else n
def frF (Id : Int) (b : List Ph) : Int := frR (fun n => b.any (hadB n)) 0 Id.toNat
theorem free_eq {at_ : Int} {b : List Ph} (hN : 20 ≤ N) (hI : 1 ≤ Id ∧ Id ≤ 16) (hl : b.length ≤ 10) : access_site_free N Pr Ev Wi Wa Tr Ba Id at_ b = some (if frF Id b < 0 then (0, false) else (frF Id b, true)) := by
 unfold access_site_free jn
 have key : rds (v7 N Id b fun _ => some ((0 : Int), false)) N (0 : Int) = some (if frR (fun n => b.any (hadB n)) (0 : Int).toNat (Id.toNat - (0 : Int).toNat) < 0 then (0, false) else (frR (fun n => b.any (hadB n)) (0 : Int).toNat (Id.toNat - (0 : Int).toNat), true)) := by
  refine D3 (fun k : Int => 0 ≤ k ∧ k ≤ Id) (fun k => Id.toNat - k.toNat) (fun k => some (if frR (fun n => b.any (hadB n)) k.toNat (Id.toNat - k.toNat) < 0 then (0, false) else (frR (fun n => b.any (hadB n)) k.toNat (Id.toNat - k.toNat), true))) (fun rec k hk hrec => ?_) N 0 (by omega) (by simp; omega)
  obtain ⟨n, rfl⟩ : ∃ n : Nat, k = n := ⟨k.toNat, by omega⟩
  unfold v7
  rw [Int.toNat_natCast]
  by_cases h : (n : Int) < Id
  ·
   rw [l0 (by simpa using h), had_eq (by omega) (by omega), show Id.toNat - n = (Id.toNat - (n + 1)) + 1 by omega]
   simp only [j9]
   unfold frR
   cases hq : b.any (hadB (n : Int))
   ·
    rw [l0 (by rfl)]
    simp
   ·
    rw [l4 (by rfl), n4 (by omega), hrec ((n : Int) + 1) (by omega) (by omega), show ((n : Int) + 1).toNat = n + 1 by omega]
    simp
  · rw [l4 (by simpa using h), show Id.toNat - n = 0 by omega]; rfl
 exact key
end
end
end Go.Sh

/-
 Answers: the phones that asked together ask on with one identity.
-/
namespace Go.Sh
open Go.PW
noncomputable section
section
variable {N : Nat} {Pr Ev Wi Wa Tr Ba Id : Int}
def stepI (g : Int → Ph → Ph) (m : List Ph) (i : Int) : List Ph := m.set i.toNat (g i (m.getD i.toNat default))
theorem stepI_len (g : Int → Ph → Ph) (m : List Ph) (i : Int) : (stepI g m i).length = m.length := by unfold stepI; rw [List.length_set]
theorem idxLoop {R : Type} {bb : (Int × List Ph → Option R) → Int × List Ph → Option R} {L : List Int} {g : Int → Ph → Ph} {fin : List Ph → Option R} {b : List Ph} {n0 : Nat} (hN : 20 ≤ N) (hL : L.length ≤ 10) (hb0 : b.length = n0)
  (hb : ∀ (rec : Int × List Ph → Option R) (k : Nat) (m : List Ph), m.length = n0 → k < L.length → bb rec ((k : Int), m) = rec ((k : Int) + 1, stepI g m (L.getD k 0)))
  (he : ∀ (rec : Int × List Ph → Option R) (m : List Ph), m.length = n0 → bb rec ((L.length : Int), m) = fin m) :
  rds bb N ((0 : Int), b) = fin (L.foldl (stepI g) b) := by
 have key : rds bb N ((0 : Int), b) = fin ((L.drop (0 : Int).toNat).foldl (stepI g) b) := by
  refine D3 (fun x : Int × List Ph => (0 ≤ x.1 ∧ x.1 ≤ L.length) ∧ x.2.length = n0) (fun x => L.length - x.1.toNat) (fun x => fin ((L.drop x.1.toNat).foldl (stepI g) x.2)) (fun rec x hk hrec => ?_) N (0, b) ⟨⟨by simp, by simp⟩, hb0⟩ (by simp; omega)
  obtain ⟨k, m⟩ := x
  obtain ⟨hk, hm⟩ := hk
  simp only at hk hm
  obtain ⟨n, rfl⟩ : ∃ n : Nat, k = n := ⟨k.toNat, by omega⟩
  by_cases h : n < L.length
  ·
   rw [hb rec n m hm h, hrec _ ⟨⟨by show 0 ≤ (n : Int) + 1; omega, by show (n : Int) + 1 ≤ _; omega⟩, by show (stepI g m (L.getD n 0)).length = n0; rw [stepI_len]; exact hm⟩ (by show L.length - ((n : Int) + 1).toNat < L.length - (n : Int).toNat; omega)]
   show fin ((L.drop ((n : Int) + 1).toNat).foldl (stepI g) (stepI g m (L.getD n 0))) = fin ((L.drop (n : Int).toNat).foldl (stepI g) m)
   rw [show ((n : Int) + 1).toNat = n + 1 by omega, Int.toNat_natCast, drop_at h, List.foldl_cons]
  ·
   have : n = L.length := by omega
   subst this
   rw [he rec m hm]
   simp
 rw [key]; rfl
theorem asF_in {q : Ph → Bool} : ∀ (l : List Ph) (k : Int) (i : Int), i ∈ asF q l k → k ≤ i ∧ i < k + l.length
 | [], k, i, h => by simp [asF] at h
 | x :: r, k, i, h => by
  have ih := asF_in (q := q) r (k + 1) i
  unfold asF at h
  rw [List.length_cons]
  split at h
  ·
   rcases List.mem_cons.1 h with rfl | h
   · omega
   · have := ih h; omega
  · have := ih h; omega
theorem getD_mem {L : List Int} {k : Nat} (h : k < L.length) : L.getD k 0 ∈ L := by
 rw [List.getD_eq_getElem?_getD, List.getElem?_eq_getElem h, Option.getD_some]; exact List.getElem_mem h
def matchB (pre sent : Int) (p : Ph) : Bool := ((p.1 == (1 : Int)) && (p.2.1 == pre)) && (p.2.2.1 == sent)
def ansP (Wa at_ n : Int) (p : Ph) : Ph := (2, -1, 0, n, w64 (at_ + Wa), p.2.2.2.2.2.1, p.2.2.2.2.2.2)
theorem take_set {l : List Ph} {f : Ph → Ph} {n : Nat} (h : n < l.length) : ((l.take n).map f ++ l.drop n).set n (f (l.getD n default)) = (l.take (n + 1)).map f ++ l.drop (n + 1) := by
 rw [List.set_append_right _ _ (by simp; omega), List.take_succ_eq_append_getElem h, List.map_append, List.append_assoc]
 congr 1
 have e0 : n - ((l.take n).map f).length = 0 := by simp; omega
 rw [e0, dropP h, List.set_cons_zero]
 simp [List.getD_eq_getElem?_getD, h]
theorem take_get {l : List Ph} {f : Ph → Ph} {n : Nat} (h : n < l.length) : ((l.take n).map f ++ l.drop n).getD n default = l.getD n default := by
 rw [List.getD_eq_getElem?_getD, List.getElem?_append_right (by simp; omega), List.getElem?_drop, List.getD_eq_getElem?_getD]
 simp only [List.length_map, List.length_take]
 rw [show n + (n - min n l.length) = n by omega]
theorem ansA {b : List Ph} {at_ pre sent x : Int} {K : Int × List Ph → Option (Int × List Ph)} (hN : 20 ≤ N) (hl : b.length ≤ 10) :
  rds (B1 N Wa at_ pre sent b x K) N ((0 : Int), (0 : Int), b) = K ((b.countP (matchB pre sent) : Int), b.map fun p => if matchB pre sent p = true then ansP Wa at_ x p else p) := by
 generalize hf : (fun p => if matchB pre sent p = true then ansP Wa at_ x p else p) = f
 have key : rds (B1 N Wa at_ pre sent b x K) N ((0 : Int), (0 : Int), b) = K ((0 : Int) + ((b.drop (0 : Int).toNat).countP (matchB pre sent) : Int), b.map f) := by
  refine D3 (fun y : Int × Int × List Ph => ((0 ≤ y.2.1 ∧ y.2.1 ≤ b.length) ∧ 0 ≤ y.1 ∧ y.1 ≤ y.2.1) ∧ y.2.2 = (b.take y.2.1.toNat).map f ++ b.drop y.2.1.toNat) (fun y => b.length - y.2.1.toNat) (fun y => K (y.1 + ((b.drop y.2.1.toNat).countP (matchB pre sent) : Int), b.map f)) (fun rec y hk hrec => ?_) N (0, 0, b) (by simp) (by simp; omega)
  obtain ⟨c, k, m⟩ := y
  obtain ⟨⟨hk, hc⟩, hm⟩ := hk
  simp only at hk hc hm
  obtain ⟨n, rfl⟩ : ∃ n : Nat, k = n := ⟨k.toNat, by omega⟩
  rw [Int.toNat_natCast] at hm
  unfold B1
  dsimp only
  by_cases h : n < b.length
  ·
   have hg : m.getD n default = b.getD n default := by rw [hm]; exact take_get h
   have hml : m.length = b.length := by rw [hm]; simp; omega
   have hs : m.set n (f (b.getD n default)) = (b.take (n + 1)).map f ++ b.drop (n + 1) := by rw [hm]; exact take_set h
   rw [l0 (by simpa using h), l9 (by omega), l9 (by omega), n4 (n := (n : Int) + 1) (by omega), n4 (n := c + 1) (by omega)]
   simp only [Int.toNat_natCast, hg]
   rw [dropP h, List.countP_cons]
   have hq : ((((b.getD n default).1 != (1 : Int)) || ((b.getD n default).2.1 != pre)) || ((b.getD n default).2.2.1 != sent)) = !matchB pre sent (b.getD n default) := by unfold matchB; simp [bne]
   rw [hq]
   cases hqq : matchB pre sent (b.getD n default)
   ·
    have hfx : f (b.getD n default) = b.getD n default := by rw [← hf]; simp only [hqq]; rfl
    rw [l0 (by rfl), hrec (c, (n : Int) + 1, m) ⟨⟨⟨by show 0 ≤ (n : Int) + 1; omega, by show (n : Int) + 1 ≤ _; omega⟩, hc.1, by show c ≤ (n : Int) + 1; omega⟩, by show m = (b.take ((n : Int) + 1).toNat).map f ++ b.drop ((n : Int) + 1).toNat; rw [show ((n : Int) + 1).toNat = n + 1 by omega, ← hs, hfx, ← hg, setP_self]⟩ (by show b.length - ((n : Int) + 1).toNat < b.length - (n : Int).toNat; omega)]
    show K (c + ((b.drop ((n : Int) + 1).toNat).countP (matchB pre sent) : Int), _) = _
    rw [show ((n : Int) + 1).toNat = n + 1 by omega]
    simp
   ·
    have hfx : f (b.getD n default) = ansP Wa at_ x (b.getD n default) := by rw [← hf]; simp only [hqq]; rfl
    rw [l4 (by rfl)]
    have hset : m.set n ((2 : Int), (-1 : Int), (0 : Int), x, w64 (at_ + Wa), (b.getD n default).2.2.2.2.2.1, (b.getD n default).2.2.2.2.2.2) = (b.take (n + 1)).map f ++ b.drop (n + 1) := by rw [← hs, hfx]; rfl
    rw [hset, hrec (c + 1, (n : Int) + 1, _) ⟨⟨⟨by show 0 ≤ (n : Int) + 1; omega, by show (n : Int) + 1 ≤ _; omega⟩, by show 0 ≤ c + 1; omega, by show c + 1 ≤ (n : Int) + 1; omega⟩, by show _ = (b.take ((n : Int) + 1).toNat).map f ++ b.drop ((n : Int) + 1).toNat; rw [show ((n : Int) + 1).toNat = n + 1 by omega]⟩ (by show b.length - ((n : Int) + 1).toNat < b.length - (n : Int).toNat; omega)]
    show K (c + 1 + ((b.drop ((n : Int) + 1).toNat).countP (matchB pre sent) : Int), _) = _
    rw [show ((n : Int) + 1).toNat = n + 1 by omega]
    congr 2
    simp; omega
  ·
   have : n = b.length := by omega
   subst this
   rw [l4 (by simp), hm]
   simp
 rw [key]
 simp
end
end
end Go.Sh

/-
 Answers by both sides.
-/
namespace Go.Sh
open Go.PW
noncomputable section
section
variable {N : Nat} {Pr Ev Wi Wa Tr Ba Id : Int}
def ansE (Id pre sent : Int) (b : List Ph) : Int := j7 [if b.countP (matchB pre sent) > 0 then 0 else 12, if frF Id b < 0 then 16 else 0]
def ansM (Wa Id at_ pre sent : Int) (b : List Ph) : List Ph := b.map fun p => if matchB pre sent p = true then ansP Wa at_ (frF Id b) p else p
theorem m2_eq {at_ pre sent : Int} {b : List Ph} (hN : 20 ≤ N) (hI : 1 ≤ Id ∧ Id ≤ 16) (hl : b.length ≤ 10) : ∃ m, H2 N Pr Ev Wi Wa Tr Ba Id at_ pre sent b = some (ansE Id pre sent b, m) ∧ (ansE Id pre sent b = 0 → m = ansM Wa Id at_ pre sent b) := by
 unfold H2 jn
 rw [free_eq hN hI hl]
 simp only [j9]
 rw [ansA hN hl]
 simp only [y7, j9]
 rw [E8 (by simp; omega) (by simp)]
 simp only [j9]
 have ec : ((b.countP (matchB pre sent) : Int) > 0) ↔ b.countP (matchB pre sent) > 0 := by omega
 simp only [decide_eq_true_eq, ec]
 by_cases hf : frF Id b < 0
 ·
  simp only [if_pos hf]
  refine ⟨_, congrArg some (Prod.ext ?_ rfl), fun h => ?_⟩
  · unfold ansE; simp [hf]
  ·
   unfold ansE at h
   rw [if_pos hf] at h
   by_cases hc : b.countP (matchB pre sent) > 0
   · rw [if_pos hc] at h; simp [j7] at h
   · rw [if_neg hc] at h; simp [j7] at h
 ·
  simp only [if_neg hf]
  refine ⟨_, congrArg some (Prod.ext ?_ rfl), fun _ => rfl⟩
  unfold ansE; simp [hf]
end
end
end Go.Sh

/-
 Resolved: of those that asked with one identity one is done, the others lose; by both sides.
-/
namespace Go.Sh
open Go.PW
noncomputable section
section
variable {N : Nat} {Pr Ev Wi Wa Tr Ba Id : Int}
def lostA (Tr Ba : Int) (p : Ph) (t : Int) : Ph :=
 if p.2.2.2.2.2.1 = Tr then (5, -1, 0, -1, 0, p.2.2.2.2.2.1, p.2.2.2.2.2.2) else (3, -1, 0, -1, w64 (t + (drawW p.2.2.2.2.2.2).tmod (w64 (Ba + 1))), p.2.2.2.2.2.1, drawW p.2.2.2.2.2.2)
theorem lostA_eq {p : Ph} {t : Int} (h : p.2.2.2.2.2.1 ≤ Tr) : lostA Tr Ba p t = lostW Tr Ba p t := by
 unfold lostA lostW
 by_cases h1 : p.2.2.2.2.2.1 = Tr
 · rw [if_pos h1, if_pos (by omega)]
 · rw [if_neg h1, if_neg (by omega)]
def doneP (id : Int) (p : Ph) : Ph := (4, -1, 0, id, 0, 0, p.2.2.2.2.2.2)
def resA (Tr Ba at_ ph id : Int) (i : Int) (p : Ph) : Ph := if i = ph then doneP id p else lostA Tr Ba p at_
def resW (Tr Ba at_ ph id : Int) (i : Int) (p : Ph) : Ph := if i = ph then doneP id p else lostW Tr Ba p at_
def mapK (q : Ph → Bool) (g : Int → Ph → Ph) : List Ph → Int → List Ph
 | [], _ => []
 | x :: r, k => (if q x = true then g k x else x) :: mapK q g r (k + 1)
theorem mapK_congr {q : Ph → Bool} {g g' : Int → Ph → Ph} : ∀ (l : List Ph) (k : Int), (∀ p ∈ l, q p = true → ∀ i, g i p = g' i p) → mapK q g l k = mapK q g' l k
 | [], _, _ => rfl
 | x :: r, k, h => by
  unfold mapK
  rw [mapK_congr r (k + 1) fun p hp => h p (List.mem_cons_of_mem _ hp)]
  cases hq : q x
  · rfl
  · rw [if_pos rfl, if_pos rfl, h x List.mem_cons_self hq]
theorem asF_foldK {q : Ph → Bool} {g : Int → Ph → Ph} : ∀ (l pre : List Ph) (k : Nat), pre.length = k → (asF q l (k : Int)).foldl (stepI g) (pre ++ l) = pre ++ mapK q g l (k : Int)
 | [], pre, k, _ => by simp [asF, mapK]
 | x :: r, pre, k, hk => by
  have e : ∀ y : Ph, pre ++ y :: r = (pre ++ [y]) ++ r := fun y => by simp
  unfold asF mapK
  cases hq : q x
  ·
   rw [if_neg (by simp), e, show ((k : Int) + 1) = ((k + 1 : Nat) : Int) by omega, asF_foldK r (pre ++ [x]) (k + 1) (by simp [hk])]
   simp
  ·
   rw [if_pos rfl, List.foldl_cons]
   have hs : stepI g (pre ++ x :: r) (k : Int) = (pre ++ [g (k : Int) x]) ++ r := by
    unfold stepI
    rw [Int.toNat_natCast]
    subst hk
    simp [List.getD_eq_getElem?_getD]
   rw [hs, show ((k : Int) + 1) = ((k + 1 : Nat) : Int) by omega, asF_foldK r (pre ++ [g (k : Int) x]) (k + 1) (by simp [hk])]
   simp
theorem resLoopA {at_ ph id : Int} {b : List Ph} {K : List Ph → Option (Int × List Ph)} (hN : 20 ≤ N) (hl : b.length ≤ 10) (hB : w64 (Ba + 1) ≠ 0) :
  rds (B0 N Tr Ba at_ ph id (asF (askB id) b 0) K) N ((0 : Int), b) = K (mapK (askB id) (resA Tr Ba at_ ph id) b 0) := by
 have hc := asF_len (askB id) b 0
 rw [idxLoop (L := asF (askB id) b 0) (n0 := b.length) (g := resA Tr Ba at_ ph id) (fin := K) hN (by omega) rfl ?_ ?_]
 ·
  have := asF_foldK (q := askB id) (g := resA Tr Ba at_ ph id) b [] 0 rfl
  simp only [List.nil_append] at this
  exact congrArg K this
 ·
  intro rec k m hm hk
  have hi := asF_in b 0 _ (getD_mem hk)
  have hid : ∀ d, D0 N d = some (idleT d) := fun _ => rfl
  unfold B0
  dsimp only
  rw [l0 (by simpa using hk), l9 (by omega)]
  simp only [Int.toNat_natCast, hid, j9]
  rw [l9 (by omega), l9 (by omega), n4 (n := (k : Int) + 1) (by omega)]
  unfold stepI resA
  by_cases h1 : (asF (askB id) b 0).getD k 0 = ph
  · rw [l4 (by rw [h1]; simp), if_pos h1, l9 (by omega), l9 (by omega)]; rfl
  ·
   rw [l0 (bne_iff_ne.2 h1), if_neg h1]
   unfold lostA
   by_cases h2 : (m.getD ((asF (askB id) b 0).getD k 0).toNat default).2.2.2.2.2.1 = Tr
   · rw [l0 (beq_iff_eq.2 h2), if_pos h2]; rfl
   · rw [l4 (beq_eq_false_iff_ne.2 h2), if_neg h2]; first | rfl | (rw [l9 hB]; rfl)
 ·
  intro rec m hm
  unfold B0
  dsimp only
  rw [l4 (by simp)]
end
end
end Go.Sh

/-
 Resolved, with its errors, by both sides.
-/
namespace Go.Sh
open Go.PW
noncomputable section
section
variable {N : Nat} {Pr Ev Wi Wa Tr Ba Id : Int}
def hasB (L : List Int) (n : Int) : Bool := L.any fun i => decide (i = n)
theorem cont_eq {L : List Int} {v : Int} (hN : 20 ≤ N) (hL : L.length ≤ 10) : z1 N L v = some (hasB L v) := by
 unfold z1 slices_Index_ii jn
 have key : rds (y9 N L v fun _ => some (-1)) N (0 : Int) = some (idxA (fun i => decide (i = v)) (L.drop (0 : Int).toNat) 0) := by
  refine D3 (fun k : Int => 0 ≤ k ∧ k ≤ L.length) (fun k => L.length - k.toNat) (fun k => some (idxA (fun i => decide (i = v)) (L.drop k.toNat) k)) (fun rec k hk hrec => ?_) N 0 (by omega) (by simp; omega)
  unfold y9
  by_cases h : k < (L.length : Int)
  ·
   rw [l0 (by simpa using h), l9 (by omega), drop_at (by omega)]
   unfold idxA
   by_cases hq : L.getD k.toNat 0 = v
   · rw [l0 (beq_iff_eq.2 hq.symm), if_pos (decide_eq_true hq)]
   · rw [l4 (beq_eq_false_iff_ne.2 (fun e => hq e.symm)), if_neg (by rw [decide_eq_false hq]; simp), n4 (by omega), hrec (k + 1) (by omega) (by omega), show (k + 1).toNat = k.toNat + 1 by omega]
  · rw [l4 (by simpa using h), List.drop_eq_nil_of_le (by omega)]; rfl
 dsimp only
 rw [key]
 simp only [j9]
 rw [idxA_any _ _ 0 (by omega)]
 rfl
def resE (id ph : Int) (b : List Ph) : Int := j7 [if (asF (askB id) b 0).length > 0 then 0 else 12, if hasB (asF (askB id) b 0) ph = true then 0 else 13]
theorem m3_eq {at_ ph id : Int} {b : List Ph} (hN : 20 ≤ N) (hl : b.length ≤ 10) (hB : w64 (Ba + 1) ≠ 0) :
  H1 N Pr Ev Wi Wa Tr Ba Id at_ ph id b = some (resE id ph b, if resE id ph b = 0 then mapK (askB id) (resA Tr Ba at_ ph id) b 0 else b) := by
 have hc := asF_len (askB id) b 0
 unfold H1
 rw [asking_c hN hl]
 simp only [j9]
 rw [cont_eq hN (by omega)]
 simp only [y7, j9]
 rw [E8 (by simp; omega) (by simp)]
 simp only [j9]
 have ec : (((asF (askB id) b 0).length : Int) > 0) ↔ (asF (askB id) b 0).length > 0 := by omega
 simp only [decide_eq_true_eq, ec]
 show br (resE id ph b != 0) (some (resE id ph b, b)) _ = _
 by_cases h0 : resE id ph b = 0
 ·
  rw [l4 (by rw [h0]; rfl), if_pos h0, h0]
  unfold jn
  dsimp only
  rw [resLoopA hN hl hB]
 · rw [l0 (bne_iff_ne.2 h0), if_neg h0]
end
end
end Go.Sh

/-
 Apply, by the reference.
-/
namespace Go.Sh
open Go.PW
noncomputable section
section
variable {N : Nat} {Pr Ev Wi Wa Tr Ba Id : Int}
def apX (Ev Wi Wa Tr Ba Id at_ k ph pre sent id : Int) (b : List Ph) : Int × List Ph :=
 if k = 0 then (sendE Ev at_ (b.getD ph.toNat default), b.set ph.toNat (sendP Wi at_ pre (b.getD ph.toNat default)))
 else if k = 1 then (ansE Id pre sent b, ansM Wa Id at_ pre sent b)
 else if k = 2 then (resE id ph b, mapK (askB id) (resW Tr Ba at_ ph id) b 0)
 else if k = 3 then (relE (b.getD ph.toNat default), b.set ph.toNat (idleT (b.getD ph.toNat default).2.2.2.2.2.2))
 else (0, b)
end
end
end Go.Sh

/-
 Apply, by the program.
-/
namespace Go.Sh
open Go.PW
noncomputable section
section
variable {N : Nat} {Pr Ev Wi Wa Tr Ba Id : Int}
theorem C3 : ∀ {l : List Int}, j7 l = 0 → ∀ e ∈ l, e = 0
 | [], _, e, h => by cases h
 | x :: r, hx, e, h => by
  by_cases h0 : x = 0
  ·
   rw [h0, p5] at hx
   rcases List.mem_cons.1 h with rfl | h
   · exact h0
   · exact C3 hx e h
  · rw [p7 h0] at hx; exact absurd hx h0
theorem phE_tries {at_ : Int} {p : Ph} {pre : List Ph} (h : phEp Pr Ev Wi Wa Tr Ba Id at_ p pre = 0) (hs : p.1 = 1 ∨ p.1 = 2) : p.2.2.2.2.2.1 ≤ Tr := by
 unfold phEp at h
 have h4 := C3 h _ (List.mem_cons_of_mem _ (List.mem_cons_of_mem _ (List.mem_cons_of_mem _ (List.mem_cons_self))))
 rcases hs with h1 | h2
 ·
  rw [if_pos h1] at h4
  have := C3 h4 _ (List.mem_cons_of_mem _ (List.mem_cons_of_mem _ (List.mem_cons_self)))
  by_cases hb : inB p.2.2.2.2.2.1 1 Tr = true
  · exact (v8.1 hb).2
  · rw [if_neg hb] at this; cases this
 ·
  rw [if_neg (by omega), if_pos h2] at h4
  have := C3 h4 _ (List.mem_cons_of_mem _ (List.mem_cons_of_mem _ (List.mem_cons_self)))
  by_cases hb : inB p.2.2.2.2.2.1 1 Tr = true
  · exact (v8.1 hb).2
  · rw [if_neg hb] at this; cases this
theorem psE_tries {at_ : Int} {l : List Ph} (h : psE Pr Ev Wi Wa Tr Ba Id at_ l = 0) (k : Nat) (hk : k < l.length) (hs : (l.getD k default).1 = 1 ∨ (l.getD k default).1 = 2) : (l.getD k default).2.2.2.2.2.1 ≤ Tr :=
 phE_tries (C3 h _ (List.mem_map.2 ⟨k, List.mem_range'_1.2 ⟨Nat.zero_le _, by omega⟩, rfl⟩)) hs
theorem timeB_stage {to : Int} {p : Ph} (h : timeB to p = true) : p.1 = 1 ∨ p.1 = 2 := by
 unfold timeB at h
 simp only [Bool.and_eq_true, Bool.or_eq_true, beq_iff_eq] at h
 exact h.1
theorem pass_ask {to : Int} {p : Ph} (h : (z7 Tr Ba to p).1 = 2) (ht : p.1 = 1 ∨ p.1 = 2 → p.2.2.2.2.2.1 ≤ Tr) : (z7 Tr Ba to p).2.2.2.2.2.1 ≤ Tr := by
 unfold z7 at *
 by_cases hT : timeB to p = true
 ·
  rw [if_pos hT] at h
  unfold lostW at h
  split at h <;> simp at h
 ·
  rw [if_neg hT] at h ⊢
  exact ht (.inr h)
theorem map_ask {to : Int} {l : List Ph} (h : ∀ k, k < l.length → (l.getD k default).1 = 1 ∨ (l.getD k default).1 = 2 → (l.getD k default).2.2.2.2.2.1 ≤ Tr) : ∀ p ∈ l.map (z7 Tr Ba to), p.1 = 2 → p.2.2.2.2.2.1 ≤ Tr := fun p hp h2 => by
 obtain ⟨q, hq, rfl⟩ := List.mem_map.1 hp
 obtain ⟨k, hk, rfl⟩ := List.mem_iff_getElem.1 hq
 have e : l.getD k default = l[k] := by rw [List.getD_eq_getElem?_getD, List.getElem?_eq_getElem hk, Option.getD_some]
 refine pass_ask h2 fun hs => ?_
 have := h k hk
 rw [e] at this
 exact this hs
end
end
end Go.Sh

/-
 Apply, by the program: the same as by the reference.
-/
namespace Go.Sh
open Go.PW
noncomputable section
section
variable {N : Nat} {Pr Ev Wi Wa Tr Ba Id : Int}
def apE (Pr Id n at_ s_At k ph pre sent id : Int) : Int := j7 [evE Pr Id n k at_ ph pre sent id, if at_ ≥ s_At then 0 else 9]
theorem ApplyA_eq {s_At at_ k ph pre sent id : Int} {l : List Ph} (hN : 20 ≤ N) (hl : l.length ≤ 10) (hph : evE Pr Id l.length k at_ ph pre sent id = 0 → (0 ≤ k ∧ k ≤ 4) ∧ (k = 0 ∨ k = 3 → 0 ≤ ph ∧ ph < (l.length : Int))) :
  access_Apply N Pr Ev Wi Wa Tr Ba Id s_At l k at_ ph pre sent id = if stE Pr Ev Wi Wa Tr Ba Id s_At l = 0 then (if apE Pr Id l.length at_ s_At k ph pre sent id = 0 then finA at_ (apX Ev Wi Wa Tr Ba Id at_ k ph pre sent id (l.map (z7 Tr Ba at_))) else some (0, [], apE Pr Id l.length at_ s_At k ph pre sent id)) else some (0, [], stE Pr Ev Wi Wa Tr Ba Id s_At l) := by
 unfold access_Apply
 rw [CheckRules_eq, tickErr_eq, phonesErr_eq (by omega), lenE_eq]
 simp only [j9]
 rw [open_err hN]
 simp only [j9]
 by_cases h0 : j7 [rulesE Pr Ev Wi Wa Tr Ba Id, tickE s_At, lenE l.length] = 0
 rotate_left
 ·
  have e : stE Pr Ev Wi Wa Tr Ba Id s_At l = j7 [rulesE Pr Ev Wi Wa Tr Ba Id, tickE s_At, lenE l.length] := by unfold stE; rw [firstF_3n h0]
  rw [l0 (bne_iff_ne.2 h0), e, if_neg h0]
 have hr : C5 Pr Ev Wi Wa Tr Ba Id := by
  rw [← rulesE_zero]
  by_cases h : rulesE Pr Ev Wi Wa Tr Ba Id = 0
  · exact h
  · rw [p7 h] at h0; exact h0
 obtain ⟨_, hE, _, _, _, hBa, hI⟩ := (show C5 Pr Ev Wi Wa Tr Ba Id from hr)
 have hB : w64 (Ba + 1) ≠ 0 := by rw [n4 (by omega)]; omega
 have hst : stE Pr Ev Wi Wa Tr Ba Id s_At l = psE Pr Ev Wi Wa Tr Ba Id s_At l := by unfold stE; exact firstF_3 h0
 rw [l4 (by rw [h0]; rfl), clone_eq hl]
 simp only [j9]
 unfold jn
 dsimp only
 rw [phLoop (E := phE Pr Ev Wi Wa Tr Ba Id s_At l) (bad := fun e => some ((0 : Int), ([] : List Ph), e)) (fin := _) hN hl ?_ (fun rec => by unfold D2; rw [l4 (by simp)])]
 rotate_left
 ·
  intro rec k hk
  unfold D2
  rw [l0 (by simpa using hk), phoneErr_eq hN hr hk hl]
  simp only [j9]
  by_cases hE : phE Pr Ev Wi Wa Tr Ba Id s_At l k = 0
  · rw [l4 (by rw [hE]; rfl), if_pos hE, n4 (by omega)]
  · rw [l0 (bne_iff_ne.2 hE), if_neg hE]
 rw [hst]
 show (if psE Pr Ev Wi Wa Tr Ba Id s_At l = 0 then _ else some ((0 : Int), ([] : List Ph), psE Pr Ev Wi Wa Tr Ba Id s_At l)) = _
 by_cases hp : psE Pr Ev Wi Wa Tr Ba Id s_At l = 0
 rotate_left
 · rw [if_neg hp, if_neg hp]
 rw [if_pos hp, if_pos hp, eventErr_eq hN]
 simp only [j9, y7, decide_eq_true_eq]
 rw [E8 (by simp; omega) (by simp)]
 simp only [j9]
 show br (apE Pr Id l.length at_ s_At k ph pre sent id != 0) (some (0, [], apE Pr Id l.length at_ s_At k ph pre sent id)) _ = _
 by_cases he : apE Pr Id l.length at_ s_At k ph pre sent id = 0
 rotate_left
 · rw [l0 (bne_iff_ne.2 he), if_neg he]
 rw [l4 (by rw [he]; rfl), if_pos he, clone_eq hl]
 simp only [j9]
 have hev : evE Pr Id l.length k at_ ph pre sent id = 0 := C3 he _ List.mem_cons_self
 obtain ⟨hk, hb⟩ := hph hev
 rw [passA hN hl hB fun q hq hT => psE_tries hp q hq (timeB_stage hT)]
 have hask := map_ask (Tr := Tr) (Ba := Ba) (to := at_) fun q hq hs => psE_tries hp q hq hs
 have hbl : (l.map (z7 Tr Ba at_)).length = l.length := List.length_map ..
 generalize l.map (z7 Tr Ba at_) = b at hbl hask
 have hfin : ∀ (c : Int) (m m' : List Ph), (c = 0 → m = m') → (br (c != 0) (some ((0 : Int), ([] : List Ph), c)) (some (at_, m, 0))) = finA at_ (c, m') := fun c m m' h => by
  by_cases hc : c = 0
  · rw [h hc]; rfl
  · exact finA_err (m := m') (l := m) hc
 rw [l9 (by omega)]
 unfold apX
 by_cases k0 : k = 0
 ·
  have hq := hb (.inl k0)
  rw [l0 (beq_iff_eq.2 k0), if_pos k0, m1_eq hN (by omega) (by omega)]
  exact hfin _ _ _ fun h => by rw [if_pos h]
 rw [l4 (beq_eq_false_iff_ne.2 k0), if_neg k0]
 by_cases k1 : k = 1
 ·
  obtain ⟨m, h1, h2⟩ := m2_eq (N := N) (Pr := Pr) (Ev := Ev) (Wi := Wi) (Wa := Wa) (Tr := Tr) (Ba := Ba) (Id := Id) (at_ := at_) (pre := pre) (sent := sent) (b := b) hN hI (by omega)
  rw [l0 (beq_iff_eq.2 k1), if_pos k1, h1]
  exact hfin _ _ _ h2
 rw [l4 (beq_eq_false_iff_ne.2 k1), if_neg k1]
 by_cases k2 : k = 2
 ·
  rw [l0 (beq_iff_eq.2 k2), if_pos k2, m3_eq hN (by omega) hB]
  refine hfin _ _ _ fun h => ?_
  rw [if_pos h]
  refine mapK_congr b 0 fun p hp' hq i => ?_
  unfold resA resW
  split
  · rfl
  ·
   refine lostA_eq (hask p hp' ?_)
   unfold askB at hq
   simp only [Bool.and_eq_true, beq_iff_eq] at hq
   exact hq.1
 rw [l4 (beq_eq_false_iff_ne.2 k2), if_neg k2]
 by_cases k3 : k = 3
 ·
  have hq := hb (.inr k3)
  rw [l0 (beq_iff_eq.2 k3), if_pos k3, m4_eq (by omega)]
  exact hfin _ _ _ fun h => by rw [if_pos h]
 rw [l4 (beq_eq_false_iff_ne.2 k3), if_neg k3, l0 (beq_iff_eq.2 (by omega))]
 rfl
end
end
end Go.Sh

/-
 The state behind an event is as specified.
-/
namespace Go.Sh
open Go.PW
noncomputable section
section
variable {N : Nat} {Pr Ev Wi Wa Tr Ba Id : Int}
theorem mapK_len {q : Ph → Bool} {g : Int → Ph → Ph} : ∀ (l : List Ph) (k : Int), (mapK q g l k).length = l.length
 | [], _ => rfl
 | x :: r, k => by unfold mapK; rw [List.length_cons, List.length_cons, mapK_len r (k + 1)]
theorem apX_len {at_ k ph pre sent id : Int} {b : List Ph} : (apX Ev Wi Wa Tr Ba Id at_ k ph pre sent id b).2.length = b.length := by
 unfold apX
 split
 · exact List.length_set ..
 split
 · exact List.length_map ..
 split
 · exact mapK_len b 0
 split
 · exact List.length_set ..
 · rfl
theorem evE_ok {n k a p m s i : Int} (hn : 0 ≤ n ∧ n ≤ 1000) (h : evE Pr Id n k a p m s i = 0) : (0 ≤ k ∧ k ≤ 4) ∧ (k = 0 ∨ k = 3 → 0 ≤ p ∧ p < n) := by
 unfold evE at h
 have h1 := C3 h _ List.mem_cons_self
 have h4 := C3 h _ (List.mem_cons_of_mem _ (List.mem_cons_of_mem _ (List.mem_cons_of_mem _ List.mem_cons_self)))
 have hk : 0 ≤ k ∧ k ≤ 4 := by
  by_cases c : 0 ≤ k ∧ k ≤ 4
  · exact c
  · rw [if_neg c] at h1; cases h1
 refine ⟨hk, fun h0 => ?_⟩
 have hp : inB p 0 (w64 (n - 1)) = true := by
  rcases h0 with h0 | h0
  ·
   rw [if_pos h0] at h4
   by_cases c : inB p 0 (w64 (n - 1)) = true ∧ inB m 0 (w64 (Pr - 1)) = true
   · exact c.1
   · rw [if_neg c] at h4; cases h4
  ·
   rw [if_neg (by omega), if_neg (by omega), if_neg (by omega), if_pos h0] at h4
   by_cases c : inB p 0 (w64 (n - 1)) = true
   · exact c
   · rw [if_neg c] at h4; cases h4
 have := v8.1 hp
 rw [n4 (by omega)] at this
 omega
theorem stateErr_eq {at_ : Int} {l : List Ph} (hN : 20 ≤ N) (hl : l.length ≤ 10) : A2 N Pr Ev Wi Wa Tr Ba Id at_ l = some (stE Pr Ev Wi Wa Tr Ba Id at_ l) := by
 unfold A2
 rw [CheckRulesR_eq]
 simp only [j9]
 by_cases h : rulesE Pr Ev Wi Wa Tr Ba Id = 0
 ·
  rw [l4 (by rw [h]; rfl), CheckStateR_eq hN (rulesE_zero.1 h) hl]
  unfold stE
  rw [h, p5]; rfl
 ·
  rw [l0 (bne_iff_ne.2 h)]
  unfold stE
  rw [p7 h]
end
end
end Go.Sh

/-
 Right states, told phone by phone and pair by pair.
-/
namespace Go.Sh
open Go.PW
noncomputable section
section
variable {N : Nat} {Pr Ev Wi Wa Tr Ba Id : Int}
def okPh (Pr Ev Wi Wa Tr Ba Id at_ : Int) (p : Ph) : Prop :=
 (0 ≤ p.1 ∧ p.1 ≤ 5) ∧ (0 ≤ p.2.2.2.2.2.2 ∧ p.2.2.2.2.2.2 ≤ 998244352) ∧ formB p = true ∧
 (p.1 = 1 → (0 ≤ p.2.1 ∧ p.2.1 ≤ Pr - 1) ∧ ((0 ≤ p.2.2.1 ∧ p.2.2.1 ≤ at_) ∧ p.2.2.1.tmod Ev = 0 ∧ p.2.2.2.2.1 = p.2.2.1 + Wi ∧ at_ ≤ p.2.2.2.2.1) ∧ 1 ≤ p.2.2.2.2.2.1 ∧ p.2.2.2.2.2.1 ≤ Tr) ∧
 (p.1 = 2 → (0 ≤ p.2.2.2.1 ∧ p.2.2.2.1 ≤ Id - 1) ∧ (at_ ≤ p.2.2.2.2.1 ∧ p.2.2.2.2.1 ≤ at_ + Wa) ∧ 1 ≤ p.2.2.2.2.2.1 ∧ p.2.2.2.2.2.1 ≤ Tr) ∧
 (p.1 = 3 → (0 ≤ p.2.2.2.2.1 ∧ p.2.2.2.2.1 ≤ at_ + Ba) ∧ 1 ≤ p.2.2.2.2.2.1 ∧ p.2.2.2.2.2.1 ≤ Tr - 1) ∧
 (p.1 = 4 → 0 ≤ p.2.2.2.1 ∧ p.2.2.2.1 ≤ Id - 1) ∧
 (p.1 = 5 → p.2.2.2.2.2.1 = Tr)
def clP (p : Ph) (pre : List Ph) : Prop := (p.1 = 2 → pre.any (heldB p.2.2.2.1) = false) ∧ (p.1 = 4 → pre.any (hadB p.2.2.2.1) = false)
theorem firstF_zero : ∀ {l : List Int}, j7 l = 0 ↔ ∀ e ∈ l, e = 0
 | [] => ⟨fun _ _ h => absurd h List.not_mem_nil, fun _ => rfl⟩
 | x :: r => ⟨C3, fun h => by
  rw [h x List.mem_cons_self, p5]
  exact firstF_zero.2 fun e he => h e (List.mem_cons_of_mem _ he)⟩
theorem B5 {x : Int} {r : List Int} : j7 (x :: r) = 0 ↔ x = 0 ∧ j7 r = 0 := by
 constructor
 ·
  intro h
  have h0 := C3 h x List.mem_cons_self
  rw [h0, p5] at h
  exact ⟨h0, h⟩
 ·
  rintro ⟨h0, h⟩
  rw [h0, p5]; exact h
theorem firstF_nil : j7 [] = 0 ↔ True := ⟨fun _ => trivial, fun _ => rfl⟩
theorem ite0 {c : Prop} [Decidable c] {e : Int} (he : e ≠ 0) : (if c then (0 : Int) else e) = 0 ↔ c := by
 by_cases h : c
 · rw [if_pos h]; exact ⟨fun _ => h, fun _ => rfl⟩
 · rw [if_neg h]; exact ⟨fun h2 => absurd h2 he, fun h2 => absurd h2 h⟩
theorem ite1 {c : Prop} [Decidable c] {e : Int} (he : e ≠ 0) : (if c then e else (0 : Int)) = 0 ↔ ¬ c := by
 by_cases h : c
 · rw [if_pos h]; exact ⟨fun h2 => absurd h2 he, fun h2 => absurd h h2⟩
 · rw [if_neg h]; exact ⟨fun _ => h, fun _ => rfl⟩
theorem phEp_zero {at_ : Int} {p : Ph} {pre : List Ph} (hr : C5 Pr Ev Wi Wa Tr Ba Id) (ha : 0 ≤ at_ ∧ at_ ≤ 1000000000) : phEp Pr Ev Wi Wa Tr Ba Id at_ p pre = 0 ↔ okPh Pr Ev Wi Wa Tr Ba Id at_ p ∧ clP p pre := by
 obtain ⟨hPr, hE, hWi, hWa, hTr, hBa, hI⟩ := (show C5 Pr Ev Wi Wa Tr Ba Id from hr)
 unfold phEp okPh clP isD7
 simp only [B5, firstF_nil, and_true, ite0 (show (15 : Int) ≠ 0 by decide), ite0 (show (2 : Int) ≠ 0 by decide), ite0 (show (3 : Int) ≠ 0 by decide), v8]
 rw [n4 (n := Pr - 1) (by omega), n4 (n := Id - 1) (by omega), n4 (n := at_ + Wa) (by omega), n4 (n := at_ + Ba) (by omega)]
 have hs : ((((inB p.2.2.1 0 at_ && (p.2.2.1.tmod Ev == 0)) && (p.2.2.2.2.1 == w64 (p.2.2.1 + Wi))) && decide (p.2.2.2.2.1 ≥ at_)) = true) = ((0 ≤ p.2.2.1 ∧ p.2.2.1 ≤ at_) ∧ p.2.2.1.tmod Ev = 0 ∧ p.2.2.2.2.1 = p.2.2.1 + Wi ∧ at_ ≤ p.2.2.2.2.1) := by
  simp only [Bool.and_eq_true, v8, beq_iff_eq, decide_eq_true_eq, ge_iff_le, and_assoc]
  apply propext
  constructor
  ·
   rintro ⟨a, b, c, d, e⟩
   rw [n4 (by omega)] at d
   exact ⟨a, b, c, d, e⟩
  ·
   rintro ⟨a, b, c, d, e⟩
   refine ⟨a, b, c, ?_, e⟩
   rw [n4 (by omega)]; exact d
 simp only [hs]
 by_cases h0 : 0 ≤ p.1 ∧ p.1 ≤ 5
 rotate_left
 · exact ⟨fun h => absurd h.1 h0, fun h => absurd h.1.1 h0⟩
 have hst : p.1 = 0 ∨ p.1 = 1 ∨ p.1 = 2 ∨ p.1 = 3 ∨ p.1 = 4 ∨ p.1 = 5 := by omega
 rcases hst with e | e | e | e | e | e <;> rw [e] <;> simp [B5, firstF_nil, ite0, ite1, v8, and_assoc]
theorem anyTake {l : List Ph} {i : Nat} {g : Ph → Bool} : (l.take i).any g = false ↔ ∀ k, k < i → k < l.length → g (l.getD k default) = false := by
 rw [List.any_eq_false]
 constructor
 ·
  intro h k hk hl
  have hm : l.getD k default ∈ l.take i := by
   rw [← takeD hk, List.getD_eq_getElem?_getD, List.getElem?_eq_getElem (by rw [List.length_take]; omega), Option.getD_some]
   exact List.getElem_mem _
  have := h _ hm
  cases hg : g (l.getD k default)
  · rfl
  · exact absurd hg this
 ·
  intro h x hx
  obtain ⟨k, hk, rfl⟩ := List.mem_iff_getElem.1 hx
  rw [List.length_take] at hk
  have := h k (by omega) (by omega)
  rw [List.getD_eq_getElem?_getD, List.getElem?_eq_getElem (by omega), Option.getD_some] at this
  rw [List.getElem_take, this]
  simp
def cl2 (l : List Ph) : Prop := ∀ i k, i < l.length → k < l.length → i ≠ k → (l.getD i default).1 = 4 → (l.getD k default).2.2.2.1 ≠ (l.getD i default).2.2.2.1
theorem form_id {p : Ph} (h : formB p = true) (h2 : p.1 ≠ 2) (h4 : p.1 ≠ 4) : p.2.2.2.1 = -1 := by
 unfold formB at h
 rw [if_neg h2, if_neg h4] at h
 split at h
 · simpa using h
 split at h
 · exact (of_decide_eq_true h).2.2
 split at h
 · exact (of_decide_eq_true h).2.2.1
 · exact (of_decide_eq_true h).2.2.1
def Right (Pr Ev Wi Wa Tr Ba Id at_ : Int) (l : List Ph) : Prop := (∀ i, i < l.length → okPh Pr Ev Wi Wa Tr Ba Id at_ (l.getD i default)) ∧ cl2 l
theorem cl_iff {at_ : Int} {l : List Ph} (h : ∀ i, i < l.length → okPh Pr Ev Wi Wa Tr Ba Id at_ (l.getD i default)) : (∀ i, i < l.length → clP (l.getD i default) (l.take i)) ↔ cl2 l := by
 constructor
 ·
  intro hc i k hi hk hne h4
  rcases Nat.lt_or_gt_of_ne hne with hlt | hlt
  ·
   obtain ⟨c2, c4⟩ := hc k hk
   by_cases s2 : (l.getD k default).1 = 2
   ·
    have := (anyTake.1 (c2 s2)) i hlt hi
    intro he
    unfold heldB at this
    rw [h4, he] at this
    simp at this
   by_cases s4 : (l.getD k default).1 = 4
   ·
    have := (anyTake.1 (c4 s4)) i hlt hi
    intro he
    unfold hadB at this
    rw [he] at this
    simp at this
   ·
    have := form_id (h k hk).2.2.1 s2 s4
    have h5 := (h i hi).2.2.2.2.2.2.1 h4
    omega
  ·
   have := (anyTake.1 ((hc i hi).2 h4)) k hlt hk
   intro he
   unfold hadB at this
   rw [he] at this
   simp at this
 ·
  intro hc i hi
  refine ⟨fun s2 => anyTake.2 fun k hk hl => ?_, fun s4 => anyTake.2 fun k hk hl => ?_⟩
  ·
   unfold heldB
   by_cases s4 : (l.getD k default).1 = 4
   ·
    have := hc k i hl hi (by omega) s4
    rw [s4]
    simpa using fun e => this e.symm
   · rw [beq_eq_false_iff_ne.2 s4]; rfl
  · exact beq_eq_false_iff_ne.2 (hc i k hi hl (by omega) s4)
theorem psE_zero {at_ : Int} {l : List Ph} (hr : C5 Pr Ev Wi Wa Tr Ba Id) (ha : 0 ≤ at_ ∧ at_ ≤ 1000000000) : psE Pr Ev Wi Wa Tr Ba Id at_ l = 0 ↔ Right Pr Ev Wi Wa Tr Ba Id at_ l := by
 unfold psE Right
 rw [firstF_zero]
 have e1 : (∀ e ∈ (List.range' 0 l.length).map (phE Pr Ev Wi Wa Tr Ba Id at_ l), e = 0) ↔ ∀ i, i < l.length → phE Pr Ev Wi Wa Tr Ba Id at_ l i = 0 := by
  constructor
  ·
   intro h i hi
   exact h _ (List.mem_map.2 ⟨i, List.mem_range'_1.2 ⟨Nat.zero_le _, by omega⟩, rfl⟩)
  ·
   intro h e he
   obtain ⟨i, hi, rfl⟩ := List.mem_map.1 he
   exact h i (by have := (List.mem_range'_1.1 hi).2; omega)
 rw [e1]
 unfold phE
 constructor
 ·
  intro h
  have ho : ∀ i, i < l.length → okPh Pr Ev Wi Wa Tr Ba Id at_ (l.getD i default) := fun i hi => ((phEp_zero hr ha).1 (h i hi)).1
  exact ⟨ho, (cl_iff ho).1 fun i hi => ((phEp_zero hr ha).1 (h i hi)).2⟩
 ·
  rintro ⟨ho, hc⟩ i hi
  exact (phEp_zero hr ha).2 ⟨ho i hi, (cl_iff ho).2 hc i hi⟩
end
end
end Go.Sh

/-
 Time passes, and events happen: a right state stays right.
-/
namespace Go.Sh
open Go.PW
noncomputable section
section
variable {N : Nat} {Pr Ev Wi Wa Tr Ba Id : Int}
theorem draw_rg {d : Int} (h : 0 ≤ d ∧ d ≤ 998244352) : 0 ≤ drawW d ∧ drawW d ≤ 998244352 := by
 unfold drawW
 rw [n4 (n := 48271 * d) (by omega), n4 (n := 48271 * d + 1) (by omega)]
 have h1 := Int.tmod_nonneg (a := 48271 * d + 1) 998244353 (by omega)
 have h2 := Int.tmod_lt_of_pos (48271 * d + 1) (b := 998244353) (by omega)
 omega
theorem lost_ok {at_ t : Int} {p : Ph} (hr : C5 Pr Ev Wi Wa Tr Ba Id) (ha : 0 ≤ at_ ∧ at_ ≤ 1000000000) (ht : 0 ≤ t ∧ t ≤ at_) (hd : 0 ≤ p.2.2.2.2.2.2 ∧ p.2.2.2.2.2.2 ≤ 998244352) (hT : 1 ≤ p.2.2.2.2.2.1 ∧ p.2.2.2.2.2.1 ≤ Tr) :
  okPh Pr Ev Wi Wa Tr Ba Id at_ (lostW Tr Ba p t) ∧ (lostW Tr Ba p t).2.2.2.1 = -1 ∧ ((lostW Tr Ba p t).1 = 3 ∨ (lostW Tr Ba p t).1 = 5) := by
 obtain ⟨hPr, hE, hWi, hWa, hTr, hBa, hI⟩ := (show C5 Pr Ev Wi Wa Tr Ba Id from hr)
 have hg := draw_rg hd
 unfold lostW
 by_cases h : p.2.2.2.2.2.1 ≥ Tr
 ·
  rw [if_pos h]
  refine ⟨?_, rfl, .inr rfl⟩
  unfold okPh formB
  refine ⟨by simp, hd, by simp, by simp, by simp, by simp, by simp, fun _ => ?_⟩
  show p.2.2.2.2.2.1 = Tr
  omega
 ·
  rw [if_neg h]
  refine ⟨?_, rfl, .inl rfl⟩
  rw [n4 (n := Ba + 1) (by omega)]
  have h1 := Int.tmod_nonneg (a := drawW p.2.2.2.2.2.2) (Ba + 1) hg.1
  have h2 := Int.tmod_lt_of_pos (drawW p.2.2.2.2.2.2) (b := Ba + 1) (by omega)
  rw [n4 (n := t + _) (by omega)]
  unfold okPh formB
  refine ⟨by simp, hg, by simp, by simp, by simp, fun _ => ⟨?_, ?_⟩, by simp, by simp⟩
  ·
   show 0 ≤ t + (drawW p.2.2.2.2.2.2).tmod (Ba + 1) ∧ t + (drawW p.2.2.2.2.2.2).tmod (Ba + 1) ≤ at_ + Ba
   omega
  ·
   show 1 ≤ p.2.2.2.2.2.1 ∧ p.2.2.2.2.2.1 ≤ Tr - 1
   omega
theorem timeB_true {to : Int} {p : Ph} : timeB to p = true ↔ (p.1 = 1 ∨ p.1 = 2) ∧ p.2.2.2.2.1 < to := by
 unfold timeB
 simp only [Bool.and_eq_true, Bool.or_eq_true, beq_iff_eq, decide_eq_true_eq]
theorem until_rg {at_ : Int} {p : Ph} (ha : 0 ≤ at_) (h : okPh Pr Ev Wi Wa Tr Ba Id at_ p) (hs : p.1 = 1 ∨ p.1 = 2) : at_ ≤ p.2.2.2.2.1 ∧ 1 ≤ p.2.2.2.2.2.1 ∧ p.2.2.2.2.2.1 ≤ Tr := by
 obtain ⟨_, _, _, h1, h2, _⟩ := h
 rcases hs with s | s
 ·
  obtain ⟨_, ⟨_, _, _, h3⟩, h4⟩ := h1 s
  exact ⟨h3, h4⟩
 ·
  obtain ⟨_, ⟨h3, _⟩, h4⟩ := h2 s
  exact ⟨h3, h4⟩
theorem pass_ok {at_ to : Int} {p : Ph} (hr : C5 Pr Ev Wi Wa Tr Ba Id) (ha : 0 ≤ at_) (h : okPh Pr Ev Wi Wa Tr Ba Id at_ p) (h1 : at_ ≤ to) (h2 : to ≤ 1000000000) :
  okPh Pr Ev Wi Wa Tr Ba Id to (z7 Tr Ba to p) ∧ ((z7 Tr Ba to p).1 = 4 → p.1 = 4 ∧ (z7 Tr Ba to p).2.2.2.1 = p.2.2.2.1) ∧ ((z7 Tr Ba to p).2.2.2.1 = p.2.2.2.1 ∨ (z7 Tr Ba to p).2.2.2.1 = -1) := by
 unfold z7
 by_cases hT : timeB to p = true
 ·
  rw [if_pos hT]
  obtain ⟨hs, hu⟩ := timeB_true.1 hT
  obtain ⟨u1, u2⟩ := until_rg ha h hs
  obtain ⟨a, b, c⟩ := lost_ok (p := p) (t := w64 (p.2.2.2.2.1 + 1)) (at_ := to) hr (by omega) (by rw [n4 (by omega)]; omega) h.2.1 u2
  exact ⟨a, fun e => by omega, .inr b⟩
 ·
  rw [if_neg hT]
  have hnt : ¬ ((p.1 = 1 ∨ p.1 = 2) ∧ p.2.2.2.2.1 < to) := fun e => hT (timeB_true.2 e)
  refine ⟨?_, fun e => ⟨e, rfl⟩, .inl rfl⟩
  obtain ⟨a1, a2, a3, a4, a5, a6, a7, a8⟩ := h
  refine ⟨a1, a2, a3, fun s => ?_, fun s => ?_, fun s => ?_, a7, a8⟩
  ·
   obtain ⟨b1, ⟨b2, b3, b4, b5⟩, b6⟩ := a4 s
   exact ⟨b1, ⟨by omega, b3, b4, by omega⟩, b6⟩
  ·
   obtain ⟨b1, b2, b3⟩ := a5 s
   exact ⟨b1, by omega, b3⟩
  ·
   obtain ⟨b1, b2⟩ := a6 s
   exact ⟨by omega, b2⟩
theorem cl2_of {l m : List Ph} (hl : m.length = l.length) (h4 : ∀ i, i < l.length → (m.getD i default).1 = 4 → ((l.getD i default).1 = 4 ∧ (m.getD i default).2.2.2.1 = (l.getD i default).2.2.2.1) ∧ 0 ≤ (l.getD i default).2.2.2.1)
  (hi : ∀ i, i < l.length → (m.getD i default).2.2.2.1 = (l.getD i default).2.2.2.1 ∨ (m.getD i default).2.2.2.1 = -1) (hc : cl2 l) : cl2 m := by
 intro i k h1 h2 hne hd
 obtain ⟨⟨d1, d2⟩, d3⟩ := h4 i (by omega) hd
 rw [d2]
 rcases hi k (by omega) with e | e
 · rw [e]; exact hc i k (by omega) (by omega) hne d1
 · rw [e]; omega
theorem gMap7 {f : Ph → Ph} {l : List Ph} {i : Nat} (h : i < l.length) : (l.map f).getD i default = f (l.getD i default) := by
 simp [List.getD_eq_getElem?_getD, h]
theorem pass_right {at_ to : Int} {l : List Ph} (hr : C5 Pr Ev Wi Wa Tr Ba Id) (ha : 0 ≤ at_) (h : Right Pr Ev Wi Wa Tr Ba Id at_ l) (h1 : at_ ≤ to) (h2 : to ≤ 1000000000) : Right Pr Ev Wi Wa Tr Ba Id to (l.map (z7 Tr Ba to)) := by
 refine ⟨fun i hi => ?_, cl2_of (by simp) (fun i hi => ?_) (fun i hi => ?_) h.2⟩
 ·
  rw [List.length_map] at hi
  rw [gMap7 hi]
  exact (pass_ok hr ha (h.1 i hi) h1 h2).1
 ·
  rw [gMap7 hi]
  intro h4
  have := (pass_ok hr ha (h.1 i hi) h1 h2).2.1 h4
  exact ⟨this, ((h.1 i hi).2.2.2.2.2.2.1 this.1).1⟩
 ·
  rw [gMap7 hi]
  exact (pass_ok hr ha (h.1 i hi) h1 h2).2.2
end
end
end Go.Sh

/-
 However time is told; one phone, one identity.
-/
namespace Go.Sh
open Go.PW
noncomputable section
section
variable {N : Nat} {Pr Ev Wi Wa Tr Ba Id : Int}
theorem stE_zero {at_ : Int} {l : List Ph} : stE Pr Ev Wi Wa Tr Ba Id at_ l = 0 ↔ C5 Pr Ev Wi Wa Tr Ba Id ∧ (0 ≤ at_ ∧ at_ ≤ 1000000000) ∧ lenE l.length = 0 ∧ Right Pr Ev Wi Wa Tr Ba Id at_ l := by
 unfold stE
 rw [B5, B5, B5, B5, rulesE_zero, tick_zero]
 constructor
 ·
  rintro ⟨a, b, c, d, _⟩
  exact ⟨a, b, c, (psE_zero a b).1 d⟩
 ·
  rintro ⟨a, b, c, d⟩
  exact ⟨a, b, c, (psE_zero a b).2 d, rfl⟩
theorem lost_stage {p : Ph} {t : Int} : (lostW Tr Ba p t).1 = 3 ∨ (lostW Tr Ba p t).1 = 5 := by
 unfold lostW
 split
 · exact .inr rfl
 · exact .inl rfl
theorem pass_pass {a b : Int} (h : a ≤ b) (p : Ph) : z7 Tr Ba b (z7 Tr Ba a p) = z7 Tr Ba b p := by
 by_cases h1 : timeB a p = true
 ·
  have h2 : timeB b p = true := timeB_true.2 ⟨(timeB_true.1 h1).1, by have := (timeB_true.1 h1).2; omega⟩
  have e : z7 Tr Ba a p = lostW Tr Ba p (w64 (p.2.2.2.2.1 + 1)) := by unfold z7; rw [if_pos h1]
  rw [e]
  have h3 : ¬ timeB b (lostW Tr Ba p (w64 (p.2.2.2.2.1 + 1))) = true := fun h4 => by
   have := (timeB_true.1 h4).1
   have := lost_stage (Tr := Tr) (Ba := Ba) (p := p) (t := w64 (p.2.2.2.2.1 + 1))
   omega
  unfold z7
  rw [if_neg h3, if_pos h2]
 ·
  have e : z7 Tr Ba a p = p := by unfold z7; rw [if_neg h1]
  rw [e]
theorem pass_done {a : Int} {p : Ph} (h : ((z7 Tr Ba a p).1 = 1 ∨ (z7 Tr Ba a p).1 = 2)) : a ≤ (z7 Tr Ba a p).2.2.2.2.1 := by
 unfold z7 at h ⊢
 by_cases h1 : timeB a p = true
 ·
  rw [if_pos h1] at h
  have := lost_stage (Tr := Tr) (Ba := Ba) (p := p) (t := w64 (p.2.2.2.2.1 + 1))
  omega
 ·
  rw [if_neg h1] at h ⊢
  by_cases hh : p.2.2.2.2.1 < a
  · exact absurd (timeB_true.2 ⟨h, hh⟩) h1
  · omega
theorem law_AccessPasses (hN : 30000 ≤ N) (at_ : Int) (l : List Ph) (k t p m s i xa : Int) : law07_AccessPasses N Pr Ev Wi Wa Tr Ba Id at_ l k t p m s i xa = some true := by
 have hN20 : 20 ≤ N := by omega
 unfold law07_AccessPasses law07_Few
 simp only [law07_awake, j9, Bool.not_true, br_false]
 by_cases hl : l.length ≤ 10
 rotate_left
 ·
  have hx : decide ((l.length : Int) ≤ 10) = false := decide_eq_false (by omega)
  simp [hx, grd, br, bnd]
 have hx : decide ((l.length : Int) ≤ 10) = true := decide_eq_true (by omega)
 have hcp : ∀ (a : Int) (l : List Ph), l.length ≤ 10 → A6 N a l = some (a, l) := fun a l h => by unfold A6; rw [l9 (by omega)]
 simp only [hx, stateErr_eq hN20 hl, grd_val, j9, Within_eq, TickErr_eq, Bool.not_true, Bool.false_or, if_true]
 by_cases h0 : stE Pr Ev Wi Wa Tr Ba Id at_ l = 0
 rotate_left
 · rw [l0 (by simp [h0])]
 simp only [h0, bne_self_eq_false, Bool.not_false, if_true, Bool.false_or]
 by_cases h1 : inB xa at_ t = true
 rotate_left
 · rw [l0 (by simp [h1])]
 have h1' := v8.1 h1
 simp only [h1, Bool.not_true, Bool.not_false, if_true, Bool.false_or]
 by_cases h2 : tickE t = 0
 rotate_left
 · rw [l0 (by simp [h2])]
 have h2' := tick_zero.1 h2
 rw [l4 (by simp [h2])]
 obtain ⟨hr, ha, hle, hR⟩ := stE_zero.1 h0
 have hR1 : Right Pr Ev Wi Wa Tr Ba Id xa (l.map (z7 Tr Ba xa)) := pass_right hr ha.1 hR h1'.1 (by omega)
 have hlb : (l.map (z7 Tr Ba xa)).length = l.length := List.length_map ..
 have hs1 : stE Pr Ev Wi Wa Tr Ba Id xa (l.map (z7 Tr Ba xa)) = 0 := stE_zero.2 ⟨hr, by omega, by rw [hlb]; exact hle, hR1⟩
 have hpp : (l.map (z7 Tr Ba xa)).map (z7 Tr Ba t) = l.map (z7 Tr Ba t) := by
  rw [List.map_map]
  exact List.map_congr_left fun q _ => pass_pass h1'.2 q
 have hu : access_Apply N Pr Ev Wi Wa Tr Ba Id at_ l 4 xa 0 0 0 0 = some (xa, l.map (z7 Tr Ba xa), 0) := by
  rw [ApplyA_eq hN20 hl (evE_ok (by omega)), if_pos h0]
  have : apE Pr Id l.length xa at_ 4 0 0 0 0 = 0 := by
   unfold apE evE
   rw [show tickE xa = 0 from tick_zero.2 (by omega)]
   simp [j7, h1'.1]
  rw [if_pos this]
  rfl
 rw [hcp _ _ hl]
 simp only [j9]
 rw [hu]
 have hap : apE Pr Id (l.map (z7 Tr Ba xa)).length t xa k p m s i = apE Pr Id l.length t at_ k p m s i := by
  unfold apE
  rw [hlb, if_pos (by omega), if_pos (by omega)]
 have hv : access_Apply N Pr Ev Wi Wa Tr Ba Id xa (l.map (z7 Tr Ba xa)) k t p m s i = access_Apply N Pr Ev Wi Wa Tr Ba Id at_ l k t p m s i := by
  rw [ApplyA_eq hN20 hl (evE_ok (by omega)), ApplyA_eq hN20 (by omega) (evE_ok (by omega)), if_pos h0, if_pos hs1, hap, hpp]
 have hres : ∃ (a : Int) (b : List Ph) (c : Int), access_Apply N Pr Ev Wi Wa Tr Ba Id at_ l k t p m s i = some (a, b, c) ∧ b.length ≤ 10 := by
  rw [ApplyA_eq hN20 hl (evE_ok (by omega)), if_pos h0]
  split
  ·
   unfold finA
   have := apX_len (Ev := Ev) (Wi := Wi) (Wa := Wa) (Tr := Tr) (Ba := Ba) (Id := Id) (at_ := t) (k := k) (ph := p) (pre := m) (sent := s) (id := i) (b := l.map (z7 Tr Ba t))
   rw [List.length_map] at this
   unfold br
   split
   · exact ⟨_, _, _, rfl, by simp⟩
   · exact ⟨_, _, _, rfl, by omega⟩
  · exact ⟨_, _, _, rfl, by simp⟩
 obtain ⟨a, b, c, hab, hbl⟩ := hres
 rw [hab]
 simp only [j9]
 rw [CheckStateR_eq hN20 hr (by omega)]
 have hz : j7 [tickE xa, lenE (l.map (z7 Tr Ba xa)).length, psE Pr Ev Wi Wa Tr Ba Id xa (l.map (z7 Tr Ba xa))] = 0 := by
  rw [B5, B5, B5, tick_zero, hlb, psE_zero hr (by omega)]
  exact ⟨by omega, hle, hR1, rfl⟩
 rw [hz]
 simp only [grd_val, j9]
 rw [l4 (by simp)]
 unfold jn
 dsimp only
 rw [hcp _ _ (by omega)]
 simp only [j9]
 rw [hv, hab]
 simp only [j9, beq_self_eq_true]
 rw [Same_self (by omega) (by omega)]
 simp only [grd_val, j9, Bool.true_and, if_true]
 refine D3 (fun k : Int => 0 ≤ k ∧ k ≤ l.length) (fun k => l.length - k.toNat) (fun _ => some true) (fun rec k hk hrec => ?_) N 0 (by omega) (by simp; omega)
 unfold z8
 rw [hlb]
 by_cases h : k < (l.length : Int)
 ·
  rw [l0 (by simpa using h), l9 (by omega), l4, n4 (by omega), hrec (k + 1) (by omega) (by omega)]
  rw [gMap7 (by omega)]
  by_cases hq : ((z7 Tr Ba xa (l.getD k.toNat default)).1 = 1 ∨ (z7 Tr Ba xa (l.getD k.toNat default)).1 = 2)
  ·
   have := pass_done hq
   rw [decide_eq_false (by omega), Bool.and_false]
  ·
   have : (((z7 Tr Ba xa (l.getD k.toNat default)).1 == (1 : Int)) || ((z7 Tr Ba xa (l.getD k.toNat default)).1 == (2 : Int))) = false := by
    rw [Bool.or_eq_false_iff, beq_eq_false_iff_ne, beq_eq_false_iff_ne]; omega
   rw [this]; rfl
 · rw [l4 (by simpa using h)]
end
end
end Go.Sh
