/-
 Plain words: loops that count up. For every program.
-/
import Derived.Test.YtabojpkmfkjjkaaPlA
import Derived.Test.YtabojpkmfkjjkaaSsS
import Derived.Laws.Strings
set_option linter.all false
namespace Go.PW
theorem w64_succ {k : Nat} (h : k < 4611686018427387904) : w64 ((k : Int) + 1) = ((k + 1 : Nat) : Int) := by rw [w64_id (by omega)]; rfl

theorem rds_up1 {R : Type} (len : Nat) (b : (Int → Option R) → Int → Option R) (F : Nat → Option R)
  (hstep : ∀ k rec, k < len → rec ((k + 1 : Nat) : Int) = F (k + 1) → b rec (k : Int) = F k) (hend : ∀ rec, b rec (len : Int) = F len)
  {N : Nat} (hN : len < N) : rds b N 0 = F 0 := by
 have h := rds_spec (b := b) (fun x => ∃ k : Nat, k ≤ len ∧ x = k) (fun x => len - x.toNat) (fun x => F x.toNat) (fun rec x hI hrec => ?_) N 0 ⟨0, Nat.zero_le _, rfl⟩ (by simp; omega)
 · simpa using h
 ·
  obtain ⟨k, hk, hx⟩ := hI
  subst hx
  by_cases hkl : k < len
  ·
   rw [hstep k rec hkl ?_]
   · simp
   ·
    have := hrec ((k + 1 : Nat) : Int) ⟨k + 1, hkl, rfl⟩ (by simp only [Int.toNat_natCast]; omega)
    simpa using this
  ·
   have : k = len := by omega
   subst this
   rw [hend rec]; simp
end Go.PW

/-
 Plain words: loops that build a list, that fold, that look for a wrong element. For every program.
-/
namespace Go.PW

theorem rds_map {α R : Type} (len : Nat) (f : Nat → α) (b : (Int × List α → Option R) → Int × List α → Option R) (K : List α → Option R)
  (hstep : ∀ k acc rec, k < len → acc.length = k → b rec ((k : Int), acc) = rec (((k + 1 : Nat) : Int), acc ++ [f k])) (hend : ∀ acc rec, acc.length = len → b rec ((len : Int), acc) = K acc)
  {N : Nat} (hN : len < N) : rds b N (0, []) = K ((List.range len).map f) := by
 refine rds_spec (fun s : Int × List α => ∃ k : Nat, k ≤ len ∧ s = ((k : Int), (List.range k).map f)) (fun s => len - s.1.toNat) (fun _ => K ((List.range len).map f)) (fun rec s hI hrec => ?_) N (0, []) ⟨0, Nat.zero_le _, by simp⟩ (by simp; omega)
 obtain ⟨k, hk, rfl⟩ := hI
 by_cases hkl : k < len
 ·
  rw [hstep k _ rec hkl (by simp)]
  refine hrec _ ⟨k + 1, hkl, ?_⟩ (by simp only [Int.toNat_natCast]; omega)
  rw [List.range_succ, List.map_append]; rfl
 ·
  have : k = len := by omega
  subst this
  exact hend _ rec (by simp)
def itN {σ : Type} (g : Nat → σ → σ) : Nat → σ → σ
 | 0, s => s
 | n + 1, s => g n (itN g n s)
theorem rds_it {σ R : Type} (len : Nat) (g : Nat → σ → σ) (I : Nat → σ → Prop) (b : (Int × σ → Option R) → Int × σ → Option R) (K : σ → Option R) {s : σ} (h0 : I 0 s)
  (hI : ∀ k s, k < len → I k s → I (k + 1) (g k s)) (hstep : ∀ k s rec, k < len → I k s → b rec ((k : Int), s) = rec (((k + 1 : Nat) : Int), g k s)) (hend : ∀ s rec, I len s → b rec ((len : Int), s) = K s)
  {N : Nat} (hN : len < N) : rds b N (0, s) = K (itN g len s) ∧ I len (itN g len s) := by
 have hIk : ∀ k, k ≤ len → I k (itN g k s) := fun k => by
  induction k with
  | zero => exact fun _ => h0
  | succ k ih => exact fun hk => hI k _ hk (ih (by omega))
 refine ⟨?_, hIk len (Nat.le_refl _)⟩
 refine rds_spec (fun x : Int × σ => ∃ k : Nat, k ≤ len ∧ x = ((k : Int), itN g k s)) (fun x => len - x.1.toNat) (fun _ => K (itN g len s)) (fun rec x hx hrec => ?_) N (0, s) ⟨0, Nat.zero_le _, rfl⟩ (by simp; omega)
 obtain ⟨k, hk, rfl⟩ := hx
 by_cases hkl : k < len
 ·
  rw [hstep k _ rec hkl (hIk k hk)]
  exact hrec _ ⟨k + 1, hkl, rfl⟩ (by simp only [Int.toNat_natCast]; omega)
 ·
  have : k = len := by omega
  subst this
  exact hend _ rec (hIk k hk)
theorem any_drop {α : Type} (bad : α → Bool) (l : List α) (d : α) (k : Nat) (h : k < l.length) : (l.drop k).any bad = (bad (l.getD k d) || (l.drop (k + 1)).any bad) := by
 rw [List.drop_eq_getElem_cons h, List.any_cons]; simp [List.getD_eq_getElem?_getD, h]
theorem rds_scan {α R : Type} (l : List α) (d : α) (bad : α → Bool) (e K : Option R) (b : (Int → Option R) → Int → Option R)
  (hstep : ∀ k rec, k < l.length → b rec (k : Int) = if bad (l.getD k d) = true then e else rec ((k + 1 : Nat) : Int)) (hend : ∀ rec, b rec (l.length : Int) = K)
  {N : Nat} (hN : l.length < N) : rds b N 0 = if l.any bad = true then e else K := by
 refine (rds_up1 l.length _ (fun k => if (l.drop k).any bad = true then e else K) (fun k rec hk hr => ?_) (fun rec => ?_) hN).trans (by simp)
 ·
  rw [hstep k rec hk, hr, any_drop bad l d k hk]
  cases bad (l.getD k d) <;> simp
 · rw [hend]; simp
end Go.PW

/-
 What the shallow functions of the scheduling chapter come to: sites, names, bearers and their errors.
-/
namespace Go.Sh
open Go.PW

def inB (n lo hi : Int) : Bool := (decide (lo ≤ n)) && (decide (n ≤ hi))
theorem inB_true {n lo hi : Int} : inB n lo hi = true ↔ lo ≤ n ∧ n ≤ hi := by simp [inB]
theorem within_eq (N : Nat) (n lo hi : Int) : sched_within N n lo hi = some (inB n lo hi) := rfl
theorem Within_eq (N : Nat) (n lo hi : Int) : base_Within N n lo hi = some (inB n lo hi) := rfl
theorem unless_eq (N : Nat) (b : Bool) (e : Int) : sched_unless N b e = some (if b = true then 0 else e) := by cases b <;> rfl
def firstE : List Int → Int
 | [] => 0
 | x :: l => if x ≠ 0 then x else firstE l
theorem getD_of {α : Type} {l : List α} {k : Nat} (h : k < l.length) (d : α) : l.getD k d = l[k] := by simp [List.getD_eq_getElem?_getD, h]
theorem first_eq {N : Nat} (hM : N ≤ 20000) (l : List Int) (h : l.length < N) : sched_first N l = some (firstE l) := by
 unfold sched_first
 simp only [jn]
 refine (rds_up1 l.length _ (fun k => some (firstE (l.drop k))) (fun k rec hk hr => ?_) (fun rec => ?_) h).trans (by simp)
 ·
  simp only [sched_first.b1]
  rw [br_pos (by simpa using hk), chk_pos (by omega), List.drop_eq_getElem_cons hk, firstE, w64_succ (by omega), hr, Int.toNat_natCast, getD_of hk]
  by_cases h0 : l[k] = 0 <;> simp [br, h0]
 · simp [sched_first.b1, br, firstE]

end Go.Sh

/-
 What the shallow functions of the scheduling chapter come to: names, and the errors of one bearer.
-/
namespace Go.Sh
open Go.PW

end Go.Sh

/-
 What the shallow functions of the scheduling chapter come to: quotients rounded up, needs, room, names of several bearers.
-/
namespace Go.Sh
open Go.PW

theorem take_snoc {α : Type} (l : List α) {k : Nat} (h : k < l.length) : l.take (k + 1) = l.take k ++ [l[k]] := by
 rw [List.take_add_one, List.getElem?_eq_getElem h]; rfl
end Go.Sh

/-
 What the shallow functions of the scheduling chapter come to: the errors of bearers, room.
-/
namespace Go.Sh
open Go.PW

theorem CopyInts_eq (N : Nat) {t : List Int} (h : t.length ≤ 1000000) : base_CopyInts N t = some t := by
 unfold base_CopyInts
 rw [chk_pos (by simp; omega)]; rfl
end Go.Sh

/-
 The laws of bearers and of delays, of contracts: what the shallow functions come to.
-/
namespace Go.Sh
open Go.PW

end Go.Sh

/-
 The law of delays: what the shallow functions come to.
-/
namespace Go.Sh
open Go.PW

end Go.Sh

/-
 The law of contracts: what the shallow functions come to.
-/
namespace Go.Sh
open Go.PW

def okArr (l : List Int) : Prop := ∀ x ∈ l, (0 : Int) ≤ x ∧ x ≤ 1000000
end Go.Sh

/-
 Small cases: their errors, choices, and the least total of one.
-/
namespace Go.Sh
open Go.PW

theorem contains_eq {N : Nat} (hM : N ≤ 20000) (l : List Int) (hl : l.length < N) (f : Int → Option Bool) (p : Int → Bool) (hf : ∀ x, f x = some (p x)) :
  slices_ContainsFunc_ii N l f = some (l.any p) := by
 unfold slices_ContainsFunc_ii slices_IndexFunc_ii
 simp only [jn]
 have h := rds_spec (b := slices_IndexFunc_ii.b1 N l f (fun _ => some (-1 : Int))) (fun s : Int => ∃ k : Nat, k ≤ l.length ∧ s = (k : Int)) (fun s => l.length - s.toNat)
  (fun s => some (if (l.drop s.toNat).any p = true then s + ((l.drop s.toNat).findIdx p : Nat) else -1)) (fun rec s hI hrec => ?_) N 0 ⟨0, Nat.zero_le _, rfl⟩ (by simp; omega)
 ·
  rw [h]
  simp only [bnd_val, Option.some.injEq, Int.toNat_zero, List.drop_zero]
  cases l.any p <;> simp
 ·
  obtain ⟨k, hk, rfl⟩ := hI
  simp only [slices_IndexFunc_ii.b1, hf, bnd_val, Int.toNat_natCast]
  by_cases hkl : k < l.length
  ·
   rw [br_pos (by simpa using hkl), chk_pos (by omega), List.drop_eq_getElem_cons hkl, w64_succ (by omega), hrec _ ⟨k + 1, hkl, rfl⟩ (by simp only [Int.toNat_natCast]; omega)]
   simp only [getD_of hkl, List.any_cons, List.findIdx_cons, Int.toNat_natCast]
   cases hq : p l[k]
   ·
    simp only [br_false, Bool.false_or, cond_false]
    rw [show ∀ m : Nat, ((k + 1 : Nat) : Int) + (m : Int) = (k : Int) + ((m + 1 : Nat) : Int) from fun m => by omega]
   · simp [br]
  ·
   have : k = l.length := by omega
   subst this
   rw [br_neg (by simp)]
   simp

theorem nz_pos {α : Type} {r : List α} (h : (!((r.length : Int) == (0 : Int))) = true) : 0 ≤ (0 : Int) ∧ (0 : Int) < (r.length : Int) := by
 rw [Bool.not_eq_true', beq_eq_false_iff_ne] at h; omega
def rowsE (m : Nat) : List (List Int) → Int
 | [] => 0
 | x :: l => if x.length ≠ m then 10 else if x.any (fun y => !(inB y 0 1000000)) = true then 2 else rowsE m l
def caseE (r : List (List Int)) : Int :=
 if r.length = 0 ∨ (r.getD 0 default).length = 0 then 10
 else if 6 < r.length ∨ 4 < (r.getD 0 default).length then 8 else rowsE (r.getD 0 default).length r
theorem rowsE_zero {m : Nat} : ∀ {r : List (List Int)}, rowsE m r = 0 → ∀ x ∈ r, x.length = m ∧ okArr x
 | [], _, x, hx => by simp at hx
 | y :: l, h, x, hx => by
  rw [rowsE] at h
  by_cases h1 : y.length ≠ m
  · rw [if_pos h1] at h; exact absurd h (by decide)
  rw [if_neg h1] at h
  by_cases h2 : y.any (fun y => !(inB y 0 1000000)) = true
  · rw [if_pos h2] at h; exact absurd h (by decide)
  rw [if_neg h2] at h
  rcases List.mem_cons.1 hx with rfl | hx
  ·
   refine ⟨by omega, fun z hz => ?_⟩
   rw [Bool.not_eq_true, List.any_eq_false] at h2
   have := h2 z hz
   simp only [Bool.not_eq_true', Bool.not_eq_false] at this
   exact inB_true.1 this
  · exact rowsE_zero h x hx
structure Case (r : List (List Int)) (n m : Nat) : Prop where
 len : r.length = n
 n1 : 1 ≤ n
 n6 : n ≤ 6
 m1 : 1 ≤ m
 m4 : m ≤ 4
 head : (r.getD 0 default).length = m
 row : ∀ x ∈ r, x.length = m ∧ okArr x
theorem caseE_zero {r : List (List Int)} (h : caseE r = 0) : Case r r.length (r.getD 0 default).length := by
 unfold caseE at h
 by_cases h1 : r.length = 0 ∨ (r.getD 0 default).length = 0
 · rw [if_pos h1] at h; exact absurd h (by decide)
 rw [if_neg h1] at h
 by_cases h2 : 6 < r.length ∨ 4 < (r.getD 0 default).length
 · rw [if_pos h2] at h; exact absurd h (by decide)
 rw [if_neg h2] at h
 exact ⟨rfl, by omega, by omega, by omega, by omega, rfl, rowsE_zero h⟩
theorem caseErr_eq {N : Nat} (hM : N ≤ 20000) (hN : 62 < N) (r : List (List Int)) (hr : ∀ x ∈ r, x.length ≤ 6) : sched_caseErr N r = some (caseE r) := by
 unfold sched_caseErr caseE
 rw [chk_pos nz_pos]
 by_cases h1 : r.length = 0 ∨ (r.getD 0 default).length = 0
 · rw [if_pos h1, br_pos (by simp only [Bool.or_eq_true, beq_iff_eq]; omega)]
 rw [if_neg h1, br_neg (by simp only [Bool.or_eq_false_iff, beq_eq_false_iff_ne]; omega), chk_pos (fun _ => by omega)]
 by_cases h2 : 6 < r.length ∨ 4 < (r.getD 0 default).length
 · rw [if_pos h2, br_pos (by simp only [Bool.or_eq_true, decide_eq_true_eq]; omega)]
 rw [if_neg h2, br_neg (by simp only [Bool.or_eq_false_iff, decide_eq_false_iff_not]; omega)]
 simp only [jn]
 refine (rds_up1 r.length _ (fun k => some (rowsE (r.getD 0 default).length (r.drop k))) (fun k rec hk hrec => ?_) (fun rec => ?_) (by omega)).trans (by simp)
 ·
  simp only [sched_caseErr.b1, Int.toNat_natCast]
  have h6 : r[k].length ≤ 6 := hr _ (List.getElem_mem hk)
  rw [br_pos (by simpa using hk), chk_pos (by omega), List.drop_eq_getElem_cons hk, rowsE]
  simp only [getD_of hk]
  rw [contains_eq hM _ (by omega) _ (fun y => !(inB y 0 1000000)) (fun x => by simp only [sched_caseErr_1, within_eq, bnd_val])]
  simp only [bnd_val, unless_eq]
  rw [chk_pos (by omega), first_eq hM _ (by simp; omega), w64_succ (by omega), hrec]
  simp only [bnd_val, firstE]
  by_cases h3 : r[k].length = (r.getD 0 default).length
  ·
   rw [if_neg (show ¬ (r[k].length ≠ (r.getD 0 default).length) from fun h => h h3), show ((r[k].length : Int) == ((r.getD 0 default).length : Int)) = true from by rw [h3]; simp]
   cases h4 : r[k].any (fun y => !(inB y 0 1000000)) <;> simp [br]
  ·
   rw [if_pos (show r[k].length ≠ (r.getD 0 default).length from h3), show ((r[k].length : Int) == ((r.getD 0 default).length : Int)) = false from by rw [beq_eq_false_iff_ne]; omega]
   simp [br]
 ·
  simp only [sched_caseErr.b1]
  rw [br_neg (by simp)]
  simp [rowsE]
theorem CaseErr_eq {N : Nat} (hM : N ≤ 20000) (hN : 62 < N) (r : List (List Int)) (hr : ∀ x ∈ r, x.length ≤ 6) : ref06_CaseErr N r = some (caseE r) := by
 unfold ref06_CaseErr caseE
 rw [chk_pos nz_pos]
 by_cases h1 : r.length = 0 ∨ (r.getD 0 default).length = 0
 · rw [if_pos h1, br_pos (by simp only [Bool.or_eq_true, beq_iff_eq]; omega)]
 rw [if_neg h1, br_neg (by simp only [Bool.or_eq_false_iff, beq_eq_false_iff_ne]; omega), chk_pos (fun _ => by omega)]
 by_cases h2 : 6 < r.length ∨ 4 < (r.getD 0 default).length
 · rw [if_pos h2, br_pos (by simp only [Bool.or_eq_true, decide_eq_true_eq]; omega)]
 rw [if_neg h2, br_neg (by simp only [Bool.or_eq_false_iff, decide_eq_false_iff_not]; omega)]
 simp only [jn]
 refine (rds_up1 r.length _ (fun k => some (rowsE (r.getD 0 default).length (r.drop k))) (fun k rec hk hrec => ?_) (fun rec => ?_) (by omega)).trans (by simp)
 ·
  simp only [ref06_CaseErr.b1, jn, Int.toNat_natCast]
  have h6 : r[k].length ≤ 6 := hr _ (List.getElem_mem hk)
  rw [br_pos (by simpa using hk), chk_pos (by omega), chk_pos (by omega), List.drop_eq_getElem_cons hk, rowsE, w64_succ (by omega), hrec]
  simp only [getD_of hk]
  by_cases h3 : r[k].length = (r.getD 0 default).length
  ·
   rw [if_neg (show ¬ (r[k].length ≠ (r.getD 0 default).length) from fun h => h h3), br_neg (by rw [h3]; simp)]
   rw [rds_scan r[k] 0 (fun x => !(inB x 0 1000000)) (some 2) (some (rowsE (r.getD 0 default).length (r.drop (k + 1)))) _ (fun j rec hj => ?_) (fun rec => ?_) (by omega)]
   · split <;> rfl
   ·
    simp only [ref06_CaseErr.b2, Within_eq, bnd_val, Int.toNat_natCast]
    rw [chk_pos (by omega)]
    simp only [getD_of hk]
    rw [br_pos (by simpa using hj), chk_pos (by omega), chk_pos (by omega), w64_succ (by omega)]
    rfl
   ·
    simp only [ref06_CaseErr.b2, Int.toNat_natCast]
    rw [chk_pos (by omega)]
    simp only [getD_of hk]
    rw [br_neg (by simp)]
  · rw [if_pos (show r[k].length ≠ (r.getD 0 default).length from h3), br_pos (by rw [bne_iff_ne]; omega)]
 ·
  simp only [ref06_CaseErr.b1]
  rw [br_neg (by simp)]
  simp [rowsE]
theorem Rows_eq {N : Nat} (hN : 62 < N) (r : List (List Int)) : law06_rows N r = some (decide (r.length ≤ 8) && r.all fun x => decide (x.length ≤ 6)) := by
 unfold law06_rows
 by_cases h : r.length ≤ 8
 ·
  rw [br_neg (by simp; omega)]
  simp only [jn]
  rw [rds_scan r default (fun x => decide (6 < x.length)) (some false) (some true) _ (fun k rec hk => ?_) (fun rec => ?_) (by omega)]
  ·
   rw [decide_eq_true h, Bool.true_and]
   by_cases ha : r.any (fun x => decide (6 < x.length)) = true
   ·
    rw [if_pos ha]
    obtain ⟨x, hx, h6⟩ := List.any_eq_true.1 ha
    have : (r.all fun x => decide (x.length ≤ 6)) = false := List.all_eq_false.2 ⟨x, hx, by simp only [decide_eq_true_eq] at h6 ⊢; omega⟩
    rw [this]
   ·
    rw [if_neg ha]
    rw [Bool.not_eq_true, List.any_eq_false] at ha
    have : (r.all fun x => decide (x.length ≤ 6)) = true := List.all_eq_true.2 fun x hx => by have := ha x hx; simp only [decide_eq_true_eq] at this ⊢; omega
    rw [this]
  ·
   simp only [law06_rows.b1, Int.toNat_natCast]
   rw [br_pos (by simpa using hk), chk_pos (by omega), w64_succ (by omega)]
   congr 1
   simp only [decide_eq_decide]; omega
  ·
   simp only [law06_rows.b1]
   rw [br_neg (by simp)]
 · rw [br_pos (by simp; omega), decide_eq_false h, Bool.false_and]
theorem map_getD {α : Type} (d : α) (r : List α) : ((List.range r.length).map fun k => r.getD k d) = r := by
 apply List.ext_getElem (by simp)
 intro i h1 h2
 simp only [List.getElem_map, List.getElem_range]
 rw [getD_of h2]
theorem CopyLists_eq {N : Nat} {r : List (List Int)} (hr : r.length ≤ 8) (hN : 62 < N) (h : ∀ x ∈ r, x.length ≤ 6) : base_CopyLists N r = some r := by
 unfold base_CopyLists
 simp only [jn]
 refine (rds_map r.length (fun k => r.getD k default) _ (fun b0 => some b0) (fun k s rec hk hl => ?_) (fun s rec hl => ?_) (by omega)).trans (by rw [map_getD])
 ·
  have h6 : r[k].length ≤ 6 := h _ (List.getElem_mem hk)
  simp only [base_CopyLists.b1, Int.toNat_natCast]
  rw [br_pos (by simpa using hk), chk_pos (by omega)]
  simp only [getD_of hk]
  rw [CopyInts_eq N (by omega), bnd_val, chk_pos (by simp only [List.length_cons, List.length_nil]; omega), w64_succ (by omega)]
 ·
  simp only [base_CopyLists.b1]
  rw [br_neg (by simp)]
end Go.Sh

/-
 The least total of a choice: totals, their least one, and what weights say about them.
-/
namespace Go.Sh
open Go.PW

structure VT (n m : Nat) (t : List Int) : Prop where
 len : t.length = n
 ok : ∀ x ∈ t, (0 : Int) ≤ x ∧ x < (m : Int)
theorem VT.get {n m : Nat} {t : List Int} (h : VT n m t) {k : Nat} (hk : k < n) : (0 : Int) ≤ t.getD k 0 ∧ t.getD k 0 < (m : Int) := by
 have hk' : k < t.length := by rw [h.len]; exact hk
 rw [getD_of hk']; exact h.ok _ (List.getElem_mem hk')
def uT (t : List Int) (k : Nat) : Nat := (t.getD k 0).toNat
theorem VT.u {n m : Nat} {t : List Int} (h : VT n m t) {k : Nat} (hk : k < n) : uT t k < m := by
 have := h.get hk; unfold uT; omega
def gT (r : List (List Int)) (k u : Nat) : Int := (r.getD k default).getD u 0
theorem Case.rowLen {r : List (List Int)} {n m : Nat} (c : Case r n m) {k : Nat} (hk : k < n) : (r.getD k default).length = m := by
 have hk' : k < r.length := by rw [c.len]; exact hk
 rw [getD_of hk']; exact (c.row _ (List.getElem_mem hk')).1
theorem Case.g {r : List (List Int)} {n m : Nat} (c : Case r n m) {k u : Nat} (hk : k < n) (hu : u < m) : 0 ≤ gT r k u ∧ gT r k u ≤ 1000000 := by
 have hk' : k < r.length := by rw [c.len]; exact hk
 have hr := c.row _ (List.getElem_mem hk')
 unfold gT
 rw [getD_of hk', getD_of (by rw [hr.1]; exact hu)]
 exact hr.2 _ (List.getElem_mem _)
def stepB (r : List (List Int)) (t : List Int) (k : Nat) (b : List Int) : List Int := b.set (uT t k) (b.getD (uT t k) 0 + gT r k (uT t k))
def totB (r : List (List Int)) (t : List Int) (m : Nat) : Nat → List Int := fun k => itN (stepB r t) k (List.replicate m 0)
def leastF : Int → List Int → Int
 | m, [] => m
 | m, y :: l => leastF (if y < m then y else m) l
def minL (x : List Int) : Int := leastF (x.getD 0 0) (x.drop 1)
def leastT (r : List (List Int)) (m : Nat) (t : List Int) : Int := minL (totB r t m t.length)

theorem leastF_le : ∀ (l : List Int) (m : Int), leastF m l ≤ m ∧ ∀ y ∈ l, leastF m l ≤ y
 | [], m => ⟨Int.le_refl _, fun y h => by simp at h⟩
 | x :: l, m => by
  have h := leastF_le l (if x < m then x else m)
  rw [leastF]
  have hx : (if x < m then x else m) ≤ x ∧ (if x < m then x else m) ≤ m := by split <;> omega
  refine ⟨by omega, fun y hy => ?_⟩
  rcases List.mem_cons.1 hy with rfl | hy
  · omega
  · exact h.2 y hy
theorem leastF_ge {c : Int} : ∀ (l : List Int) (m : Int), c ≤ m → (∀ y ∈ l, c ≤ y) → c ≤ leastF m l
 | [], _, hm, _ => hm
 | x :: l, m, hm, hl => by
  rw [leastF]
  have hx := hl x (List.mem_cons_self)
  exact leastF_ge l _ (by split <;> omega) fun y hy => hl y (List.mem_cons_of_mem _ hy)
theorem minL_le {x : List Int} {y : Int} (h : y ∈ x) : minL x ≤ y := by
 cases x with
 | nil => simp at h
 | cons a l =>
  have := leastF_le l a
  show leastF a l ≤ y
  rcases List.mem_cons.1 h with rfl | h
  · exact this.1
  · exact this.2 y h
theorem minL_ge {x : List Int} {c : Int} (h0 : x ≠ []) (h : ∀ y ∈ x, c ≤ y) : c ≤ minL x := by
 cases x with
 | nil => exact absurd rfl h0
 | cons a l => exact leastF_ge l a (h a List.mem_cons_self) fun y hy => h y (List.mem_cons_of_mem _ hy)
theorem Min_eq {N : Nat} {x : List Int} (h0 : 1 ≤ x.length) (hN : x.length < N) (hb : N ≤ 20000) : slices_Min_ii N x = some (minL x) := by
 unfold slices_Min_ii
 simp only [jn]
 rw [br_neg (by simp only [decide_eq_false_iff_not]; omega), chk_pos (by omega)]
 have h := rds_spec (b := slices_Min_ii.b1 N x (fun m => some m)) (fun s : Int × Int => ∃ k : Nat, k ≤ x.length ∧ s.2 = (k : Int)) (fun s => x.length - s.2.toNat)
  (fun s => some (leastF s.1 (x.drop s.2.toNat))) (fun rec s hI hrec => ?_) N (x.getD 0 0, 1) ⟨1, h0, rfl⟩ (by simp; omega)
 · rw [h]; rfl
 ·
  obtain ⟨m, i⟩ := s
  obtain ⟨k, hk, hi⟩ := hI
  simp only at hi
  subst hi
  simp only [slices_Min_ii.b1, Int.toNat_natCast]
  by_cases hkl : k < x.length
  ·
   rw [br_pos (by simpa using hkl), chk_pos (by omega), List.drop_eq_getElem_cons hkl, w64_succ (by omega), hrec _ ⟨k + 1, hkl, rfl⟩ (by simp only [Int.toNat_natCast]; omega)]
   simp only [getD_of hkl, leastF, Int.toNat_natCast]
  ·
   have : k = x.length := by omega
   subst this
   rw [br_neg (by simp)]
   simp [leastF]

theorem getD_set {b : List Int} {i j : Nat} {v : Int} (hi : i < b.length) : (b.set i v).getD j 0 = if i = j then v else b.getD j 0 := by
 simp only [List.getD_eq_getElem?_getD, List.getElem?_set]
 by_cases h : i = j
 · subst h; simp [hi]
 · simp [h]
theorem totB_inv {r : List (List Int)} {n m : Nat} (c : Case r n m) {t : List Int} (v : VT n m t) : ∀ k, k ≤ n → (totB r t m k).length = m ∧ ∀ j, j < m → 0 ≤ (totB r t m k).getD j 0 ∧ (totB r t m k).getD j 0 ≤ 1000000 * (k : Int)
 | 0, _ => ⟨by simp [totB, itN], fun j hj => by simp [totB, itN, List.getD_eq_getElem?_getD, hj]⟩
 | k + 1, hk => by
  have ih := totB_inv c v k (by omega)
  have hu := v.u (show k < n by omega)
  have hg := c.g (show k < n by omega) hu
  show (stepB r t k (totB r t m k)).length = m ∧ ∀ j, j < m → 0 ≤ (stepB r t k (totB r t m k)).getD j 0 ∧ (stepB r t k (totB r t m k)).getD j 0 ≤ 1000000 * ((k + 1 : Nat) : Int)
  refine ⟨by simp only [stepB, List.length_set]; exact ih.1, fun j hj => ?_⟩
  have h1 := ih.2 _ hu
  have h2 := ih.2 j hj
  rw [stepB, getD_set (by rw [ih.1]; exact hu)]
  split <;> omega
theorem least_eq {N : Nat} (hM : N ≤ 20000) (hN : 62 < N) {r : List (List Int)} {n m : Nat} (c : Case r n m) {t : List Int} (v : VT n m t) : sched_least N r t = some (leastT r m t) := by
 have hr := c.len; have h1 := c.n1; have h6 := c.n6; have hm1 := c.m1; have hm4 := c.m4; have hh := c.head; have hl := v.len
 unfold sched_least
 rw [chk_pos (by omega), hh, chk_pos (by omega)]
 simp only [jn]
 have h := rds_it t.length (stepB r t) (fun k b => b.length = m ∧ ∀ j, j < m → 0 ≤ b.getD j 0 ∧ b.getD j 0 ≤ 1000000 * (k : Int)) (sched_least.b1 N r t (fun b0 => bnd (slices_Min_ii N b0) fun x1 => some x1))
  (fun b0 => bnd (slices_Min_ii N b0) fun x1 => some x1) (s := List.replicate m 0) ?_ ?_ ?_ ?_ (show t.length < N by omega)
 · rw [show ((m : Int).toNat) = m from Int.toNat_natCast m, h.1, Min_eq (by rw [h.2.1]; exact hm1) (by rw [h.2.1]; omega) hM]; rfl
 · exact (totB_inv c v 0 (by omega))
 ·
  intro k b hk hb
  have hu := v.u (show k < n by omega)
  have hg := c.g (show k < n by omega) hu
  refine ⟨by simp only [stepB, List.length_set]; exact hb.1, fun j hj => ?_⟩
  have h1 := hb.2 _ hu
  have h2 := hb.2 j hj
  rw [stepB, getD_set (by rw [hb.1]; exact hu)]
  split <;> omega
 ·
  intro k b rec hk hb
  have hkn : k < n := by omega
  have hu := v.u hkn
  have hg := c.g hkn hu
  have ht := v.get hkn
  have h1 := hb.2 _ hu
  have hrl := c.rowLen hkn
  simp only [sched_least.b1, Int.toNat_natCast]
  rw [br_pos (by simpa using hk), chk_pos (by omega), chk_pos (by rw [hb.1]; omega), chk_pos (by omega), chk_pos (by rw [hrl]; omega), chk_pos (by rw [hb.1]; omega), w64_succ (by omega)]
  show rec (_, b.set (uT t k) (w64 (b.getD (uT t k) 0 + gT r k (uT t k)))) = _
  rw [w64_id (by omega)]; rfl
 ·
  intro b rec hb
  simp only [sched_least.b1]
  rw [br_neg (by simp)]
theorem leastT_bounds {r : List (List Int)} {n m : Nat} (c : Case r n m) {t : List Int} (v : VT n m t) : 0 ≤ leastT r m t ∧ leastT r m t ≤ 6000000 := by
 have hi := totB_inv c v n (Nat.le_refl _)
 have h6 := c.n6; have hm1 := c.m1
 unfold leastT
 rw [v.len]
 constructor
 ·
  refine minL_ge (by intro h; rw [h] at hi; simp at hi; omega) fun y hy => ?_
  obtain ⟨j, hj, rfl⟩ := List.getElem_of_mem hy
  have := hi.2 j (by omega)
  rw [getD_of hj] at this; exact this.1
 ·
  have h0 : 0 < (totB r t m n).length := by omega
  have := minL_le (List.getElem_mem h0)
  have h2 := hi.2 0 (by omega)
  rw [getD_of h0] at h2; omega

end Go.Sh

/-
 All choices of a small case, one behind the other, and the best one.
-/
namespace Go.PW
theorem rds_rel {σ R : Type} {b : (σ → Option R) → σ → Option R} (I : σ → Prop) (μ : σ → Nat) (P : R → Prop)
  (h : ∀ rec s, I s → (∀ s', I s' → μ s' < μ s → ∃ r, rec s' = some r ∧ P r) → ∃ r, b rec s = some r ∧ P r) : ∀ n s, I s → μ s < n → ∃ r, rds b n s = some r ∧ P r := by
 intro n
 induction n with
 | zero => intro s _ hn; exact absurd hn (Nat.not_lt_zero _)
 | succ n ih => intro s hI hn; exact h _ s hI fun s' hI' hlt => ih s' hI' (by omega)
end Go.PW
namespace Go.Sh
open Go.PW

def pv (m : Nat) (t : List Int) : Nat → Nat
 | 0 => 0
 | k + 1 => pv m t k * m + uT t k
theorem pv_congr {m : Nat} {t t' : List Int} : ∀ k, (∀ j, j < k → t.getD j 0 = t'.getD j 0) → pv m t k = pv m t' k
 | 0, _ => rfl
 | k + 1, h => by
  rw [pv, pv, pv_congr k fun j hj => h j (by omega), uT, uT, h k (by omega)]
theorem pv_lt {n m : Nat} {t : List Int} (v : VT n m t) : ∀ k, k ≤ n → pv m t k < m ^ k
 | 0, _ => by simp [pv]
 | k + 1, h => by
  have ih := pv_lt v k (by omega)
  have hu := v.u (show k < n by omega)
  rw [pv, Nat.pow_succ]
  have : (pv m t k + 1) * m ≤ m ^ k * m := Nat.mul_le_mul_right m ih
  rw [Nat.add_mul] at this; omega
theorem pv_inj {n m : Nat} {t t' : List Int} (v : VT n m t) (v' : VT n m t') : ∀ k, k ≤ n → pv m t k = pv m t' k → ∀ j, j < k → t.getD j 0 = t'.getD j 0
 | 0, _, _, j, hj => by omega
 | k + 1, hk, h, j, hj => by
  have hu := v.u (show k < n by omega)
  have hu' := v'.u (show k < n by omega)
  have hm : 0 < m := by omega
  rw [pv, pv] at h
  have e1 : pv m t k = pv m t' k := by
   have := congrArg (· / m) h
   simp only [Nat.add_comm (_ * m), Nat.add_mul_div_right _ _ hm, Nat.div_eq_of_lt hu, Nat.div_eq_of_lt hu'] at this
   omega
  have e2 : uT t k = uT t' k := by rw [e1] at h; omega
  rcases Nat.lt_succ_iff_lt_or_eq.1 hj with h1 | rfl
  · exact pv_inj v v' k (by omega) e1 j h1
  ·
   have h1 := v.get (show j < n by omega)
   have h2 := v'.get (show j < n by omega)
   unfold uT at e2; omega
theorem pv_eq {n m : Nat} {t t' : List Int} (v : VT n m t) (v' : VT n m t') (h : pv m t n = pv m t' n) : t = t' := by
 refine List.ext_getElem (by rw [v.len, v'.len]) fun i h1 h2 => ?_
 have := pv_inj v v' n (Nat.le_refl _) h i (by rw [← v.len]; exact h1)
 rwa [getD_of h1, getD_of h2] at this

def rstF (m : Nat) : Nat → List Int → Nat × List Int
 | 0, b => (0, b)
 | k + 1, b => if b.getD k 0 = (m : Int) - 1 then rstF m k (b.set k 0) else (k + 1, b)
theorem VT.set {n m : Nat} {t : List Int} (v : VT n m t) {k : Nat} {x : Int} (hx : 0 ≤ x ∧ x < (m : Int)) : VT n m (t.set k x) := by
 refine ⟨by rw [List.length_set]; exact v.len, fun y hy => ?_⟩
 rcases List.mem_or_eq_of_mem_set hy with h | rfl
 · exact v.ok _ h
 · exact hx
theorem rstF_spec {n m V : Nat} (hm : 1 ≤ m) : ∀ k b, k ≤ n → VT n m b → (∀ j, k ≤ j → j < n → b.getD j 0 = 0) → (pv m b k + 1) * m ^ (n - k) = V + 1 →
  (rstF m k b).1 ≤ k ∧ VT n m (rstF m k b).2 ∧ (∀ j, (rstF m k b).1 ≤ j → j < n → (rstF m k b).2.getD j 0 = 0) ∧ (pv m (rstF m k b).2 (rstF m k b).1 + 1) * m ^ (n - (rstF m k b).1) = V + 1 ∧
  ∀ i, (rstF m k b).1 = i + 1 → (rstF m k b).2.getD i 0 ≠ (m : Int) - 1
 | 0, b, hk, v, hz, hV => ⟨Nat.le_refl _, v, hz, hV, fun i h => by simp [rstF] at h⟩
 | k + 1, b, hk, v, hz, hV => by
  rw [rstF]
  by_cases h : b.getD k 0 = (m : Int) - 1
  ·
   rw [if_pos h]
   have hkb : k < b.length := by rw [v.len]; omega
   have := rstF_spec (V := V) hm k (b.set k 0) (by omega) (v.set (by omega)) (fun j hj hjn => by
    rw [getD_set hkb]
    by_cases e : k = j
    · rw [if_pos e]
    · rw [if_neg e]; exact hz j (by omega) hjn) (by
    rw [← hV, pv, show uT b k = m - 1 from by unfold uT; omega, show n - k = (n - (k + 1)) + 1 from by omega, Nat.pow_succ,
     pv_congr (t := b.set k 0) (t' := b) k (fun j hj => by rw [getD_set hkb, if_neg (by omega)]), show pv m b k * m + (m - 1) + 1 = (pv m b k + 1) * m from by rw [Nat.add_mul]; omega,
     Nat.mul_assoc, Nat.mul_comm m])
   exact ⟨by omega, this.2⟩
  ·
   rw [if_neg h]
   exact ⟨Nat.le_refl _, v, hz, hV, fun i hi => by have : k = i := (by omega); subst this; exact h⟩
theorem pv_tail {n m : Nat} {b : List Int} {k : Nat} (hz : ∀ j, k ≤ j → j < n → b.getD j 0 = 0) : ∀ d, k + d ≤ n → pv m b (k + d) = pv m b k * m ^ d
 | 0, _ => by simp
 | d + 1, h => by
  rw [← Nat.add_assoc, pv, pv_tail hz d (by omega), uT, hz (k + d) (by omega) (by omega), Nat.pow_succ, ← Nat.mul_assoc]; rfl
theorem next_spec {n m V : Nat} (hm : 1 ≤ m) {b : List Int} (v : VT n m b) (hV : pv m b n = V) {k : Nat} {b' : List Int} (h : rstF m n b = (k, b')) :
  (k = 0 → V + 1 = m ^ n) ∧ (∀ i, k = i + 1 → i < n ∧ VT n m (b'.set i (b'.getD i 0 + 1)) ∧ pv m (b'.set i (b'.getD i 0 + 1)) n = V + 1 ∧ 0 ≤ b'.getD i 0 ∧ b'.getD i 0 < (m : Int)) := by
 have s := rstF_spec (V := V) hm n b (Nat.le_refl _) v (fun j h1 h2 => by omega) (by rw [hV]; simp)
 rw [h] at s
 obtain ⟨s1, s2, s3, s4, s5⟩ := s
 simp only at s1 s2 s3 s4 s5
 constructor
 ·
  rintro rfl
  simp only [pv, Nat.sub_zero, Nat.zero_add, Nat.one_mul] at s4
  exact s4.symm
 ·
  rintro i rfl
  have hg := s2.get (show i < n by omega)
  have hne := s5 i rfl
  have hib : i < b'.length := by rw [s2.len]; omega
  refine ⟨by omega, s2.set (by omega), ?_, hg⟩
  have hz : ∀ j, i + 1 ≤ j → j < n → (b'.set i (b'.getD i 0 + 1)).getD j 0 = 0 := fun j h1 h2 => by
   rw [getD_set hib, if_neg (by omega)]; exact s3 j h1 h2
  have := pv_tail (m := m) hz (n - (i + 1)) (by omega)
  rw [show i + 1 + (n - (i + 1)) = n from by omega] at this
  rw [this, ← s4, pv, pv, pv_congr (t := b'.set i (b'.getD i 0 + 1)) (t' := b') i (fun j hj => by rw [getD_set hib, if_neg (by omega)])]
  congr 1
  unfold uT
  rw [getD_set hib, if_pos rfl]
  omega
theorem reset_eq {R : Type} {m : Nat} (hm : 1 ≤ m ∧ m ≤ 4) {b : (Int × List Int → Option R) → Int × List Int → Option R} {K : Int × List Int → Option R}
  (hb : ∀ rec i l, b rec (i, l) = (chk ((decide (i ≥ (0 : Int))) = true → 0 ≤ i ∧ i < (l.length : Int)) <|
   br (((decide (i ≥ (0 : Int))) && ((l.getD i.toNat 0) == w64 ((m : Int) - (1 : Int))))) (
   chk (0 ≤ i ∧ i < (l.length : Int)) <|
   rec (w64 (i - (1 : Int)), (l.set i.toNat (0 : Int)))) (K (i, l)))) : ∀ k l N, k ≤ l.length → k ≤ 1000 → k < N → rds b N ((k : Int) - 1, l) = K (((rstF m k l).1 : Int) - 1, (rstF m k l).2)
 | 0, l, N + 1, _, _, _ => by
  rw [rds_succ, hb, chk_pos (fun h => by simp at h), br_neg (by simp)]; rfl
 | k + 1, l, N + 1, hl, hk, hN => by
  rw [rds_succ, hb, show ((k + 1 : Nat) : Int) - 1 = (k : Int) from by omega, chk_pos (fun _ => by omega), Int.toNat_natCast, w64_id (n := (m : Int) - 1) (by omega), rstF]
  by_cases h : l.getD k 0 = (m : Int) - 1
  ·
   rw [if_pos h, br_pos (by rw [h]; simp), chk_pos (by omega), w64_id (by omega)]
   exact reset_eq hm hb k (l.set k 0) N (by rw [List.length_set]; omega) (by omega) (by omega)
  ·
   rw [if_neg h, br_neg (by simp only [Bool.and_eq_false_iff, beq_eq_false_iff_ne]; exact Or.inr h)]
   rw [show ((k : Int), l) = (((k + 1 : Nat) : Int) - 1, l) from by congr 1; omega]

def BestV (r : List (List Int)) (n m V : Nat) (best : List Int) (most : Int) : Prop :=
 (V = 0 ∧ best = [] ∧ most = -1) ∨ (VT n m best ∧ pv m best n < V ∧ leastT r m best = most ∧ (∀ t, VT n m t → pv m t n < V → leastT r m t ≤ most) ∧ ∀ t, VT n m t → pv m t n < pv m best n → leastT r m t < most)
theorem BestV_take {r : List (List Int)} {n m V : Nat} {best : List Int} {most : Int} (h : BestV r n m V best most) {t : List Int} (v : VT n m t) (hV : pv m t n = V) (hL : most < leastT r m t) :
  BestV r n m (V + 1) t (leastT r m t) := by
 have h1 : ∀ x, VT n m x → pv m x n < V → leastT r m x < leastT r m t := fun x vx hx => by
  rcases h with ⟨h0, _⟩ | ⟨_, _, _, h4, _⟩
  · omega
  · have := h4 x vx hx; omega
 refine Or.inr ⟨v, by omega, rfl, fun x vx hx => ?_, fun x vx hx => h1 x vx (by omega)⟩
 rcases Nat.lt_succ_iff_lt_or_eq.1 hx with h2 | h2
 · exact Int.le_of_lt (h1 x vx h2)
 · rw [pv_eq vx v (by omega)]; exact Int.le_refl _
theorem BestV_leave {r : List (List Int)} {n m V : Nat} (c : Case r n m) {best : List Int} {most : Int} (h : BestV r n m V best most) {t : List Int} (v : VT n m t) (hV : pv m t n = V) (hL : ¬ most < leastT r m t) :
  BestV r n m (V + 1) best most := by
 rcases h with ⟨_, _, h3⟩ | ⟨h1, h2, h3, h4, h5⟩
 · have := leastT_bounds c v; omega
 refine Or.inr ⟨h1, by omega, h3, fun x vx hx => ?_, h5⟩
 rcases Nat.lt_succ_iff_lt_or_eq.1 hx with hx | hx
 · exact h4 x vx hx
 · rw [pv_eq vx v (by omega)]; omega
theorem Case.count {r : List (List Int)} {n m : Nat} (c : Case r n m) : m ^ n ≤ 4096 := by
 have h6 := c.n6; have h4 := c.m4
 exact Nat.le_trans (Nat.pow_le_pow_left h4 n) (Nat.le_trans (Nat.pow_le_pow_right (by omega) h6) (by decide))
theorem BestTurns_eq {N : Nat} (hM : N ≤ 20000) (hN : 4100 < N) {r : List (List Int)} (hr : ∀ x ∈ r, x.length ≤ 6) :
  ∃ x, sched_BestTurns N r = some x ∧ if caseE r = 0 then x.2.2 = 0 ∧ BestV r r.length (r.getD 0 default).length ((r.getD 0 default).length ^ r.length) x.1 x.2.1 else x = ([], 0, caseE r) := by
 unfold sched_BestTurns
 rw [caseErr_eq hM (by omega) r hr, bnd_val]
 by_cases h0 : ¬ caseE r = 0
 ·
  rw [br_pos (by rw [bne_iff_ne]; exact h0)]
  exact ⟨_, rfl, by rw [if_neg h0]⟩
 rw [Classical.not_not] at h0
 have c := caseE_zero h0
 generalize hn : r.length = n at c
 generalize hmm : (r.getD 0 default).length = m at c
 have hn1 := c.n1; have hn6 := c.n6; have hm1 := c.m1; have hm4 := c.m4
 have hcnt := c.count
 rw [br_neg (by rw [h0]; rfl)]
 simp only [jn, if_pos h0]
 rw [chk_pos (by omega), sched_choices, bnd_val, chk_pos (by omega)]
 refine rds_rel (fun s : List Int × Int × List Int => VT n m s.2.2 ∧ BestV r n m (pv m s.2.2 n) s.1 s.2.1) (fun s => m ^ n - pv m s.2.2 n) _ (fun rec s hI hrec => ?_) N _ ⟨?_, ?_⟩ (by omega)
 ·
  obtain ⟨best, most, cur⟩ := s
  obtain ⟨v, hB⟩ := hI
  simp only at v hB
  have hlt := pv_lt v n (Nat.le_refl _)
  have hres : ∀ (bb : (Int × List Int → Option (List Int × Int × Int)) → (Int × List Int → Option (List Int × Int × Int)) → Int × List Int → Option (List Int × Int × Int)) (K : Int × List Int → Option (List Int × Int × Int))
    (hb : ∀ K rec i l, bb K rec (i, l) = (chk ((decide (i ≥ (0 : Int))) = true → 0 ≤ i ∧ i < (l.length : Int)) <|
   br (((decide (i ≥ (0 : Int))) && ((l.getD i.toNat 0) == w64 ((m : Int) - (1 : Int))))) (
   chk (0 ≤ i ∧ i < (l.length : Int)) <|
   rec (w64 (i - (1 : Int)), (l.set i.toNat (0 : Int)))) (K (i, l)))) (best' : List Int) (most' : Int) (hB' : BestV r n m (pv m cur n + 1) best' most')
    (hK : ∀ i l, K (i, l) = br (decide (i < (0 : Int))) (some (best', most', (0 : Int))) (
     chk (0 ≤ i ∧ i < (l.length : Int)) <| chk (0 ≤ i ∧ i < (l.length : Int)) <| rec (best', most', (l.set i.toNat (w64 ((l.getD i.toNat 0) + (1 : Int))))))),
    ∃ x, rds (bb K) N (w64 ((n : Int) - (1 : Int)), cur) = some x ∧ x.2.2 = 0 ∧ BestV r n m (m ^ n) x.1 x.2.1 := fun bb K hb best' most' hB' hK => by
   rw [w64_id (by omega), reset_eq ⟨hm1, hm4⟩ (hb K) n cur N (by rw [v.len]; omega) (by omega) (by omega), hK]
   have hnx := next_spec hm1 v rfl (show rstF m n cur = ((rstF m n cur).1, (rstF m n cur).2) from rfl)
   generalize (rstF m n cur).1 = k at hnx ⊢
   generalize (rstF m n cur).2 = b' at hnx ⊢
   cases k with
   | zero =>
    rw [br_pos (by simp)]
    refine ⟨_, rfl, rfl, ?_⟩
    rw [← hnx.1 rfl]; exact hB'
   | succ i =>
    obtain ⟨h1, h2, h3, h4⟩ := hnx.2 i rfl
    have hl : b'.length = n := by have := h2.len; rwa [List.length_set] at this
    rw [show ((i + 1 : Nat) : Int) - 1 = (i : Int) from by omega, br_neg (by simp), chk_pos (by omega), chk_pos (by omega), Int.toNat_natCast, w64_id (by omega)]
    refine hrec _ ⟨h2, ?_⟩ ?_
    · simp only; rw [h3]; exact hB'
    · simp only; rw [h3]; omega
  simp only [sched_BestTurns.b1]
  rw [least_eq hM (by omega) c v, bnd_val]
  by_cases hL : most < leastT r m cur
  ·
   rw [br_pos (by simpa using hL)]
   simp only [slices_Clone_ii, jn, br_true]
   rw [chk_pos (by rw [v.len]; omega), bnd_val, hn]
   exact hres _ _ (fun K rec i l => by simp only [sched_BestTurns.b2, hmm]) cur _ (BestV_take hB v rfl hL) (fun i l => rfl)
  ·
   rw [br_neg (by simpa using hL)]
   simp only [jn, br_true]
   rw [hn]
   exact hres _ _ (fun K rec i l => by simp only [sched_BestTurns.b3, hmm]) best most (BestV_leave c hB v rfl hL) (fun i l => rfl)
 ·
  refine ⟨by simp [hn], fun x hx => ?_⟩
  simp only at hx
  have := List.eq_of_mem_replicate hx
  omega
 ·
  refine Or.inl ⟨?_, rfl, rfl⟩
  have : ∀ k, pv m (List.replicate (n : Int).toNat 0) k = 0 := fun k => by
   induction k with
   | zero => rfl
   | succ k ih => rw [pv, ih, uT, List.getD_eq_getElem?_getD, List.getElem?_replicate]; split <;> simp
  simp only [hn]; exact this n
end Go.Sh

/-
 The bound of weights; no choice beyond a bound.
-/
namespace Go.Sh
open Go.PW

end Go.Sh

/-
 The best choice, as specified.
-/
namespace Go.Sh
open Go.PW

def chT (m : Nat) : Nat → Nat → List Int
 | 0, _ => []
 | n + 1, k => chT m n (k / m) ++ [((k % m : Nat) : Int)]
theorem chT_len (m : Nat) : ∀ n k, (chT m n k).length = n
 | 0, _ => rfl
 | n + 1, k => by rw [chT, List.length_append, chT_len m n]; rfl
theorem chT_ok {m : Nat} (hm : 1 ≤ m) : ∀ n k, VT n m (chT m n k)
 | 0, k => ⟨rfl, fun x hx => by simp [chT] at hx⟩
 | n + 1, k => by
  refine ⟨chT_len m (n + 1) k, fun x hx => ?_⟩
  rw [chT] at hx
  rcases List.mem_append.1 hx with h | h
  · exact (chT_ok hm n _).ok x h
  ·
   have : x = ((k % m : Nat) : Int) := by simpa using h
   have := Nat.mod_lt k (show 0 < m by omega)
   omega
theorem getD_app {x : List Int} {i : Int} {j : Nat} (h : j < x.length) : (x ++ [i]).getD j 0 = x.getD j 0 := by
 simp only [List.getD_eq_getElem?_getD, List.getElem?_append_left h]
theorem pv_ch {m : Nat} (hm : 1 ≤ m) : ∀ n k, k < m ^ n → pv m (chT m n k) n = k
 | 0, k, h => by simp at h; simp [pv, h]
 | n + 1, k, h => by
  have hd : k / m < m ^ n := by rw [Nat.div_lt_iff_lt_mul (by omega)]; rw [Nat.pow_succ] at h; exact h
  have hl := chT_len m n (k / m)
  have ih := pv_ch hm n (k / m) hd
  rw [chT, pv, pv_congr (t' := chT m n (k / m)) n (fun j hj => getD_app (by omega)), ih]
  have : uT (chT m n (k / m) ++ [((k % m : Nat) : Int)]) n = k % m := by
   unfold uT
   rw [List.getD_eq_getElem?_getD, List.getElem?_append_right (by omega), hl, Nat.sub_self]
   simp only [List.getElem?_cons_zero, Option.getD_some]
   omega
  rw [this, Nat.mul_comm]; exact Nat.div_add_mod k m
def allT (m n : Nat) : List (List Int) := (List.range (m ^ n)).map (chT m n)
theorem flat_range {β : Type} (m : Nat) (g : Nat → β) : ∀ N, (List.range N).flatMap (fun q => (List.range m).map fun i => g (q * m + i)) = (List.range (N * m)).map g
 | 0 => by simp
 | N + 1 => by
  rw [List.range_succ, List.flatMap_append, flat_range m g N, Nat.add_mul, Nat.one_mul, List.range_add, List.map_append]
  simp [List.map_map, Function.comp_def]
theorem allT_succ {m : Nat} (hm : 1 ≤ m) (n : Nat) : (allT m n).flatMap (fun x => (List.range m).map fun i => x ++ [((i : Nat) : Int)]) = allT m (n + 1) := by
 unfold allT
 rw [List.flatMap_map, Nat.pow_succ, ← flat_range m (chT m (n + 1))]
 congr 1
 funext q
 refine List.map_congr_left fun i hi => ?_
 have hi' := List.mem_range.1 hi
 show _ = chT m n ((q * m + i) / m) ++ [(((q * m + i) % m : Nat) : Int)]
 rw [Nat.add_comm (q * m), Nat.add_mul_div_right _ _ (by omega), Nat.div_eq_of_lt hi', Nat.zero_add, Nat.add_mul_mod_self_right, Nat.mod_eq_of_lt hi']

theorem RefTurnsOf_eq {N : Nat} (hM : N ≤ 20000) (hN : 62 < N) {r : List (List Int)} {n m : Nat} (c : Case r n m) {t : List Int} (v : VT n m t) : ref06_TurnsOf N r t = some (leastT r m t) := by
 have hr := c.len; have h1 := c.n1; have h6 := c.n6; have hm1 := c.m1; have hm4 := c.m4; have hh := c.head; have hl := v.len
 unfold ref06_TurnsOf
 rw [chk_pos (by omega), hh, chk_pos (by omega)]
 simp only [jn]
 have h := rds_it r.length (stepB r t) (fun k b => b.length = m ∧ ∀ j, j < m → 0 ≤ b.getD j 0 ∧ b.getD j 0 ≤ 1000000 * (k : Int)) (ref06_TurnsOf.b1 N r t (fun b0 => chk (0 ≤ (0 : Int) ∧ (0 : Int) < (b0.length : Int)) <| rds (ref06_TurnsOf.b2 N b0 fun least => some least) N ((b0.getD 0 0), (1 : Int))))
  (fun b0 => chk (0 ≤ (0 : Int) ∧ (0 : Int) < (b0.length : Int)) <| rds (ref06_TurnsOf.b2 N b0 fun least => some least) N ((b0.getD 0 0), (1 : Int))) (s := List.replicate m 0) ?_ ?_ ?_ ?_ (show r.length < N by omega)
 ·
  rw [show ((m : Int).toNat) = m from Int.toNat_natCast m, h.1]
  have hx := h.2.1
  have e : leastT r m t = minL (itN (stepB r t) r.length (List.replicate m 0)) := by
   unfold leastT totB; rw [hl, hr]
  rw [e]
  generalize itN (stepB r t) r.length (List.replicate m 0) = x at hx
  rw [chk_pos (by omega)]
  have h2 := rds_spec (b := ref06_TurnsOf.b2 N x (fun m => some m)) (fun s : Int × Int => ∃ k : Nat, k ≤ x.length ∧ s.2 = (k : Int)) (fun s => x.length - s.2.toNat)
   (fun s => some (leastF s.1 (x.drop s.2.toNat))) (fun rec s hI hrec => ?_) N (x.getD 0 0, 1) ⟨1, by omega, rfl⟩ (by simp; omega)
  · rw [h2]; rfl
  ·
   obtain ⟨a, i⟩ := s
   obtain ⟨k, hk, hi⟩ := hI
   simp only at hi
   subst hi
   simp only [ref06_TurnsOf.b2, Int.toNat_natCast]
   by_cases hkl : k < x.length
   ·
    rw [br_pos (by simpa using hkl), chk_pos (by omega), List.drop_eq_getElem_cons hkl, w64_succ (by omega), hrec _ ⟨k + 1, hkl, rfl⟩ (by simp only [Int.toNat_natCast]; omega)]
    simp only [getD_of hkl, leastF, Int.toNat_natCast]
   ·
    have : k = x.length := by omega
    subst this
    rw [br_neg (by simp)]
    simp [leastF]
 · exact (totB_inv c v 0 (by omega))
 ·
  intro k b hk hb
  have hu := v.u (show k < n by omega)
  have hg := c.g (show k < n by omega) hu
  refine ⟨by simp only [stepB, List.length_set]; exact hb.1, fun j hj => ?_⟩
  have h1 := hb.2 _ hu
  have h2 := hb.2 j hj
  rw [stepB, getD_set (by rw [hb.1]; exact hu)]
  split <;> omega
 ·
  intro k b rec hk hb
  have hkn : k < n := by omega
  have hu := v.u hkn
  have hg := c.g hkn hu
  have ht := v.get hkn
  have h1 := hb.2 _ hu
  have hrl := c.rowLen hkn
  simp only [ref06_TurnsOf.b1, Int.toNat_natCast]
  rw [br_pos (by simpa using hk), chk_pos (by omega), chk_pos (by omega), chk_pos (by rw [hb.1]; omega), chk_pos (by omega), chk_pos (by omega), chk_pos (by rw [hrl]; omega), chk_pos (by rw [hb.1]; omega), w64_succ (by omega)]
  show rec (_, b.set (uT t k) (w64 (b.getD (uT t k) 0 + gT r k (uT t k)))) = _
  rw [w64_id (by omega)]; rfl
 ·
  intro b rec hb
  simp only [ref06_TurnsOf.b1]
  rw [br_neg (by simp)]

theorem rows_loop {N : Nat} (hN : 62 < N) {r : List (List Int)} {n m : Nat} (c : Case r n m) (all : List (List Int)) (q : Nat) (hq : q < all.length) (hlen : ∀ x ∈ all, x.length ≤ 6) (acc : List (List Int)) (ha : acc.length ≤ 10000) (K : List (List Int) → Option (List Int × Int)) :
  rds (ref06_BestTurns.b3 N r all (q : Int) K) N (0, acc) = K (acc ++ (List.range m).map fun i => all.getD q default ++ [((i : Nat) : Int)]) := by
 have hr := c.len; have h1 := c.n1; have hm1 := c.m1; have hm4 := c.m4; have hh := c.head
 refine rds_spec (fun s : Int × List (List Int) => ∃ i : Nat, i ≤ m ∧ s = ((i : Int), acc ++ (List.range i).map fun i => all.getD q default ++ [((i : Nat) : Int)])) (fun s => m - s.1.toNat) (fun _ => K (acc ++ (List.range m).map fun i => all.getD q default ++ [((i : Nat) : Int)])) (fun rec s hI hrec => ?_) N (0, acc)
  ⟨0, Nat.zero_le _, by simp⟩ (by simp; omega)
 obtain ⟨i, hi, rfl⟩ := hI
 simp only [ref06_BestTurns.b3, Int.toNat_natCast, hh]
 rw [chk_pos (by omega)]
 by_cases him : i < m
 ·
  have h6 : (all.getD q default).length ≤ 6 := by rw [getD_of hq]; exact hlen _ (List.getElem_mem _)
  rw [br_pos (by simpa using him), chk_pos (by omega), CopyInts_eq N (by omega), bnd_val, chk_pos (by simp only [List.length_cons, List.length_nil]; omega),
   chk_pos (by simp only [List.length_append, List.length_map, List.length_range, List.length_cons, List.length_nil]; omega), w64_succ (by omega)]
  refine hrec _ ⟨i + 1, him, ?_⟩ (by simp only [Int.toNat_natCast]; omega)
  rw [List.range_succ, List.map_append, List.append_assoc]; rfl
 ·
  have : i = m := by omega
  subst this
  rw [br_neg (by simp)]
theorem next_loop {N : Nat} (hN : 4100 < N) {r : List (List Int)} {n m : Nat} (c : Case r n m) (all : List (List Int)) (hal : all.length * m ≤ 4096) (hlen : ∀ x ∈ all, x.length ≤ 6) (K : List (List Int) → Option (List Int × Int)) :
  rds (ref06_BestTurns.b2 N r all K) N (0, []) = K (all.flatMap fun x => (List.range m).map fun i => x ++ [((i : Nat) : Int)]) := by
 have hm1 := c.m1
 have hall : all.length ≤ 4096 := Nat.le_trans (Nat.le_mul_of_pos_right _ (by omega)) hal
 have hfl : ∀ q, q ≤ all.length → ((all.take q).flatMap fun x => (List.range m).map fun i => x ++ [((i : Nat) : Int)]).length = q * m := fun q hq => by
  rw [List.length_flatMap]
  have : ((all.take q).map fun x => ((List.range m).map fun i => x ++ [((i : Nat) : Int)]).length) = List.replicate q m := by
   refine List.ext_getElem (by simp; omega) fun i h1 h2 => by simp
  rw [this]; simp
 refine rds_spec (fun s : Int × List (List Int) => ∃ q : Nat, q ≤ all.length ∧ s = ((q : Int), (all.take q).flatMap fun x => (List.range m).map fun i => x ++ [((i : Nat) : Int)])) (fun s => all.length - s.1.toNat) (fun _ => K (all.flatMap fun x => (List.range m).map fun i => x ++ [((i : Nat) : Int)])) (fun rec s hI hrec => ?_) N (0, [])
  ⟨0, Nat.zero_le _, by simp⟩ (by simp; omega)
 obtain ⟨q, hq, rfl⟩ := hI
 simp only [ref06_BestTurns.b2, jn]
 by_cases hql : q < all.length
 ·
  have hb : q * m ≤ 4096 := Nat.le_trans (Nat.mul_le_mul_right m (by omega)) hal
  rw [br_pos (by simpa using hql), rows_loop (by omega) c all q hql hlen _ (by rw [hfl q hq]; omega), w64_succ (by omega)]
  refine hrec _ ⟨q + 1, hql, ?_⟩ (by simp only [Int.toNat_natCast]; omega)
  rw [take_snoc all hql, List.flatMap_append, getD_of hql]; simp
 ·
  have : q = all.length := by omega
  subst this
  rw [br_neg (by simp)]
  simp
theorem RefBestTurns_eq {N : Nat} (hM : N ≤ 20000) (hN : 4100 < N) {r : List (List Int)} {n m : Nat} (c : Case r n m) :
  ∃ x, ref06_BestTurns N r = some x ∧ BestV r n m (m ^ n) x.1 x.2 := by
 have hr := c.len; have h1 := c.n1; have h6 := c.n6; have hm1 := c.m1; have hm4 := c.m4; have hh := c.head
 have hcnt := c.count
 have hpos : 0 < m ^ n := Nat.pow_pos (by omega)
 unfold ref06_BestTurns
 simp only [jn]
 -- all choices
 have hall : ∀ K, rds (ref06_BestTurns.b1 N r K) N ([[]], 0) = K (allT m n) := fun K => by
  refine rds_spec (fun s : List (List Int) × Int => ∃ t : Nat, t ≤ n ∧ s = (allT m t, (t : Int))) (fun s => n - s.2.toNat) (fun _ => K (allT m n)) (fun rec s hI hrec => ?_) N _ ⟨0, Nat.zero_le _, rfl⟩ (by simp; omega)
  obtain ⟨t, ht, rfl⟩ := hI
  simp only [ref06_BestTurns.b1, jn]
  by_cases htn : t < n
  ·
   have hle : m ^ (t + 1) ≤ 4096 := Nat.le_trans (Nat.pow_le_pow_right (by omega) htn) hcnt
   rw [br_pos (by rw [hr]; simpa using htn), next_loop hN c (allT m t) (by unfold allT; rw [List.length_map, List.length_range, ← Nat.pow_succ]; exact hle) (fun x hx => by
    obtain ⟨k, _, rfl⟩ := List.mem_map.1 hx
    rw [chT_len]; omega), allT_succ hm1, w64_succ (by omega)]
   exact hrec _ ⟨t + 1, htn, rfl⟩ (by simp only [Int.toNat_natCast]; omega)
  ·
   have : t = n := by omega
   subst this
   rw [br_neg (by rw [hr]; simp)]
 rw [hall]
 have hl : (allT m n).length = m ^ n := by simp [allT]
 have hget : ∀ k, k < m ^ n → (allT m n).getD k default = chT m n k := fun k hk => by
  rw [getD_of (by rw [hl]; exact hk)]; simp [allT]
 have hL : ∀ k, k < m ^ n → ref06_TurnsOf N r ((allT m n).getD k default) = some (leastT r m (chT m n k)) := fun k hk => by
  rw [hget k hk]; exact RefTurnsOf_eq hM (by omega) c (chT_ok hm1 n k)
 generalize allT m n = all at *
 refine rds_rel (fun s : Int × Int => ∃ a k : Nat, s = ((a : Int), (k : Int)) ∧ a < k ∧ k ≤ m ^ n ∧ (∀ j, j < k → leastT r m (chT m n j) ≤ leastT r m (chT m n a)) ∧ ∀ j, j < a → leastT r m (chT m n j) < leastT r m (chT m n a)) (fun s => m ^ n - s.2.toNat) _
  (fun rec s hI hrec => ?_) N _ ⟨0, 1, rfl, by omega, hpos, fun j hj => by have : j = 0 := (by omega); subst this; exact Int.le_refl _, fun j hj => by omega⟩ (by simp; omega)
 obtain ⟨a, k, rfl, hak, hk, i1, i2⟩ := hI
 simp only [ref06_BestTurns.b4, Int.toNat_natCast]
 by_cases hkl : k < m ^ n
 ·
  rw [br_pos (by rw [hl, decide_eq_true_eq]; exact Int.ofNat_lt.2 hkl), chk_pos (by omega), hL k hkl, bnd_val, chk_pos (by omega), hL a (by omega), bnd_val, w64_succ (by omega)]
  by_cases hgt : leastT r m (chT m n k) > leastT r m (chT m n a)
  ·
   rw [br_pos (by simpa using hgt)]
   refine hrec _ ⟨k, k + 1, rfl, by omega, hkl, fun j hj => ?_, fun j hj => ?_⟩ (by simp only [Int.toNat_natCast]; omega)
   ·
    rcases Nat.lt_succ_iff_lt_or_eq.1 hj with h | rfl
    · have := i1 j h; omega
    · exact Int.le_refl _
   · have := i1 j hj; omega
  ·
   rw [br_neg (by simpa using hgt)]
   refine hrec _ ⟨a, k + 1, rfl, by omega, hkl, fun j hj => ?_, i2⟩ (by simp only [Int.toNat_natCast]; omega)
   rcases Nat.lt_succ_iff_lt_or_eq.1 hj with h | rfl
   · exact i1 j h
   · omega
 ·
  have : k = m ^ n := by omega
  subst this
  rw [br_neg (by rw [hl, decide_eq_false_iff_not]; exact Int.lt_irrefl _), chk_pos (by omega), chk_pos (by omega), hL a hak, bnd_val]
  refine ⟨_, rfl, Or.inr ?_⟩
  simp only
  rw [hget a hak]
  have hv := chT_ok hm1 n a
  have hpa := pv_ch hm1 n a hak
  have hk : ∀ t, VT n m t → t = chT m n (pv m t n) := fun t v => pv_eq v (chT_ok hm1 n _) (by rw [pv_ch hm1 n _ (pv_lt v n (Nat.le_refl _))])
  refine ⟨hv, by rw [hpa]; exact hak, rfl, fun t v hlt => ?_, fun t v hlt => ?_⟩
  · rw [hk t v]; exact i1 _ hlt
  ·
   rw [hpa] at hlt
   rw [hk t v]; exact i2 _ hlt
theorem BestV_one {r : List (List Int)} {n m V : Nat} (hV : 0 < V) {a b : List Int} {x y : Int} (h : BestV r n m V a x) (g : BestV r n m V b y) : a = b ∧ x = y := by
 rcases h with ⟨h, _⟩ | ⟨h1, h2, h3, h4, h5⟩
 · omega
 rcases g with ⟨g, _⟩ | ⟨g1, g2, g3, g4, g5⟩
 · omega
 have e1 := h4 b g1 g2
 have e2 := g4 a h1 h2
 have e : pv m a n = pv m b n := by
  rcases Nat.lt_trichotomy (pv m a n) (pv m b n) with hlt | he | hgt
  · have := g5 a h1 hlt; omega
  · exact he
  · have := h5 b g1 hgt; omega
 exact ⟨pv_eq h1 g1 e, by omega⟩

def turnsE (n m : Nat) (t : List Int) : Int := if t.length ≠ n then 10 else if t.any (fun y => !(inB y 0 ((m : Int) - 1))) = true then 6 else 0
theorem turnsE_zero {n m : Nat} {t : List Int} (h : turnsE n m t = 0) : VT n m t := by
 unfold turnsE at h
 by_cases h1 : t.length ≠ n
 · rw [if_pos h1] at h; exact absurd h (by decide)
 rw [if_neg h1] at h
 by_cases h2 : t.any (fun y => !(inB y 0 ((m : Int) - 1))) = true
 · rw [if_pos h2] at h; exact absurd h (by decide)
 refine ⟨by omega, fun x hx => ?_⟩
 rw [Bool.not_eq_true, List.any_eq_false] at h2
 have := h2 x hx
 simp only [Bool.not_eq_true', Bool.not_eq_false] at this
 have := inB_true.1 this; omega
theorem TurnsOfAll_eq {N : Nat} (hM : N ≤ 20000) (hN : 62 < N) {r : List (List Int)} (hr6 : ∀ x ∈ r, x.length ≤ 6) {t : List Int} (ht : t.length ≤ 8) :
  sched_TurnsOf N r t = some (if caseE r ≠ 0 then (0, caseE r) else if turnsE r.length (r.getD 0 default).length t ≠ 0 then (0, turnsE r.length (r.getD 0 default).length t) else (leastT r (r.getD 0 default).length t, 0)) := by
 unfold sched_TurnsOf
 rw [caseErr_eq hM hN r hr6, bnd_val]
 simp only [unless_eq, bnd_val]
 rw [first_eq hM _ (by simp; omega), bnd_val]
 by_cases h0 : caseE r ≠ 0
 · rw [if_pos h0, show firstE [caseE r, if ((t.length : Int) == (r.length : Int)) = true then 0 else 10] = caseE r from by simp only [firstE]; rw [if_pos h0], br_pos (by rw [bne_iff_ne]; exact h0)]
 rw [if_neg h0]
 have h0 := Classical.not_not.1 h0
 have c := caseE_zero h0
 have hr := c.len; have h1 := c.n1; have h6 := c.n6; have hm1 := c.m1; have hm4 := c.m4
 unfold turnsE
 by_cases e1 : t.length ≠ r.length
 ·
  rw [h0, show ((t.length : Int) == (r.length : Int)) = false from by rw [beq_eq_false_iff_ne]; omega, if_pos e1]
  rfl
 have e1 := Classical.not_not.1 e1
 rw [h0, show ((t.length : Int) == (r.length : Int)) = true from by rw [beq_iff_eq]; omega, if_pos rfl, if_neg (show ¬ (t.length ≠ r.length) from fun h => h e1)]
 show br false _ _ = _
 simp only [br_false, jn]
 rw [rds_scan t 0 (fun y => !(inB y 0 (((r.getD 0 default).length : Int) - 1))) (some (0, 6)) (bnd (sched_least N r t) fun x5 => some (x5, (0 : Int))) _ (fun k rec hk => ?_) (fun rec => ?_) (by omega)]
 ·
  by_cases e2 : t.any (fun y => !(inB y 0 (((r.getD 0 default).length : Int) - 1))) = true
  · rw [if_pos e2, if_pos e2]; rfl
  ·
   rw [if_neg e2, if_neg e2, if_neg (fun h => h rfl)]
   have v : VT r.length (r.getD 0 default).length t := turnsE_zero (by unfold turnsE; rw [if_neg (fun h => h e1), if_neg e2])
   rw [least_eq hM hN c v, bnd_val]
 ·
  simp only [sched_TurnsOf.b1, within_eq, bnd_val, Int.toNat_natCast]
  rw [br_pos (by simpa using hk), chk_pos (by omega), chk_pos (by omega), w64_succ (by omega), w64_id (by omega)]
  rfl
 ·
  simp only [sched_TurnsOf.b1]
  rw [br_neg (by simp)]
theorem TurnsErr_eq {N : Nat} (hN : 62 < N) {r : List (List Int)} {n m : Nat} (c : Case r n m) {t : List Int} (ht : t.length ≤ 8) : ref06_TurnsErr N r t = some (turnsE n m t) := by
 have hr := c.len; have h1 := c.n1; have h6 := c.n6; have hm1 := c.m1; have hm4 := c.m4; have hh := c.head
 unfold ref06_TurnsErr turnsE
 by_cases e1 : t.length ≠ n
 · rw [if_pos e1, br_pos (by rw [bne_iff_ne]; omega)]
 rw [if_neg e1, br_neg (by rw [bne_eq_false_iff_eq]; omega)]
 simp only [jn]
 rw [rds_scan t 0 (fun y => !(inB y 0 ((m : Int) - 1))) (some 6) (some 0) _ (fun k rec hk => ?_) (fun rec => ?_) (by omega)]
 · split <;> rfl
 ·
  simp only [ref06_TurnsErr.b1, Within_eq, bnd_val, Int.toNat_natCast, hh]
  rw [br_pos (by simpa using hk), chk_pos (by omega), chk_pos (by omega), w64_succ (by omega), w64_id (by omega)]
  rfl
 ·
  simp only [ref06_TurnsErr.b1]
  rw [br_neg (by simp)]
theorem Ints_self {N : Nat} {l : List Int} (hN : l.length < N) (h : N ≤ 20000) : base_Ints N l l = some true := by
 unfold base_Ints
 rw [br_neg (by simp)]
 simp only [jn]
 refine rds_up1 l.length _ (fun _ => some true) (fun k rec hk hrec => ?_) (fun rec => ?_) hN
 ·
  simp only [base_Ints.b1]
  rw [br_pos (by simpa using hk), chk_pos (by omega), chk_pos (by omega), br_neg (by simp), w64_succ (by omega), hrec]
 ·
  simp only [base_Ints.b1]
  rw [br_neg (by simp)]
theorem law_SchedTurns {N : Nat} (hM : N ≤ 20000) (hN : 4100 < N) (hA : law06_awake N = some true) (r : List (List Int)) (t : List Int) : law06_SchedTurns N r t = some true := by
 unfold law06_SchedTurns
 rw [hA, Rows_eq (by omega)]
 simp only [bnd_val, Bool.not_true, br_false]
 by_cases hc : ((!(decide (r.length ≤ 8) && r.all fun x => decide (x.length ≤ 6))) || (decide ((t.length : Int) > (8 : Int)))) = true
 · rw [br_pos hc]
 rw [Bool.not_eq_true] at hc
 rw [br_neg hc]
 simp only [Bool.or_eq_false_iff, Bool.not_eq_false', Bool.and_eq_true, decide_eq_true_eq, decide_eq_false_iff_not, List.all_eq_true] at hc
 obtain ⟨⟨hr8, hr6⟩, ht8⟩ := hc
 rw [CopyLists_eq hr8 (by omega) hr6, CopyInts_eq N (by omega)]
 simp only [bnd_val]
 rw [TurnsOfAll_eq hM (by omega) hr6 (by omega), CaseErr_eq hM (by omega) r hr6]
 obtain ⟨⟨best, most, er⟩, hx, hbt⟩ := BestTurns_eq hM hN hr6
 rw [hx]
 simp only [bnd_val]
 by_cases h0 : ¬ caseE r = 0
 ·
  rw [if_neg h0] at hbt
  simp only [Prod.mk.injEq] at hbt
  obtain ⟨rfl, rfl, rfl⟩ := hbt
  rw [if_pos h0, br_pos (by rw [bne_iff_ne]; exact h0)]
  simp
 have h0 := Classical.not_not.1 h0
 rw [if_pos h0] at hbt
 obtain ⟨h2, hB⟩ := hbt
 simp only at h2 hB
 subst h2
 have c := caseE_zero h0
 rw [if_neg (fun h => h h0), br_neg (by rw [h0]; rfl)]
 obtain ⟨⟨b', m'⟩, hx', hB'⟩ := RefBestTurns_eq hM hN c
 rw [hx']
 simp only [bnd_val]
 obtain ⟨rfl, rfl⟩ := BestV_one (Nat.pow_pos (by have := c.m1; omega)) hB hB'
 have hbl : best.length ≤ 6 := by
  rcases hB with ⟨h, _⟩ | ⟨v, _⟩
  ·
   have := Nat.pow_pos (n := r.length) (show 0 < (r.getD 0 default).length from c.m1)
   omega
  · rw [v.len]; exact c.n6
 simp only [bne_self_eq_false, Bool.not_false, grd_true]
 rw [Ints_self (by omega) hM, bnd_val, br_neg (by simp), TurnsErr_eq (by omega) c (by omega), bnd_val]
 by_cases h3 : turnsE r.length (r.getD 0 default).length t ≠ 0
 ·
  rw [if_pos h3, br_pos (by rw [bne_iff_ne]; exact h3)]
  simp
 ·
  rw [if_neg h3, br_neg (by rw [bne_eq_false_iff_eq]; exact Classical.not_not.1 h3)]
  have v := turnsE_zero (Classical.not_not.1 h3)
  simp only [BEq.rfl, grd_true]
  rw [RefTurnsOf_eq hM (by omega) c v, bnd_val]
  simp
end Go.Sh

/-
 The first test of each law of the scheduling chapter: fixed calls come to what they should.
-/
namespace Go.Sh
open Go.PW
set_option maxRecDepth 100000
theorem awake_true : law06_awake 5000 = some true := by
 repeat delta law06_awake ref06_SameShares ref06_SameTrace base_Lists base_Lists.b1 base_Ints base_Ints.b1 ref06_SameAdmission ref06_SameAdmission.b1 base_Texts base_Texts.b1 sched_BestTurns sched_BestTurns.b1 sched_BestTurns.b3 sched_BestTurns.b2 sched_least sched_least.b1 slices_Min_ii slices_Min_ii.b1 sched_choices sched_caseErr sched_caseErr.b1 sched_caseErr_1 slices_ContainsFunc_ii slices_IndexFunc_ii slices_IndexFunc_ii.b1 sched_SharesOf sched_fair sched_fair.b5 sched_fair.b4 sched_fair.b2 sched_fair.b3 sched_fair.b1 sched_divisor sched_divisor.b1 sched_divisor.b2 sched_demandErr sched_demandErr.b1 sched_Run sched_Run.b8 sched_Run.b2 sched_Run.m129 sched_Run.b7 sched_Run.b5 sched_Run.m134 sched_Run.b4 sched_Run.b3 sched_Run.m1 sched_Run.b1 sched_user_taken sched_run_left sched_run_left.b1 sched_site_slotsErr sched_site_slotsErr.b1 sched_site_slotsErr.b2 law06_Best sched_Admit sched_Admit.b1 sched_last sched_last.b1 sched_openAll sched_CheckBearers sched_site_bearersErr sched_site_bearersErr.b1 sched_site_fit sched_site_room sched_site_room.b1 sched_named slices_ContainsFunc_api_SchedBearer_api_SchedBearer slices_IndexFunc_api_SchedBearer_api_SchedBearer slices_IndexFunc_api_SchedBearer_api_SchedBearer.b1 sched_named_1 law06_Alarm sched_NeedOf sched_site_need sched_ceil sched_guaranteed sched_openBearer sched_site_bearerErr sched_site_isReport sched_isName sched_isName.b1 sched_open sched_CheckSite sched_CheckSite.b1 sched_first sched_first.b1 sched_unless sched_within law06_Voice law06_Site slices_Clone_bb slices_Clone_ii
 simp only [w64_eq, ByteArray.toList_eq]
 decide +kernel
end Go.Sh
