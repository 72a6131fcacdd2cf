/-
 Plain words: loops that count up. For every program.
-/
import Derived.Test.YtabojpkmfkjjkaaPlA
import Derived.Test.YtabojpkmfkjjkaaSsS
import Derived.Laws.Strings
set_option linter.all false
namespace Go.PW
theorem w64_succ {k : Nat} (h : k < 4611686018427387904) : w64 ((k : Int) + 1) = ((k + 1 : Nat) : Int) := by rw [w64_id (by omega)]; rfl

theorem rds_up1 {R : Type} (len : Nat) (b : (Int → Option R) → Int → Option R) (F : Nat → Option R)
  (hstep : ∀ k rec, k < len → rec ((k + 1 : Nat) : Int) = F (k + 1) → b rec (k : Int) = F k) (hend : ∀ rec, b rec (len : Int) = F len)
  {N : Nat} (hN : len < N) : rds b N 0 = F 0 := by
 have h := rds_spec (b := b) (fun x => ∃ k : Nat, k ≤ len ∧ x = k) (fun x => len - x.toNat) (fun x => F x.toNat) (fun rec x hI hrec => ?_) N 0 ⟨0, Nat.zero_le _, rfl⟩ (by simp; omega)
 · simpa using h
 ·
  obtain ⟨k, hk, hx⟩ := hI
  subst hx
  by_cases hkl : k < len
  ·
   rw [hstep k rec hkl ?_]
   · simp
   ·
    have := hrec ((k + 1 : Nat) : Int) ⟨k + 1, hkl, rfl⟩ (by simp only [Int.toNat_natCast]; omega)
    simpa using this
  ·
   have : k = len := by omega
   subst this
   rw [hend rec]; simp
end Go.PW

/-
 Plain words: loops that build a list, that fold, that look for a wrong element. For every program.
-/
namespace Go.PW

end Go.PW

/-
 What the shallow functions of the scheduling chapter come to: sites, names, bearers and their errors.
-/
namespace Go.Sh
open Go.PW

def inB (n lo hi : Int) : Bool := (decide (lo ≤ n)) && (decide (n ≤ hi))
theorem inB_true {n lo hi : Int} : inB n lo hi = true ↔ lo ≤ n ∧ n ≤ hi := by simp [inB]
theorem within_eq (N : Nat) (n lo hi : Int) : g8 N n lo hi = some (inB n lo hi) := rfl
theorem Within_eq (N : Nat) (n lo hi : Int) : p7 N n lo hi = some (inB n lo hi) := rfl
theorem unless_eq (N : Nat) (b : Bool) (e : Int) : f5 N b e = some (if b = true then 0 else e) := by cases b <;> rfl
def firstE : List Int → Int
 | [] => 0
 | x :: l => if x ≠ 0 then x else firstE l
theorem getD_of {α : Type} {l : List α} {k : Nat} (h : k < l.length) (d : α) : l.getD k d = l[k] := by simp [List.getD_eq_getElem?_getD, h]
theorem first_eq {N : Nat} (hM : N ≤ 20000) (l : List Int) (h : l.length < N) : sched_first N l = some (firstE l) := by
 unfold sched_first
 simp only [jn]
 refine (rds_up1 l.length _ (fun k => some (firstE (l.drop k))) (fun k rec hk hr => ?_) (fun rec => ?_) h).trans (by simp)
 ·
  simp only [sched_first.b1]
  rw [br_pos (by simpa using hk), chk_pos (by omega), List.drop_eq_getElem_cons hk, firstE, w64_succ (by omega), hr, Int.toNat_natCast, getD_of hk]
  by_cases h0 : l[k] = 0 <;> simp [br, h0]
 · simp [sched_first.b1, br, firstE]

end Go.Sh

/-
 What the shallow functions of the scheduling chapter come to: names, and the errors of one bearer.
-/
namespace Go.Sh
open Go.PW

end Go.Sh

/-
 What the shallow functions of the scheduling chapter come to: quotients rounded up, needs, room, names of several bearers.
-/
namespace Go.Sh
open Go.PW

end Go.Sh

/-
 What the shallow functions of the scheduling chapter come to: the errors of bearers, room.
-/
namespace Go.Sh
open Go.PW

end Go.Sh

/-
 The laws of bearers and of delays, of contracts: what the shallow functions come to.
-/
namespace Go.Sh
open Go.PW

end Go.Sh

/-
 The law of delays: what the shallow functions come to.
-/
namespace Go.Sh
open Go.PW

end Go.Sh

/-
 The law of contracts: what the shallow functions come to.
-/
namespace Go.Sh
open Go.PW

end Go.Sh

/-
 Small cases: their errors, choices, and the least total of one.
-/
namespace Go.Sh
open Go.PW

end Go.Sh

/-
 The least total of a choice: totals, their least one, and what weights say about them.
-/
namespace Go.Sh
open Go.PW

structure VT (n m : Nat) (t : List Int) : Prop where
 len : t.length = n
 ok : ∀ x ∈ t, (0 : Int) ≤ x ∧ x < (m : Int)
theorem VT.get {n m : Nat} {t : List Int} (h : VT n m t) {k : Nat} (hk : k < n) : (0 : Int) ≤ t.getD k 0 ∧ t.getD k 0 < (m : Int) := by
 have hk' : k < t.length := by rw [h.len]; exact hk
 rw [getD_of hk']; exact h.ok _ (List.getElem_mem hk')
end Go.Sh

/-
 All choices of a small case, one behind the other, and the best one.
-/
namespace Go.PW
end Go.PW
namespace Go.Sh
open Go.PW

theorem VT.set {n m : Nat} {t : List Int} (v : VT n m t) {k : Nat} {x : Int} (hx : 0 ≤ x ∧ x < (m : Int)) : VT n m (t.set k x) := by
 refine ⟨by rw [List.length_set]; exact v.len, fun y hy => ?_⟩
 rcases List.mem_or_eq_of_mem_set hy with h | rfl
 · exact v.ok _ h
 · exact hx
end Go.Sh

/-
 A slot of a run, told as a function of the users.
-/
namespace Go.PW
end Go.PW
namespace Go.Sh
open Go.PW

abbrev U := ByteArray × Int × Int × Int × Int × Int × Int × Int × Int × Int × Int × Int × Int × Int
def uG (u : U) : Int := u.2.2.2.1
def uP (u : U) : Int := u.2.2.2.2.1
def uW (u : U) : Int := u.2.2.2.2.2.2.2.2.2.2.1
def uS (u : U) : Int := u.2.2.2.2.2.2.2.2.2.2.2.1
def uR (u : U) : Int := u.2.2.2.2.2.2.2.2.2.2.2.2.1
def uB (u : U) : Int := u.2.2.2.2.2.2.2.2.2.2.2.2.2
def takeU (u : U) : Int := if uB u * uR u < uW u then uB u * uR u else uW u
structure OkU (u : U) : Prop where
 b0 : 0 ≤ uB u
 b1 : uB u ≤ 1000000
 p0 : 0 ≤ uP u
 p1 : uP u ≤ 100000
 w0 : 0 ≤ uW u
 w1 : uW u ≤ 1000000000
 s0 : 0 ≤ uS u
 s1 : uS u ≤ 1000000000
 r0 : 0 ≤ uR u
 r1 : uR u ≤ 1000
 g0 : 1 ≤ uG u
 g1 : uG u ≤ 100
theorem OkU.prod {u : U} (h : OkU u) : (0 ≤ uB u * uR u ∧ uB u * uR u ≤ 1000000000) ∧ (0 ≤ uB u * uP u ∧ uB u * uP u ≤ 100000000000) :=
 ⟨⟨Int.mul_nonneg h.b0 h.r0, Int.le_trans (Int.mul_le_mul h.b1 h.r1 h.r0 (by omega)) (by omega)⟩, ⟨Int.mul_nonneg h.b0 h.p0, Int.le_trans (Int.mul_le_mul h.b1 h.p1 h.p0 (by omega)) (by omega)⟩⟩
theorem OkU.take {u : U} (h : OkU u) : 0 ≤ takeU u ∧ takeU u ≤ uW u := by
 have := h.prod; have := h.w0
 unfold takeU; split <;> omega
end Go.Sh

/-
 A slot of a run: the blocks are given, and the rest of them is told.
-/
namespace Go.Sh
open Go.PW

end Go.Sh

/-
 Runs: their errors, the users at the beginning, and behind each slot.
-/
namespace Go.Sh
open Go.PW

end Go.Sh

/-
 Loops: acknowledgements move an offset.
-/
namespace Go.Sh
open Go.PW

def loopE (o u d lo hi : Int) : Int :=
 if (((inB u 0 200 && inB d 0 200) && inB lo (-200) 200) && inB hi (-200) 200) = false then 2 else if lo > hi then 9 else if inB o lo hi = false then 2 else 0
theorem loopE_zero {o u d lo hi : Int} (h : loopE o u d lo hi = 0) : (0 ≤ u ∧ u ≤ 200) ∧ (0 ≤ d ∧ d ≤ 200) ∧ (-200 ≤ lo ∧ lo ≤ o) ∧ (o ≤ hi ∧ hi ≤ 200) := by
 unfold loopE at h
 split at h
 · exact absurd h (by decide)
 ·
  rename_i h1
  split at h
  · exact absurd h (by decide)
  ·
   split at h
   · exact absurd h (by decide)
   ·
    rename_i h2
    simp only [Bool.not_eq_false, Bool.and_eq_true, inB_true] at h1 h2
    omega
theorem loopErr_eq {N : Nat} (hM : N ≤ 20000) (hN : 16 < N) (o u d lo hi : Int) : w6 N o u d lo hi = some (loopE o u d lo hi) := by
 unfold w6 r8 r7
 simp only [within_eq, u5, unless_eq]
 have e : ∀ b : Bool, (grd b false (some (inB d 0 200))) = some (b && inB d 0 200) := fun b => by cases b <;> rfl
 have e2 : ∀ b : Bool, (grd b false (some (inB lo (-200) 200))) = some (b && inB lo (-200) 200) := fun b => by cases b <;> rfl
 have e3 : ∀ b : Bool, (grd b false (some (inB hi (-200) 200))) = some (b && inB hi (-200) 200) := fun b => by cases b <;> rfl
 simp only [e, u5]
 have k1 : (inB u 0 200 && (inB u 0 200 && inB d 0 200)) = (inB u 0 200 && inB d 0 200) := by cases inB u 0 200 <;> rfl
 simp only [k1, e2, u5]
 have k2 : ((inB u 0 200 && inB d 0 200) && ((inB u 0 200 && inB d 0 200) && inB lo (-200) 200)) = ((inB u 0 200 && inB d 0 200) && inB lo (-200) 200) := by cases (inB u 0 200 && inB d 0 200) <;> rfl
 simp only [k2, e3, u5]
 have k3 : (((inB u 0 200 && inB d 0 200) && inB lo (-200) 200) && (((inB u 0 200 && inB d 0 200) && inB lo (-200) 200) && inB hi (-200) 200)) = (((inB u 0 200 && inB d 0 200) && inB lo (-200) 200) && inB hi (-200) 200) := by cases ((inB u 0 200 && inB d 0 200) && inB lo (-200) 200) <;> rfl
 simp only [k3]
 rw [first_eq hM _ (by simp; omega), u5]
 unfold loopE
 congr 1
 by_cases hle : lo ≤ hi
 ·
  rw [show decide (lo ≤ hi) = true from by simpa using hle, if_neg (show ¬ lo > hi by omega)]
  cases (((inB u 0 200 && inB d 0 200) && inB lo (-200) 200) && inB hi (-200) 200) <;> cases inB o lo hi <;> rfl
 ·
  rw [show decide (lo ≤ hi) = false from by simpa using hle, if_pos (show lo > hi by omega)]
  cases (((inB u 0 200 && inB d 0 200) && inB lo (-200) 200) && inB hi (-200) 200) <;> rfl
theorem LoopErr_eq (N : Nat) (o u d lo hi : Int) : w9 N o u d lo hi = some (loopE o u d lo hi) := by
 unfold w9 loopE
 have e0 : w64 (0 - (200 : Int)) = -200 := by rw [w64_id (by omega)]; rfl
 simp only [Within_eq, u5, e0]
 cases inB u 0 200
 · rfl
 cases inB d 0 200
 · rfl
 cases inB lo (-200) 200
 · rfl
 cases inB hi (-200) 200
 · rfl
 simp only [grd_true, u5, Bool.not_true, Bool.or_false, Bool.and_true, Bool.not_false, Bool.true_eq_false, if_false]
 rw [br_neg (by rfl)]
 by_cases h : lo > hi
 · rw [br_pos (by simpa using h), if_pos h]
 ·
  rw [br_neg (by simpa using h), if_neg h]
  cases inB o lo hi <;> rfl

def stepA (u d lo hi b : Int) (a : Bool) : Int := if a = true then (if hi < b + u then hi else b + u) else (if b - d < lo then lo else b - d)
def afterA (u d lo hi : Int) (l : List Bool) (b : Int) : Int := l.foldl (stepA u d lo hi) b
theorem stepA_ok {u d lo hi b : Int} (hu : 0 ≤ u) (hd : 0 ≤ d) (h : lo ≤ b ∧ b ≤ hi) (a : Bool) : lo ≤ stepA u d lo hi b a ∧ stepA u d lo hi b a ≤ hi := by
 unfold stepA; split <;> split <;> omega
theorem afterA_ok {u d lo hi : Int} (hu : 0 ≤ u) (hd : 0 ≤ d) : ∀ (l : List Bool) {b : Int}, lo ≤ b ∧ b ≤ hi → lo ≤ afterA u d lo hi l b ∧ afterA u d lo hi l b ≤ hi
 | [], _, h => h
 | a :: l, _, h => afterA_ok hu hd l (stepA_ok hu hd h a)
theorem getB {l : List Bool} {k : Nat} (h : k < l.length) : l.getD k default = l[k] := by simp [List.getD_eq_getElem?_getD, h]
theorem LoopAfter_eq {N : Nat} (hM : N ≤ 20000) (hN : 1100 < N) (o u d lo hi : Int) {l : List Bool} (hl : l.length ≤ 1100) : sched_LoopAfter N o u d lo hi l =
  some (if loopE o u d lo hi ≠ 0 then (0, 0, 0, 0, 0, loopE o u d lo hi) else if 1000 < l.length then (0, 0, 0, 0, 0, 8) else (afterA u d lo hi l o, u, d, lo, hi, 0)) := by
 unfold sched_LoopAfter
 rw [loopErr_eq hM (by omega), u5, unless_eq, u5, first_eq hM _ (by simp; omega), u5]
 by_cases he : loopE o u d lo hi ≠ 0
 ·
  have e : ∀ z, firstE [loopE o u d lo hi, z] = loopE o u d lo hi := fun z => by simp [firstE, he]
  rw [e, br_pos (by rw [bne_iff_ne]; exact he), if_pos he]
 ·
  have he := Classical.not_not.1 he
  by_cases h1 : 1000 < l.length
  · rw [show decide ((l.length : Int) ≤ 1000) = false from by rw [decide_eq_false_iff_not]; omega, if_pos h1, he]; rfl
  ·
   rw [show decide ((l.length : Int) ≤ 1000) = true from by rw [decide_eq_true_eq]; omega, if_neg h1, he, if_neg (show ¬ ((0 : Int) ≠ 0) by simp)]
   obtain ⟨hu, hd, hlo, hhi⟩ := loopE_zero he
   rw [br_neg (by rfl)]
   simp only [jn]
   refine (rds_spec (fun s : Int × Int => ∃ k : Nat, k ≤ l.length ∧ s.1 = (k : Int) ∧ lo ≤ s.2 ∧ s.2 ≤ hi) (fun s => l.length - s.1.toNat) (fun s => some (afterA u d lo hi (l.drop s.1.toNat) s.2, u, d, lo, hi, (0 : Int))) (fun rec s hI hrec => ?_) N _ ⟨0, Nat.zero_le _, rfl, by omega, by omega⟩ (by simp; omega)).trans (by simp)
   obtain ⟨t, b⟩ := s
   obtain ⟨k, hk, hkk, hb1, hb2⟩ := hI
   simp only at hkk hb1 hb2 ⊢
   subst hkk
   simp only [sched_LoopAfter.b1, Int.toNat_natCast] at *
   by_cases hkl : k < l.length
   ·
    have hst := stepA_ok hu.1 hd.1 ⟨hb1, hb2⟩ l[k]
    have hr := hrec (((k + 1 : Nat) : Int), stepA u d lo hi b l[k]) ⟨k + 1, hkl, rfl, hst⟩ (by simp only [Int.toNat_natCast]; omega)
    simp only [Int.toNat_natCast] at hr
    rw [br_pos (by simpa using hkl), chk_pos (by omega), getB hkl, w64_succ (by omega), w64_id (n := b + u) (by omega), w64_id (n := b - d) (by omega), List.drop_eq_getElem_cons hkl]
    show _ = some (afterA u d lo hi (l.drop (k + 1)) (stepA u d lo hi b l[k]), u, d, lo, hi, 0)
    rw [← hr]
    unfold stepA
    cases l[k] <;> rfl
   ·
    have : k = l.length := by omega
    subst this
    rw [br_neg (by simp), List.drop_length]
    rfl
def cT : List Bool → Int
 | [] => 0
 | a :: l => (if a = true then 1 else 0) + cT l
theorem cT_app : ∀ l m : List Bool, cT (l ++ m) = cT l + cT m
 | [], m => by simp [cT]
 | a :: l, m => by rw [List.cons_append, cT, cT_app l m, cT]; omega
theorem cT_rev : ∀ l : List Bool, cT l.reverse = cT l
 | [] => rfl
 | a :: l => by rw [List.reverse_cons, cT_app, cT_rev l, cT, cT, cT]; omega
theorem cT_ok : ∀ l : List Bool, 0 ≤ cT l ∧ cT l ≤ (l.length : Int)
 | [] => by simp [cT]
 | a :: l => by
  have := cT_ok l
  rw [cT, List.length_cons]; split <;> omega
theorem mul_mono_u {u : Int} (hu : 0 ≤ u ∧ u ≤ 200) {k : Int} (hk : 0 ≤ k ∧ k ≤ 1100) : 0 ≤ k * u ∧ k * u ≤ 220000 :=
 ⟨Int.mul_nonneg hk.1 hu.1, Int.le_trans (Int.mul_le_mul hk.2 hu.2 hu.1 (by omega)) (by omega)⟩
theorem after_free {u d lo hi : Int} (hu : 0 ≤ u) (hd : 0 ≤ d) : ∀ (l : List Bool) (b : Int), b + cT l * u ≤ hi → lo ≤ b - ((l.length : Int) - cT l) * d → afterA u d lo hi l b = b + cT l * u - ((l.length : Int) - cT l) * d
 | [], b, _, _ => by show b = _; simp [cT]
 | a :: l, b, h1, h2 => by
  have hc := cT_ok l
  have m1 : 0 ≤ cT l * u := Int.mul_nonneg hc.1 hu
  have m2 : 0 ≤ ((l.length : Int) - cT l) * d := Int.mul_nonneg (by omega) hd
  show afterA u d lo hi l (stepA u d lo hi b a) = _
  simp only [cT, List.length_cons] at h1 h2 ⊢
  cases a
  ·
   simp only [Bool.false_eq_true, if_false] at h1 h2 ⊢
   have e : (((l.length + 1 : Nat) : Int) - (0 + cT l)) * d = ((l.length : Int) - cT l) * d + d := by
    rw [show (((l.length + 1 : Nat) : Int) - (0 + cT l)) = ((l.length : Int) - cT l) + 1 from by omega, Int.add_mul, Int.one_mul]
   rw [e] at h2 ⊢
   rw [Int.zero_add] at h1 ⊢
   have es : stepA u d lo hi b false = b - d := by
    unfold stepA; rw [if_neg (by decide), if_neg (by omega)]
   rw [es, after_free hu hd l (b - d) (by omega) (by omega)]
   omega
  ·
   simp only [if_true] at h1 h2 ⊢
   have e : (1 + cT l) * u = u + cT l * u := by rw [Int.add_mul, Int.one_mul]
   have e2 : (((l.length + 1 : Nat) : Int) - (1 + cT l)) = (l.length : Int) - cT l := by omega
   rw [e] at h1 ⊢
   rw [e2] at h2 ⊢
   have es : stepA u d lo hi b true = b + u := by
    unfold stepA; rw [if_pos rfl, if_neg (by omega)]
   rw [es, after_free hu hd l (b + u) (by omega) (by omega)]
   omega

theorem law_SchedLoops {N : Nat} (hM : N ≤ 20000) (hN : 1100 < N) (hA : law06_awake N = some true) (o u d lo hi : Int) (l : List Bool) : law06_SchedLoops N o u d lo hi l = some true := by
 unfold law06_SchedLoops
 rw [hA]
 simp only [u5, Bool.not_true, br_false]
 rw [LoopErr_eq]
 by_cases h30 : (l.length : Int) > 30
 · rw [show decide ((l.length : Int) > 30) = true from by simpa using h30]; rfl
 rw [show decide ((l.length : Int) > 30) = false from by simpa using h30]
 simp only [Bool.not_false, grd_true, u5, Bool.false_or]
 by_cases he : loopE o u d lo hi ≠ 0
 · rw [br_pos (by rw [bne_iff_ne]; exact he)]
 have he := Classical.not_not.1 he
 obtain ⟨hu, hd, hlo, hhi⟩ := loopE_zero he
 rw [br_neg (by rw [he]; rfl), chk_pos (by omega), LoopAfter_eq hM hN o u d lo hi (by omega), if_neg (by rw [he]; simp), if_neg (by omega)]
 have hok := afterA_ok hu.1 hd.1 l (b := o) ⟨hlo.2, hhi.1⟩
 simp only [u5, Within_eq, jn]
 rw [show inB (afterA u d lo hi l o) lo hi = true from inB_true.2 hok]
 simp only [bne_self_eq_false, Bool.not_false, grd_true, u5, Bool.not_true, Bool.or_false, BEq.rfl, Bool.and_self]
 rw [br_neg (by rfl)]
 have hc := cT_ok l
 have m1 := mul_mono_u hu (k := cT l) (by omega)
 have m2 := mul_mono_u hd (k := (l.length : Int) - cT l) (by omega)
 refine rds_spec (fun s : Int × Int × List Bool => ∃ m : Nat, m ≤ l.length ∧ s = (cT (l.drop m), (m : Int) - 1, (l.drop m).reverse)) (fun s => (s.2.1 + 1).toNat) (fun _ => some true) (fun rec s hI hrec => ?_) N _ ⟨l.length, Nat.le_refl _, by rw [List.drop_length, w64_id (by omega)]; rfl⟩ (by rw [w64_id (by omega)]; simp only; omega)
 obtain ⟨m, hm, rfl⟩ := hI
 simp only [law06_SchedLoops.b1]
 cases m with
 | zero =>
  rw [br_neg (by simp), List.drop_zero, w64_id (n := cT l * u) (by omega), w64_id (n := o + cT l * u) (by omega), w64_id (n := (l.length : Int) - cT l) (by omega), w64_id (n := ((l.length : Int) - cT l) * d) (by omega), w64_id (n := o - ((l.length : Int) - cT l) * d) (by omega), w64_id (n := o + cT l * u - ((l.length : Int) - cT l) * d) (by omega)]
  by_cases hlim : o + cT l * u > hi ∨ o - ((l.length : Int) - cT l) * d < lo
  · rw [br_pos (by simp only [Bool.or_eq_true, decide_eq_true_eq]; exact hlim)]
  ·
   rw [br_neg (by rw [← Bool.not_eq_true]; simp only [Bool.or_eq_true, decide_eq_true_eq]; exact hlim), LoopAfter_eq hM hN o u d lo hi (by rw [List.length_reverse]; omega), if_neg (by rw [he]; simp), if_neg (by rw [List.length_reverse]; omega)]
   have f1 := after_free hu.1 hd.1 l o (lo := lo) (hi := hi) (by omega) (by omega)
   have f2 := after_free hu.1 hd.1 l.reverse o (lo := lo) (hi := hi) (by rw [cT_rev]; omega) (by rw [cT_rev, List.length_reverse]; omega)
   rw [cT_rev, List.length_reverse] at f2
   simp only [u5]
   rw [f1, f2]
   simp
 | succ m =>
  have hml : m < l.length := hm
  have e1 : ((m + 1 : Nat) : Int) - 1 = (m : Int) := by omega
  have hcm := cT_ok (l.drop (m + 1))
  have hdl : (l.drop (m + 1)).length = l.length - (m + 1) := List.length_drop
  rw [e1]
  have hr := hrec (cT (l.drop m), (m : Int) - 1, (l.drop m).reverse) ⟨m, by omega, rfl⟩ (by simp only; omega)
  rw [List.drop_eq_getElem_cons hml] at hr
  simp only [cT, List.reverse_cons] at hr
  simp only [Int.toNat_natCast, getB hml]
  rw [br_pos (by simp), chk_pos (by omega), chk_pos (by simp only [List.length_reverse, List.length_cons, List.length_nil]; omega), chk_pos (by omega), w64_id (n := (m : Int) - 1) (by omega), w64_id (n := cT (l.drop (m + 1)) + 1) (by omega)]
  cases hb : l[m]
  ·
   rw [hb] at hr
   rw [br_neg rfl, ← hr]
   simp
  ·
   rw [hb] at hr
   rw [br_pos rfl, ← hr]
   simp only [if_true]
   rw [Int.add_comm 1]
end Go.Sh

/-
 The first test of each law of the scheduling chapter: fixed calls come to what they should.
-/
namespace Go.Sh
open Go.PW
set_option maxRecDepth 100000
theorem awake_true : law06_awake 5000 = some true := by
 repeat delta law06_awake u2 w8 base_Lists base_Lists.b1 base_Ints base_Ints.b1 ref06_SameAdmission ref06_SameAdmission.b1 base_Texts base_Texts.b1 sched_BestTurns sched_BestTurns.b1 q7 q8 sched_least sched_least.b1 slices_Min_ii slices_Min_ii.b1 sched_choices sched_caseErr sched_caseErr.b1 r9 n1 slices_IndexFunc_ii slices_IndexFunc_ii.b1 sched_SharesOf sched_fair sched_fair.b5 sched_fair.b4 w7 sched_fair.b3 sched_fair.b1 sched_divisor sched_divisor.b1 u1 sched_demandErr sched_demandErr.b1 sched_Run sched_Run.b8 sched_Run.b2 sched_Run.m129 sched_Run.b7 sched_Run.b5 t3 sched_Run.b4 sched_Run.b3 sched_Run.m1 sched_Run.b1 l0 sched_run_left sched_run_left.b1 sched_site_slotsErr sched_site_slotsErr.b1 n2 law06_Best sched_Admit sched_Admit.b1 sched_last sched_last.b1 w4 q6 sched_site_bearersErr sched_site_bearersErr.b1 q4 sched_site_room sched_site_room.b1 sched_named f8 slices_IndexFunc_api_SchedBearer_api_SchedBearer slices_IndexFunc_api_SchedBearer_api_SchedBearer.b1 w5 law06_Alarm sched_NeedOf o8 sched_ceil p8 u0 k4 m8 sched_isName sched_isName.b1 sched_open sched_CheckSite sched_CheckSite.b1 sched_first sched_first.b1 f5 g8 law06_Voice law06_Site r6 v8
 simp only [w64_eq, ByteArray.toList_eq]
 decide +kernel
end Go.Sh
