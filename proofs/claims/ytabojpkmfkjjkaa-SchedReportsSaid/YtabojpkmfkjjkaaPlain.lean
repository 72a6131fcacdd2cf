/-
 Plain words: loops that count up. For every program.
-/
import Derived.Test.YtabojpkmfkjjkaaPlA
import Derived.Test.YtabojpkmfkjjkaaSsS
import Derived.Laws.Strings
set_option linter.all false
namespace Go.PW
theorem w64_succ {k : Nat} (h : k < 4611686018427387904) : w64 ((k : Int) + 1) = ((k + 1 : Nat) : Int) := by rw [w64_id (by omega)]; rfl

theorem rds_up1 {R : Type} (len : Nat) (b : (Int → Option R) → Int → Option R) (F : Nat → Option R)
  (hstep : ∀ k rec, k < len → rec ((k + 1 : Nat) : Int) = F (k + 1) → b rec (k : Int) = F k) (hend : ∀ rec, b rec (len : Int) = F len)
  {N : Nat} (hN : len < N) : rds b N 0 = F 0 := by
 have h := rds_spec (b := b) (fun x => ∃ k : Nat, k ≤ len ∧ x = k) (fun x => len - x.toNat) (fun x => F x.toNat) (fun rec x hI hrec => ?_) N 0 ⟨0, Nat.zero_le _, rfl⟩ (by simp; omega)
 · simpa using h
 ·
  obtain ⟨k, hk, hx⟩ := hI
  subst hx
  by_cases hkl : k < len
  ·
   rw [hstep k rec hkl ?_]
   · simp
   ·
    have := hrec ((k + 1 : Nat) : Int) ⟨k + 1, hkl, rfl⟩ (by simp only [Int.toNat_natCast]; omega)
    simpa using this
  ·
   have : k = len := by omega
   subst this
   rw [hend rec]; simp
end Go.PW

/-
 Plain words: loops that build a list, that fold, that look for a wrong element. For every program.
-/
namespace Go.PW

theorem any_drop {α : Type} (bad : α → Bool) (l : List α) (d : α) (k : Nat) (h : k < l.length) : (l.drop k).any bad = (bad (l.getD k d) || (l.drop (k + 1)).any bad) := by
 rw [List.drop_eq_getElem_cons h, List.any_cons]; simp [List.getD_eq_getElem?_getD, h]
theorem rds_scan {α R : Type} (l : List α) (d : α) (bad : α → Bool) (e K : Option R) (b : (Int → Option R) → Int → Option R)
  (hstep : ∀ k rec, k < l.length → b rec (k : Int) = if bad (l.getD k d) = true then e else rec ((k + 1 : Nat) : Int)) (hend : ∀ rec, b rec (l.length : Int) = K)
  {N : Nat} (hN : l.length < N) : rds b N 0 = if l.any bad = true then e else K := by
 refine (rds_up1 l.length _ (fun k => if (l.drop k).any bad = true then e else K) (fun k rec hk hr => ?_) (fun rec => ?_) hN).trans (by simp)
 ·
  rw [hstep k rec hk, hr, any_drop bad l d k hk]
  cases bad (l.getD k d) <;> simp
 · rw [hend]; simp
end Go.PW

/-
 What the shallow functions of the scheduling chapter come to: sites, names, bearers and their errors.
-/
namespace Go.Sh
open Go.PW

abbrev Bearer := ByteArray × Int × Int × Int × Int × Int × Int × Int × Int
def inB (n lo hi : Int) : Bool := (decide (lo ≤ n)) && (decide (n ≤ hi))
theorem inB_true {n lo hi : Int} : inB n lo hi = true ↔ lo ≤ n ∧ n ≤ hi := by simp [inB]
theorem within_eq (N : Nat) (n lo hi : Int) : g9 N n lo hi = some (inB n lo hi) := rfl
theorem Within_eq (N : Nat) (n lo hi : Int) : k9 N n lo hi = some (inB n lo hi) := rfl
theorem unless_eq (N : Nat) (b : Bool) (e : Int) : f6 N b e = some (if b = true then 0 else e) := by cases b <;> rfl
def firstE : List Int → Int
 | [] => 0
 | x :: l => if x ≠ 0 then x else firstE l
theorem getD_of {α : Type} {l : List α} {k : Nat} (h : k < l.length) (d : α) : l.getD k d = l[k] := by simp [List.getD_eq_getElem?_getD, h]
theorem first_eq {N : Nat} (hM : N ≤ 20000) (l : List Int) (h : l.length < N) : sched_first N l = some (firstE l) := by
 unfold sched_first
 simp only [jn]
 refine (rds_up1 l.length _ (fun k => some (firstE (l.drop k))) (fun k rec hk hr => ?_) (fun rec => ?_) h).trans (by simp)
 ·
  simp only [sched_first.b1]
  rw [w7 (by simpa using hk), t1 (by omega), List.drop_eq_getElem_cons hk, firstE, w64_succ (by omega), hr, Int.toNat_natCast, getD_of hk]
  by_cases h0 : l[k] = 0 <;> simp [br, h0]
 · simp [sched_first.b1, br, firstE]

def tableErr : Int → List Int → Int
 | _, [] => 0
 | b, x :: l => if inB x 0 1000 = false then 2 else if x < b then 9 else tableErr x l
def siteErr (b c p : Int) (t : List Int) : Int :=
 if (inB b 1 20 && inB c 1 8 && inB p 0 100000) = false then 2 else if t.length = 0 then 10 else if (16 : Int) < t.length then 8 else tableErr 0 t
theorem CheckSite_eq {N : Nat} (hM : N ≤ 20000) (h4 : 16 < N) (b c p : Int) (t : List Int) : sched_CheckSite N b c p t = some (siteErr b c p t) := by
 unfold sched_CheckSite siteErr
 simp only [within_eq, j4, unless_eq]
 have hg : ∀ (x : Bool) (y : Bool), grd x false (some y) = some (x && y) := by intro x y; cases x <;> rfl
 simp only [hg, j4]
 rw [first_eq hM _ (by simp; omega)]
 simp only [j4, firstE]
 generalize hA : (inB b 1 20 && inB c 1 8 && inB p 0 100000) = A
 have hA' : (inB b 1 20 && (inB b 1 20 && inB c 1 8) && (inB b 1 20 && (inB b 1 20 && inB c 1 8) && inB p 0 100000)) = A := by
  rw [← hA]; cases inB b 1 20 <;> cases inB c 1 8 <;> simp
 have hA'' : (inB b 1 20 && (inB b 1 20 && inB c 1 8) && (inB b 1 20 && inB c 1 8 && inB p 0 100000)) = A := by
  rw [← hA]; cases inB b 1 20 <;> cases inB c 1 8 <;> simp
 first | rw [hA'] | rw [hA''] | skip
 cases A
 · simp [br, jn]
 ·
  simp only [if_true, ne_eq, not_true_eq_false, if_false, Bool.true_eq_false]
  by_cases h1 : t.length = 0
  · simp [br, h1]
  ·
   by_cases h2 : (16 : Int) < t.length
   · simp [br, h1, h2, show ¬ (t.length : Int) ≤ 16 by omega, show (0 : Int) < t.length by omega]
   ·
    rw [if_neg h1, if_neg h2]
    simp only [show decide ((t.length : Int) > 0) = true by simp; omega, show decide ((t.length : Int) ≤ 16) = true by simp; omega, if_true, ne_eq, not_true_eq_false, if_false, bne_self_eq_false, br_false, jn]
    refine (rds_spec (fun s : Int × Int => ∃ k : Nat, k ≤ t.length ∧ s.2 = (k : Int)) (fun s => t.length - s.2.toNat) (fun s => some (tableErr s.1 (t.drop s.2.toNat))) (fun rec s hI hrec => ?_) N ((0 : Int), (0 : Int)) ⟨0, Nat.zero_le _, rfl⟩ (by simp; omega)).trans (by simp)
    obtain ⟨k, hk, hs⟩ := hI
    obtain ⟨bf, i⟩ := s
    simp only at hs
    subst hs
    simp only [sched_CheckSite.b1, Int.toNat_natCast]
    by_cases hkl : k < t.length
    ·
     rw [w7 (by simpa using hkl), t1 (by omega), List.drop_eq_getElem_cons hkl, tableErr]
     simp only [within_eq, j4, unless_eq, Int.toNat_natCast, getD_of hkl]
     rw [first_eq hM _ (by simp; omega), w64_succ (by omega), hrec _ ⟨k + 1, hkl, rfl⟩ (by simp only [Int.toNat_natCast]; omega)]
     simp only [j4, firstE, Int.toNat_natCast]
     cases h3 : inB t[k] 0 1000
     · simp [br]
     ·
      by_cases h4 : t[k] < bf
      · simp [br, h4, show ¬ bf ≤ t[k] by omega]
      · simp [br, h4, show bf ≤ t[k] by omega]
    ·
     have : k = t.length := by omega
     subst this
     simp [br, tableErr]
theorem SiteErr_eq {N : Nat} (hM : N ≤ 20000) (h4 : 16 < N) (b c p : Int) (t : List Int) : ref06_SiteErr N b c p t = some (siteErr b c p t) := by
 unfold ref06_SiteErr siteErr
 simp only [Within_eq, j4]
 have hg : ∀ (x : Bool) (y : Bool), grd x false (some y) = some (x && y) := by intro x y; cases x <;> rfl
 simp only [hg, j4]
 cases h1 : inB b 1 20
 · simp [br]
 cases h2 : inB c 1 8
 · simp [br]
 cases h3 : inB p 0 100000
 · simp [br]
 simp only [Bool.true_and, Bool.not_true, Bool.or_false, Bool.not_false, Bool.and_true, br_false, Bool.and_self, Bool.true_eq_false, if_false, Bool.or_self]
 by_cases h5 : t.length = 0
 · simp [br, h5]
 rw [if_neg h5, q0 (by simpa using h5)]
 by_cases h6 : (16 : Int) < t.length
 · rw [if_pos h6, w7 (by simpa using h6)]
 rw [if_neg h6, q0 (by simpa using h6)]
 simp only [jn]
 refine (rds_up1 t.length _ (fun k => some (tableErr (if k = 0 then 0 else t.getD (k - 1) 0) (t.drop k))) (fun k rec hk hr => ?_) (fun rec => ?_) (show t.length < N by omega)).trans (by simp)
 ·
  simp only [ref06_SiteErr.b1, Int.toNat_natCast]
  rw [w7 (by simpa using hk), t1 (by omega), List.drop_eq_getElem_cons hk, tableErr]
  simp only [Within_eq, j4, Int.toNat_natCast, getD_of hk]
  rw [w64_succ (by omega), hr]
  cases h7 : inB t[k] 0 1000
  · simp [br]
  ·
   simp only [Bool.not_true, br_false, Bool.true_eq_false, if_false]
   rw [t1 (by intro _; omega)]
   by_cases hk0 : k = 0
   ·
    subst hk0
    rw [t1 (by intro h; simp at h)]
    have hpos : 0 ≤ t[0] := (inB_true.1 h7).1
    have hg0 : t[0]? = some t[0] := List.getElem?_eq_getElem hk
    simp [br, show ¬ t[0] < 0 by omega, hg0]
   ·
    rw [w64_id (by omega), t1 (by intro _; omega)]
    have e : ((k : Int) - 1).toNat = k - 1 := by omega
    rw [e, if_neg hk0]
    simp only [show decide ((k : Int) > 0) = true by simp; omega, Bool.true_and, Nat.add_eq_zero_iff, Nat.one_ne_zero, and_false, if_false, Nat.add_sub_cancel, getD_of hk]
    by_cases h8 : t[k] < t.getD (k - 1) 0
    · rw [w7 (by simpa using h8), if_pos h8]
    · rw [q0 (by simpa using h8), if_neg h8]
 · simp [ref06_SiteErr.b1, br, tableErr]
end Go.Sh

/-
 What the shallow functions of the scheduling chapter come to: names, and the errors of one bearer.
-/
namespace Go.Sh
open Go.PW

end Go.Sh

/-
 What the shallow functions of the scheduling chapter come to: quotients rounded up, needs, room, names of several bearers.
-/
namespace Go.Sh
open Go.PW

end Go.Sh

/-
 What the shallow functions of the scheduling chapter come to: the errors of bearers, room.
-/
namespace Go.Sh
open Go.PW

theorem Few_true {N : Nat} (hM : N ≤ 20000) (h4 : 24 < N) {b c p : Int} {t : List Int} {l : List Bearer} {r : Bool} (h : law06_Few N b c p t l = some r) : r = true → t.length ≤ 18 ∧ l.length ≤ 10 ∧ ∀ x ∈ l, x.1.size ≤ 20 := by
 unfold law06_Few at h
 intro hr
 subst hr
 by_cases h1 : (((decide ((t.length : Int) > (18 : Int))) || ((decide ((l.length : Int) > (6 : Int))) && (decide ((l.length : Int) < (8 : Int))))) || (decide ((l.length : Int) > (10 : Int)))) = true
 · rw [w7 h1] at h; simp at h
 ·
  rw [q0 (by simpa using h1)] at h
  have h1' : ¬ ((t.length : Int) > 18) ∧ ¬ ((l.length : Int) > 10) := by
   simp only [Bool.or_eq_true, Bool.and_eq_true, decide_eq_true_eq] at h1
   omega
  simp only [jn] at h
  rw [rds_scan l default (fun x => decide ((x.1.size : Int) > 20)) (some false) (some true) _ (fun k rec hk => ?_) (fun rec => ?_) (by omega)] at h
  ·
   refine ⟨by omega, by omega, fun x hx => ?_⟩
   by_cases h2 : (l.any fun x => decide ((x.1.size : Int) > 20)) = true
   · rw [if_pos h2] at h; simp at h
   ·
    rw [Bool.not_eq_true, List.any_eq_false] at h2
    have := h2 x hx
    simp only [decide_eq_true_eq] at this
    omega
  ·
   simp only [law06_Few.b1]
   rw [w7 (by simpa using hk), t1 (by omega), w64_succ (by omega)]
   simp only [Int.toNat_natCast]
   rfl
  ·
   simp only [law06_Few.b1]
   rw [q0 (by simp)]
theorem Few_some {N : Nat} (hM : N ≤ 20000) (h4 : 24 < N) (b c p : Int) (t : List Int) (l : List Bearer) : ∃ r, law06_Few N b c p t l = some r := by
 unfold law06_Few
 by_cases h1 : (((decide ((t.length : Int) > (18 : Int))) || ((decide ((l.length : Int) > (6 : Int))) && (decide ((l.length : Int) < (8 : Int))))) || (decide ((l.length : Int) > (10 : Int)))) = true
 · rw [w7 h1]; exact ⟨_, rfl⟩
 ·
  rw [q0 (by simpa using h1)]
  have h1' : ¬ ((l.length : Int) > 10) := by
   simp only [Bool.or_eq_true, Bool.and_eq_true, decide_eq_true_eq] at h1
   omega
  simp only [jn]
  rw [rds_scan l default (fun x => decide ((x.1.size : Int) > 20)) (some false) (some true) _ (fun k rec hk => ?_) (fun rec => ?_) (by omega)]
  ·
   by_cases h2 : (l.any fun x => decide ((x.1.size : Int) > 20)) = true
   · rw [if_pos h2]; exact ⟨_, rfl⟩
   · rw [if_neg h2]; exact ⟨_, rfl⟩
  ·
   simp only [law06_Few.b1]
   rw [w7 (by simpa using hk), t1 (by omega), w64_succ (by omega)]
   simp only [Int.toNat_natCast]
   rfl
  ·
   simp only [law06_Few.b1]
   rw [q0 (by simp)]
theorem Copy_eq (N : Nat) (b c p : Int) {t : List Int} (h : t.length ≤ 1000000) : ref06_Copy N b c p t = some (b, c, p, t) := by
 unfold ref06_Copy A7
 rw [t1 (by simp; omega)]; rfl
end Go.Sh

/-
 The laws of bearers and of delays, of contracts: what the shallow functions come to.
-/
namespace Go.Sh
open Go.PW

end Go.Sh

/-
 The law of delays: what the shallow functions come to.
-/
namespace Go.Sh
open Go.PW

end Go.Sh

/-
 The law of contracts: what the shallow functions come to.
-/
namespace Go.Sh
open Go.PW

end Go.Sh

/-
 Small cases: their errors, choices, and the least total of one.
-/
namespace Go.Sh
open Go.PW

end Go.Sh

/-
 The least total of a choice: totals, their least one, and what weights say about them.
-/
namespace Go.Sh
open Go.PW

structure VT (n m : Nat) (t : List Int) : Prop where
 len : t.length = n
 ok : ∀ x ∈ t, (0 : Int) ≤ x ∧ x < (m : Int)
theorem VT.get {n m : Nat} {t : List Int} (h : VT n m t) {k : Nat} (hk : k < n) : (0 : Int) ≤ t.getD k 0 ∧ t.getD k 0 < (m : Int) := by
 have hk' : k < t.length := by rw [h.len]; exact hk
 rw [getD_of hk']; exact h.ok _ (List.getElem_mem hk')
end Go.Sh

/-
 All choices of a small case, one behind the other, and the best one.
-/
namespace Go.PW
end Go.PW
namespace Go.Sh
open Go.PW

theorem VT.set {n m : Nat} {t : List Int} (v : VT n m t) {k : Nat} {x : Int} (hx : 0 ≤ x ∧ x < (m : Int)) : VT n m (t.set k x) := by
 refine ⟨by rw [List.length_set]; exact v.len, fun y hy => ?_⟩
 rcases List.mem_or_eq_of_mem_set hy with h | rfl
 · exact v.ok _ h
 · exact hx
end Go.Sh

/-
 A slot of a run, told as a function of the users.
-/
namespace Go.PW
end Go.PW
namespace Go.Sh
open Go.PW

abbrev U := ByteArray × Int × Int × Int × Int × Int × Int × Int × Int × Int × Int × Int × Int × Int
def uG (u : U) : Int := u.2.2.2.1
def uP (u : U) : Int := u.2.2.2.2.1
def uW (u : U) : Int := u.2.2.2.2.2.2.2.2.2.2.1
def uS (u : U) : Int := u.2.2.2.2.2.2.2.2.2.2.2.1
def uR (u : U) : Int := u.2.2.2.2.2.2.2.2.2.2.2.2.1
def uB (u : U) : Int := u.2.2.2.2.2.2.2.2.2.2.2.2.2
def takeU (u : U) : Int := if uB u * uR u < uW u then uB u * uR u else uW u
structure OkU (u : U) : Prop where
 b0 : 0 ≤ uB u
 b1 : uB u ≤ 1000000
 p0 : 0 ≤ uP u
 p1 : uP u ≤ 100000
 w0 : 0 ≤ uW u
 w1 : uW u ≤ 1000000000
 s0 : 0 ≤ uS u
 s1 : uS u ≤ 1000000000
 r0 : 0 ≤ uR u
 r1 : uR u ≤ 1000
 g0 : 1 ≤ uG u
 g1 : uG u ≤ 100
theorem OkU.prod {u : U} (h : OkU u) : (0 ≤ uB u * uR u ∧ uB u * uR u ≤ 1000000000) ∧ (0 ≤ uB u * uP u ∧ uB u * uP u ≤ 100000000000) :=
 ⟨⟨Int.mul_nonneg h.b0 h.r0, Int.le_trans (Int.mul_le_mul h.b1 h.r1 h.r0 (by omega)) (by omega)⟩, ⟨Int.mul_nonneg h.b0 h.p0, Int.le_trans (Int.mul_le_mul h.b1 h.p1 h.p0 (by omega)) (by omega)⟩⟩
theorem OkU.take {u : U} (h : OkU u) : 0 ≤ takeU u ∧ takeU u ≤ uW u := by
 have := h.prod; have := h.w0
 unfold takeU; split <;> omega
end Go.Sh

/-
 A slot of a run: the blocks are given, and the rest of them is told.
-/
namespace Go.Sh
open Go.PW

end Go.Sh

/-
 Runs: their errors, the users at the beginning, and behind each slot.
-/
namespace Go.Sh
open Go.PW

theorem isReport_eq (N : Nat) {b c p : Int} {T : List Int} (hT : T.length < 1000000) (n : Int) : j8 N b c p T n = some (inB n 0 ((T.length : Int) - 1)) := by
 unfold j8
 rw [w64_id (by omega), within_eq]; rfl
theorem IsReport_eq (N : Nat) {b c p : Int} {T : List Int} (hT : T.length < 1000000) (n : Int) : u6 N b c p T n = some (inB n 0 ((T.length : Int) - 1)) := by
 unfold u6
 rw [w64_id (by omega), Within_eq]; rfl
end Go.Sh

/-
 Loops: acknowledgements move an offset.
-/
namespace Go.Sh
open Go.PW

def loopE (o u d lo hi : Int) : Int :=
 if (((inB u 0 200 && inB d 0 200) && inB lo (-200) 200) && inB hi (-200) 200) = false then 2 else if lo > hi then 9 else if inB o lo hi = false then 2 else 0
theorem loopE_zero {o u d lo hi : Int} (h : loopE o u d lo hi = 0) : (0 ≤ u ∧ u ≤ 200) ∧ (0 ≤ d ∧ d ≤ 200) ∧ (-200 ≤ lo ∧ lo ≤ o) ∧ (o ≤ hi ∧ hi ≤ 200) := by
 unfold loopE at h
 split at h
 · exact absurd h (by decide)
 ·
  rename_i h1
  split at h
  · exact absurd h (by decide)
  ·
   split at h
   · exact absurd h (by decide)
   ·
    rename_i h2
    simp only [Bool.not_eq_false, Bool.and_eq_true, inB_true] at h1 h2
    omega
theorem loopErr_eq {N : Nat} (hM : N ≤ 20000) (hN : 16 < N) (o u d lo hi : Int) : t4 N o u d lo hi = some (loopE o u d lo hi) := by
 unfold t4 s8 s7
 simp only [within_eq, j4, unless_eq]
 have e : ∀ b : Bool, (grd b false (some (inB d 0 200))) = some (b && inB d 0 200) := fun b => by cases b <;> rfl
 have e2 : ∀ b : Bool, (grd b false (some (inB lo (-200) 200))) = some (b && inB lo (-200) 200) := fun b => by cases b <;> rfl
 have e3 : ∀ b : Bool, (grd b false (some (inB hi (-200) 200))) = some (b && inB hi (-200) 200) := fun b => by cases b <;> rfl
 simp only [e, j4]
 have k1 : (inB u 0 200 && (inB u 0 200 && inB d 0 200)) = (inB u 0 200 && inB d 0 200) := by cases inB u 0 200 <;> rfl
 simp only [k1, e2, j4]
 have k2 : ((inB u 0 200 && inB d 0 200) && ((inB u 0 200 && inB d 0 200) && inB lo (-200) 200)) = ((inB u 0 200 && inB d 0 200) && inB lo (-200) 200) := by cases (inB u 0 200 && inB d 0 200) <;> rfl
 simp only [k2, e3, j4]
 have k3 : (((inB u 0 200 && inB d 0 200) && inB lo (-200) 200) && (((inB u 0 200 && inB d 0 200) && inB lo (-200) 200) && inB hi (-200) 200)) = (((inB u 0 200 && inB d 0 200) && inB lo (-200) 200) && inB hi (-200) 200) := by cases ((inB u 0 200 && inB d 0 200) && inB lo (-200) 200) <;> rfl
 simp only [k3]
 rw [first_eq hM _ (by simp; omega), j4]
 unfold loopE
 congr 1
 by_cases hle : lo ≤ hi
 ·
  rw [show decide (lo ≤ hi) = true from by simpa using hle, if_neg (show ¬ lo > hi by omega)]
  cases (((inB u 0 200 && inB d 0 200) && inB lo (-200) 200) && inB hi (-200) 200) <;> cases inB o lo hi <;> rfl
 ·
  rw [show decide (lo ≤ hi) = false from by simpa using hle, if_pos (show lo > hi by omega)]
  cases (((inB u 0 200 && inB d 0 200) && inB lo (-200) 200) && inB hi (-200) 200) <;> rfl
theorem LoopErr_eq (N : Nat) (o u d lo hi : Int) : A0 N o u d lo hi = some (loopE o u d lo hi) := by
 unfold A0 loopE
 have e0 : w64 (0 - (200 : Int)) = -200 := by rw [w64_id (by omega)]; rfl
 simp only [Within_eq, j4, e0]
 cases inB u 0 200
 · rfl
 cases inB d 0 200
 · rfl
 cases inB lo (-200) 200
 · rfl
 cases inB hi (-200) 200
 · rfl
 simp only [grd_true, j4, Bool.not_true, Bool.or_false, Bool.and_true, Bool.not_false, Bool.true_eq_false, if_false]
 rw [q0 (by rfl)]
 by_cases h : lo > hi
 · rw [w7 (by simpa using h), if_pos h]
 ·
  rw [q0 (by simpa using h), if_neg h]
  cases inB o lo hi <;> rfl

def stepA (u d lo hi b : Int) (a : Bool) : Int := if a = true then (if hi < b + u then hi else b + u) else (if b - d < lo then lo else b - d)
def afterA (u d lo hi : Int) (l : List Bool) (b : Int) : Int := l.foldl (stepA u d lo hi) b
theorem stepA_ok {u d lo hi b : Int} (hu : 0 ≤ u) (hd : 0 ≤ d) (h : lo ≤ b ∧ b ≤ hi) (a : Bool) : lo ≤ stepA u d lo hi b a ∧ stepA u d lo hi b a ≤ hi := by
 unfold stepA; split <;> split <;> omega
theorem getB {l : List Bool} {k : Nat} (h : k < l.length) : l.getD k default = l[k] := by simp [List.getD_eq_getElem?_getD, h]
theorem LoopAfter_eq {N : Nat} (hM : N ≤ 20000) (hN : 1100 < N) (o u d lo hi : Int) {l : List Bool} (hl : l.length ≤ 1100) : sched_LoopAfter N o u d lo hi l =
  some (if loopE o u d lo hi ≠ 0 then (0, 0, 0, 0, 0, loopE o u d lo hi) else if 1000 < l.length then (0, 0, 0, 0, 0, 8) else (afterA u d lo hi l o, u, d, lo, hi, 0)) := by
 unfold sched_LoopAfter
 rw [loopErr_eq hM (by omega), j4, unless_eq, j4, first_eq hM _ (by simp; omega), j4]
 by_cases he : loopE o u d lo hi ≠ 0
 ·
  have e : ∀ z, firstE [loopE o u d lo hi, z] = loopE o u d lo hi := fun z => by simp [firstE, he]
  rw [e, w7 (by rw [bne_iff_ne]; exact he), if_pos he]
 ·
  have he := Classical.not_not.1 he
  by_cases h1 : 1000 < l.length
  · rw [show decide ((l.length : Int) ≤ 1000) = false from by rw [decide_eq_false_iff_not]; omega, if_pos h1, he]; rfl
  ·
   rw [show decide ((l.length : Int) ≤ 1000) = true from by rw [decide_eq_true_eq]; omega, if_neg h1, he, if_neg (show ¬ ((0 : Int) ≠ 0) by simp)]
   obtain ⟨hu, hd, hlo, hhi⟩ := loopE_zero he
   rw [q0 (by rfl)]
   simp only [jn]
   refine (rds_spec (fun s : Int × Int => ∃ k : Nat, k ≤ l.length ∧ s.1 = (k : Int) ∧ lo ≤ s.2 ∧ s.2 ≤ hi) (fun s => l.length - s.1.toNat) (fun s => some (afterA u d lo hi (l.drop s.1.toNat) s.2, u, d, lo, hi, (0 : Int))) (fun rec s hI hrec => ?_) N _ ⟨0, Nat.zero_le _, rfl, by omega, by omega⟩ (by simp; omega)).trans (by simp)
   obtain ⟨t, b⟩ := s
   obtain ⟨k, hk, hkk, hb1, hb2⟩ := hI
   simp only at hkk hb1 hb2 ⊢
   subst hkk
   simp only [sched_LoopAfter.b1, Int.toNat_natCast] at *
   by_cases hkl : k < l.length
   ·
    have hst := stepA_ok hu.1 hd.1 ⟨hb1, hb2⟩ l[k]
    have hr := hrec (((k + 1 : Nat) : Int), stepA u d lo hi b l[k]) ⟨k + 1, hkl, rfl, hst⟩ (by simp only [Int.toNat_natCast]; omega)
    simp only [Int.toNat_natCast] at hr
    rw [w7 (by simpa using hkl), t1 (by omega), getB hkl, w64_succ (by omega), w64_id (n := b + u) (by omega), w64_id (n := b - d) (by omega), List.drop_eq_getElem_cons hkl]
    show _ = some (afterA u d lo hi (l.drop (k + 1)) (stepA u d lo hi b l[k]), u, d, lo, hi, 0)
    rw [← hr]
    unfold stepA
    cases l[k] <;> rfl
   ·
    have : k = l.length := by omega
    subst this
    rw [q0 (by simp), List.drop_length]
    rfl
theorem refLoopAfter_eq {N : Nat} (hN : 1100 < N) {o u d lo hi : Int} (he : loopE o u d lo hi = 0) {l : List Bool} (hl : l.length ≤ 1100) : ref06_LoopAfter N o u d lo hi l = some (afterA u d lo hi l o, u, d, lo, hi) := by
 obtain ⟨hu, hd, hlo, hhi⟩ := loopE_zero he
 unfold ref06_LoopAfter
 simp only [jn]
 refine (rds_spec (fun s : Int × Int => ∃ k : Nat, k ≤ l.length ∧ s.1 = (k : Int) ∧ lo ≤ s.2 ∧ s.2 ≤ hi) (fun s => l.length - s.1.toNat) (fun s => some (afterA u d lo hi (l.drop s.1.toNat) s.2, u, d, lo, hi)) (fun rec s hI hrec => ?_) N _ ⟨0, Nat.zero_le _, rfl, by omega, by omega⟩ (by simp; omega)).trans (by simp)
 obtain ⟨t, b⟩ := s
 obtain ⟨k, hk, hkk, hb1, hb2⟩ := hI
 simp only at hkk hb1 hb2 ⊢
 subst hkk
 simp only [ref06_LoopAfter.b1, Int.toNat_natCast] at *
 by_cases hkl : k < l.length
 ·
  have hst := stepA_ok hu.1 hd.1 ⟨hb1, hb2⟩ l[k]
  have hr := hrec (((k + 1 : Nat) : Int), stepA u d lo hi b l[k]) ⟨k + 1, hkl, rfl, hst⟩ (by simp only [Int.toNat_natCast]; omega)
  simp only [Int.toNat_natCast] at hr
  rw [w7 (by simpa using hkl), t1 (by omega), getB hkl, w64_succ (by omega), w64_id (n := b + u) (by omega), w64_id (n := b - d) (by omega), List.drop_eq_getElem_cons hkl]
  show _ = some (afterA u d lo hi (l.drop (k + 1)) (stepA u d lo hi b l[k]), u, d, lo, hi)
  rw [← hr]
  have e1 : (if b + u < hi then b + u else hi) = if hi < b + u then hi else b + u := by split <;> split <;> omega
  have e2 : (if lo < b - d then b - d else lo) = if b - d < lo then lo else b - d := by split <;> split <;> omega
  rw [e1, e2]
  unfold stepA
  cases l[k] <;> rfl
 ·
  have : k = l.length := by omega
  subst this
  rw [q0 (by simp), List.drop_length]
  rfl
end Go.Sh

/-
 Reports: rates, reports as a loop corrects them.
-/
namespace Go.Sh
open Go.PW

theorem jn_at {τ α : Type} {k : τ → Option α} {b : (τ → Option α) → Option α} {v : Option α} (x : τ) (hk : k x = v) (hb : ∀ K : τ → Option α, K x = v → b K = v) : jn k b = v := hb k hk
def floorT (o : Int) : Int := if o.tmod 10 < 0 then o.tdiv 10 - 1 else o.tdiv 10
theorem tdiv_ok {o : Int} (h : -200 ≤ o ∧ o ≤ 200) : -20 ≤ o.tdiv 10 ∧ o.tdiv 10 ≤ 20 := by
 have h1 := Int.mul_tdiv_add_tmod o 10
 have h2 : o.tmod 10 < 10 := Int.tmod_lt_of_pos _ (by omega)
 have h3 : -10 < o.tmod 10 := by
  have := Int.neg_tmod o 10
  have h4 : (-o).tmod 10 < 10 := Int.tmod_lt_of_pos _ (by omega)
  omega
 omega
def clampT (r f : Int) : Int := if 15 < (if 0 < r + f then r + f else 0) then 15 else (if 0 < r + f then r + f else 0)
theorem Floor10_eq (N : Nat) {o : Int} (h : -200 ≤ o ∧ o ≤ 200) : base_Floor N o 10 = some (floorT o) := by
 have := tdiv_ok h
 unfold base_Floor floorT
 rw [t1 (by decide), t1 (by decide), w64_id (n := o.tdiv 10) (by omega), w64_id (n := o.tdiv 10 - 1) (by omega)]
 by_cases h1 : o.tmod 10 < 0
 · rw [w7 (by simpa using h1), if_pos h1]
 · rw [q0 (by simpa using h1), if_neg h1]
theorem refAdapted_eq (N : Nat) {o : Int} (u d lo hi : Int) (h : -200 ≤ o ∧ o ≤ 200) {r : Int} (hr : 0 ≤ r ∧ r ≤ 15) : A1 N o u d lo hi r = some (clampT r (floorT o)) := by
 have ht := tdiv_ok h
 unfold A1
 rw [Floor10_eq N h, j4]
 have hf : -21 ≤ floorT o ∧ floorT o ≤ 20 := by unfold floorT; split <;> omega
 rw [w64_id (by omega)]
 unfold clampT
 congr 1
 generalize r + floorT o = q
 by_cases h1 : q < 15
 ·
  rw [if_pos h1]
  by_cases h2 : 0 < q
  · rw [if_pos h2, if_neg (by omega)]
  · rw [if_neg h2, if_neg (by omega)]
 ·
  rw [if_neg h1, if_pos (by decide), if_pos (show 0 < q by omega)]
  split <;> omega
theorem Adapted_eq {N : Nat} (hM : N ≤ 20000) (hN : 16 < N) (o u d lo hi r : Int) : z8 N o u d lo hi r =
  some (if loopE o u d lo hi ≠ 0 then (0, loopE o u d lo hi) else if inB r 0 15 = false then (0, 2) else (clampT r (floorT o), 0)) := by
 unfold z8
 rw [loopErr_eq hM hN, j4, within_eq, j4, unless_eq, j4, first_eq hM _ (by simp; omega), j4]
 by_cases he : loopE o u d lo hi ≠ 0
 ·
  have e : ∀ z, firstE [loopE o u d lo hi, z] = loopE o u d lo hi := fun z => by simp [firstE, he]
  rw [e, w7 (by rw [bne_iff_ne]; exact he), if_pos he]
 ·
  have he := Classical.not_not.1 he
  obtain ⟨hu, hd, hlo, hhi⟩ := loopE_zero he
  rw [he, if_neg (show ¬ ((0 : Int) ≠ 0) by simp)]
  cases hi' : inB r 0 15
  · rfl
  ·
   rw [inB_true] at hi'
   have ht := tdiv_ok (o := o) (by omega)
   rw [q0 (by rfl), if_neg (show ¬ (true = false) by decide), w64_id (n := o.tdiv 10) (by omega), w64_id (n := o.tdiv 10 - 1) (by omega), w64_id (n := r + o.tdiv 10) (by omega), w64_id (n := r + (o.tdiv 10 - 1)) (by omega)]
   unfold floorT clampT
   by_cases h1 : o.tmod 10 < 0
   · rw [w7 (by simpa using h1), if_pos h1]
   · rw [q0 (by simpa using h1), if_neg h1]
def w9 (b c p : Int) (T : List Int) (r : Int) : Int := if siteErr b c p T ≠ 0 then siteErr b c p T else if inB r 0 ((T.length : Int) - 1) = false then 2 else 0
theorem RateOf_eq {N : Nat} (hM : N ≤ 20000) (hN : 16 < N) (b c p : Int) {T : List Int} (hT : T.length < 1000000) (r : Int) : sched_RateOf N b c p T r =
  some (if w9 b c p T r ≠ 0 then (0, w9 b c p T r) else (T.getD r.toNat 0, 0)) := by
 unfold sched_RateOf sched_open
 rw [CheckSite_eq hM hN, j4]
 simp only [j4]
 rw [isReport_eq N hT, j4, unless_eq, j4, first_eq hM _ (by simp; omega), j4]
 unfold w9
 by_cases he : siteErr b c p T ≠ 0
 ·
  have e : ∀ z, firstE [siteErr b c p T, z] = siteErr b c p T := fun z => by simp [firstE, he]
  rw [e, w7 (by rw [bne_iff_ne]; exact he), if_pos he, if_pos he]
 ·
  have he := Classical.not_not.1 he
  rw [he, if_neg (show ¬ ((0 : Int) ≠ 0) by simp)]
  cases hi : inB r 0 ((T.length : Int) - 1)
  · rfl
  ·
   rw [inB_true] at hi
   rw [q0 (by rfl), t1 (by omega)]
   rfl
theorem law_SchedReports {N : Nat} (hM : N ≤ 20000) (hN : 1100 < N) (hA : law06_awake N = some true) (b c p : Int) (T : List Int) (o u d lo hi r : Int) (l : List Bool) : s5 N b c p T o u d lo hi r l = some true := by
 unfold s5
 rw [hA]
 simp only [j4, Bool.not_true, br_false]
 obtain ⟨q, hq⟩ := Few_some hM (by omega) b c p T []
 have hF := Few_true hM (by omega) hq
 rw [hq, j4]
 cases q
 · rfl
 obtain ⟨f1, _, _⟩ := hF rfl
 by_cases hl : ((!true || (decide ((l.length : Int) > 30) && decide ((l.length : Int) ≤ 1000))) || decide ((l.length : Int) > 1002)) = true
 · rw [w7 hl]
 rw [q0 (by rw [Bool.not_eq_true] at hl; exact hl)]
 have hl2 : l.length ≤ 1002 := by
  simp only [Bool.not_true, Bool.false_or, Bool.or_eq_true, decide_eq_true_eq, not_or] at hl
  omega
 rw [Copy_eq N b c p (by omega)]
 simp only [j4]
 rw [CheckSite_eq hM (by omega), j4, RateOf_eq hM (by omega) b c p (by omega), SiteErr_eq hM (by omega)]
 simp only [j4]
 rw [q0 (by simp), IsReport_eq N (by omega)]
 have key : ∀ (tl : Option Bool), tl = some true → (chk ((((!((w9 b c p T r != (0 : Int)) && (((if w9 b c p T r ≠ 0 then ((0 : Int), w9 b c p T r) else (T.getD r.toNat 0, 0)).2 != w9 b c p T r) || ((if w9 b c p T r ≠ 0 then ((0 : Int), w9 b c p T r) else (T.getD r.toNat 0, 0)).1 != (0 : Int))))) && (w9 b c p T r == (0 : Int))) && (!((if w9 b c p T r ≠ 0 then ((0 : Int), w9 b c p T r) else (T.getD r.toNat 0, 0)).2 != (0 : Int)))) = true → 0 ≤ r ∧ r < (T.length : Int)) <|
   br (((w9 b c p T r != (0 : Int)) && (((if w9 b c p T r ≠ 0 then ((0 : Int), w9 b c p T r) else (T.getD r.toNat 0, 0)).2 != w9 b c p T r) || ((if w9 b c p T r ≠ 0 then ((0 : Int), w9 b c p T r) else (T.getD r.toNat 0, 0)).1 != (0 : Int)))) || ((w9 b c p T r == (0 : Int)) && (((if w9 b c p T r ≠ 0 then ((0 : Int), w9 b c p T r) else (T.getD r.toNat 0, 0)).2 != (0 : Int)) || ((if w9 b c p T r ≠ 0 then ((0 : Int), w9 b c p T r) else (T.getD r.toNat 0, 0)).1 != T.getD r.toNat 0)))) (some false) tl) = some true := by
  intro tl htl
  subst htl
  by_cases h : w9 b c p T r = 0
  ·
   have hr : 0 ≤ r ∧ r < (T.length : Int) := by
    unfold w9 at h
    by_cases h1 : siteErr b c p T ≠ 0
    · rw [if_pos h1] at h; exact absurd h h1
    ·
     rw [if_neg h1] at h
     cases h2 : inB r 0 ((T.length : Int) - 1)
     · rw [h2] at h; exact absurd h (by decide)
     · rw [inB_true] at h2; omega
   rw [t1 fun _ => hr, if_neg (fun g => g h), h]
   exact q0 (by simp) _ _
  ·
   rw [if_pos h, t1 (fun g => by simp [h] at g)]
   exact q0 (by simp [h]) _ _
 refine jn_at (w9 b c p T r) ?_ (fun K hK => ?_)
 ·
  refine key _ ?_
  rw [Adapted_eq hM (by omega), LoopAfter_eq hM hN o u d lo hi (by omega), LoopErr_eq]
  simp only [j4]
  rw [t1 (by omega)]
  by_cases he : loopE o u d lo hi ≠ 0
  ·
   rw [if_pos he, if_pos he, w7 (by rw [bne_iff_ne]; exact he)]
   simp
  ·
   have he := Classical.not_not.1 he
   obtain ⟨hu, hd, hlo, hhi⟩ := loopE_zero he
   rw [he, if_neg (show ¬ ((0 : Int) ≠ 0) by simp), if_neg (show ¬ ((0 : Int) ≠ 0) by simp), q0 (by rfl)]
   refine jn_at () ?_ (fun K1 hK1 => ?_)
   ·
    rw [Within_eq, j4]
    cases h15 : inB r 0 15
    · rfl
    ·
     rw [refAdapted_eq N u d lo hi (by omega) (inB_true.1 h15)]
     rw [if_neg (show ¬ (true = false) by decide), q0 (by rfl)]
     simp
   ·
    by_cases h1 : 1000 < l.length
    ·
     rw [w7 (by simp only [decide_eq_true_eq]; omega), if_pos h1, q0 (by rfl)]
     exact hK1
    ·
     rw [q0 (by simp only [decide_eq_false_iff_not]; omega), if_neg h1, refLoopAfter_eq hN he (by omega)]
     simp only [bne_self_eq_false, Bool.not_false, grd_true, j4]
     rw [q0 (by simp)]
     exact hK1
 ·
  by_cases he : siteErr b c p T ≠ 0
  ·
   have e : w9 b c p T r = siteErr b c p T := by unfold w9; rw [if_pos he]
   rw [show (siteErr b c p T == (0 : Int)) = false from by rw [beq_eq_false_iff_ne]; exact he, grd_false, j4, q0 (by rfl), ← e]
   exact hK
  ·
   have he := Classical.not_not.1 he
   have e : w9 b c p T r = if inB r 0 ((T.length : Int) - 1) = false then 2 else 0 := by unfold w9; rw [he, if_neg (by simp)]
   rw [e] at hK
   rw [he, show ((0 : Int) == 0) = true from rfl, grd_true, j4]
   cases h2 : inB r 0 ((T.length : Int) - 1)
   · rw [h2] at hK; exact hK
   · rw [h2] at hK; exact hK
end Go.Sh

/-
 The first test of each law of the scheduling chapter: fixed calls come to what they should.
-/
namespace Go.Sh
open Go.PW
set_option maxRecDepth 100000
theorem awake_true : law06_awake 5000 = some true := by
 repeat delta law06_awake v7 z9 base_Lists base_Lists.b1 base_Ints base_Ints.b1 ref06_SameAdmission ref06_SameAdmission.b1 base_Texts base_Texts.b1 sched_BestTurns sched_BestTurns.b1 r6 r7 sched_least sched_least.b1 slices_Min_ii slices_Min_ii.b1 sched_choices sched_caseErr sched_caseErr.b1 s9 n5 slices_IndexFunc_ii slices_IndexFunc_ii.b1 sched_SharesOf sched_fair sched_fair.b5 sched_fair.b4 z7 sched_fair.b3 sched_fair.b1 sched_divisor sched_divisor.b1 v6 sched_demandErr sched_demandErr.b1 sched_Run sched_Run.b8 sched_Run.b2 sched_Run.m129 sched_Run.b7 sched_Run.b5 u5 sched_Run.b4 sched_Run.b3 sched_Run.m1 sched_Run.b1 m7 sched_run_left sched_run_left.b1 sched_site_slotsErr sched_site_slotsErr.b1 n6 law06_Best sched_Admit sched_Admit.b1 sched_last sched_last.b1 z5 r5 sched_site_bearersErr sched_site_bearersErr.b1 q9 sched_site_room sched_site_room.b1 sched_named f9 slices_IndexFunc_api_SchedBearer_api_SchedBearer slices_IndexFunc_api_SchedBearer_api_SchedBearer.b1 z6 law06_Alarm sched_NeedOf p6 sched_ceil q6 v5 l4 j8 sched_isName sched_isName.b1 sched_open sched_CheckSite sched_CheckSite.b1 sched_first sched_first.b1 f6 g9 law06_Voice law06_Site s6 z3
 simp only [w64_eq, ByteArray.toList_eq]
 decide +kernel
end Go.Sh
