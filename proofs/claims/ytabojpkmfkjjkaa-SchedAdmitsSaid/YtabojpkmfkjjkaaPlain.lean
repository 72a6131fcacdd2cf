/-
 Plain words: loops that count up. For every program.
-/
import Derived.Test.YtabojpkmfkjjkaaPlA
import Derived.Test.YtabojpkmfkjjkaaSsS
import Derived.Laws.Strings
set_option linter.all false
namespace Go.PW
theorem w64_succ {k : Nat} (h : k < 4611686018427387904) : w64 ((k : Int) + 1) = ((k + 1 : Nat) : Int) := by rw [w64_id (by omega)]; rfl

theorem rds_up1 {R : Type} (len : Nat) (b : (Int → Option R) → Int → Option R) (F : Nat → Option R)
  (hstep : ∀ k rec, k < len → rec ((k + 1 : Nat) : Int) = F (k + 1) → b rec (k : Int) = F k) (hend : ∀ rec, b rec (len : Int) = F len)
  {N : Nat} (hN : len < N) : rds b N 0 = F 0 := by
 have h := rds_spec (b := b) (fun x => ∃ k : Nat, k ≤ len ∧ x = k) (fun x => len - x.toNat) (fun x => F x.toNat) (fun rec x hI hrec => ?_) N 0 ⟨0, Nat.zero_le _, rfl⟩ (by simp; omega)
 · simpa using h
 ·
  obtain ⟨k, hk, hx⟩ := hI
  subst hx
  by_cases hkl : k < len
  ·
   rw [hstep k rec hkl ?_]
   · simp
   ·
    have := hrec ((k + 1 : Nat) : Int) ⟨k + 1, hkl, rfl⟩ (by simp only [Int.toNat_natCast]; omega)
    simpa using this
  ·
   have : k = len := by omega
   subst this
   rw [hend rec]; simp
end Go.PW

/-
 Plain words: loops that build a list, that fold, that look for a wrong element. For every program.
-/
namespace Go.PW

theorem any_drop {α : Type} (bad : α → Bool) (l : List α) (d : α) (k : Nat) (h : k < l.length) : (l.drop k).any bad = (bad (l.getD k d) || (l.drop (k + 1)).any bad) := by
 rw [List.drop_eq_getElem_cons h, List.any_cons]; simp [List.getD_eq_getElem?_getD, h]
theorem rds_scan {α R : Type} (l : List α) (d : α) (bad : α → Bool) (e K : Option R) (b : (Int → Option R) → Int → Option R)
  (hstep : ∀ k rec, k < l.length → b rec (k : Int) = if bad (l.getD k d) = true then e else rec ((k + 1 : Nat) : Int)) (hend : ∀ rec, b rec (l.length : Int) = K)
  {N : Nat} (hN : l.length < N) : rds b N 0 = if l.any bad = true then e else K := by
 refine (rds_up1 l.length _ (fun k => if (l.drop k).any bad = true then e else K) (fun k rec hk hr => ?_) (fun rec => ?_) hN).trans (by simp)
 ·
  rw [hstep k rec hk, hr, any_drop bad l d k hk]
  cases bad (l.getD k d) <;> simp
 · rw [hend]; simp
end Go.PW

/-
 What the shallow functions of the scheduling chapter come to: sites, names, bearers and their errors.
-/
namespace Go.Sh
open Go.PW

abbrev Bearer := ByteArray × Int × Int × Int × Int × Int × Int × Int × Int
def inB (n lo hi : Int) : Bool := (decide (lo ≤ n)) && (decide (n ≤ hi))
theorem inB_true {n lo hi : Int} : inB n lo hi = true ↔ lo ≤ n ∧ n ≤ hi := by simp [inB]
theorem within_eq (N : Nat) (n lo hi : Int) : sched_within N n lo hi = some (inB n lo hi) := rfl
theorem Within_eq (N : Nat) (n lo hi : Int) : base_Within N n lo hi = some (inB n lo hi) := rfl
theorem unless_eq (N : Nat) (b : Bool) (e : Int) : sched_unless N b e = some (if b = true then 0 else e) := by cases b <;> rfl
def firstE : List Int → Int
 | [] => 0
 | x :: l => if x ≠ 0 then x else firstE l
theorem getD_of {α : Type} {l : List α} {k : Nat} (h : k < l.length) (d : α) : l.getD k d = l[k] := by simp [List.getD_eq_getElem?_getD, h]
theorem first_eq {N : Nat} (hM : N ≤ 20000) (l : List Int) (h : l.length < N) : sched_first N l = some (firstE l) := by
 unfold sched_first
 simp only [jn]
 refine (rds_up1 l.length _ (fun k => some (firstE (l.drop k))) (fun k rec hk hr => ?_) (fun rec => ?_) h).trans (by simp)
 ·
  simp only [sched_first.b1]
  rw [br_pos (by simpa using hk), chk_pos (by omega), List.drop_eq_getElem_cons hk, firstE, w64_succ (by omega), hr, Int.toNat_natCast, getD_of hk]
  by_cases h0 : l[k] = 0 <;> simp [br, h0]
 · simp [sched_first.b1, br, firstE]

def tableErr : Int → List Int → Int
 | _, [] => 0
 | b, x :: l => if inB x 0 1000 = false then 2 else if x < b then 9 else tableErr x l
def siteErr (b c p : Int) (t : List Int) : Int :=
 if (inB b 1 20 && inB c 1 8 && inB p 0 100000) = false then 2 else if t.length = 0 then 10 else if (16 : Int) < t.length then 8 else tableErr 0 t
theorem CheckSite_eq {N : Nat} (hM : N ≤ 20000) (h4 : 16 < N) (b c p : Int) (t : List Int) : sched_CheckSite N b c p t = some (siteErr b c p t) := by
 unfold sched_CheckSite siteErr
 simp only [within_eq, bnd_val, unless_eq]
 have hg : ∀ (x : Bool) (y : Bool), grd x false (some y) = some (x && y) := by intro x y; cases x <;> rfl
 simp only [hg, bnd_val]
 rw [first_eq hM _ (by simp; omega)]
 simp only [bnd_val, firstE]
 generalize hA : (inB b 1 20 && inB c 1 8 && inB p 0 100000) = A
 have hA' : (inB b 1 20 && (inB b 1 20 && inB c 1 8) && (inB b 1 20 && (inB b 1 20 && inB c 1 8) && inB p 0 100000)) = A := by
  rw [← hA]; cases inB b 1 20 <;> cases inB c 1 8 <;> simp
 have hA'' : (inB b 1 20 && (inB b 1 20 && inB c 1 8) && (inB b 1 20 && inB c 1 8 && inB p 0 100000)) = A := by
  rw [← hA]; cases inB b 1 20 <;> cases inB c 1 8 <;> simp
 first | rw [hA'] | rw [hA''] | skip
 cases A
 · simp [br, jn]
 ·
  simp only [if_true, ne_eq, not_true_eq_false, if_false, Bool.true_eq_false]
  by_cases h1 : t.length = 0
  · simp [br, h1]
  ·
   by_cases h2 : (16 : Int) < t.length
   · simp [br, h1, h2, show ¬ (t.length : Int) ≤ 16 by omega, show (0 : Int) < t.length by omega]
   ·
    rw [if_neg h1, if_neg h2]
    simp only [show decide ((t.length : Int) > 0) = true by simp; omega, show decide ((t.length : Int) ≤ 16) = true by simp; omega, if_true, ne_eq, not_true_eq_false, if_false, bne_self_eq_false, br_false, jn]
    refine (rds_spec (fun s : Int × Int => ∃ k : Nat, k ≤ t.length ∧ s.2 = (k : Int)) (fun s => t.length - s.2.toNat) (fun s => some (tableErr s.1 (t.drop s.2.toNat))) (fun rec s hI hrec => ?_) N ((0 : Int), (0 : Int)) ⟨0, Nat.zero_le _, rfl⟩ (by simp; omega)).trans (by simp)
    obtain ⟨k, hk, hs⟩ := hI
    obtain ⟨bf, i⟩ := s
    simp only at hs
    subst hs
    simp only [sched_CheckSite.b1, Int.toNat_natCast]
    by_cases hkl : k < t.length
    ·
     rw [br_pos (by simpa using hkl), chk_pos (by omega), List.drop_eq_getElem_cons hkl, tableErr]
     simp only [within_eq, bnd_val, unless_eq, Int.toNat_natCast, getD_of hkl]
     rw [first_eq hM _ (by simp; omega), w64_succ (by omega), hrec _ ⟨k + 1, hkl, rfl⟩ (by simp only [Int.toNat_natCast]; omega)]
     simp only [bnd_val, firstE, Int.toNat_natCast]
     cases h3 : inB t[k] 0 1000
     · simp [br]
     ·
      by_cases h4 : t[k] < bf
      · simp [br, h4, show ¬ bf ≤ t[k] by omega]
      · simp [br, h4, show bf ≤ t[k] by omega]
    ·
     have : k = t.length := by omega
     subst this
     simp [br, tableErr]
theorem SiteErr_eq {N : Nat} (hM : N ≤ 20000) (h4 : 16 < N) (b c p : Int) (t : List Int) : ref06_SiteErr N b c p t = some (siteErr b c p t) := by
 unfold ref06_SiteErr siteErr
 simp only [Within_eq, bnd_val]
 have hg : ∀ (x : Bool) (y : Bool), grd x false (some y) = some (x && y) := by intro x y; cases x <;> rfl
 simp only [hg, bnd_val]
 cases h1 : inB b 1 20
 · simp [br]
 cases h2 : inB c 1 8
 · simp [br]
 cases h3 : inB p 0 100000
 · simp [br]
 simp only [Bool.true_and, Bool.not_true, Bool.or_false, Bool.not_false, Bool.and_true, br_false, Bool.and_self, Bool.true_eq_false, if_false, Bool.or_self]
 by_cases h5 : t.length = 0
 · simp [br, h5]
 rw [if_neg h5, br_neg (by simpa using h5)]
 by_cases h6 : (16 : Int) < t.length
 · rw [if_pos h6, br_pos (by simpa using h6)]
 rw [if_neg h6, br_neg (by simpa using h6)]
 simp only [jn]
 refine (rds_up1 t.length _ (fun k => some (tableErr (if k = 0 then 0 else t.getD (k - 1) 0) (t.drop k))) (fun k rec hk hr => ?_) (fun rec => ?_) (show t.length < N by omega)).trans (by simp)
 ·
  simp only [ref06_SiteErr.b1, Int.toNat_natCast]
  rw [br_pos (by simpa using hk), chk_pos (by omega), List.drop_eq_getElem_cons hk, tableErr]
  simp only [Within_eq, bnd_val, Int.toNat_natCast, getD_of hk]
  rw [w64_succ (by omega), hr]
  cases h7 : inB t[k] 0 1000
  · simp [br]
  ·
   simp only [Bool.not_true, br_false, Bool.true_eq_false, if_false]
   rw [chk_pos (by intro _; omega)]
   by_cases hk0 : k = 0
   ·
    subst hk0
    rw [chk_pos (by intro h; simp at h)]
    have hpos : 0 ≤ t[0] := (inB_true.1 h7).1
    have hg0 : t[0]? = some t[0] := List.getElem?_eq_getElem hk
    simp [br, show ¬ t[0] < 0 by omega, hg0]
   ·
    rw [w64_id (by omega), chk_pos (by intro _; omega)]
    have e : ((k : Int) - 1).toNat = k - 1 := by omega
    rw [e, if_neg hk0]
    simp only [show decide ((k : Int) > 0) = true by simp; omega, Bool.true_and, Nat.add_eq_zero_iff, Nat.one_ne_zero, and_false, if_false, Nat.add_sub_cancel, getD_of hk]
    by_cases h8 : t[k] < t.getD (k - 1) 0
    · rw [br_pos (by simpa using h8), if_pos h8]
    · rw [br_neg (by simpa using h8), if_neg h8]
 · simp [ref06_SiteErr.b1, br, tableErr]
end Go.Sh

/-
 What the shallow functions of the scheduling chapter come to: names, and the errors of one bearer.
-/
namespace Go.Sh
open Go.PW

def chBad (f : Bool) (c : Int) : Bool :=
 ((!(((decide (c ≥ (97 : Int))) && (decide (c ≤ (122 : Int)))) || ((decide (c ≥ (65 : Int))) && (decide (c ≤ (90 : Int)))))) && (f || ((c != (45 : Int)) && ((decide (c < (48 : Int))) || (decide (c > (57 : Int)))))))
def nameL : Bool → List Int → Bool
 | _, [] => true
 | f, c :: l => !(chBad f c) && nameL false l
def nameOK (s : ByteArray) : Bool := decide (1 ≤ s.size ∧ s.size ≤ 12) && nameL true (bytesL s)
theorem noText (s : ByteArray) : (s.toList == (⟨#[]⟩ : ByteArray).toList) = decide (s.size = 0) := by
 rw [ByteArray.toList_eq, ByteArray.toList_eq]
 have : s.size = s.data.toList.length := by simp
 rw [this]
 cases s.data.toList <;> simp
theorem isName_eq {N : Nat} (hM : N ≤ 20000) (s : ByteArray) (h : s.size < N) : sched_isName N s = some (nameOK s) := by
 unfold sched_isName
 simp only [jn]
 have hl := bytesL_length s
 refine (rds_up1 (bytesL s).length _ (fun k => some (nameL (decide (k = 0)) ((bytesL s).drop k) && decide (1 ≤ s.size ∧ s.size ≤ 12))) (fun k rec hk hr => ?_) (fun rec => ?_) (by omega)).trans ?_
 ·
  simp only [sched_isName.b1]
  rw [br_pos (by simpa using hk), chk_pos (by omega), List.drop_eq_getElem_cons hk, nameL, w64_succ (by omega), hr]
  simp only [Int.toNat_natCast, getD_of hk]
  have hc : (((!(((decide (((bytesL s)[k]) ≥ (97 : Int))) && (decide (((bytesL s)[k]) ≤ (122 : Int)))) || ((decide (((bytesL s)[k]) ≥ (65 : Int))) && (decide (((bytesL s)[k]) ≤ (90 : Int)))))) && (((k : Int) == (0 : Int)) || ((((bytesL s)[k]) != (45 : Int)) && ((decide (((bytesL s)[k]) < (48 : Int))) || (decide (((bytesL s)[k]) > (57 : Int)))))))) = chBad (decide (k = 0)) (bytesL s)[k] := by
   unfold chBad
   have : ((k : Int) == 0) = decide (k = 0) := by rw [Bool.eq_iff_iff]; simp
   rw [this]
  rw [hc]
  cases chBad (decide (k = 0)) (bytesL s)[k]
  · simp [br]
  · simp [br]
 ·
  simp only [sched_isName.b1, noText]
  rw [br_neg (by simp)]
  simp only [List.drop_length, nameL, Bool.true_and, Option.some.injEq]
  rw [Bool.eq_iff_iff]
  simp only [Bool.and_eq_true, Bool.not_eq_true', decide_eq_false_iff_not, decide_eq_true_eq]
  omega
 · rw [nameOK, Bool.and_comm]; rfl
theorem IsName_eq {N : Nat} (hM : N ≤ 20000) (h12 : 12 < N) (s : ByteArray) : base_IsName N s = some (nameOK s) := by
 unfold base_IsName nameOK
 by_cases h1 : 1 ≤ s.size ∧ s.size ≤ 12
 ·
  rw [br_neg (by simp; omega)]
  simp only [jn]
  have hl := bytesL_length s
  refine (rds_up1 s.size _ (fun k => some (nameL (decide (k = 0)) ((bytesL s).drop k))) (fun k rec hk hr => ?_) (fun rec => ?_) (by omega)).trans (by simp [h1])
  ·
   have hk' : k < (bytesL s).length := by omega
   simp only [base_IsName.b1]
   rw [br_pos (by simpa using hk), chk_pos (by omega), List.drop_eq_getElem_cons hk', nameL, w64_succ (by omega), hr]
   have hb : ((s.data.getD k 0).toNat : Int) = (bytesL s)[k] := by rw [← bytesL_getD s hk, getD_of hk']
   simp only [Int.toNat_natCast, hb]
   have hc : (((!(((decide (((bytesL s)[k]) ≥ (97 : Int))) && (decide (((bytesL s)[k]) ≤ (122 : Int)))) || ((decide (((bytesL s)[k]) ≥ (65 : Int))) && (decide (((bytesL s)[k]) ≤ (90 : Int)))))) && (((k : Int) == (0 : Int)) || ((((bytesL s)[k]) != (45 : Int)) && ((decide (((bytesL s)[k]) < (48 : Int))) || (decide (((bytesL s)[k]) > (57 : Int)))))))) = chBad (decide (k = 0)) (bytesL s)[k] := by
    unfold chBad
    have : ((k : Int) == 0) = decide (k = 0) := by rw [Bool.eq_iff_iff]; simp
    rw [this]
   rw [hc]
   cases chBad (decide (k = 0)) (bytesL s)[k]
   · simp [br]
   · simp [br]
  ·
   simp only [base_IsName.b1]
   rw [br_neg (by simp), ← hl]
   simp [nameL]
 ·
  rw [br_pos (by simp; omega)]
  simp [h1]

def bearErr (t : List Int) (x : Bearer) : Int :=
 if nameOK x.1 = false then 4 else if inB x.2.1 0 2 = false then 15 else
 if (inB x.2.2.1 0 100 && inB x.2.2.2.1 1 100 && inB x.2.2.2.2.1 0 100000) = false then 2 else
 if x.2.1 = 0 then (if x.2.2.2.2.2.1 = 0 ∧ x.2.2.2.2.2.2.1 = 0 ∧ x.2.2.2.2.2.2.2.1 = 0 ∧ x.2.2.2.2.2.2.2.2 = 0 then 0 else 3) else
 if (inB x.2.2.2.2.2.1 0 ((t.length : Int) - 1) && inB x.2.2.2.2.2.2.1 1 1000000 && inB x.2.2.2.2.2.2.2.1 0 1000000 && inB x.2.2.2.2.2.2.2.2 1 1000) = false then 2 else
 if t.getD x.2.2.2.2.2.1.toNat 0 ≤ 0 then 11 else 0
theorem grd_and (x y : Bool) : grd x false (some y) = some (x && y) := by cases x <;> rfl
theorem andself (x y : Bool) : (x && (x && y)) = (x && y) := by cases x <;> rfl
theorem and3 (x y z : Bool) : (x && y && (x && y && z)) = (x && y && z) := by cases x <;> cases y <;> rfl
theorem bearerErr_eq {N : Nat} (hM : N ≤ 20000) (h4 : 16 < N) (b c p : Int) (t : List Int) (ht : t.length < N) (n : ByteArray) (k pr w po le bu ra de : Int) (hn : n.size < N) :
  sched_site_bearerErr N b c p t n k pr w po le bu ra de = some (bearErr t (n, k, pr, w, po, le, bu, ra, de)) := by
 unfold sched_site_bearerErr bearErr
 simp only [within_eq, bnd_val, grd_and, andself, and3, isName_eq hM n hn, unless_eq]
 rw [first_eq hM _ (by simp; omega)]
 simp only [bnd_val, firstE]
 cases h1 : nameOK n
 · simp [br]
 cases h2 : inB k 0 2
 · simp [br]
 cases h3 : (inB pr 0 100 && inB w 1 100 && inB po 0 100000)
 · simp [br]
 simp only [if_true, ne_eq, not_true_eq_false, if_false, Bool.true_eq_false, bne_self_eq_false, br_false]
 by_cases h5 : k = 0
 ·
  subst h5
  simp only [beq_self_eq_true, br_true, bnd_val, if_true]
  congr 1
  by_cases h6 : le = 0 ∧ bu = 0 ∧ ra = 0 ∧ de = 0
  · obtain ⟨rfl, rfl, rfl, rfl⟩ := h6; rfl
  · rw [if_neg (by simp; omega), if_neg h6]
 ·
  rw [br_neg (by simpa using h5), if_neg h5]
  simp only [sched_site_isReport, within_eq, bnd_val, w64_id (show -9223372036854775808 ≤ (t.length : Int) - 1 ∧ (t.length : Int) - 1 ≤ 9223372036854775807 by omega)]
  cases h6 : inB le 0 ((t.length : Int) - 1)
  · simp [br]
  ·
   have h7 := inB_true.1 h6
   simp only [Bool.not_true, br_false, Bool.true_and]
   rw [chk_pos (by omega), first_eq hM _ (by simp; omega)]
   simp only [bnd_val, firstE]
   cases (inB bu 1 1000000 && inB ra 0 1000000 && inB de 1 1000)
   · simp
   ·
    by_cases h8 : t.getD le.toNat 0 ≤ 0
    · simp [h8, show ¬ (0 : Int) < t[le.toNat]?.getD 0 by rw [← List.getD_eq_getElem?_getD]; omega]
    · simp [h8, show (0 : Int) < t[le.toNat]?.getD 0 by rw [← List.getD_eq_getElem?_getD]; omega]
theorem BearerErr_eq {N : Nat} (hM : N ≤ 20000) (h4 : 16 < N) (b c p : Int) (t : List Int) (ht : t.length < N) (n : ByteArray) (k pr w po le bu ra de : Int) (hpos : ∀ x ∈ t, (0 : Int) ≤ x) :
  ref06_BearerErr N b c p t n k pr w po le bu ra de = some (bearErr t (n, k, pr, w, po, le, bu, ra, de)) := by
 unfold ref06_BearerErr bearErr
 simp only [Within_eq, bnd_val, IsName_eq hM (by omega) n]
 cases h1 : nameOK n
 · simp [br]
 simp only [Bool.not_true, br_false]
 cases h2 : inB k 0 2
 · simp [br]
 simp only [Bool.not_true, br_false, grd_and, bnd_val]
 have e3 : ∀ x y z : Bool, (!x || !(x && y) || !(!(!x || !(x && y)) && z)) = !(x && y && z) := by intro x y z; cases x <;> cases y <;> cases z <;> rfl
 rw [e3]
 cases h3 : (inB pr 0 100 && inB w 1 100 && inB po 0 100000)
 · simp [br]
 simp only [Bool.not_true, br_false, Bool.true_eq_false, if_false]
 by_cases h5 : k = 0
 ·
  subst h5
  simp only [beq_self_eq_true, br_true, if_true]
  by_cases h6 : le = 0 ∧ bu = 0 ∧ ra = 0 ∧ de = 0
  · obtain ⟨rfl, rfl, rfl, rfl⟩ := h6; rfl
  · rw [br_pos (by simp; omega), if_neg h6]
 ·
  rw [br_neg (by simpa using h5), if_neg h5]
  simp only [ref06_IsReport, Within_eq, bnd_val, w64_id (show -9223372036854775808 ≤ (t.length : Int) - 1 ∧ (t.length : Int) - 1 ≤ 9223372036854775807 by omega), grd_and]
  have e4 : ∀ x y z u : Bool, (!x || !(x && y) || !(!(!x || !(x && y)) && z) || !(!(!x || !(x && y) || !(!(!x || !(x && y)) && z)) && u)) = !(x && y && z && u) := by
   intro x y z u; cases x <;> cases y <;> cases z <;> cases u <;> rfl
  rw [e4]
  cases h6 : (inB le 0 ((t.length : Int) - 1) && inB bu 1 1000000 && inB ra 0 1000000 && inB de 1 1000)
  · simp [br]
  ·
   have h7 := inB_true.1 (show inB le 0 ((t.length : Int) - 1) = true by simp only [Bool.and_eq_true] at h6; exact h6.1.1.1)
   simp only [Bool.not_true, br_false, Bool.true_eq_false, if_false]
   rw [chk_pos (by omega)]
   have hk : le.toNat < t.length := by omega
   have h0 : 0 ≤ t.getD le.toNat 0 := by rw [getD_of hk]; exact hpos _ (List.getElem_mem hk)
   by_cases h8 : t.getD le.toNat 0 ≤ 0
   · rw [br_pos (by simp only [beq_iff_eq]; omega), if_pos h8]
   · rw [br_neg (by simp only [beq_eq_false_iff_ne, ne_eq]; omega), if_neg h8]
end Go.Sh

/-
 What the shallow functions of the scheduling chapter come to: quotients rounded up, needs, room, names of several bearers.
-/
namespace Go.Sh
open Go.PW

def ceilI (n b : Int) : Int := (n + b - 1) / b
theorem ceilI_bounds {n b : Int} (hn : 0 ≤ n) (hb : 1 ≤ b) : 0 ≤ ceilI n b ∧ ceilI n b ≤ n := by
 unfold ceilI
 constructor
 · exact Int.ediv_nonneg (by omega) (by omega)
 ·
  have h1 : (n + b - 1) / b < n + 1 := by
   refine Int.ediv_lt_of_lt_mul (by omega) ?_
   have : (n + 1) * b = n * b + b := by rw [Int.add_mul, Int.one_mul]
   have h2 : n * 1 ≤ n * b := Int.mul_le_mul_of_nonneg_left hb hn
   omega
  omega
theorem ceil_eq (N : Nat) {n b : Int} (hn : 0 ≤ n) (hb : 1 ≤ b) (hn' : n ≤ 1000000000000) (hb' : b ≤ 1000000000000) : sched_ceil N n b = some (ceilI n b) := by
 unfold sched_ceil
 rw [chk_pos (by omega), w64_id (n := n + b) (by omega), w64_id (n := n + b - 1) (by omega), Int.tdiv_eq_ediv_of_nonneg (by omega)]
 have := ceilI_bounds hn hb
 unfold ceilI at this
 rw [w64_id (by omega)]; rfl
theorem ceilI_floor {n b : Int} (hn : 0 ≤ n) (hb : 1 ≤ b) : ceilI n b = if n % b = 0 then n / b else n / b + 1 := by
 unfold ceilI
 have h1 := Int.emod_nonneg n (show b ≠ 0 by omega)
 have h2 := Int.emod_lt_of_pos n (show 0 < b by omega)
 have h3 := Int.mul_ediv_add_emod n b
 generalize hq : n / b = q at *
 generalize hr : n % b = r at *
 have hqb : q * b = b * q := Int.mul_comm ..
 by_cases h : r = 0
 ·
  rw [if_pos h]
  have e : n + b - 1 = (b - 1) + b * q := by omega
  rw [e, Int.add_mul_ediv_left _ _ (by omega), Int.ediv_eq_zero_of_lt (by omega) (by omega)]
  omega
 ·
  rw [if_neg h]
  have e : n + b - 1 = (r - 1) + b * (q + 1) := by rw [Int.mul_add, Int.mul_one]; omega
  rw [e, Int.add_mul_ediv_left _ _ (by omega), Int.ediv_eq_zero_of_lt (by omega) (by omega)]
  omega
theorem Ceil_eq (N : Nat) {n b : Int} (hn : 0 ≤ n) (hb : 1 ≤ b) (hn' : n ≤ 1000000000000) (hb' : b ≤ 1000000000000) : base_Ceil N n b = some (ceilI n b) := by
 unfold base_Ceil base_Floor
 rw [w64_id (n := 0 - n) (by omega), chk_pos (by omega), chk_pos (by omega)]
 have e : (0 : Int) - n = -n := by omega
 have hq0 : 0 ≤ n / b := Int.ediv_nonneg hn (by omega)
 have hq1 : n / b ≤ n := Int.ediv_le_self b hn
 have h1 := Int.emod_nonneg n (show b ≠ 0 by omega)
 have h2 := Int.emod_lt_of_pos n (show 0 < b by omega)
 rw [e, Int.neg_tdiv, Int.neg_tmod, Int.tdiv_eq_ediv_of_nonneg hn, Int.tmod_eq_emod_of_nonneg hn, w64_id (n := -(n / b)) (by omega), ceilI_floor hn hb]
 by_cases h : n % b = 0
 ·
  rw [br_neg (by simp; omega), if_pos h]
  simp only [bnd_val]
  rw [w64_id (by omega)]; congr 1; omega
 ·
  rw [br_pos (by simp; omega), if_neg h, w64_id (n := -(n / b) - 1) (by omega)]
  simp only [bnd_val]
  rw [w64_id (by omega)]; congr 1; omega

def rightT (t : List Int) : Prop := ∀ x ∈ t, (0 : Int) ≤ x ∧ x ≤ 1000
theorem tableErr_zero : ∀ (l : List Int) (b : Int), tableErr b l = 0 → rightT l
 | [], _, _ => by intro x hx; simp at hx
 | y :: l, b, h => by
  rw [tableErr] at h
  cases h1 : inB y 0 1000
  · rw [if_pos h1] at h; exact absurd h (by decide)
  ·
   rw [if_neg (by simp [h1])] at h
   by_cases h2 : y < b
   · rw [if_pos h2] at h; exact absurd h (by decide)
   ·
    rw [if_neg h2] at h
    intro x hx
    rcases List.mem_cons.1 hx with rfl | hx
    · exact inB_true.1 h1
    · exact tableErr_zero l y h x hx
theorem siteErr_zero {b c p : Int} {t : List Int} (h : siteErr b c p t = 0) : (1 ≤ b ∧ b ≤ 20) ∧ (1 ≤ c ∧ c ≤ 8) ∧ (0 ≤ p ∧ p ≤ 100000) ∧ t.length ≠ 0 ∧ t.length ≤ 16 ∧ rightT t := by
 unfold siteErr at h
 split at h
 · exact absurd h (by decide)
 ·
  rename_i h1
  split at h
  · exact absurd h (by decide)
  ·
   rename_i h2
   split at h
   · exact absurd h (by decide)
   ·
    rename_i h3
    have h1' : (inB b 1 20 && inB c 1 8 && inB p 0 100000) = true := by
     cases hq : (inB b 1 20 && inB c 1 8 && inB p 0 100000)
     · exact absurd hq h1
     · rfl
    simp only [Bool.and_eq_true, inB_true] at h1'
    exact ⟨h1'.1.1, h1'.1.2, h1'.2, h2, by omega, tableErr_zero _ _ h⟩
theorem bearErr_zero {t : List Int} {x : Bearer} (h : bearErr t x = 0) : nameOK x.1 = true ∧ (0 ≤ x.2.1 ∧ x.2.1 ≤ 2) ∧ (0 ≤ x.2.2.2.2.1 ∧ x.2.2.2.2.1 ≤ 100000) ∧ (x.2.1 ≠ 0 → (0 ≤ x.2.2.2.2.2.1 ∧ x.2.2.2.2.2.1 < (t.length : Int)) ∧
  (1 ≤ x.2.2.2.2.2.2.1 ∧ x.2.2.2.2.2.2.1 ≤ 1000000) ∧ (0 ≤ x.2.2.2.2.2.2.2.1 ∧ x.2.2.2.2.2.2.2.1 ≤ 1000000) ∧ (1 ≤ x.2.2.2.2.2.2.2.2 ∧ x.2.2.2.2.2.2.2.2 ≤ 1000) ∧ 1 ≤ t.getD x.2.2.2.2.2.1.toNat 0) := by
 obtain ⟨n, k, pr, w, po, le, bu, ra, de⟩ := x
 unfold bearErr at h
 simp only at h ⊢
 cases h1 : nameOK n
 · rw [if_pos h1] at h; exact absurd h (by decide)
 cases h2 : inB k 0 2
 · rw [if_neg (by simp [h1]), if_pos h2] at h; exact absurd h (by decide)
 cases h3 : (inB pr 0 100 && inB w 1 100 && inB po 0 100000)
 · rw [if_neg (by simp [h1]), if_neg (by simp [h2]), if_pos h3] at h; exact absurd h (by decide)
 rw [if_neg (by simp [h1]), if_neg (by simp [h2]), if_neg (by simp [h3])] at h
 simp only [Bool.and_eq_true, inB_true] at h3
 refine ⟨rfl, inB_true.1 h2, h3.2, fun hk => ?_⟩
 rw [if_neg hk] at h
 cases h4 : (inB le 0 ((t.length : Int) - 1) && inB bu 1 1000000 && inB ra 0 1000000 && inB de 1 1000)
 · rw [if_pos h4] at h; exact absurd h (by decide)
 rw [if_neg (by simp [h4])] at h
 simp only [Bool.and_eq_true, inB_true] at h4
 by_cases h5 : t.getD le.toNat 0 ≤ 0
 · rw [if_pos h5] at h; exact absurd h (by decide)
 · exact ⟨by omega, h4.1.1.2, h4.1.2, h4.2, by omega⟩
def needB (t : List Int) (x : Bearer) : Int × Int × Int :=
 if x.2.1 = 0 then (0, 0, 0) else
 let c := ceilI x.2.2.2.2.2.2.1 x.2.2.2.2.2.2.2.2
 let b := ceilI (if x.2.2.2.2.2.2.2.1 < c then c else x.2.2.2.2.2.2.2.1) (t.getD x.2.2.2.2.2.1.toNat 0)
 (b, 1, b * x.2.2.2.2.1)
theorem tabGet {t : List Int} (ht : rightT t) {k : Nat} (hk : k < t.length) : 0 ≤ t.getD k 0 ∧ t.getD k 0 ≤ 1000 := by rw [getD_of hk]; exact ht _ (List.getElem_mem hk)
theorem needB_bounds {t : List Int} (ht : rightT t) {x : Bearer} (h : bearErr t x = 0) :
  (0 ≤ (needB t x).1 ∧ (needB t x).1 ≤ 1000000) ∧ (0 ≤ (needB t x).2.1 ∧ (needB t x).2.1 ≤ 1) ∧ (0 ≤ (needB t x).2.2 ∧ (needB t x).2.2 ≤ 100000000000) := by
 obtain ⟨_, h1, h2, h3⟩ := bearErr_zero h
 unfold needB
 by_cases hk : x.2.1 = 0
 · rw [if_pos hk]; simp
 ·
  rw [if_neg hk]
  obtain ⟨h4, h5, h6, h7, h8⟩ := h3 hk
  have hc := ceilI_bounds (n := x.2.2.2.2.2.2.1) (b := x.2.2.2.2.2.2.2.2) (by omega) (by omega)
  simp only
  generalize hm : (if x.2.2.2.2.2.2.2.1 < ceilI x.2.2.2.2.2.2.1 x.2.2.2.2.2.2.2.2 then ceilI x.2.2.2.2.2.2.1 x.2.2.2.2.2.2.2.2 else x.2.2.2.2.2.2.2.1) = m
  have hm' : 0 ≤ m ∧ m ≤ 1000000 := by rw [← hm]; split <;> omega
  have hb := ceilI_bounds (n := m) (b := t.getD x.2.2.2.2.2.1.toNat 0) (by omega) (by omega)
  generalize ceilI m (t.getD x.2.2.2.2.2.1.toNat 0) = q at *
  refine ⟨by omega, by omega, Int.mul_nonneg (by omega) (by omega), ?_⟩
  have h9 : q * x.2.2.2.2.1 ≤ 1000000 * 100000 := Int.mul_le_mul (by omega) (by omega) (by omega) (by omega)
  omega
theorem need_eq (N : Nat) {b c p : Int} {t : List Int} (ht : rightT t) (x : Bearer) (h : bearErr t x = 0) :
  sched_site_need N b c p t x.1 x.2.1 x.2.2.1 x.2.2.2.1 x.2.2.2.2.1 x.2.2.2.2.2.1 x.2.2.2.2.2.2.1 x.2.2.2.2.2.2.2.1 x.2.2.2.2.2.2.2.2 = some (needB t x) := by
 have hB := needB_bounds ht h
 obtain ⟨_, h1, h2, h3⟩ := bearErr_zero h
 unfold sched_site_need sched_guaranteed
 simp only [bnd_val]
 unfold needB at hB ⊢
 by_cases hk : x.2.1 = 0
 · rw [if_pos hk, br_pos (by simp [hk])]
 ·
  rw [if_neg hk] at hB ⊢
  rw [br_neg (by simpa using hk)]
  obtain ⟨h4, h5, h6, h7, h8⟩ := h3 hk
  have hc := ceilI_bounds (n := x.2.2.2.2.2.2.1) (b := x.2.2.2.2.2.2.2.2) (by omega) (by omega)
  have hq := tabGet ht (show x.2.2.2.2.2.1.toNat < t.length by omega)
  rw [ceil_eq N (by omega) (by omega) (by omega) (by omega)]
  simp only [bnd_val]
  rw [chk_pos (by omega), ceil_eq N (by split <;> omega) (by omega) (by split <;> omega) (by omega)]
  simp only [bnd_val]
  simp only at hB
  rw [w64_id (by omega)]
theorem NeedOf_eq (N : Nat) {b c p : Int} {t : List Int} (ht : rightT t) (x : Bearer) (h : bearErr t x = 0) :
  ref06_NeedOf N b c p t x.1 x.2.1 x.2.2.1 x.2.2.2.1 x.2.2.2.2.1 x.2.2.2.2.2.1 x.2.2.2.2.2.2.1 x.2.2.2.2.2.2.2.1 x.2.2.2.2.2.2.2.2 = some (needB t x) := by
 have hB := needB_bounds ht h
 obtain ⟨_, h1, h2, h3⟩ := bearErr_zero h
 unfold ref06_NeedOf
 unfold needB at hB ⊢
 by_cases hk : x.2.1 = 0
 · rw [if_pos hk, br_pos (by simp [hk])]
 ·
  rw [if_neg hk] at hB ⊢
  rw [br_neg (by simpa using hk)]
  obtain ⟨h4, h5, h6, h7, h8⟩ := h3 hk
  have hc := ceilI_bounds (n := x.2.2.2.2.2.2.1) (b := x.2.2.2.2.2.2.2.2) (by omega) (by omega)
  have hq := tabGet ht (show x.2.2.2.2.2.1.toNat < t.length by omega)
  rw [Ceil_eq N (by omega) (by omega) (by omega) (by omega)]
  simp only [bnd_val]
  rw [chk_pos (by omega), Ceil_eq N (by split <;> omega) (by omega) (by split <;> omega) (by omega)]
  simp only [bnd_val]
  simp only at hB
  rw [w64_id (by omega)]
def needsB (t : List Int) : List Bearer → Int × Int × Int
 | [] => (0, 0, 0)
 | x :: l => ((needB t x).1 + (needsB t l).1, (needB t x).2.1 + (needsB t l).2.1, (needB t x).2.2 + (needsB t l).2.2)
theorem needsB_snoc (t : List Int) (x : Bearer) : ∀ l : List Bearer, needsB t (l ++ [x]) = ((needsB t l).1 + (needB t x).1, (needsB t l).2.1 + (needB t x).2.1, (needsB t l).2.2 + (needB t x).2.2)
 | [] => by simp [needsB]
 | y :: l => by rw [List.cons_append, needsB, needsB_snoc t x l, needsB]; simp only [Int.add_assoc]
theorem needsB_bounds {t : List Int} (ht : rightT t) : ∀ {l : List Bearer}, (∀ x ∈ l, bearErr t x = 0) → (0 ≤ (needsB t l).1 ∧ (needsB t l).1 ≤ 1000000 * (l.length : Int)) ∧ (0 ≤ (needsB t l).2.1 ∧ (needsB t l).2.1 ≤ (l.length : Int)) ∧ (0 ≤ (needsB t l).2.2 ∧ (needsB t l).2.2 ≤ 100000000000 * (l.length : Int))
 | [], _ => by simp [needsB]
 | y :: l, h => by
  have h1 := needB_bounds ht (h y (by simp))
  have h2 := needsB_bounds ht (l := l) fun x hx => h x (by simp [hx])
  simp only [needsB, List.length_cons]
  omega
theorem take_snoc {α : Type} (l : List α) {k : Nat} (h : k < l.length) : l.take (k + 1) = l.take k ++ [l[k]] := by
 rw [List.take_add_one, List.getElem?_eq_getElem h]; rfl
theorem room_eq {N : Nat} (hM : N ≤ 20000) {b c p : Int} (hb : 0 ≤ b ∧ b ≤ 1000000) (hc : 0 ≤ c ∧ c ≤ 1000000) (hp : 0 ≤ p ∧ p ≤ 1000000) {t : List Int} (ht : rightT t) (l : List Bearer) (hl : l.length < N) (h : ∀ x ∈ l, bearErr t x = 0) :
  sched_site_room N b c p t l = some (b - (needsB t l).1, c - (needsB t l).2.1, p - (needsB t l).2.2) := by
 unfold sched_site_room
 simp only [jn]
 refine rds_spec (fun s : Int × Int × Int × Int => ∃ k : Nat, k ≤ l.length ∧ s = ((k : Int), b - (needsB t (l.take k)).1, c - (needsB t (l.take k)).2.1, p - (needsB t (l.take k)).2.2)) (fun s => l.length - s.1.toNat)
  (fun _ => some (b - (needsB t l).1, c - (needsB t l).2.1, p - (needsB t l).2.2)) (fun rec s hI hrec => ?_) N _ ⟨0, Nat.zero_le _, by simp [needsB]⟩ (by simp; omega)
 obtain ⟨k, hk, rfl⟩ := hI
 simp only [sched_site_room.b1]
 by_cases hkl : k < l.length
 ·
  have hx : bearErr t l[k] = 0 := h _ (List.getElem_mem hkl)
  have h1 := needB_bounds ht hx
  have h2 := needsB_bounds ht (l := l.take k) fun x hx => h x (List.mem_of_mem_take hx)
  have hlen : (l.take k).length = k := by simp; omega
  rw [hlen] at h2
  rw [br_pos (by simpa using hkl), chk_pos (by omega)]
  simp only [Int.toNat_natCast, getD_of hkl]
  rw [need_eq N ht l[k] hx]
  rcases hn : needB t l[k] with ⟨n1, n2, n3⟩
  simp only [bnd_val]
  rw [hn] at h1
  simp only at h1
  rw [w64_succ (by omega), w64_id (by omega), w64_id (by omega), w64_id (by omega)]
  refine hrec _ ⟨k + 1, hkl, ?_⟩ (by simp only [Int.toNat_natCast]; omega)
  rw [take_snoc l hkl, needsB_snoc, hn]
  simp only [Prod.mk.injEq]
  refine ⟨trivial, by omega, by omega, by omega⟩
 ·
  have : k = l.length := by omega
  subst this
  rw [br_neg (by simp)]
  simp
theorem needs_eq {N : Nat} (hM : N ≤ 20000) {b c p : Int} {t : List Int} (ht : rightT t) (l : List Bearer) (hl : l.length < N) (h : ∀ x ∈ l, bearErr t x = 0) :
  ref06_needs N b c p t l = some (needsB t l) := by
 unfold ref06_needs
 simp only [jn]
 refine rds_spec (fun s : Int × Int × Int × Int => ∃ k : Nat, k ≤ l.length ∧ s = ((k : Int), needsB t (l.take k))) (fun s => l.length - s.1.toNat)
  (fun _ => some (needsB t l)) (fun rec s hI hrec => ?_) N _ ⟨0, Nat.zero_le _, by simp [needsB]⟩ (by simp; omega)
 obtain ⟨k, hk, rfl⟩ := hI
 simp only [ref06_needs.b1]
 by_cases hkl : k < l.length
 ·
  have hx : bearErr t l[k] = 0 := h _ (List.getElem_mem hkl)
  have h1 := needB_bounds ht hx
  have h2 := needsB_bounds ht (l := l.take k) fun x hx => h x (List.mem_of_mem_take hx)
  have hlen : (l.take k).length = k := by simp; omega
  rw [hlen] at h2
  rcases hS : needsB t (l.take k) with ⟨s1, s2, s3⟩
  rw [hS] at h2
  simp only at h2 ⊢
  rw [br_pos (by simpa using hkl), chk_pos (by omega)]
  simp only [Int.toNat_natCast, getD_of hkl]
  rw [NeedOf_eq N ht l[k] hx]
  rcases hn : needB t l[k] with ⟨n1, n2, n3⟩
  simp only [bnd_val]
  rw [hn] at h1
  simp only at h1
  rw [w64_succ (by omega), w64_id (by omega), w64_id (by omega), w64_id (by omega)]
  refine hrec _ ⟨k + 1, hkl, ?_⟩ (by simp only [Int.toNat_natCast]; omega)
  rw [take_snoc l hkl, needsB_snoc, hn, hS]
 ·
  have : k = l.length := by omega
  subst this
  rw [br_neg (by simp)]
  simp
def fitB (b c p : Int) (t : List Int) (l : List Bearer) : Bool := (decide ((needsB t l).1 ≤ b)) && (decide ((needsB t l).2.1 ≤ c)) && (decide ((needsB t l).2.2 ≤ p))
theorem fit_eq {N : Nat} (hM : N ≤ 20000) {b c p : Int} (hb : 0 ≤ b ∧ b ≤ 1000000) (hc : 0 ≤ c ∧ c ≤ 1000000) (hp : 0 ≤ p ∧ p ≤ 1000000) {t : List Int} (ht : rightT t) (l : List Bearer) (hl : l.length < N) (h : ∀ x ∈ l, bearErr t x = 0) :
  sched_site_fit N b c p t l = some (fitB b c p t l) := by
 unfold sched_site_fit
 rw [room_eq hM hb hc hp ht l hl h]
 simp only [bnd_val, Option.some.injEq, fitB]
 rw [Bool.eq_iff_iff]
 simp only [Bool.and_eq_true, decide_eq_true_eq]
 split <;> split <;> omega
theorem Fit_eq {N : Nat} (hM : N ≤ 20000) {b c p : Int} {t : List Int} (ht : rightT t) (l : List Bearer) (hl : l.length < N) (h : ∀ x ∈ l, bearErr t x = 0) :
  ref06_Fit N b c p t l = some (fitB b c p t l) := by
 unfold ref06_Fit
 rw [needs_eq hM ht l hl h]
 rfl

def hasName (l : List Bearer) (n : ByteArray) : Bool := l.any fun x => x.1.toList == n.toList
theorem named_eq {N : Nat} (hM : N ≤ 20000) (l : List Bearer) (hl : l.length < N) (n : ByteArray) : sched_named N l n = some (hasName l n) := by
 unfold sched_named slices_ContainsFunc_api_SchedBearer_api_SchedBearer slices_IndexFunc_api_SchedBearer_api_SchedBearer
 simp only [jn]
 have h := rds_up1 l.length (slices_IndexFunc_api_SchedBearer_api_SchedBearer.b1 N l (fun y0 y1 y2 y3 y4 y5 y6 y7 y8 => sched_named_1 N y0 y1 y2 y3 y4 y5 y6 y7 y8 n) (fun _ => some (-1 : Int)))
  (fun k => some (if hasName (l.drop k) n = true then ((k + (l.drop k).findIdx fun x => x.1.toList == n.toList : Nat) : Int) else -1)) (fun k rec hk hr => ?_) (fun rec => ?_) hl
 ·
  rw [h]
  simp only [bnd_val, List.drop_zero, Option.some.injEq]
  cases hasName l n <;> simp
 ·
  simp only [slices_IndexFunc_api_SchedBearer_api_SchedBearer.b1, sched_named_1]
  rw [br_pos (by simpa using hk), chk_pos (by omega), w64_succ (by omega), hr, List.drop_eq_getElem_cons hk]
  simp only [Int.toNat_natCast, getD_of hk, bnd_val, hasName, List.any_cons, List.findIdx_cons]
  cases hq : l[k].1.toList == n.toList
  ·
   simp only [br_false, Bool.false_or, cond_false]
   rw [show ∀ m : Nat, k + 1 + m = k + (m + 1) from fun m => by omega]
   rfl
  · simp [br]
 ·
  simp only [slices_IndexFunc_api_SchedBearer_api_SchedBearer.b1]
  rw [br_neg (by simp)]
  simp [hasName]
def findB (l : List Bearer) (n : ByteArray) : Int := if hasName l n = true then ((l.findIdx fun x => x.1.toList == n.toList : Nat) : Int) else -1
theorem findB_nonneg (l : List Bearer) (n : ByteArray) : decide (findB l n ≥ 0) = hasName l n := by
 unfold findB
 cases hasName l n <;> simp
theorem find_eq {N : Nat} (hM : N ≤ 20000) (l : List Bearer) (hl : l.length < N) (n : ByteArray) : ref06_find N l n = some (findB l n) := by
 unfold ref06_find
 simp only [jn]
 refine (rds_up1 l.length _ (fun k => some (if hasName (l.drop k) n = true then ((k + (l.drop k).findIdx fun x => x.1.toList == n.toList : Nat) : Int) else -1)) (fun k rec hk hr => ?_) (fun rec => ?_) hl).trans (by simp [findB])
 ·
  simp only [ref06_find.b1]
  rw [br_pos (by simpa using hk), chk_pos (by omega), w64_succ (by omega), hr, List.drop_eq_getElem_cons hk]
  simp only [Int.toNat_natCast, getD_of hk, hasName, List.any_cons, List.findIdx_cons]
  cases hq : l[k].1.toList == n.toList
  ·
   simp only [br_false, Bool.false_or, cond_false]
   rw [show ∀ m : Nat, k + 1 + m = k + (m + 1) from fun m => by omega]
   rfl
  · simp [br]
 ·
  simp only [ref06_find.b1]
  rw [br_neg (by simp)]
  simp [hasName]
end Go.Sh

/-
 What the shallow functions of the scheduling chapter come to: the errors of bearers, room.
-/
namespace Go.Sh
open Go.PW

def bearsE (t : List Int) (l : List Bearer) : Nat → List Bearer → Option (Int × Int)
 | _, [] => none
 | k, x :: r => if bearErr t x ≠ 0 then some ((k : Int), bearErr t x) else if hasName (l.take k) x.1 = true then some ((k : Int), 5) else bearsE t l (k + 1) r
def bearsErr (b c p : Int) (t : List Int) (l : List Bearer) : Int × Int :=
 if (8 : Int) < l.length then (0, 8) else match bearsE t l 0 l with
 | some r => r
 | none => (0, if fitB b c p t l = true then 0 else 16)
theorem bearsE_none {t : List Int} {l : List Bearer} : ∀ (r : List Bearer) (k : Nat), bearsE t l k r = none → ∀ x ∈ r, bearErr t x = 0
 | [], _, _ => by intro x hx; simp at hx
 | y :: r, k, h => by
  rw [bearsE] at h
  by_cases h1 : bearErr t y = 0
  ·
   rw [if_neg (by simpa using h1)] at h
   by_cases h2 : hasName (l.take k) y.1 = true
   · rw [if_pos h2] at h; simp at h
   ·
    rw [if_neg h2] at h
    intro x hx
    rcases List.mem_cons.1 hx with rfl | hx
    · exact h1
    · exact bearsE_none r (k + 1) h x hx
  · rw [if_pos h1] at h; simp at h
theorem bearersErr_eq {N : Nat} (hM : N ≤ 20000) (h4 : 16 < N) {b c p : Int} (hb : 0 ≤ b ∧ b ≤ 1000000) (hc : 0 ≤ c ∧ c ≤ 1000000) (hp : 0 ≤ p ∧ p ≤ 1000000) {t : List Int} (ht : rightT t) (htl : t.length < N) (l : List Bearer)
  (hn : ∀ x ∈ l, x.1.size < N) : sched_site_bearersErr N b c p t l = some (bearsErr b c p t l) := by
 unfold sched_site_bearersErr bearsErr
 by_cases h8 : (8 : Int) < l.length
 · rw [br_pos (by simpa using h8), if_pos h8]
 rw [br_neg (by simpa using h8), if_neg h8]
 simp only [jn]
 have hend : bearsE t l 0 l = none → (bnd (sched_site_fit N b c p t l) fun x5 => bnd (sched_unless N x5 16) fun x6 => some ((0 : Int), x6)) = some (0, if fitB b c p t l = true then 0 else 16) := fun h => by
  rw [fit_eq hM hb hc hp ht l (by omega) (bearsE_none l 0 h)]
  simp only [bnd_val, unless_eq]
 have key : ∀ k, k ≤ l.length → ((bearsE t l k (l.drop k) = none ∧ bearsE t l 0 l = none) ∨ (∃ r, bearsE t l k (l.drop k) = some r)) → True := fun _ _ _ => trivial
 refine (rds_spec (fun s : Int => ∃ k : Nat, k ≤ l.length ∧ s = (k : Int) ∧ bearsE t l k (l.drop k) = bearsE t l 0 l) (fun s => l.length - s.toNat)
  (fun _ => some (match bearsE t l 0 l with | some r => r | none => (0, if fitB b c p t l = true then 0 else 16))) (fun rec s hI hrec => ?_) N 0 ⟨0, Nat.zero_le _, rfl, by rw [List.drop_zero]⟩ (by simp; omega))
 obtain ⟨k, hk, rfl, hE⟩ := hI
 simp only [sched_site_bearersErr.b1]
 by_cases hkl : k < l.length
 ·
  rw [List.drop_eq_getElem_cons hkl, bearsE] at hE
  rw [br_pos (by simpa using hkl), chk_pos (by omega)]
  simp only [Int.toNat_natCast, getD_of hkl]
  rw [bearerErr_eq hM h4 b c p t htl _ _ _ _ _ _ _ _ _ (hn _ (List.getElem_mem hkl))]
  simp only [bnd_val]
  rw [chk_pos (by omega), named_eq hM _ (by simp; omega)]
  simp only [bnd_val, unless_eq]
  rw [first_eq hM _ (by simp; omega), w64_succ (by omega)]
  simp only [bnd_val, firstE]
  show br ((if bearErr t l[k] ≠ 0 then bearErr t l[k] else _) != 0) _ _ = _
  by_cases h1 : bearErr t l[k] = 0
  ·
   rw [if_neg (by simpa using h1)] at hE ⊢
   by_cases h2 : hasName (l.take k) l[k].1 = true
   ·
    rw [if_pos h2] at hE
    rw [← hE]; simp [h2, br]
   ·
    rw [if_neg h2] at hE
    simp only [Bool.not_eq_true] at h2
    have h2' : hasName (l.take k) l[k].1 = false := h2
    simp only [h2', Bool.not_false, if_true, ne_eq, not_true_eq_false, if_false, bne_self_eq_false, br_false]
    exact hrec _ ⟨k + 1, hkl, rfl, hE⟩ (by simp only [Int.toNat_natCast]; omega)
  ·
   rw [if_pos h1] at hE ⊢
   rw [← hE, br_pos (by simpa using h1)]
 ·
  have : k = l.length := by omega
  subst this
  rw [List.drop_length, bearsE] at hE
  rw [br_neg (by simp), hend hE.symm, ← hE]
theorem RefBearers_eq {N : Nat} (hM : N ≤ 20000) (h4 : 16 < N) {b c p : Int} {t : List Int} (ht : rightT t) (htl : t.length < N) (l : List Bearer) :
  ref06_CheckBearers N b c p t l = some (bearsErr b c p t l) := by
 unfold ref06_CheckBearers bearsErr
 by_cases h8 : (8 : Int) < l.length
 · rw [br_pos (by simpa using h8), if_pos h8]
 rw [br_neg (by simpa using h8), if_neg h8]
 simp only [jn]
 have hend : bearsE t l 0 l = none → (bnd (ref06_Fit N b c p t l) fun x3 => br (!x3) (some ((0 : Int), (16 : Int))) (some ((0 : Int), (0 : Int)))) = some (0, if fitB b c p t l = true then 0 else 16) := fun h => by
  rw [Fit_eq hM ht l (by omega) (bearsE_none l 0 h)]
  simp only [bnd_val]
  cases fitB b c p t l <;> rfl
 refine (rds_spec (fun s : Int => ∃ k : Nat, k ≤ l.length ∧ s = (k : Int) ∧ bearsE t l k (l.drop k) = bearsE t l 0 l) (fun s => l.length - s.toNat)
  (fun _ => some (match bearsE t l 0 l with | some r => r | none => (0, if fitB b c p t l = true then 0 else 16))) (fun rec s hI hrec => ?_) N 0 ⟨0, Nat.zero_le _, rfl, by rw [List.drop_zero]⟩ (by simp; omega))
 obtain ⟨k, hk, rfl, hE⟩ := hI
 simp only [ref06_CheckBearers.b1]
 by_cases hkl : k < l.length
 ·
  rw [List.drop_eq_getElem_cons hkl, bearsE] at hE
  rw [br_pos (by simpa using hkl), chk_pos (by omega)]
  simp only [Int.toNat_natCast, getD_of hkl]
  rw [BearerErr_eq hM h4 b c p t htl _ _ _ _ _ _ _ _ _ fun x hx => (ht x hx).1]
  simp only [bnd_val]
  show br (bearErr t l[k] != 0) _ _ = _
  by_cases h1 : bearErr t l[k] = 0
  ·
   rw [if_neg (by simpa using h1)] at hE
   rw [br_neg (by simpa using h1), chk_pos (by omega), chk_pos (by omega), find_eq hM _ (by simp; omega)]
   simp only [bnd_val, findB_nonneg]
   by_cases h2 : hasName (l.take k) l[k].1 = true
   ·
    rw [if_pos h2] at hE
    rw [← hE, br_pos h2]
   ·
    rw [if_neg h2] at hE
    rw [br_neg (by simpa using h2), w64_succ (by omega)]
    exact hrec _ ⟨k + 1, hkl, rfl, hE⟩ (by simp only [Int.toNat_natCast]; omega)
  ·
   rw [if_pos h1] at hE
   rw [← hE, br_pos (by simpa using h1)]
 ·
  have : k = l.length := by omega
  subst this
  rw [List.drop_length, bearsE] at hE
  rw [br_neg (by simp), hend hE.symm, ← hE]
def bothErr (b c p : Int) (t : List Int) (l : List Bearer) : Int × Int := if siteErr b c p t ≠ 0 then (0, siteErr b c p t) else bearsErr b c p t l
theorem CheckBearers_eq {N : Nat} (hM : N ≤ 20000) (h4 : 16 < N) (b c p : Int) (t : List Int) (l : List Bearer) (hn : ∀ x ∈ l, x.1.size < N) : sched_CheckBearers N b c p t l = some (bothErr b c p t l) := by
 unfold sched_CheckBearers sched_open bothErr
 rw [CheckSite_eq hM h4]
 simp only [bnd_val]
 by_cases h : siteErr b c p t = 0
 ·
  obtain ⟨h1, h2, h3, _, h5, h6⟩ := siteErr_zero h
  rw [br_neg (by simpa using h), if_neg (by simpa using h), bearersErr_eq hM h4 (by omega) (by omega) (by omega) h6 (by omega) l hn]
  rfl
 · rw [br_pos (by simpa using h), if_pos h]
theorem openAll_eq {N : Nat} (hM : N ≤ 20000) (h4 : 16 < N) (b c p : Int) (t : List Int) (l : List Bearer) (hn : ∀ x ∈ l, x.1.size < N) : sched_openAll N b c p t l = some (b, c, p, t, (bothErr b c p t l).2) := by
 unfold sched_openAll
 rw [CheckBearers_eq hM h4 b c p t l hn]
 rfl
theorem bothErr_zero {b c p : Int} {t : List Int} {l : List Bearer} (h : (bothErr b c p t l).2 = 0) : siteErr b c p t = 0 ∧ l.length ≤ 8 ∧ (∀ x ∈ l, bearErr t x = 0) ∧ fitB b c p t l = true := by
 unfold bothErr at h
 by_cases hs : siteErr b c p t = 0
 ·
  rw [if_neg (by simpa using hs)] at h
  unfold bearsErr at h
  by_cases h8 : (8 : Int) < l.length
  · rw [if_pos h8] at h; exact absurd h (by decide)
  ·
   rw [if_neg h8] at h
   rcases hq : bearsE t l 0 l with _ | r
   ·
    rw [hq] at h
    refine ⟨hs, by omega, bearsE_none l 0 hq, ?_⟩
    cases hf : fitB b c p t l
    · rw [hf] at h; exact absurd h (by decide)
    · rfl
   ·
    rw [hq] at h
    exfalso
    have : ∀ (s : List Bearer) (k : Nat), bearsE t l k s = some r → r.2 ≠ 0 := by
     intro s
     induction s with
     | nil => intro k hk; simp [bearsE] at hk
     | cons y s ih =>
      intro k hk
      rw [bearsE] at hk
      by_cases h1 : bearErr t y = 0
      ·
       rw [if_neg (by simpa using h1)] at hk
       by_cases h2 : hasName (l.take k) y.1 = true
       ·
        rw [if_pos h2] at hk
        simp only [Option.some.injEq] at hk
        rw [← hk]; show (5 : Int) ≠ 0; decide
       · rw [if_neg h2] at hk; exact ih _ hk
      ·
       rw [if_pos h1] at hk
       simp only [Option.some.injEq] at hk
       rw [← hk]; exact h1
    exact this l 0 hq h
 · rw [if_pos hs] at h; exact absurd h hs
theorem BothErr_eq {N : Nat} (hM : N ≤ 20000) (h4 : 16 < N) (b c p : Int) (t : List Int) (l : List Bearer) : ref06_BothErr N b c p t l = some (bothErr b c p t l).2 := by
 unfold ref06_BothErr bothErr
 rw [SiteErr_eq hM h4]
 simp only [bnd_val]
 by_cases h : siteErr b c p t = 0
 ·
  obtain ⟨h1, h2, h3, _, h5, h6⟩ := siteErr_zero h
  rw [br_neg (by simpa using h), if_neg (by simpa using h), RefBearers_eq hM h4 h6 (by omega)]
  rfl
 · rw [br_pos (by simpa using h), if_pos h]
theorem Few_true {N : Nat} (hM : N ≤ 20000) (h4 : 24 < N) {b c p : Int} {t : List Int} {l : List Bearer} {r : Bool} (h : law06_Few N b c p t l = some r) : r = true → t.length ≤ 18 ∧ l.length ≤ 10 ∧ ∀ x ∈ l, x.1.size ≤ 20 := by
 unfold law06_Few at h
 intro hr
 subst hr
 by_cases h1 : (((decide ((t.length : Int) > (18 : Int))) || ((decide ((l.length : Int) > (6 : Int))) && (decide ((l.length : Int) < (8 : Int))))) || (decide ((l.length : Int) > (10 : Int)))) = true
 · rw [br_pos h1] at h; simp at h
 ·
  rw [br_neg (by simpa using h1)] at h
  have h1' : ¬ ((t.length : Int) > 18) ∧ ¬ ((l.length : Int) > 10) := by
   simp only [Bool.or_eq_true, Bool.and_eq_true, decide_eq_true_eq] at h1
   omega
  simp only [jn] at h
  rw [rds_scan l default (fun x => decide ((x.1.size : Int) > 20)) (some false) (some true) _ (fun k rec hk => ?_) (fun rec => ?_) (by omega)] at h
  ·
   refine ⟨by omega, by omega, fun x hx => ?_⟩
   by_cases h2 : (l.any fun x => decide ((x.1.size : Int) > 20)) = true
   · rw [if_pos h2] at h; simp at h
   ·
    rw [Bool.not_eq_true, List.any_eq_false] at h2
    have := h2 x hx
    simp only [decide_eq_true_eq] at this
    omega
  ·
   simp only [law06_Few.b1]
   rw [br_pos (by simpa using hk), chk_pos (by omega), w64_succ (by omega)]
   simp only [Int.toNat_natCast]
   rfl
  ·
   simp only [law06_Few.b1]
   rw [br_neg (by simp)]
theorem Few_some {N : Nat} (hM : N ≤ 20000) (h4 : 24 < N) (b c p : Int) (t : List Int) (l : List Bearer) : ∃ r, law06_Few N b c p t l = some r := by
 unfold law06_Few
 by_cases h1 : (((decide ((t.length : Int) > (18 : Int))) || ((decide ((l.length : Int) > (6 : Int))) && (decide ((l.length : Int) < (8 : Int))))) || (decide ((l.length : Int) > (10 : Int)))) = true
 · rw [br_pos h1]; exact ⟨_, rfl⟩
 ·
  rw [br_neg (by simpa using h1)]
  have h1' : ¬ ((l.length : Int) > 10) := by
   simp only [Bool.or_eq_true, Bool.and_eq_true, decide_eq_true_eq] at h1
   omega
  simp only [jn]
  rw [rds_scan l default (fun x => decide ((x.1.size : Int) > 20)) (some false) (some true) _ (fun k rec hk => ?_) (fun rec => ?_) (by omega)]
  ·
   by_cases h2 : (l.any fun x => decide ((x.1.size : Int) > 20)) = true
   · rw [if_pos h2]; exact ⟨_, rfl⟩
   · rw [if_neg h2]; exact ⟨_, rfl⟩
  ·
   simp only [law06_Few.b1]
   rw [br_pos (by simpa using hk), chk_pos (by omega), w64_succ (by omega)]
   simp only [Int.toNat_natCast]
   rfl
  ·
   simp only [law06_Few.b1]
   rw [br_neg (by simp)]
theorem Copy_eq (N : Nat) (b c p : Int) {t : List Int} (h : t.length ≤ 1000000) : ref06_Copy N b c p t = some (b, c, p, t) := by
 unfold ref06_Copy base_CopyInts
 rw [chk_pos (by simp; omega)]; rfl
theorem CopyBearers_eq (N : Nat) {l : List Bearer} (h : l.length ≤ 1000000) : ref06_CopyBearers N l = some l := by
 unfold ref06_CopyBearers
 rw [chk_pos (by omega)]
end Go.Sh

/-
 The laws of bearers and of delays, of contracts: what the shallow functions come to.
-/
namespace Go.Sh
open Go.PW

end Go.Sh

/-
 What the shallow functions of the scheduling chapter come to: the last bearer of a kind, admission.
-/
namespace Go.Sh
open Go.PW

def lastG (l : List Bearer) (kind : Int) : Nat → Int → List Bearer → Int
 | _, a, [] => a
 | k, a, y :: r => if y.2.1 = kind ∧ (a < 0 ∨ y.2.2.1 ≥ (l.getD a.toNat default).2.2.1) then lastG l kind (k + 1) k r else lastG l kind (k + 1) a r
def lastB (l : List Bearer) (kind : Int) : Int := lastG l kind 0 (-1) l
theorem lastG_spec (l : List Bearer) (kind : Int) : ∀ (r : List Bearer) (k : Nat) (a : Int), l.drop k = r → k ≤ l.length →
  ((a = -1 ∧ ∀ y ∈ l.take k, y.2.1 ≠ kind) ∨ (0 ≤ a ∧ ∃ h : a.toNat < l.length, l[a.toNat].2.1 = kind)) →
  ((lastG l kind k a r = -1 ∧ ∀ y ∈ l, y.2.1 ≠ kind) ∨ (0 ≤ lastG l kind k a r ∧ ∃ h : (lastG l kind k a r).toNat < l.length, l[(lastG l kind k a r).toNat].2.1 = kind))
 | [], k, a, hd, hk, h => by
  rw [lastG]
  have hkl : k = l.length := by
   have := congrArg List.length hd
   simp at this; omega
  subst hkl
  rcases h with ⟨h1, h2⟩ | h
  · exact .inl ⟨h1, by rwa [List.take_length] at h2⟩
  · exact .inr h
 | y :: r, k, a, hd, hk, h => by
  have hkl : k < l.length := by
   rcases Nat.lt_or_ge k l.length with h' | h'
   · exact h'
   · rw [List.drop_eq_nil_of_le h'] at hd; cases hd
  rw [List.drop_eq_getElem_cons hkl] at hd
  injection hd with hy hr
  rw [lastG]
  by_cases hc : y.2.1 = kind ∧ (a < 0 ∨ y.2.2.1 ≥ (l.getD a.toNat default).2.2.1)
  ·
   rw [if_pos hc]
   refine lastG_spec l kind r (k + 1) k hr hkl (.inr ⟨by omega, ?_⟩)
   refine ⟨by simpa using hkl, ?_⟩
   simp only [Int.toNat_natCast]
   rw [hy]; exact hc.1
  ·
   rw [if_neg hc]
   refine lastG_spec l kind r (k + 1) a hr hkl ?_
   rcases h with ⟨h1, h2⟩ | h
   ·
    refine .inl ⟨h1, fun z hz => ?_⟩
    rw [take_snoc l hkl] at hz
    rcases List.mem_append.1 hz with hz | hz
    · exact h2 z hz
    ·
     simp only [List.mem_singleton] at hz
     subst hz
     rw [hy]
     intro he
     exact hc ⟨he, .inl (by omega)⟩
   · exact .inr h
theorem lastB_spec (l : List Bearer) (kind : Int) : (lastB l kind = -1 ∧ ∀ y ∈ l, y.2.1 ≠ kind) ∨ (0 ≤ lastB l kind ∧ ∃ h : (lastB l kind).toNat < l.length, l[(lastB l kind).toNat].2.1 = kind) :=
 lastG_spec l kind l 0 (-1) (List.drop_zero ..) (Nat.zero_le _) (.inl ⟨rfl, by simp⟩)
theorem last_eq {N : Nat} (hM : N ≤ 20000) (l : List Bearer) (hl : l.length < N) (kind : Int) : sched_last N l kind = some (lastB l kind) := by
 unfold sched_last
 simp only [jn]
 refine (rds_spec (fun s : Int × Int => ∃ k : Nat, k ≤ l.length ∧ s.2 = (k : Int) ∧ s.1 < l.length) (fun s => l.length - s.2.toNat)
  (fun s => some (lastG l kind s.2.toNat s.1 (l.drop s.2.toNat))) (fun rec s hI hrec => ?_) N (-1, 0) ⟨0, Nat.zero_le _, rfl, by simp only; omega⟩ (by simp; omega)).trans (by simp [lastB])
 obtain ⟨k, hk, hs, ha⟩ := hI
 obtain ⟨a, i⟩ := s
 simp only at hs ha
 subst hs
 simp only [sched_last.b1, Int.toNat_natCast]
 by_cases hkl : k < l.length
 ·
  rw [br_pos (by simpa using hkl), chk_pos (by omega), List.drop_eq_getElem_cons hkl, lastG, w64_succ (by omega)]
  simp only [getD_of hkl]
  rw [chk_pos (by intro hh; simp only [Bool.and_eq_true, Bool.not_eq_true', decide_eq_false_iff_not] at hh; omega)]
  rw [hrec _ ⟨k + 1, hkl, rfl, by simp only; omega⟩ (by simp only [Int.toNat_natCast]; omega), hrec _ ⟨k + 1, hkl, rfl, by simp only; omega⟩ (by simp only [Int.toNat_natCast]; omega)]
  simp only [Int.toNat_natCast]
  by_cases hc : l[k].2.1 = kind ∧ (a < 0 ∨ l[k].2.2.1 ≥ (l.getD a.toNat default).2.2.1)
  · rw [if_pos hc, br_pos (by simp only [Bool.and_eq_true, beq_iff_eq, Bool.or_eq_true, decide_eq_true_eq]; exact hc)]
  ·
   rw [if_neg hc, br_neg]
   rw [Bool.eq_false_iff]
   intro hh
   simp only [Bool.and_eq_true, beq_iff_eq, Bool.or_eq_true, decide_eq_true_eq] at hh
   exact hc hh
 ·
  have : k = l.length := by omega
  subst this
  rw [br_neg (by simp)]
  simp [lastG]

def admitL (b c p : Int) (t : List Int) (x : Bearer) : Nat → List Bearer → List ByteArray → List Bearer × List ByteArray × Int
 | 0, _, _ => ([], [], 28)
 | n + 1, l, rem =>
  if l.length ≠ 8 ∧ fitB b c p t (l ++ [x]) = true then (l ++ [x], rem, 0) else
  let a := if l.length = 8 ∧ 0 ≤ lastB l 0 then lastB l 0 else lastB l 1
  if x.2.1 ≠ 2 ∨ a < 0 then ([], [], 28) else
  admitL b c p t x n (l.take a.toNat ++ l.drop (a.toNat + 1)) (rem ++ [(l.getD a.toNat default).1])
def admitB (b c p : Int) (t : List Int) (l : List Bearer) (x : Bearer) : List Bearer × List ByteArray × Int :=
 if hasName l x.1 = true then ([], [], 5) else if fitB b c p t [x] = false then ([], [], 8) else admitL b c p t x (l.length + 1) l []
theorem admitL_eq {N : Nat} (hM : N ≤ 20000) (h4 : 24 < N) {b c p : Int} (hb : 0 ≤ b ∧ b ≤ 1000000) (hc : 0 ≤ c ∧ c ≤ 1000000) (hp : 0 ≤ p ∧ p ≤ 1000000) {t : List Int} (ht : rightT t) {x : Bearer} (hx : bearErr t x = 0) :
  ∀ (n m : Nat) (l : List Bearer) (rem : List ByteArray), n ≤ N → l.length < n → l.length < m → l.length ≤ 8 → rem.length + l.length ≤ 8 → (∀ y ∈ l, bearErr t y = 0) →
  rds (sched_Admit.b1 N x.1 x.2.1 x.2.2.1 x.2.2.2.1 x.2.2.2.2.1 x.2.2.2.2.2.1 x.2.2.2.2.2.2.1 x.2.2.2.2.2.2.2.1 x.2.2.2.2.2.2.2.2 b c p t) n (l, rem) = some (admitL b c p t x m l rem)
 | 0, _, _, _, _, h, _, _, _, _ => by omega
 | n + 1, 0, _, _, _, _, h, _, _, _ => by omega
 | n + 1, m + 1, l, rem, hnN, hn, hm, hl, hr, hy => by
  rw [rds_succ]
  simp only [sched_Admit.b1, slices_Clone_bb]
  rw [chk_pos (by omega)]
  simp only [bnd_val]
  have hall : ∀ z ∈ l ++ [x], bearErr t z = 0 := fun z hz => by
   rcases List.mem_append.1 hz with hz | hz
   · exact hy z hz
   · simp only [List.mem_singleton] at hz; rw [hz]; exact hx
  rw [chk_pos (by simp; omega), fit_eq hM hb hc hp ht (l ++ [x]) (by simp; omega) hall, last_eq hM l (by omega), last_eq hM l (by omega)]
  have e8 : (!((l.length : Int) == 8)) = decide (l.length ≠ 8) := by rw [Bool.eq_iff_iff]; simp; omega
  rw [e8, grd_and]
  simp only [bnd_val, andself]
  rw [admitL]
  by_cases h1 : l.length ≠ 8 ∧ fitB b c p t (l ++ [x]) = true
  · rw [if_pos h1, br_pos (by simp [h1])]
  ·
   rw [if_neg h1, br_neg (by rw [Bool.eq_false_iff]; intro hh; simp only [Bool.and_eq_true, decide_eq_true_eq] at hh; exact h1 hh)]
   simp only [jn]
   have key : ∀ a : Int, (a = -1 ∨ (0 ≤ a ∧ a.toNat < l.length)) → (br ((x.2.1 != 2) || (decide (a < 0))) (some (([] : List Bearer), ([] : List ByteArray), (28 : Int)))
     (chk (0 ≤ a ∧ a < (l.length : Int)) <| chk (rem.length + ([(l.getD a.toNat default).1] : List ByteArray).length ≤ 1000000000) <| chk (0 ≤ a ∧ a < (w64 (a + (1 : Int))) ∧ (w64 (a + (1 : Int))) ≤ (l.length : Int)) <|
      rds (sched_Admit.b1 N x.1 x.2.1 x.2.2.1 x.2.2.2.1 x.2.2.2.2.1 x.2.2.2.2.2.1 x.2.2.2.2.2.2.1 x.2.2.2.2.2.2.2.1 x.2.2.2.2.2.2.2.2 b c p t) n ((l.take a.toNat ++ l.drop (w64 (a + (1 : Int))).toNat), (rem ++ ([(l.getD a.toNat default).1] : List ByteArray))))) =
     some (if x.2.1 ≠ 2 ∨ a < 0 then ([], [], 28) else admitL b c p t x m (l.take a.toNat ++ l.drop (a.toNat + 1)) (rem ++ [(l.getD a.toNat default).1])) := fun a ha => by
    by_cases h2 : x.2.1 ≠ 2 ∨ a < 0
    · rw [if_pos h2, br_pos (by simpa using h2)]
    ·
     rw [if_neg h2, br_neg (by rw [Bool.eq_false_iff]; intro hh; simp only [Bool.or_eq_true, bne_iff_ne, decide_eq_true_eq] at hh; exact h2 hh)]
     have ha' : 0 ≤ a ∧ a.toNat < l.length := by omega
     rw [w64_id (by omega), chk_pos (by omega), chk_pos (by simp; omega), chk_pos (by omega)]
     have e1 : (a + 1).toNat = a.toNat + 1 := by omega
     rw [e1]
     refine admitL_eq hM h4 hb hc hp ht hx n m _ _ (by omega) ?_ ?_ ?_ ?_ ?_
     · simp; omega
     · simp; omega
     · simp; omega
     · simp; omega
     ·
      intro z hz
      rcases List.mem_append.1 hz with hz | hz
      · exact hy z (List.mem_of_mem_take hz)
      · exact hy z (List.mem_of_mem_drop hz)
   have s0 := lastB_spec l 0
   have s1 := lastB_spec l 1
   have r0 : lastB l 0 = -1 ∨ (0 ≤ lastB l 0 ∧ (lastB l 0).toNat < l.length) := by
    rcases s0 with ⟨h, _⟩ | ⟨h, h', _⟩
    · exact .inl h
    · exact .inr ⟨h, h'⟩
   have r1 : lastB l 1 = -1 ∨ (0 ≤ lastB l 1 ∧ (lastB l 1).toNat < l.length) := by
    rcases s1 with ⟨h, _⟩ | ⟨h, h', _⟩
    · exact .inl h
    · exact .inr ⟨h, h'⟩
   by_cases h3 : l.length = 8 ∧ 0 ≤ lastB l 0
   ·
    rw [if_pos h3, br_pos (by simp; omega)]
    exact key _ r0
   ·
    rw [if_neg h3, br_neg (by rw [Bool.eq_false_iff]; intro hh; simp only [Bool.and_eq_true, beq_iff_eq, decide_eq_true_eq] at hh; exact h3 ⟨by omega, by omega⟩)]
    exact key _ r1
theorem Admit_eq {N : Nat} (hM : N ≤ 20000) (h4 : 24 < N) {b c p : Int} {t : List Int} {l : List Bearer} (hB : (bothErr b c p t l).2 = 0) (hnl : ∀ y ∈ l, y.1.size < N) {x : Bearer} (hx : bearErr t x = 0) (hxn : x.1.size < N) :
  sched_Admit N b c p t l x.1 x.2.1 x.2.2.1 x.2.2.2.1 x.2.2.2.2.1 x.2.2.2.2.2.1 x.2.2.2.2.2.2.1 x.2.2.2.2.2.2.2.1 x.2.2.2.2.2.2.2.2 = some (admitB b c p t l x) := by
 obtain ⟨h1, h2, h3, h5⟩ := bothErr_zero hB
 obtain ⟨g1, g2, g3, _, g5, g6⟩ := siteErr_zero h1
 unfold sched_Admit admitB
 rw [openAll_eq hM (by omega) b c p t l hnl, hB]
 simp only [bnd_val, bne_self_eq_false, br_false]
 rw [bearerErr_eq hM (by omega) b c p t (by omega) _ _ _ _ _ _ _ _ _ hxn, named_eq hM l (by omega)]
 simp only [bnd_val, unless_eq]
 rw [first_eq hM _ (by simp; omega)]
 have hx' : bearErr t (x.1, x.2.1, x.2.2.1, x.2.2.2.1, x.2.2.2.2.1, x.2.2.2.2.2.1, x.2.2.2.2.2.2.1, x.2.2.2.2.2.2.2.1, x.2.2.2.2.2.2.2.2) = 0 := hx
 rw [hx']
 simp only [bnd_val, firstE, ne_eq, not_true_eq_false, if_false, jn]
 cases hn : hasName l x.1
 ·
  simp only [Bool.not_false, if_true, not_true_eq_false, if_false, beq_self_eq_true, br_true, Bool.false_eq_true]
  have hfit := fit_eq hM (b := b) (c := c) (p := p) (by omega) (by omega) (by omega) g6 [x] (by simp; omega) (by intro y hy; simp only [List.mem_singleton] at hy; rw [hy]; exact hx)
  have hfit' : sched_site_fit N b c p t ([(x.1, x.2.1, x.2.2.1, x.2.2.2.1, x.2.2.2.2.1, x.2.2.2.2.2.1, x.2.2.2.2.2.2.1, x.2.2.2.2.2.2.2.1, x.2.2.2.2.2.2.2.2)] : List Bearer) = some (fitB b c p t [x]) := hfit
  rw [hfit']
  simp only [bnd_val]
  cases hf : fitB b c p t [x]
  · simp [br]
  ·
   simp only [if_true, bne_self_eq_false, br_false, slices_Clone_bb, Bool.true_eq_false, if_false]
   rw [chk_pos (by omega)]
   simp only [bnd_val]
   exact admitL_eq hM h4 (by omega) (by omega) (by omega) g6 hx N (l.length + 1) l [] (Nat.le_refl _) (by omega) (by omega) h2 (by simp; omega) h3
 · simp [br]
end Go.Sh

/-
 The law of emergencies that are not refused: what the shallow functions come to.
-/
namespace Go.Sh
open Go.PW

end Go.Sh

/-
 Admissions, as specified.
-/
namespace Go.Sh
open Go.PW

theorem RefLast_eq {N : Nat} (hM : N ≤ 20000) (l : List Bearer) (hl : l.length < N) (kind : Int) : ref06_last N l kind = some (lastB l kind) := by
 unfold ref06_last
 simp only [jn]
 refine (rds_spec (fun s : Int × Int => ∃ k : Nat, k ≤ l.length ∧ s.2 = (k : Int) ∧ s.1 < l.length) (fun s => l.length - s.2.toNat)
  (fun s => some (lastG l kind s.2.toNat s.1 (l.drop s.2.toNat))) (fun rec s hI hrec => ?_) N (-1, 0) ⟨0, Nat.zero_le _, rfl, by simp only; omega⟩ (by simp; omega)).trans (by simp [lastB])
 obtain ⟨k, hk, hs, ha⟩ := hI
 obtain ⟨a, i⟩ := s
 simp only at hs ha
 subst hs
 simp only [ref06_last.b1, Int.toNat_natCast]
 by_cases hkl : k < l.length
 ·
  rw [br_pos (by simpa using hkl), chk_pos (by omega), List.drop_eq_getElem_cons hkl, lastG, w64_succ (by omega)]
  simp only [getD_of hkl]
  rw [chk_pos (by intro hh; omega), chk_pos (by intro hh; simp only [Bool.and_eq_true, Bool.not_eq_true', decide_eq_false_iff_not] at hh; omega)]
  rw [hrec _ ⟨k + 1, hkl, rfl, by simp only; omega⟩ (by simp only [Int.toNat_natCast]; omega), hrec _ ⟨k + 1, hkl, rfl, by simp only; omega⟩ (by simp only [Int.toNat_natCast]; omega)]
  simp only [Int.toNat_natCast]
  by_cases hc : l[k].2.1 = kind ∧ (a < 0 ∨ l[k].2.2.1 ≥ (l.getD a.toNat default).2.2.1)
  · rw [if_pos hc, br_pos (by simp only [Bool.and_eq_true, beq_iff_eq, Bool.or_eq_true, decide_eq_true_eq]; exact hc)]
  ·
   rw [if_neg hc, br_neg]
   rw [Bool.eq_false_iff]
   intro hh
   simp only [Bool.and_eq_true, beq_iff_eq, Bool.or_eq_true, decide_eq_true_eq] at hh
   exact hc hh
 ·
  have : k = l.length := by omega
  subst this
  rw [br_neg (by simp)]
  simp [lastG]
theorem refAdmitL_eq {N : Nat} (hM : N ≤ 20000) (h4 : 24 < N) {b c p : Int} {t : List Int} (ht : rightT t) {x : Bearer} (hx : bearErr t x = 0) :
  ∀ (n m : Nat) (l : List Bearer) (rem : List ByteArray), n ≤ N → l.length < n → l.length < m → l.length ≤ 8 → rem.length + l.length ≤ 8 → (∀ y ∈ l, bearErr t y = 0) →
  rds (ref06_Admit.b1 N b c p t x.1 x.2.1 x.2.2.1 x.2.2.2.1 x.2.2.2.2.1 x.2.2.2.2.2.1 x.2.2.2.2.2.2.1 x.2.2.2.2.2.2.2.1 x.2.2.2.2.2.2.2.2) n (l, rem) = some (admitL b c p t x m l rem)
 | 0, _, _, _, _, h, _, _, _, _ => by omega
 | n + 1, 0, _, _, _, _, h, _, _, _ => by omega
 | n + 1, m + 1, l, rem, hnN, hn, hm, hl, hr, hy => by
  rw [rds_succ]
  simp only [ref06_Admit.b1]
  rw [chk_pos (by omega), chk_pos (by simp; omega)]
  have hall : ∀ z ∈ l ++ [x], bearErr t z = 0 := fun z hz => by
   rcases List.mem_append.1 hz with hz | hz
   · exact hy z hz
   · simp only [List.mem_singleton] at hz; rw [hz]; exact hx
  have hF := Fit_eq hM (b := b) (c := c) (p := p) ht (l ++ [x]) (by simp; omega) hall
  change bnd (grd (decide ((l.length : Int) < 8)) false (ref06_Fit N b c p t (l ++ [x]))) _ = _
  rw [hF]
  have e8 : decide ((l.length : Int) < 8) = decide (l.length ≠ 8) := by rw [Bool.eq_iff_iff]; simp; omega
  rw [e8, grd_and]
  simp only [bnd_val, andself]
  rw [admitL]
  by_cases h1 : l.length ≠ 8 ∧ fitB b c p t (l ++ [x]) = true
  · rw [if_pos h1, br_pos (by simp [h1])]
  ·
   rw [if_neg h1, br_neg (by rw [Bool.eq_false_iff]; intro hh; simp only [Bool.and_eq_true, decide_eq_true_eq] at hh; exact h1 hh)]
   simp only [jn]
   by_cases hk : x.2.1 ≠ 2
   · rw [br_pos (by rw [bne_iff_ne]; exact hk), if_pos (Or.inl hk)]
   rw [br_neg (by rw [bne_eq_false_iff_eq]; exact Classical.not_not.1 hk)]
   have key : ∀ a : Int, (a = -1 ∨ (0 ≤ a ∧ a.toNat < l.length)) → (br (decide (a < 0)) (some (([] : List Bearer), ([] : List ByteArray), (28 : Int)))
     (chk (0 ≤ a ∧ a < (l.length : Int)) <| chk (rem.length + ([(l.getD a.toNat default).1] : List ByteArray).length ≤ 1000000000) <| chk (0 ≤ (0 : Int) ∧ (0 : Int) ≤ a ∧ a ≤ (l.length : Int)) <|
      chk ((l.take a.toNat).length ≤ 1000000000) <| chk (0 ≤ w64 (a + (1 : Int)) ∧ w64 (a + (1 : Int)) ≤ (l.length : Int) ∧ (l.length : Int) ≤ (l.length : Int)) <|
      chk ((l.take a.toNat).length + ((l.drop ((w64 (a + (1 : Int))).toNat)).take (l.length - (w64 (a + (1 : Int))).toNat)).length ≤ 1000000000) <|
      rds (ref06_Admit.b1 N b c p t x.1 x.2.1 x.2.2.1 x.2.2.2.1 x.2.2.2.2.1 x.2.2.2.2.2.1 x.2.2.2.2.2.2.1 x.2.2.2.2.2.2.2.1 x.2.2.2.2.2.2.2.2) n (((l.take a.toNat) ++ ((l.drop ((w64 (a + (1 : Int))).toNat)).take (l.length - (w64 (a + (1 : Int))).toNat))), (rem ++ ([(l.getD a.toNat default).1] : List ByteArray))))) =
     some (if x.2.1 ≠ 2 ∨ a < 0 then ([], [], 28) else admitL b c p t x m (l.take a.toNat ++ l.drop (a.toNat + 1)) (rem ++ [(l.getD a.toNat default).1])) := fun a ha => by
    by_cases h2 : a < 0
    · rw [if_pos (Or.inr h2), br_pos (by simpa using h2)]
    ·
     rw [if_neg (fun h => h.elim hk h2), br_neg (by simpa using h2)]
     have ha' : 0 ≤ a ∧ a.toNat < l.length := by omega
     rw [w64_id (by omega)]
     have e1 : (a + 1).toNat = a.toNat + 1 := by omega
     rw [e1]
     have e2 : (l.drop (a.toNat + 1)).take (l.length - (a.toNat + 1)) = l.drop (a.toNat + 1) := List.take_of_length_le (by simp)
     rw [e2, chk_pos (by omega), chk_pos (by simp; omega), chk_pos (by omega), chk_pos (by simp; omega), chk_pos (by omega), chk_pos (by simp; omega)]
     refine refAdmitL_eq hM h4 ht hx n m _ _ (by omega) ?_ ?_ ?_ ?_ ?_
     · simp; omega
     · simp; omega
     · simp; omega
     · simp; omega
     ·
      intro z hz
      rcases List.mem_append.1 hz with hz | hz
      · exact hy z (List.mem_of_mem_take hz)
      · exact hy z (List.mem_of_mem_drop hz)
   have s0 := lastB_spec l 0
   have s1 := lastB_spec l 1
   have r0 : lastB l 0 = -1 ∨ (0 ≤ lastB l 0 ∧ (lastB l 0).toNat < l.length) := by
    rcases s0 with ⟨h, _⟩ | ⟨h, h', _⟩
    · exact .inl h
    · exact .inr ⟨h, h'⟩
   have r1 : lastB l 1 = -1 ∨ (0 ≤ lastB l 1 ∧ (lastB l 1).toNat < l.length) := by
    rcases s1 with ⟨h, _⟩ | ⟨h, h', _⟩
    · exact .inl h
    · exact .inr ⟨h, h'⟩
   by_cases h8 : l.length = 8
   ·
    rw [br_pos (by simp [h8]), RefLast_eq hM l (by omega), bnd_val]
    by_cases h0 : 0 ≤ lastB l 0
    ·
     rw [br_neg (by simp only [decide_eq_false_iff_not]; omega), if_pos (show l.length = 8 ∧ 0 ≤ lastB l 0 from ⟨h8, h0⟩)]
     exact key _ r0
    ·
     rw [br_pos (by simp only [decide_eq_true_eq]; omega), if_neg (show ¬ (l.length = 8 ∧ 0 ≤ lastB l 0) from fun h => h0 h.2), RefLast_eq hM l (by omega), bnd_val]
     exact key _ r1
   ·
    rw [br_neg (by simp [h8]), br_pos (by simp), if_neg (show ¬ (l.length = 8 ∧ 0 ≤ lastB l 0) from fun h => h8 h.1), RefLast_eq hM l (by omega), bnd_val]
    exact key _ r1
theorem RefAdmit_eq {N : Nat} (hM : N ≤ 20000) (h4 : 24 < N) {b c p : Int} {t : List Int} {l : List Bearer} (hB : (bothErr b c p t l).2 = 0) {x : Bearer} (hx : bearErr t x = 0) :
  ref06_Admit N b c p t l x.1 x.2.1 x.2.2.1 x.2.2.2.1 x.2.2.2.2.1 x.2.2.2.2.2.1 x.2.2.2.2.2.2.1 x.2.2.2.2.2.2.2.1 x.2.2.2.2.2.2.2.2 = some (admitB b c p t l x) := by
 obtain ⟨h1, h2, h3, h5⟩ := bothErr_zero hB
 obtain ⟨g1, g2, g3, _, g5, g6⟩ := siteErr_zero h1
 unfold ref06_Admit admitB
 rw [find_eq hM l (by omega), bnd_val, findB_nonneg]
 cases hn : hasName l x.1
 ·
  have hF : ref06_Fit N b c p t ([(x.1, x.2.1, x.2.2.1, x.2.2.2.1, x.2.2.2.2.1, x.2.2.2.2.2.1, x.2.2.2.2.2.2.1, x.2.2.2.2.2.2.2.1, x.2.2.2.2.2.2.2.2)] : List Bearer) = some (fitB b c p t [x]) :=
   Fit_eq hM (b := b) (c := c) (p := p) g6 [x] (by simp; omega) (by intro y hy; simp only [List.mem_singleton] at hy; rw [hy]; exact hx)
  simp only [br_false, Bool.false_eq_true, if_false]
  rw [hF, bnd_val]
  cases hf : fitB b c p t [x]
  · simp [br]
  ·
   simp only [Bool.not_true, br_false, Bool.true_eq_false, if_false]
   rw [chk_pos (by omega)]
   exact refAdmitL_eq hM h4 g6 hx N (l.length + 1) l [] (Nat.le_refl _) (by omega) (by omega) h2 (by simp; omega) h3
 · simp [br]
theorem Texts_self {N : Nat} {l : List ByteArray} (hN : l.length < N) (h : N ≤ 20000) : base_Texts N l l = some true := by
 unfold base_Texts
 rw [br_neg (by simp)]
 simp only [jn]
 refine rds_up1 l.length _ (fun _ => some true) (fun k rec hk hrec => ?_) (fun rec => ?_) hN
 ·
  simp only [base_Texts.b1]
  rw [br_pos (by simpa using hk), chk_pos (by omega), chk_pos (by omega), br_neg (by simp), w64_succ (by omega), hrec]
 ·
  simp only [base_Texts.b1]
  rw [br_neg (by simp)]
theorem SameAdmission_self {N : Nat} {l : List Bearer} {r : List ByteArray} (hN : l.length < N) (hr : r.length < N) (h : N ≤ 20000) : ref06_SameAdmission N l r l r = some true := by
 unfold ref06_SameAdmission
 rw [br_neg (by simp)]
 simp only [jn]
 refine rds_up1 l.length _ (fun _ => some true) (fun k rec hk hrec => ?_) (fun rec => ?_) hN
 ·
  simp only [ref06_SameAdmission.b1]
  rw [br_pos (by simpa using hk), chk_pos (by omega), chk_pos (by omega), br_neg (by simp), w64_succ (by omega), hrec]
 ·
  simp only [ref06_SameAdmission.b1]
  rw [br_neg (by simp), Texts_self hr h, bnd_val]
theorem admitL_len {b c p : Int} {t : List Int} {x : Bearer} : ∀ (n : Nat) (l : List Bearer) (rem : List ByteArray), l.length ≤ 8 → (admitL b c p t x n l rem).1.length ≤ 9 ∧ (admitL b c p t x n l rem).2.1.length ≤ rem.length + n
 | 0, _, _, _ => by simp [admitL]
 | n + 1, l, rem, h => by
  rw [admitL]
  by_cases h1 : l.length ≠ 8 ∧ fitB b c p t (l ++ [x]) = true
  ·
   rw [if_pos h1]
   simp only [List.length_append, List.length_cons, List.length_nil]; omega
  rw [if_neg h1]
  generalize (if l.length = 8 ∧ 0 ≤ lastB l 0 then lastB l 0 else lastB l 1) = a
  by_cases h2 : x.2.1 ≠ 2 ∨ a < 0
  ·
   show (if x.2.1 ≠ 2 ∨ a < 0 then _ else _ : List Bearer × List ByteArray × Int).1.length ≤ 9 ∧ (if x.2.1 ≠ 2 ∨ a < 0 then _ else _ : List Bearer × List ByteArray × Int).2.1.length ≤ _
   rw [if_pos h2]; simp
  ·
   show (if x.2.1 ≠ 2 ∨ a < 0 then _ else _ : List Bearer × List ByteArray × Int).1.length ≤ 9 ∧ (if x.2.1 ≠ 2 ∨ a < 0 then _ else _ : List Bearer × List ByteArray × Int).2.1.length ≤ _
   rw [if_neg h2]
   have := admitL_len (b := b) (c := c) (p := p) (t := t) (x := x) n (l.take a.toNat ++ l.drop (a.toNat + 1)) (rem ++ [(l.getD a.toNat default).1]) (by simp; omega)
   simp only [List.length_append, List.length_cons, List.length_nil] at this ⊢
   omega
theorem AdmitErr_eq {N : Nat} (hM : N ≤ 20000) (h4 : 24 < N) {b c p : Int} {t : List Int} {l : List Bearer} (hnl : ∀ y ∈ l, y.1.size < N) {x : Bearer} (hxn : x.1.size < N)
  (h : (bothErr b c p t l).2 ≠ 0 ∨ ((bothErr b c p t l).2 = 0 ∧ bearErr t x ≠ 0)) :
  sched_Admit N b c p t l x.1 x.2.1 x.2.2.1 x.2.2.2.1 x.2.2.2.2.1 x.2.2.2.2.2.1 x.2.2.2.2.2.2.1 x.2.2.2.2.2.2.2.1 x.2.2.2.2.2.2.2.2 = some ([], [], if (bothErr b c p t l).2 ≠ 0 then (bothErr b c p t l).2 else bearErr t x) := by
 unfold sched_Admit
 rw [openAll_eq hM (by omega) b c p t l hnl, bnd_val]
 simp only
 rcases h with h | ⟨h, hx⟩
 · rw [if_pos h, br_pos (by rw [bne_iff_ne]; exact h)]
 ·
  obtain ⟨h1, h2, h3, h5⟩ := bothErr_zero h
  obtain ⟨g1, g2, g3, _, g5, g6⟩ := siteErr_zero h1
  have hx' : bearErr t (x.1, x.2.1, x.2.2.1, x.2.2.2.1, x.2.2.2.2.1, x.2.2.2.2.2.1, x.2.2.2.2.2.2.1, x.2.2.2.2.2.2.2.1, x.2.2.2.2.2.2.2.2) = bearErr t x := rfl
  rw [if_neg (fun h' => h' h), br_neg (by rw [bne_eq_false_iff_eq]; exact h), bearerErr_eq hM (by omega) b c p t (by omega) _ _ _ _ _ _ _ _ _ hxn, bnd_val, named_eq hM l (by omega), bnd_val]
  simp only [unless_eq, bnd_val]
  rw [first_eq hM _ (by simp; omega), bnd_val, hx']
  simp only [firstE, jn]
  rw [if_pos hx, br_neg (by rw [beq_eq_false_iff_ne]; exact hx), br_pos (by rw [bne_iff_ne]; exact hx)]
theorem law_SchedAdmits {N : Nat} (hM : N ≤ 20000) (h4 : 24 < N) (hA : law06_awake N = some true) (b c p : Int) (t : List Int) (l : List Bearer) (n : ByteArray) (k pr w po le bu ra de : Int) :
  law06_SchedAdmits N b c p t l n k pr w po le bu ra de = some true := by
 unfold law06_SchedAdmits
 rw [hA]
 simp only [bnd_val, Bool.not_true, br_false]
 obtain ⟨r, hr⟩ := Few_some hM h4 b c p t l
 have hF := Few_true hM h4 hr
 rw [hr]
 simp only [bnd_val]
 by_cases hg : ((!r) || (decide ((n.size : Int) > (20 : Int)))) = true
 · rw [br_pos hg]
 rw [Bool.not_eq_true] at hg
 rw [br_neg hg]
 have hg2 : r = true ∧ ¬ (n.size : Int) > 20 := by simpa using hg
 obtain ⟨f1, f2, f3⟩ := hF hg2.1
 have hn : n.size < N := by omega
 have hnl : ∀ y ∈ l, y.1.size < N := fun y hy => by have := f3 y hy; omega
 simp only [Copy_eq N b c p (show t.length ≤ 1000000 by omega), CopyBearers_eq N (show l.length ≤ 1000000 by omega), bnd_val, jn]
 rw [BothErr_eq hM (by omega)]
 have hsame : ref06_SameAdmission N ([] : List Bearer) ([] : List ByteArray) [] [] = some true := SameAdmission_self (by simp; omega) (by simp; omega) hM
 by_cases hB : (bothErr b c p t l).2 ≠ 0
 ·
  have eA := AdmitErr_eq hM h4 hnl (x := (n, k, pr, w, po, le, bu, ra, de)) hn (Or.inl hB)
  simp only at eA
  rw [eA]
  simp only [bnd_val, if_pos hB]
  rw [br_neg (by rw [beq_eq_false_iff_ne]; exact hB), br_neg (by rw [beq_eq_false_iff_ne]; exact hB), hsame]
  simp
 have hB := Classical.not_not.1 hB
 obtain ⟨h1, h2, h3, h5⟩ := bothErr_zero hB
 obtain ⟨g1, g2, g3, _, g5, g6⟩ := siteErr_zero h1
 have hBE := BearerErr_eq hM (show 16 < N by omega) b c p t (by omega) n k pr w po le bu ra de fun x hx => (g6 x hx).1
 by_cases hx : bearErr t (n, k, pr, w, po, le, bu, ra, de) ≠ 0
 ·
  have eA := AdmitErr_eq hM h4 hnl (x := (n, k, pr, w, po, le, bu, ra, de)) hn (Or.inr ⟨hB, hx⟩)
  simp only at eA
  rw [eA]
  simp only [bnd_val]
  rw [br_pos (by rw [hB]; rfl), hBE, bnd_val, br_neg (by rw [beq_eq_false_iff_ne]; exact hx), hsame, if_neg (fun h => h hB)]
  simp
 have hx := Classical.not_not.1 hx
 have eA := Admit_eq hM h4 hB hnl (x := (n, k, pr, w, po, le, bu, ra, de)) hx hn
 have eR := RefAdmit_eq hM h4 hB (x := (n, k, pr, w, po, le, bu, ra, de)) hx
 simp only at eA eR
 rw [eA]
 simp only [bnd_val]
 rw [br_pos (by rw [hB]; rfl), hBE, bnd_val, br_pos (by rw [hx]; rfl), eR]
 have hlen : (admitB b c p t l (n, k, pr, w, po, le, bu, ra, de)).1.length ≤ 9 ∧ (admitB b c p t l (n, k, pr, w, po, le, bu, ra, de)).2.1.length ≤ 9 := by
  unfold admitB
  split
  · simp
  ·
   split
   · simp
   ·
    have := admitL_len (b := b) (c := c) (p := p) (t := t) (x := (n, k, pr, w, po, le, bu, ra, de)) (l.length + 1) l [] h2
    simp only [List.length_nil] at this
    omega
 generalize admitB b c p t l (n, k, pr, w, po, le, bu, ra, de) = R at *
 obtain ⟨a, rem, e⟩ := R
 simp only at hlen
 simp only [bnd_val, BEq.rfl, grd_true]
 rw [SameAdmission_self (by omega) (by omega) hM]
 rfl
end Go.Sh

/-
 The first test of each law of the scheduling chapter: fixed calls come to what they should.
-/
namespace Go.Sh
open Go.PW
set_option maxRecDepth 100000
theorem awake_true : law06_awake 5000 = some true := by
 repeat delta law06_awake ref06_SameShares ref06_SameTrace base_Lists base_Lists.b1 base_Ints base_Ints.b1 ref06_SameAdmission ref06_SameAdmission.b1 base_Texts base_Texts.b1 sched_BestTurns sched_BestTurns.b1 sched_BestTurns.b3 sched_BestTurns.b2 sched_least sched_least.b1 slices_Min_ii slices_Min_ii.b1 sched_choices sched_caseErr sched_caseErr.b1 sched_caseErr_1 slices_ContainsFunc_ii slices_IndexFunc_ii slices_IndexFunc_ii.b1 sched_SharesOf sched_fair sched_fair.b5 sched_fair.b4 sched_fair.b2 sched_fair.b3 sched_fair.b1 sched_divisor sched_divisor.b1 sched_divisor.b2 sched_demandErr sched_demandErr.b1 sched_Run sched_Run.b8 sched_Run.b2 sched_Run.m129 sched_Run.b7 sched_Run.b5 sched_Run.m134 sched_Run.b4 sched_Run.b3 sched_Run.m1 sched_Run.b1 sched_user_taken sched_run_left sched_run_left.b1 sched_site_slotsErr sched_site_slotsErr.b1 sched_site_slotsErr.b2 law06_Best sched_Admit sched_Admit.b1 sched_last sched_last.b1 sched_openAll sched_CheckBearers sched_site_bearersErr sched_site_bearersErr.b1 sched_site_fit sched_site_room sched_site_room.b1 sched_named slices_ContainsFunc_api_SchedBearer_api_SchedBearer slices_IndexFunc_api_SchedBearer_api_SchedBearer slices_IndexFunc_api_SchedBearer_api_SchedBearer.b1 sched_named_1 law06_Alarm sched_NeedOf sched_site_need sched_ceil sched_guaranteed sched_openBearer sched_site_bearerErr sched_site_isReport sched_isName sched_isName.b1 sched_open sched_CheckSite sched_CheckSite.b1 sched_first sched_first.b1 sched_unless sched_within law06_Voice law06_Site slices_Clone_bb slices_Clone_ii
 simp only [w64_eq, ByteArray.toList_eq]
 decide +kernel
end Go.Sh
