/-
 Plain words: loops that count up. For every program.
-/
import Derived.Test.YtabojpkmfkjjkaaPlA
import Derived.Test.YtabojpkmfkjjkaaSsS
import Derived.Laws.Strings
set_option linter.all false
namespace Go.PW
theorem w64_succ {k : Nat} (h : k < 4611686018427387904) : w64 ((k : Int) + 1) = ((k + 1 : Nat) : Int) := by rw [w64_id (by omega)]; rfl

theorem rds_up1 {R : Type} (len : Nat) (b : (Int → Option R) → Int → Option R) (F : Nat → Option R)
  (hstep : ∀ k rec, k < len → rec ((k + 1 : Nat) : Int) = F (k + 1) → b rec (k : Int) = F k) (hend : ∀ rec, b rec (len : Int) = F len)
  {N : Nat} (hN : len < N) : rds b N 0 = F 0 := by
 have h := rds_spec (b := b) (fun x => ∃ k : Nat, k ≤ len ∧ x = k) (fun x => len - x.toNat) (fun x => F x.toNat) (fun rec x hI hrec => ?_) N 0 ⟨0, Nat.zero_le _, rfl⟩ (by simp; omega)
 · simpa using h
 ·
  obtain ⟨k, hk, hx⟩ := hI
  subst hx
  by_cases hkl : k < len
  ·
   rw [hstep k rec hkl ?_]
   · simp
   ·
    have := hrec ((k + 1 : Nat) : Int) ⟨k + 1, hkl, rfl⟩ (by simp only [Int.toNat_natCast]; omega)
    simpa using this
  ·
   have : k = len := by omega
   subst this
   rw [hend rec]; simp
end Go.PW

/-
 Plain words: loops that build a list, that fold, that look for a wrong element. For every program.
-/
namespace Go.PW

theorem rds_map {α R : Type} (len : Nat) (f : Nat → α) (b : (Int × List α → Option R) → Int × List α → Option R) (K : List α → Option R)
  (hstep : ∀ k acc rec, k < len → acc.length = k → b rec ((k : Int), acc) = rec (((k + 1 : Nat) : Int), acc ++ [f k])) (hend : ∀ acc rec, acc.length = len → b rec ((len : Int), acc) = K acc)
  {N : Nat} (hN : len < N) : rds b N (0, []) = K ((List.range len).map f) := by
 refine rds_spec (fun s : Int × List α => ∃ k : Nat, k ≤ len ∧ s = ((k : Int), (List.range k).map f)) (fun s => len - s.1.toNat) (fun _ => K ((List.range len).map f)) (fun rec s hI hrec => ?_) N (0, []) ⟨0, Nat.zero_le _, by simp⟩ (by simp; omega)
 obtain ⟨k, hk, rfl⟩ := hI
 by_cases hkl : k < len
 ·
  rw [hstep k _ rec hkl (by simp)]
  refine hrec _ ⟨k + 1, hkl, ?_⟩ (by simp only [Int.toNat_natCast]; omega)
  rw [List.range_succ, List.map_append]; rfl
 ·
  have : k = len := by omega
  subst this
  exact hend _ rec (by simp)
def itN {σ : Type} (g : Nat → σ → σ) : Nat → σ → σ
 | 0, s => s
 | n + 1, s => g n (itN g n s)
theorem rds_itR {σ R : Type} (len : Nat) (g : Nat → σ → σ) (I : Nat → σ → Prop) (b : (σ × Int → Option R) → σ × Int → Option R) (K : σ → Option R) {s : σ} (h0 : I 0 s)
  (hI : ∀ k s, k < len → I k s → I (k + 1) (g k s)) (hstep : ∀ k s rec, k < len → I k s → b rec (s, (k : Int)) = rec (g k s, ((k + 1 : Nat) : Int))) (hend : ∀ s rec, I len s → b rec (s, (len : Int)) = K s)
  {N : Nat} (hN : len < N) : rds b N (s, 0) = K (itN g len s) ∧ I len (itN g len s) := by
 have hIk : ∀ k, k ≤ len → I k (itN g k s) := fun k => by
  induction k with
  | zero => exact fun _ => h0
  | succ k ih => exact fun hk => hI k _ hk (ih (by omega))
 refine ⟨?_, hIk len (Nat.le_refl _)⟩
 refine rds_spec (fun x : σ × Int => ∃ k : Nat, k ≤ len ∧ x = (itN g k s, (k : Int))) (fun x => len - x.2.toNat) (fun _ => K (itN g len s)) (fun rec x hx hrec => ?_) N (s, 0) ⟨0, Nat.zero_le _, rfl⟩ (by simp; omega)
 obtain ⟨k, hk, rfl⟩ := hx
 by_cases hkl : k < len
 ·
  rw [hstep k _ rec hkl (hIk k hk)]
  exact hrec _ ⟨k + 1, hkl, rfl⟩ (by simp only [Int.toNat_natCast]; omega)
 ·
  have : k = len := by omega
  subst this
  exact hend _ rec (hIk k hk)
theorem any_drop {α : Type} (bad : α → Bool) (l : List α) (d : α) (k : Nat) (h : k < l.length) : (l.drop k).any bad = (bad (l.getD k d) || (l.drop (k + 1)).any bad) := by
 rw [List.drop_eq_getElem_cons h, List.any_cons]; simp [List.getD_eq_getElem?_getD, h]
theorem rds_scan {α R : Type} (l : List α) (d : α) (bad : α → Bool) (e K : Option R) (b : (Int → Option R) → Int → Option R)
  (hstep : ∀ k rec, k < l.length → b rec (k : Int) = if bad (l.getD k d) = true then e else rec ((k + 1 : Nat) : Int)) (hend : ∀ rec, b rec (l.length : Int) = K)
  {N : Nat} (hN : l.length < N) : rds b N 0 = if l.any bad = true then e else K := by
 refine (rds_up1 l.length _ (fun k => if (l.drop k).any bad = true then e else K) (fun k rec hk hr => ?_) (fun rec => ?_) hN).trans (by simp)
 ·
  rw [hstep k rec hk, hr, any_drop bad l d k hk]
  cases bad (l.getD k d) <;> simp
 · rw [hend]; simp
end Go.PW

/-
 What the shallow functions of the scheduling chapter come to: sites, names, bearers and their errors.
-/
namespace Go.Sh
open Go.PW

abbrev Bearer := ByteArray × Int × Int × Int × Int × Int × Int × Int × Int
def inB (n lo hi : Int) : Bool := (decide (lo ≤ n)) && (decide (n ≤ hi))
theorem inB_true {n lo hi : Int} : inB n lo hi = true ↔ lo ≤ n ∧ n ≤ hi := by simp [inB]
theorem within_eq (N : Nat) (n lo hi : Int) : sched_within N n lo hi = some (inB n lo hi) := rfl
theorem Within_eq (N : Nat) (n lo hi : Int) : base_Within N n lo hi = some (inB n lo hi) := rfl
theorem unless_eq (N : Nat) (b : Bool) (e : Int) : sched_unless N b e = some (if b = true then 0 else e) := by cases b <;> rfl
def firstE : List Int → Int
 | [] => 0
 | x :: l => if x ≠ 0 then x else firstE l
theorem getD_of {α : Type} {l : List α} {k : Nat} (h : k < l.length) (d : α) : l.getD k d = l[k] := by simp [List.getD_eq_getElem?_getD, h]
theorem first_eq {N : Nat} (hM : N ≤ 20000) (l : List Int) (h : l.length < N) : sched_first N l = some (firstE l) := by
 unfold sched_first
 simp only [jn]
 refine (rds_up1 l.length _ (fun k => some (firstE (l.drop k))) (fun k rec hk hr => ?_) (fun rec => ?_) h).trans (by simp)
 ·
  simp only [sched_first.b1]
  rw [br_pos (by simpa using hk), chk_pos (by omega), List.drop_eq_getElem_cons hk, firstE, w64_succ (by omega), hr, Int.toNat_natCast, getD_of hk]
  by_cases h0 : l[k] = 0 <;> simp [br, h0]
 · simp [sched_first.b1, br, firstE]

def tableErr : Int → List Int → Int
 | _, [] => 0
 | b, x :: l => if inB x 0 1000 = false then 2 else if x < b then 9 else tableErr x l
def siteErr (b c p : Int) (t : List Int) : Int :=
 if (inB b 1 20 && inB c 1 8 && inB p 0 100000) = false then 2 else if t.length = 0 then 10 else if (16 : Int) < t.length then 8 else tableErr 0 t
theorem CheckSite_eq {N : Nat} (hM : N ≤ 20000) (h4 : 16 < N) (b c p : Int) (t : List Int) : sched_CheckSite N b c p t = some (siteErr b c p t) := by
 unfold sched_CheckSite siteErr
 simp only [within_eq, bnd_val, unless_eq]
 have hg : ∀ (x : Bool) (y : Bool), grd x false (some y) = some (x && y) := by intro x y; cases x <;> rfl
 simp only [hg, bnd_val]
 rw [first_eq hM _ (by simp; omega)]
 simp only [bnd_val, firstE]
 generalize hA : (inB b 1 20 && inB c 1 8 && inB p 0 100000) = A
 have hA' : (inB b 1 20 && (inB b 1 20 && inB c 1 8) && (inB b 1 20 && (inB b 1 20 && inB c 1 8) && inB p 0 100000)) = A := by
  rw [← hA]; cases inB b 1 20 <;> cases inB c 1 8 <;> simp
 have hA'' : (inB b 1 20 && (inB b 1 20 && inB c 1 8) && (inB b 1 20 && inB c 1 8 && inB p 0 100000)) = A := by
  rw [← hA]; cases inB b 1 20 <;> cases inB c 1 8 <;> simp
 first | rw [hA'] | rw [hA''] | skip
 cases A
 · simp [br, jn]
 ·
  simp only [if_true, ne_eq, not_true_eq_false, if_false, Bool.true_eq_false]
  by_cases h1 : t.length = 0
  · simp [br, h1]
  ·
   by_cases h2 : (16 : Int) < t.length
   · simp [br, h1, h2, show ¬ (t.length : Int) ≤ 16 by omega, show (0 : Int) < t.length by omega]
   ·
    rw [if_neg h1, if_neg h2]
    simp only [show decide ((t.length : Int) > 0) = true by simp; omega, show decide ((t.length : Int) ≤ 16) = true by simp; omega, if_true, ne_eq, not_true_eq_false, if_false, bne_self_eq_false, br_false, jn]
    refine (rds_spec (fun s : Int × Int => ∃ k : Nat, k ≤ t.length ∧ s.2 = (k : Int)) (fun s => t.length - s.2.toNat) (fun s => some (tableErr s.1 (t.drop s.2.toNat))) (fun rec s hI hrec => ?_) N ((0 : Int), (0 : Int)) ⟨0, Nat.zero_le _, rfl⟩ (by simp; omega)).trans (by simp)
    obtain ⟨k, hk, hs⟩ := hI
    obtain ⟨bf, i⟩ := s
    simp only at hs
    subst hs
    simp only [sched_CheckSite.b1, Int.toNat_natCast]
    by_cases hkl : k < t.length
    ·
     rw [br_pos (by simpa using hkl), chk_pos (by omega), List.drop_eq_getElem_cons hkl, tableErr]
     simp only [within_eq, bnd_val, unless_eq, Int.toNat_natCast, getD_of hkl]
     rw [first_eq hM _ (by simp; omega), w64_succ (by omega), hrec _ ⟨k + 1, hkl, rfl⟩ (by simp only [Int.toNat_natCast]; omega)]
     simp only [bnd_val, firstE, Int.toNat_natCast]
     cases h3 : inB t[k] 0 1000
     · simp [br]
     ·
      by_cases h4 : t[k] < bf
      · simp [br, h4, show ¬ bf ≤ t[k] by omega]
      · simp [br, h4, show bf ≤ t[k] by omega]
    ·
     have : k = t.length := by omega
     subst this
     simp [br, tableErr]
theorem SiteErr_eq {N : Nat} (hM : N ≤ 20000) (h4 : 16 < N) (b c p : Int) (t : List Int) : ref06_SiteErr N b c p t = some (siteErr b c p t) := by
 unfold ref06_SiteErr siteErr
 simp only [Within_eq, bnd_val]
 have hg : ∀ (x : Bool) (y : Bool), grd x false (some y) = some (x && y) := by intro x y; cases x <;> rfl
 simp only [hg, bnd_val]
 cases h1 : inB b 1 20
 · simp [br]
 cases h2 : inB c 1 8
 · simp [br]
 cases h3 : inB p 0 100000
 · simp [br]
 simp only [Bool.true_and, Bool.not_true, Bool.or_false, Bool.not_false, Bool.and_true, br_false, Bool.and_self, Bool.true_eq_false, if_false, Bool.or_self]
 by_cases h5 : t.length = 0
 · simp [br, h5]
 rw [if_neg h5, br_neg (by simpa using h5)]
 by_cases h6 : (16 : Int) < t.length
 · rw [if_pos h6, br_pos (by simpa using h6)]
 rw [if_neg h6, br_neg (by simpa using h6)]
 simp only [jn]
 refine (rds_up1 t.length _ (fun k => some (tableErr (if k = 0 then 0 else t.getD (k - 1) 0) (t.drop k))) (fun k rec hk hr => ?_) (fun rec => ?_) (show t.length < N by omega)).trans (by simp)
 ·
  simp only [ref06_SiteErr.b1, Int.toNat_natCast]
  rw [br_pos (by simpa using hk), chk_pos (by omega), List.drop_eq_getElem_cons hk, tableErr]
  simp only [Within_eq, bnd_val, Int.toNat_natCast, getD_of hk]
  rw [w64_succ (by omega), hr]
  cases h7 : inB t[k] 0 1000
  · simp [br]
  ·
   simp only [Bool.not_true, br_false, Bool.true_eq_false, if_false]
   rw [chk_pos (by intro _; omega)]
   by_cases hk0 : k = 0
   ·
    subst hk0
    rw [chk_pos (by intro h; simp at h)]
    have hpos : 0 ≤ t[0] := (inB_true.1 h7).1
    have hg0 : t[0]? = some t[0] := List.getElem?_eq_getElem hk
    simp [br, show ¬ t[0] < 0 by omega, hg0]
   ·
    rw [w64_id (by omega), chk_pos (by intro _; omega)]
    have e : ((k : Int) - 1).toNat = k - 1 := by omega
    rw [e, if_neg hk0]
    simp only [show decide ((k : Int) > 0) = true by simp; omega, Bool.true_and, Nat.add_eq_zero_iff, Nat.one_ne_zero, and_false, if_false, Nat.add_sub_cancel, getD_of hk]
    by_cases h8 : t[k] < t.getD (k - 1) 0
    · rw [br_pos (by simpa using h8), if_pos h8]
    · rw [br_neg (by simpa using h8), if_neg h8]
 · simp [ref06_SiteErr.b1, br, tableErr]
end Go.Sh

/-
 What the shallow functions of the scheduling chapter come to: names, and the errors of one bearer.
-/
namespace Go.Sh
open Go.PW

def chBad (f : Bool) (c : Int) : Bool :=
 ((!(((decide (c ≥ (97 : Int))) && (decide (c ≤ (122 : Int)))) || ((decide (c ≥ (65 : Int))) && (decide (c ≤ (90 : Int)))))) && (f || ((c != (45 : Int)) && ((decide (c < (48 : Int))) || (decide (c > (57 : Int)))))))
def nameL : Bool → List Int → Bool
 | _, [] => true
 | f, c :: l => !(chBad f c) && nameL false l
def nameOK (s : ByteArray) : Bool := decide (1 ≤ s.size ∧ s.size ≤ 12) && nameL true (bytesL s)
theorem noText (s : ByteArray) : (s.toList == (⟨#[]⟩ : ByteArray).toList) = decide (s.size = 0) := by
 rw [ByteArray.toList_eq, ByteArray.toList_eq]
 have : s.size = s.data.toList.length := by simp
 rw [this]
 cases s.data.toList <;> simp
theorem isName_eq {N : Nat} (hM : N ≤ 20000) (s : ByteArray) (h : s.size < N) : sched_isName N s = some (nameOK s) := by
 unfold sched_isName
 simp only [jn]
 have hl := bytesL_length s
 refine (rds_up1 (bytesL s).length _ (fun k => some (nameL (decide (k = 0)) ((bytesL s).drop k) && decide (1 ≤ s.size ∧ s.size ≤ 12))) (fun k rec hk hr => ?_) (fun rec => ?_) (by omega)).trans ?_
 ·
  simp only [sched_isName.b1]
  rw [br_pos (by simpa using hk), chk_pos (by omega), List.drop_eq_getElem_cons hk, nameL, w64_succ (by omega), hr]
  simp only [Int.toNat_natCast, getD_of hk]
  have hc : (((!(((decide (((bytesL s)[k]) ≥ (97 : Int))) && (decide (((bytesL s)[k]) ≤ (122 : Int)))) || ((decide (((bytesL s)[k]) ≥ (65 : Int))) && (decide (((bytesL s)[k]) ≤ (90 : Int)))))) && (((k : Int) == (0 : Int)) || ((((bytesL s)[k]) != (45 : Int)) && ((decide (((bytesL s)[k]) < (48 : Int))) || (decide (((bytesL s)[k]) > (57 : Int)))))))) = chBad (decide (k = 0)) (bytesL s)[k] := by
   unfold chBad
   have : ((k : Int) == 0) = decide (k = 0) := by rw [Bool.eq_iff_iff]; simp
   rw [this]
  rw [hc]
  cases chBad (decide (k = 0)) (bytesL s)[k]
  · simp [br]
  · simp [br]
 ·
  simp only [sched_isName.b1, noText]
  rw [br_neg (by simp)]
  simp only [List.drop_length, nameL, Bool.true_and, Option.some.injEq]
  rw [Bool.eq_iff_iff]
  simp only [Bool.and_eq_true, Bool.not_eq_true', decide_eq_false_iff_not, decide_eq_true_eq]
  omega
 · rw [nameOK, Bool.and_comm]; rfl
theorem IsName_eq {N : Nat} (hM : N ≤ 20000) (h12 : 12 < N) (s : ByteArray) : base_IsName N s = some (nameOK s) := by
 unfold base_IsName nameOK
 by_cases h1 : 1 ≤ s.size ∧ s.size ≤ 12
 ·
  rw [br_neg (by simp; omega)]
  simp only [jn]
  have hl := bytesL_length s
  refine (rds_up1 s.size _ (fun k => some (nameL (decide (k = 0)) ((bytesL s).drop k))) (fun k rec hk hr => ?_) (fun rec => ?_) (by omega)).trans (by simp [h1])
  ·
   have hk' : k < (bytesL s).length := by omega
   simp only [base_IsName.b1]
   rw [br_pos (by simpa using hk), chk_pos (by omega), List.drop_eq_getElem_cons hk', nameL, w64_succ (by omega), hr]
   have hb : ((s.data.getD k 0).toNat : Int) = (bytesL s)[k] := by rw [← bytesL_getD s hk, getD_of hk']
   simp only [Int.toNat_natCast, hb]
   have hc : (((!(((decide (((bytesL s)[k]) ≥ (97 : Int))) && (decide (((bytesL s)[k]) ≤ (122 : Int)))) || ((decide (((bytesL s)[k]) ≥ (65 : Int))) && (decide (((bytesL s)[k]) ≤ (90 : Int)))))) && (((k : Int) == (0 : Int)) || ((((bytesL s)[k]) != (45 : Int)) && ((decide (((bytesL s)[k]) < (48 : Int))) || (decide (((bytesL s)[k]) > (57 : Int)))))))) = chBad (decide (k = 0)) (bytesL s)[k] := by
    unfold chBad
    have : ((k : Int) == 0) = decide (k = 0) := by rw [Bool.eq_iff_iff]; simp
    rw [this]
   rw [hc]
   cases chBad (decide (k = 0)) (bytesL s)[k]
   · simp [br]
   · simp [br]
  ·
   simp only [base_IsName.b1]
   rw [br_neg (by simp), ← hl]
   simp [nameL]
 ·
  rw [br_pos (by simp; omega)]
  simp [h1]

def bearErr (t : List Int) (x : Bearer) : Int :=
 if nameOK x.1 = false then 4 else if inB x.2.1 0 2 = false then 15 else
 if (inB x.2.2.1 0 100 && inB x.2.2.2.1 1 100 && inB x.2.2.2.2.1 0 100000) = false then 2 else
 if x.2.1 = 0 then (if x.2.2.2.2.2.1 = 0 ∧ x.2.2.2.2.2.2.1 = 0 ∧ x.2.2.2.2.2.2.2.1 = 0 ∧ x.2.2.2.2.2.2.2.2 = 0 then 0 else 3) else
 if (inB x.2.2.2.2.2.1 0 ((t.length : Int) - 1) && inB x.2.2.2.2.2.2.1 1 1000000 && inB x.2.2.2.2.2.2.2.1 0 1000000 && inB x.2.2.2.2.2.2.2.2 1 1000) = false then 2 else
 if t.getD x.2.2.2.2.2.1.toNat 0 ≤ 0 then 11 else 0
theorem grd_and (x y : Bool) : grd x false (some y) = some (x && y) := by cases x <;> rfl
theorem andself (x y : Bool) : (x && (x && y)) = (x && y) := by cases x <;> rfl
theorem and3 (x y z : Bool) : (x && y && (x && y && z)) = (x && y && z) := by cases x <;> cases y <;> rfl
theorem bearerErr_eq {N : Nat} (hM : N ≤ 20000) (h4 : 16 < N) (b c p : Int) (t : List Int) (ht : t.length < N) (n : ByteArray) (k pr w po le bu ra de : Int) (hn : n.size < N) :
  sched_site_bearerErr N b c p t n k pr w po le bu ra de = some (bearErr t (n, k, pr, w, po, le, bu, ra, de)) := by
 unfold sched_site_bearerErr bearErr
 simp only [within_eq, bnd_val, grd_and, andself, and3, isName_eq hM n hn, unless_eq]
 rw [first_eq hM _ (by simp; omega)]
 simp only [bnd_val, firstE]
 cases h1 : nameOK n
 · simp [br]
 cases h2 : inB k 0 2
 · simp [br]
 cases h3 : (inB pr 0 100 && inB w 1 100 && inB po 0 100000)
 · simp [br]
 simp only [if_true, ne_eq, not_true_eq_false, if_false, Bool.true_eq_false, bne_self_eq_false, br_false]
 by_cases h5 : k = 0
 ·
  subst h5
  simp only [beq_self_eq_true, br_true, bnd_val, if_true]
  congr 1
  by_cases h6 : le = 0 ∧ bu = 0 ∧ ra = 0 ∧ de = 0
  · obtain ⟨rfl, rfl, rfl, rfl⟩ := h6; rfl
  · rw [if_neg (by simp; omega), if_neg h6]
 ·
  rw [br_neg (by simpa using h5), if_neg h5]
  simp only [sched_site_isReport, within_eq, bnd_val, w64_id (show -9223372036854775808 ≤ (t.length : Int) - 1 ∧ (t.length : Int) - 1 ≤ 9223372036854775807 by omega)]
  cases h6 : inB le 0 ((t.length : Int) - 1)
  · simp [br]
  ·
   have h7 := inB_true.1 h6
   simp only [Bool.not_true, br_false, Bool.true_and]
   rw [chk_pos (by omega), first_eq hM _ (by simp; omega)]
   simp only [bnd_val, firstE]
   cases (inB bu 1 1000000 && inB ra 0 1000000 && inB de 1 1000)
   · simp
   ·
    by_cases h8 : t.getD le.toNat 0 ≤ 0
    · simp [h8, show ¬ (0 : Int) < t[le.toNat]?.getD 0 by rw [← List.getD_eq_getElem?_getD]; omega]
    · simp [h8, show (0 : Int) < t[le.toNat]?.getD 0 by rw [← List.getD_eq_getElem?_getD]; omega]
theorem BearerErr_eq {N : Nat} (hM : N ≤ 20000) (h4 : 16 < N) (b c p : Int) (t : List Int) (ht : t.length < N) (n : ByteArray) (k pr w po le bu ra de : Int) (hpos : ∀ x ∈ t, (0 : Int) ≤ x) :
  ref06_BearerErr N b c p t n k pr w po le bu ra de = some (bearErr t (n, k, pr, w, po, le, bu, ra, de)) := by
 unfold ref06_BearerErr bearErr
 simp only [Within_eq, bnd_val, IsName_eq hM (by omega) n]
 cases h1 : nameOK n
 · simp [br]
 simp only [Bool.not_true, br_false]
 cases h2 : inB k 0 2
 · simp [br]
 simp only [Bool.not_true, br_false, grd_and, bnd_val]
 have e3 : ∀ x y z : Bool, (!x || !(x && y) || !(!(!x || !(x && y)) && z)) = !(x && y && z) := by intro x y z; cases x <;> cases y <;> cases z <;> rfl
 rw [e3]
 cases h3 : (inB pr 0 100 && inB w 1 100 && inB po 0 100000)
 · simp [br]
 simp only [Bool.not_true, br_false, Bool.true_eq_false, if_false]
 by_cases h5 : k = 0
 ·
  subst h5
  simp only [beq_self_eq_true, br_true, if_true]
  by_cases h6 : le = 0 ∧ bu = 0 ∧ ra = 0 ∧ de = 0
  · obtain ⟨rfl, rfl, rfl, rfl⟩ := h6; rfl
  · rw [br_pos (by simp; omega), if_neg h6]
 ·
  rw [br_neg (by simpa using h5), if_neg h5]
  simp only [ref06_IsReport, Within_eq, bnd_val, w64_id (show -9223372036854775808 ≤ (t.length : Int) - 1 ∧ (t.length : Int) - 1 ≤ 9223372036854775807 by omega), grd_and]
  have e4 : ∀ x y z u : Bool, (!x || !(x && y) || !(!(!x || !(x && y)) && z) || !(!(!x || !(x && y) || !(!(!x || !(x && y)) && z)) && u)) = !(x && y && z && u) := by
   intro x y z u; cases x <;> cases y <;> cases z <;> cases u <;> rfl
  rw [e4]
  cases h6 : (inB le 0 ((t.length : Int) - 1) && inB bu 1 1000000 && inB ra 0 1000000 && inB de 1 1000)
  · simp [br]
  ·
   have h7 := inB_true.1 (show inB le 0 ((t.length : Int) - 1) = true by simp only [Bool.and_eq_true] at h6; exact h6.1.1.1)
   simp only [Bool.not_true, br_false, Bool.true_eq_false, if_false]
   rw [chk_pos (by omega)]
   have hk : le.toNat < t.length := by omega
   have h0 : 0 ≤ t.getD le.toNat 0 := by rw [getD_of hk]; exact hpos _ (List.getElem_mem hk)
   by_cases h8 : t.getD le.toNat 0 ≤ 0
   · rw [br_pos (by simp only [beq_iff_eq]; omega), if_pos h8]
   · rw [br_neg (by simp only [beq_eq_false_iff_ne, ne_eq]; omega), if_neg h8]
end Go.Sh

/-
 What the shallow functions of the scheduling chapter come to: quotients rounded up, needs, room, names of several bearers.
-/
namespace Go.Sh
open Go.PW

def ceilI (n b : Int) : Int := (n + b - 1) / b
theorem ceilI_bounds {n b : Int} (hn : 0 ≤ n) (hb : 1 ≤ b) : 0 ≤ ceilI n b ∧ ceilI n b ≤ n := by
 unfold ceilI
 constructor
 · exact Int.ediv_nonneg (by omega) (by omega)
 ·
  have h1 : (n + b - 1) / b < n + 1 := by
   refine Int.ediv_lt_of_lt_mul (by omega) ?_
   have : (n + 1) * b = n * b + b := by rw [Int.add_mul, Int.one_mul]
   have h2 : n * 1 ≤ n * b := Int.mul_le_mul_of_nonneg_left hb hn
   omega
  omega
theorem ceil_eq (N : Nat) {n b : Int} (hn : 0 ≤ n) (hb : 1 ≤ b) (hn' : n ≤ 1000000000000) (hb' : b ≤ 1000000000000) : sched_ceil N n b = some (ceilI n b) := by
 unfold sched_ceil
 rw [chk_pos (by omega), w64_id (n := n + b) (by omega), w64_id (n := n + b - 1) (by omega), Int.tdiv_eq_ediv_of_nonneg (by omega)]
 have := ceilI_bounds hn hb
 unfold ceilI at this
 rw [w64_id (by omega)]; rfl
theorem ceilI_floor {n b : Int} (hn : 0 ≤ n) (hb : 1 ≤ b) : ceilI n b = if n % b = 0 then n / b else n / b + 1 := by
 unfold ceilI
 have h1 := Int.emod_nonneg n (show b ≠ 0 by omega)
 have h2 := Int.emod_lt_of_pos n (show 0 < b by omega)
 have h3 := Int.mul_ediv_add_emod n b
 generalize hq : n / b = q at *
 generalize hr : n % b = r at *
 have hqb : q * b = b * q := Int.mul_comm ..
 by_cases h : r = 0
 ·
  rw [if_pos h]
  have e : n + b - 1 = (b - 1) + b * q := by omega
  rw [e, Int.add_mul_ediv_left _ _ (by omega), Int.ediv_eq_zero_of_lt (by omega) (by omega)]
  omega
 ·
  rw [if_neg h]
  have e : n + b - 1 = (r - 1) + b * (q + 1) := by rw [Int.mul_add, Int.mul_one]; omega
  rw [e, Int.add_mul_ediv_left _ _ (by omega), Int.ediv_eq_zero_of_lt (by omega) (by omega)]
  omega
theorem Ceil_eq (N : Nat) {n b : Int} (hn : 0 ≤ n) (hb : 1 ≤ b) (hn' : n ≤ 1000000000000) (hb' : b ≤ 1000000000000) : base_Ceil N n b = some (ceilI n b) := by
 unfold base_Ceil base_Floor
 rw [w64_id (n := 0 - n) (by omega), chk_pos (by omega), chk_pos (by omega)]
 have e : (0 : Int) - n = -n := by omega
 have hq0 : 0 ≤ n / b := Int.ediv_nonneg hn (by omega)
 have hq1 : n / b ≤ n := Int.ediv_le_self b hn
 have h1 := Int.emod_nonneg n (show b ≠ 0 by omega)
 have h2 := Int.emod_lt_of_pos n (show 0 < b by omega)
 rw [e, Int.neg_tdiv, Int.neg_tmod, Int.tdiv_eq_ediv_of_nonneg hn, Int.tmod_eq_emod_of_nonneg hn, w64_id (n := -(n / b)) (by omega), ceilI_floor hn hb]
 by_cases h : n % b = 0
 ·
  rw [br_neg (by simp; omega), if_pos h]
  simp only [bnd_val]
  rw [w64_id (by omega)]; congr 1; omega
 ·
  rw [br_pos (by simp; omega), if_neg h, w64_id (n := -(n / b) - 1) (by omega)]
  simp only [bnd_val]
  rw [w64_id (by omega)]; congr 1; omega

def rightT (t : List Int) : Prop := ∀ x ∈ t, (0 : Int) ≤ x ∧ x ≤ 1000
theorem tableErr_zero : ∀ (l : List Int) (b : Int), tableErr b l = 0 → rightT l
 | [], _, _ => by intro x hx; simp at hx
 | y :: l, b, h => by
  rw [tableErr] at h
  cases h1 : inB y 0 1000
  · rw [if_pos h1] at h; exact absurd h (by decide)
  ·
   rw [if_neg (by simp [h1])] at h
   by_cases h2 : y < b
   · rw [if_pos h2] at h; exact absurd h (by decide)
   ·
    rw [if_neg h2] at h
    intro x hx
    rcases List.mem_cons.1 hx with rfl | hx
    · exact inB_true.1 h1
    · exact tableErr_zero l y h x hx
theorem siteErr_zero {b c p : Int} {t : List Int} (h : siteErr b c p t = 0) : (1 ≤ b ∧ b ≤ 20) ∧ (1 ≤ c ∧ c ≤ 8) ∧ (0 ≤ p ∧ p ≤ 100000) ∧ t.length ≠ 0 ∧ t.length ≤ 16 ∧ rightT t := by
 unfold siteErr at h
 split at h
 · exact absurd h (by decide)
 ·
  rename_i h1
  split at h
  · exact absurd h (by decide)
  ·
   rename_i h2
   split at h
   · exact absurd h (by decide)
   ·
    rename_i h3
    have h1' : (inB b 1 20 && inB c 1 8 && inB p 0 100000) = true := by
     cases hq : (inB b 1 20 && inB c 1 8 && inB p 0 100000)
     · exact absurd hq h1
     · rfl
    simp only [Bool.and_eq_true, inB_true] at h1'
    exact ⟨h1'.1.1, h1'.1.2, h1'.2, h2, by omega, tableErr_zero _ _ h⟩
theorem bearErr_zero {t : List Int} {x : Bearer} (h : bearErr t x = 0) : nameOK x.1 = true ∧ (0 ≤ x.2.1 ∧ x.2.1 ≤ 2) ∧ (0 ≤ x.2.2.2.2.1 ∧ x.2.2.2.2.1 ≤ 100000) ∧ (x.2.1 ≠ 0 → (0 ≤ x.2.2.2.2.2.1 ∧ x.2.2.2.2.2.1 < (t.length : Int)) ∧
  (1 ≤ x.2.2.2.2.2.2.1 ∧ x.2.2.2.2.2.2.1 ≤ 1000000) ∧ (0 ≤ x.2.2.2.2.2.2.2.1 ∧ x.2.2.2.2.2.2.2.1 ≤ 1000000) ∧ (1 ≤ x.2.2.2.2.2.2.2.2 ∧ x.2.2.2.2.2.2.2.2 ≤ 1000) ∧ 1 ≤ t.getD x.2.2.2.2.2.1.toNat 0) := by
 obtain ⟨n, k, pr, w, po, le, bu, ra, de⟩ := x
 unfold bearErr at h
 simp only at h ⊢
 cases h1 : nameOK n
 · rw [if_pos h1] at h; exact absurd h (by decide)
 cases h2 : inB k 0 2
 · rw [if_neg (by simp [h1]), if_pos h2] at h; exact absurd h (by decide)
 cases h3 : (inB pr 0 100 && inB w 1 100 && inB po 0 100000)
 · rw [if_neg (by simp [h1]), if_neg (by simp [h2]), if_pos h3] at h; exact absurd h (by decide)
 rw [if_neg (by simp [h1]), if_neg (by simp [h2]), if_neg (by simp [h3])] at h
 simp only [Bool.and_eq_true, inB_true] at h3
 refine ⟨rfl, inB_true.1 h2, h3.2, fun hk => ?_⟩
 rw [if_neg hk] at h
 cases h4 : (inB le 0 ((t.length : Int) - 1) && inB bu 1 1000000 && inB ra 0 1000000 && inB de 1 1000)
 · rw [if_pos h4] at h; exact absurd h (by decide)
 rw [if_neg (by simp [h4])] at h
 simp only [Bool.and_eq_true, inB_true] at h4
 by_cases h5 : t.getD le.toNat 0 ≤ 0
 · rw [if_pos h5] at h; exact absurd h (by decide)
 · exact ⟨by omega, h4.1.1.2, h4.1.2, h4.2, by omega⟩
def needB (t : List Int) (x : Bearer) : Int × Int × Int :=
 if x.2.1 = 0 then (0, 0, 0) else
 let c := ceilI x.2.2.2.2.2.2.1 x.2.2.2.2.2.2.2.2
 let b := ceilI (if x.2.2.2.2.2.2.2.1 < c then c else x.2.2.2.2.2.2.2.1) (t.getD x.2.2.2.2.2.1.toNat 0)
 (b, 1, b * x.2.2.2.2.1)
theorem tabGet {t : List Int} (ht : rightT t) {k : Nat} (hk : k < t.length) : 0 ≤ t.getD k 0 ∧ t.getD k 0 ≤ 1000 := by rw [getD_of hk]; exact ht _ (List.getElem_mem hk)
theorem needB_bounds {t : List Int} (ht : rightT t) {x : Bearer} (h : bearErr t x = 0) :
  (0 ≤ (needB t x).1 ∧ (needB t x).1 ≤ 1000000) ∧ (0 ≤ (needB t x).2.1 ∧ (needB t x).2.1 ≤ 1) ∧ (0 ≤ (needB t x).2.2 ∧ (needB t x).2.2 ≤ 100000000000) := by
 obtain ⟨_, h1, h2, h3⟩ := bearErr_zero h
 unfold needB
 by_cases hk : x.2.1 = 0
 · rw [if_pos hk]; simp
 ·
  rw [if_neg hk]
  obtain ⟨h4, h5, h6, h7, h8⟩ := h3 hk
  have hc := ceilI_bounds (n := x.2.2.2.2.2.2.1) (b := x.2.2.2.2.2.2.2.2) (by omega) (by omega)
  simp only
  generalize hm : (if x.2.2.2.2.2.2.2.1 < ceilI x.2.2.2.2.2.2.1 x.2.2.2.2.2.2.2.2 then ceilI x.2.2.2.2.2.2.1 x.2.2.2.2.2.2.2.2 else x.2.2.2.2.2.2.2.1) = m
  have hm' : 0 ≤ m ∧ m ≤ 1000000 := by rw [← hm]; split <;> omega
  have hb := ceilI_bounds (n := m) (b := t.getD x.2.2.2.2.2.1.toNat 0) (by omega) (by omega)
  generalize ceilI m (t.getD x.2.2.2.2.2.1.toNat 0) = q at *
  refine ⟨by omega, by omega, Int.mul_nonneg (by omega) (by omega), ?_⟩
  have h9 : q * x.2.2.2.2.1 ≤ 1000000 * 100000 := Int.mul_le_mul (by omega) (by omega) (by omega) (by omega)
  omega
theorem need_eq (N : Nat) {b c p : Int} {t : List Int} (ht : rightT t) (x : Bearer) (h : bearErr t x = 0) :
  sched_site_need N b c p t x.1 x.2.1 x.2.2.1 x.2.2.2.1 x.2.2.2.2.1 x.2.2.2.2.2.1 x.2.2.2.2.2.2.1 x.2.2.2.2.2.2.2.1 x.2.2.2.2.2.2.2.2 = some (needB t x) := by
 have hB := needB_bounds ht h
 obtain ⟨_, h1, h2, h3⟩ := bearErr_zero h
 unfold sched_site_need sched_guaranteed
 simp only [bnd_val]
 unfold needB at hB ⊢
 by_cases hk : x.2.1 = 0
 · rw [if_pos hk, br_pos (by simp [hk])]
 ·
  rw [if_neg hk] at hB ⊢
  rw [br_neg (by simpa using hk)]
  obtain ⟨h4, h5, h6, h7, h8⟩ := h3 hk
  have hc := ceilI_bounds (n := x.2.2.2.2.2.2.1) (b := x.2.2.2.2.2.2.2.2) (by omega) (by omega)
  have hq := tabGet ht (show x.2.2.2.2.2.1.toNat < t.length by omega)
  rw [ceil_eq N (by omega) (by omega) (by omega) (by omega)]
  simp only [bnd_val]
  rw [chk_pos (by omega), ceil_eq N (by split <;> omega) (by omega) (by split <;> omega) (by omega)]
  simp only [bnd_val]
  simp only at hB
  rw [w64_id (by omega)]
theorem NeedOf_eq (N : Nat) {b c p : Int} {t : List Int} (ht : rightT t) (x : Bearer) (h : bearErr t x = 0) :
  ref06_NeedOf N b c p t x.1 x.2.1 x.2.2.1 x.2.2.2.1 x.2.2.2.2.1 x.2.2.2.2.2.1 x.2.2.2.2.2.2.1 x.2.2.2.2.2.2.2.1 x.2.2.2.2.2.2.2.2 = some (needB t x) := by
 have hB := needB_bounds ht h
 obtain ⟨_, h1, h2, h3⟩ := bearErr_zero h
 unfold ref06_NeedOf
 unfold needB at hB ⊢
 by_cases hk : x.2.1 = 0
 · rw [if_pos hk, br_pos (by simp [hk])]
 ·
  rw [if_neg hk] at hB ⊢
  rw [br_neg (by simpa using hk)]
  obtain ⟨h4, h5, h6, h7, h8⟩ := h3 hk
  have hc := ceilI_bounds (n := x.2.2.2.2.2.2.1) (b := x.2.2.2.2.2.2.2.2) (by omega) (by omega)
  have hq := tabGet ht (show x.2.2.2.2.2.1.toNat < t.length by omega)
  rw [Ceil_eq N (by omega) (by omega) (by omega) (by omega)]
  simp only [bnd_val]
  rw [chk_pos (by omega), Ceil_eq N (by split <;> omega) (by omega) (by split <;> omega) (by omega)]
  simp only [bnd_val]
  simp only at hB
  rw [w64_id (by omega)]
def needsB (t : List Int) : List Bearer → Int × Int × Int
 | [] => (0, 0, 0)
 | x :: l => ((needB t x).1 + (needsB t l).1, (needB t x).2.1 + (needsB t l).2.1, (needB t x).2.2 + (needsB t l).2.2)
theorem needsB_snoc (t : List Int) (x : Bearer) : ∀ l : List Bearer, needsB t (l ++ [x]) = ((needsB t l).1 + (needB t x).1, (needsB t l).2.1 + (needB t x).2.1, (needsB t l).2.2 + (needB t x).2.2)
 | [] => by simp [needsB]
 | y :: l => by rw [List.cons_append, needsB, needsB_snoc t x l, needsB]; simp only [Int.add_assoc]
theorem needsB_bounds {t : List Int} (ht : rightT t) : ∀ {l : List Bearer}, (∀ x ∈ l, bearErr t x = 0) → (0 ≤ (needsB t l).1 ∧ (needsB t l).1 ≤ 1000000 * (l.length : Int)) ∧ (0 ≤ (needsB t l).2.1 ∧ (needsB t l).2.1 ≤ (l.length : Int)) ∧ (0 ≤ (needsB t l).2.2 ∧ (needsB t l).2.2 ≤ 100000000000 * (l.length : Int))
 | [], _ => by simp [needsB]
 | y :: l, h => by
  have h1 := needB_bounds ht (h y (by simp))
  have h2 := needsB_bounds ht (l := l) fun x hx => h x (by simp [hx])
  simp only [needsB, List.length_cons]
  omega
theorem take_snoc {α : Type} (l : List α) {k : Nat} (h : k < l.length) : l.take (k + 1) = l.take k ++ [l[k]] := by
 rw [List.take_add_one, List.getElem?_eq_getElem h]; rfl
theorem room_eq {N : Nat} (hM : N ≤ 20000) {b c p : Int} (hb : 0 ≤ b ∧ b ≤ 1000000) (hc : 0 ≤ c ∧ c ≤ 1000000) (hp : 0 ≤ p ∧ p ≤ 1000000) {t : List Int} (ht : rightT t) (l : List Bearer) (hl : l.length < N) (h : ∀ x ∈ l, bearErr t x = 0) :
  sched_site_room N b c p t l = some (b - (needsB t l).1, c - (needsB t l).2.1, p - (needsB t l).2.2) := by
 unfold sched_site_room
 simp only [jn]
 refine rds_spec (fun s : Int × Int × Int × Int => ∃ k : Nat, k ≤ l.length ∧ s = ((k : Int), b - (needsB t (l.take k)).1, c - (needsB t (l.take k)).2.1, p - (needsB t (l.take k)).2.2)) (fun s => l.length - s.1.toNat)
  (fun _ => some (b - (needsB t l).1, c - (needsB t l).2.1, p - (needsB t l).2.2)) (fun rec s hI hrec => ?_) N _ ⟨0, Nat.zero_le _, by simp [needsB]⟩ (by simp; omega)
 obtain ⟨k, hk, rfl⟩ := hI
 simp only [sched_site_room.b1]
 by_cases hkl : k < l.length
 ·
  have hx : bearErr t l[k] = 0 := h _ (List.getElem_mem hkl)
  have h1 := needB_bounds ht hx
  have h2 := needsB_bounds ht (l := l.take k) fun x hx => h x (List.mem_of_mem_take hx)
  have hlen : (l.take k).length = k := by simp; omega
  rw [hlen] at h2
  rw [br_pos (by simpa using hkl), chk_pos (by omega)]
  simp only [Int.toNat_natCast, getD_of hkl]
  rw [need_eq N ht l[k] hx]
  rcases hn : needB t l[k] with ⟨n1, n2, n3⟩
  simp only [bnd_val]
  rw [hn] at h1
  simp only at h1
  rw [w64_succ (by omega), w64_id (by omega), w64_id (by omega), w64_id (by omega)]
  refine hrec _ ⟨k + 1, hkl, ?_⟩ (by simp only [Int.toNat_natCast]; omega)
  rw [take_snoc l hkl, needsB_snoc, hn]
  simp only [Prod.mk.injEq]
  refine ⟨trivial, by omega, by omega, by omega⟩
 ·
  have : k = l.length := by omega
  subst this
  rw [br_neg (by simp)]
  simp
theorem needs_eq {N : Nat} (hM : N ≤ 20000) {b c p : Int} {t : List Int} (ht : rightT t) (l : List Bearer) (hl : l.length < N) (h : ∀ x ∈ l, bearErr t x = 0) :
  ref06_needs N b c p t l = some (needsB t l) := by
 unfold ref06_needs
 simp only [jn]
 refine rds_spec (fun s : Int × Int × Int × Int => ∃ k : Nat, k ≤ l.length ∧ s = ((k : Int), needsB t (l.take k))) (fun s => l.length - s.1.toNat)
  (fun _ => some (needsB t l)) (fun rec s hI hrec => ?_) N _ ⟨0, Nat.zero_le _, by simp [needsB]⟩ (by simp; omega)
 obtain ⟨k, hk, rfl⟩ := hI
 simp only [ref06_needs.b1]
 by_cases hkl : k < l.length
 ·
  have hx : bearErr t l[k] = 0 := h _ (List.getElem_mem hkl)
  have h1 := needB_bounds ht hx
  have h2 := needsB_bounds ht (l := l.take k) fun x hx => h x (List.mem_of_mem_take hx)
  have hlen : (l.take k).length = k := by simp; omega
  rw [hlen] at h2
  rcases hS : needsB t (l.take k) with ⟨s1, s2, s3⟩
  rw [hS] at h2
  simp only at h2 ⊢
  rw [br_pos (by simpa using hkl), chk_pos (by omega)]
  simp only [Int.toNat_natCast, getD_of hkl]
  rw [NeedOf_eq N ht l[k] hx]
  rcases hn : needB t l[k] with ⟨n1, n2, n3⟩
  simp only [bnd_val]
  rw [hn] at h1
  simp only at h1
  rw [w64_succ (by omega), w64_id (by omega), w64_id (by omega), w64_id (by omega)]
  refine hrec _ ⟨k + 1, hkl, ?_⟩ (by simp only [Int.toNat_natCast]; omega)
  rw [take_snoc l hkl, needsB_snoc, hn, hS]
 ·
  have : k = l.length := by omega
  subst this
  rw [br_neg (by simp)]
  simp
def fitB (b c p : Int) (t : List Int) (l : List Bearer) : Bool := (decide ((needsB t l).1 ≤ b)) && (decide ((needsB t l).2.1 ≤ c)) && (decide ((needsB t l).2.2 ≤ p))
theorem fit_eq {N : Nat} (hM : N ≤ 20000) {b c p : Int} (hb : 0 ≤ b ∧ b ≤ 1000000) (hc : 0 ≤ c ∧ c ≤ 1000000) (hp : 0 ≤ p ∧ p ≤ 1000000) {t : List Int} (ht : rightT t) (l : List Bearer) (hl : l.length < N) (h : ∀ x ∈ l, bearErr t x = 0) :
  sched_site_fit N b c p t l = some (fitB b c p t l) := by
 unfold sched_site_fit
 rw [room_eq hM hb hc hp ht l hl h]
 simp only [bnd_val, Option.some.injEq, fitB]
 rw [Bool.eq_iff_iff]
 simp only [Bool.and_eq_true, decide_eq_true_eq]
 split <;> split <;> omega
theorem Fit_eq {N : Nat} (hM : N ≤ 20000) {b c p : Int} {t : List Int} (ht : rightT t) (l : List Bearer) (hl : l.length < N) (h : ∀ x ∈ l, bearErr t x = 0) :
  ref06_Fit N b c p t l = some (fitB b c p t l) := by
 unfold ref06_Fit
 rw [needs_eq hM ht l hl h]
 rfl

def hasName (l : List Bearer) (n : ByteArray) : Bool := l.any fun x => x.1.toList == n.toList
theorem named_eq {N : Nat} (hM : N ≤ 20000) (l : List Bearer) (hl : l.length < N) (n : ByteArray) : sched_named N l n = some (hasName l n) := by
 unfold sched_named slices_ContainsFunc_api_SchedBearer_api_SchedBearer slices_IndexFunc_api_SchedBearer_api_SchedBearer
 simp only [jn]
 have h := rds_up1 l.length (slices_IndexFunc_api_SchedBearer_api_SchedBearer.b1 N l (fun y0 y1 y2 y3 y4 y5 y6 y7 y8 => sched_named_1 N y0 y1 y2 y3 y4 y5 y6 y7 y8 n) (fun _ => some (-1 : Int)))
  (fun k => some (if hasName (l.drop k) n = true then ((k + (l.drop k).findIdx fun x => x.1.toList == n.toList : Nat) : Int) else -1)) (fun k rec hk hr => ?_) (fun rec => ?_) hl
 ·
  rw [h]
  simp only [bnd_val, List.drop_zero, Option.some.injEq]
  cases hasName l n <;> simp
 ·
  simp only [slices_IndexFunc_api_SchedBearer_api_SchedBearer.b1, sched_named_1]
  rw [br_pos (by simpa using hk), chk_pos (by omega), w64_succ (by omega), hr, List.drop_eq_getElem_cons hk]
  simp only [Int.toNat_natCast, getD_of hk, bnd_val, hasName, List.any_cons, List.findIdx_cons]
  cases hq : l[k].1.toList == n.toList
  ·
   simp only [br_false, Bool.false_or, cond_false]
   rw [show ∀ m : Nat, k + 1 + m = k + (m + 1) from fun m => by omega]
   rfl
  · simp [br]
 ·
  simp only [slices_IndexFunc_api_SchedBearer_api_SchedBearer.b1]
  rw [br_neg (by simp)]
  simp [hasName]
def findB (l : List Bearer) (n : ByteArray) : Int := if hasName l n = true then ((l.findIdx fun x => x.1.toList == n.toList : Nat) : Int) else -1
theorem findB_nonneg (l : List Bearer) (n : ByteArray) : decide (findB l n ≥ 0) = hasName l n := by
 unfold findB
 cases hasName l n <;> simp
theorem find_eq {N : Nat} (hM : N ≤ 20000) (l : List Bearer) (hl : l.length < N) (n : ByteArray) : ref06_find N l n = some (findB l n) := by
 unfold ref06_find
 simp only [jn]
 refine (rds_up1 l.length _ (fun k => some (if hasName (l.drop k) n = true then ((k + (l.drop k).findIdx fun x => x.1.toList == n.toList : Nat) : Int) else -1)) (fun k rec hk hr => ?_) (fun rec => ?_) hl).trans (by simp [findB])
 ·
  simp only [ref06_find.b1]
  rw [br_pos (by simpa using hk), chk_pos (by omega), w64_succ (by omega), hr, List.drop_eq_getElem_cons hk]
  simp only [Int.toNat_natCast, getD_of hk, hasName, List.any_cons, List.findIdx_cons]
  cases hq : l[k].1.toList == n.toList
  ·
   simp only [br_false, Bool.false_or, cond_false]
   rw [show ∀ m : Nat, k + 1 + m = k + (m + 1) from fun m => by omega]
   rfl
  · simp [br]
 ·
  simp only [ref06_find.b1]
  rw [br_neg (by simp)]
  simp [hasName]
end Go.Sh

/-
 What the shallow functions of the scheduling chapter come to: the errors of bearers, room.
-/
namespace Go.Sh
open Go.PW

def bearsE (t : List Int) (l : List Bearer) : Nat → List Bearer → Option (Int × Int)
 | _, [] => none
 | k, x :: r => if bearErr t x ≠ 0 then some ((k : Int), bearErr t x) else if hasName (l.take k) x.1 = true then some ((k : Int), 5) else bearsE t l (k + 1) r
def bearsErr (b c p : Int) (t : List Int) (l : List Bearer) : Int × Int :=
 if (8 : Int) < l.length then (0, 8) else match bearsE t l 0 l with
 | some r => r
 | none => (0, if fitB b c p t l = true then 0 else 16)
theorem bearsE_none {t : List Int} {l : List Bearer} : ∀ (r : List Bearer) (k : Nat), bearsE t l k r = none → ∀ x ∈ r, bearErr t x = 0
 | [], _, _ => by intro x hx; simp at hx
 | y :: r, k, h => by
  rw [bearsE] at h
  by_cases h1 : bearErr t y = 0
  ·
   rw [if_neg (by simpa using h1)] at h
   by_cases h2 : hasName (l.take k) y.1 = true
   · rw [if_pos h2] at h; simp at h
   ·
    rw [if_neg h2] at h
    intro x hx
    rcases List.mem_cons.1 hx with rfl | hx
    · exact h1
    · exact bearsE_none r (k + 1) h x hx
  · rw [if_pos h1] at h; simp at h
theorem bearersErr_eq {N : Nat} (hM : N ≤ 20000) (h4 : 16 < N) {b c p : Int} (hb : 0 ≤ b ∧ b ≤ 1000000) (hc : 0 ≤ c ∧ c ≤ 1000000) (hp : 0 ≤ p ∧ p ≤ 1000000) {t : List Int} (ht : rightT t) (htl : t.length < N) (l : List Bearer)
  (hn : ∀ x ∈ l, x.1.size < N) : sched_site_bearersErr N b c p t l = some (bearsErr b c p t l) := by
 unfold sched_site_bearersErr bearsErr
 by_cases h8 : (8 : Int) < l.length
 · rw [br_pos (by simpa using h8), if_pos h8]
 rw [br_neg (by simpa using h8), if_neg h8]
 simp only [jn]
 have hend : bearsE t l 0 l = none → (bnd (sched_site_fit N b c p t l) fun x5 => bnd (sched_unless N x5 16) fun x6 => some ((0 : Int), x6)) = some (0, if fitB b c p t l = true then 0 else 16) := fun h => by
  rw [fit_eq hM hb hc hp ht l (by omega) (bearsE_none l 0 h)]
  simp only [bnd_val, unless_eq]
 have key : ∀ k, k ≤ l.length → ((bearsE t l k (l.drop k) = none ∧ bearsE t l 0 l = none) ∨ (∃ r, bearsE t l k (l.drop k) = some r)) → True := fun _ _ _ => trivial
 refine (rds_spec (fun s : Int => ∃ k : Nat, k ≤ l.length ∧ s = (k : Int) ∧ bearsE t l k (l.drop k) = bearsE t l 0 l) (fun s => l.length - s.toNat)
  (fun _ => some (match bearsE t l 0 l with | some r => r | none => (0, if fitB b c p t l = true then 0 else 16))) (fun rec s hI hrec => ?_) N 0 ⟨0, Nat.zero_le _, rfl, by rw [List.drop_zero]⟩ (by simp; omega))
 obtain ⟨k, hk, rfl, hE⟩ := hI
 simp only [sched_site_bearersErr.b1]
 by_cases hkl : k < l.length
 ·
  rw [List.drop_eq_getElem_cons hkl, bearsE] at hE
  rw [br_pos (by simpa using hkl), chk_pos (by omega)]
  simp only [Int.toNat_natCast, getD_of hkl]
  rw [bearerErr_eq hM h4 b c p t htl _ _ _ _ _ _ _ _ _ (hn _ (List.getElem_mem hkl))]
  simp only [bnd_val]
  rw [chk_pos (by omega), named_eq hM _ (by simp; omega)]
  simp only [bnd_val, unless_eq]
  rw [first_eq hM _ (by simp; omega), w64_succ (by omega)]
  simp only [bnd_val, firstE]
  show br ((if bearErr t l[k] ≠ 0 then bearErr t l[k] else _) != 0) _ _ = _
  by_cases h1 : bearErr t l[k] = 0
  ·
   rw [if_neg (by simpa using h1)] at hE ⊢
   by_cases h2 : hasName (l.take k) l[k].1 = true
   ·
    rw [if_pos h2] at hE
    rw [← hE]; simp [h2, br]
   ·
    rw [if_neg h2] at hE
    simp only [Bool.not_eq_true] at h2
    have h2' : hasName (l.take k) l[k].1 = false := h2
    simp only [h2', Bool.not_false, if_true, ne_eq, not_true_eq_false, if_false, bne_self_eq_false, br_false]
    exact hrec _ ⟨k + 1, hkl, rfl, hE⟩ (by simp only [Int.toNat_natCast]; omega)
  ·
   rw [if_pos h1] at hE ⊢
   rw [← hE, br_pos (by simpa using h1)]
 ·
  have : k = l.length := by omega
  subst this
  rw [List.drop_length, bearsE] at hE
  rw [br_neg (by simp), hend hE.symm, ← hE]
theorem RefBearers_eq {N : Nat} (hM : N ≤ 20000) (h4 : 16 < N) {b c p : Int} {t : List Int} (ht : rightT t) (htl : t.length < N) (l : List Bearer) :
  ref06_CheckBearers N b c p t l = some (bearsErr b c p t l) := by
 unfold ref06_CheckBearers bearsErr
 by_cases h8 : (8 : Int) < l.length
 · rw [br_pos (by simpa using h8), if_pos h8]
 rw [br_neg (by simpa using h8), if_neg h8]
 simp only [jn]
 have hend : bearsE t l 0 l = none → (bnd (ref06_Fit N b c p t l) fun x3 => br (!x3) (some ((0 : Int), (16 : Int))) (some ((0 : Int), (0 : Int)))) = some (0, if fitB b c p t l = true then 0 else 16) := fun h => by
  rw [Fit_eq hM ht l (by omega) (bearsE_none l 0 h)]
  simp only [bnd_val]
  cases fitB b c p t l <;> rfl
 refine (rds_spec (fun s : Int => ∃ k : Nat, k ≤ l.length ∧ s = (k : Int) ∧ bearsE t l k (l.drop k) = bearsE t l 0 l) (fun s => l.length - s.toNat)
  (fun _ => some (match bearsE t l 0 l with | some r => r | none => (0, if fitB b c p t l = true then 0 else 16))) (fun rec s hI hrec => ?_) N 0 ⟨0, Nat.zero_le _, rfl, by rw [List.drop_zero]⟩ (by simp; omega))
 obtain ⟨k, hk, rfl, hE⟩ := hI
 simp only [ref06_CheckBearers.b1]
 by_cases hkl : k < l.length
 ·
  rw [List.drop_eq_getElem_cons hkl, bearsE] at hE
  rw [br_pos (by simpa using hkl), chk_pos (by omega)]
  simp only [Int.toNat_natCast, getD_of hkl]
  rw [BearerErr_eq hM h4 b c p t htl _ _ _ _ _ _ _ _ _ fun x hx => (ht x hx).1]
  simp only [bnd_val]
  show br (bearErr t l[k] != 0) _ _ = _
  by_cases h1 : bearErr t l[k] = 0
  ·
   rw [if_neg (by simpa using h1)] at hE
   rw [br_neg (by simpa using h1), chk_pos (by omega), chk_pos (by omega), find_eq hM _ (by simp; omega)]
   simp only [bnd_val, findB_nonneg]
   by_cases h2 : hasName (l.take k) l[k].1 = true
   ·
    rw [if_pos h2] at hE
    rw [← hE, br_pos h2]
   ·
    rw [if_neg h2] at hE
    rw [br_neg (by simpa using h2), w64_succ (by omega)]
    exact hrec _ ⟨k + 1, hkl, rfl, hE⟩ (by simp only [Int.toNat_natCast]; omega)
  ·
   rw [if_pos h1] at hE
   rw [← hE, br_pos (by simpa using h1)]
 ·
  have : k = l.length := by omega
  subst this
  rw [List.drop_length, bearsE] at hE
  rw [br_neg (by simp), hend hE.symm, ← hE]
def bothErr (b c p : Int) (t : List Int) (l : List Bearer) : Int × Int := if siteErr b c p t ≠ 0 then (0, siteErr b c p t) else bearsErr b c p t l
theorem CheckBearers_eq {N : Nat} (hM : N ≤ 20000) (h4 : 16 < N) (b c p : Int) (t : List Int) (l : List Bearer) (hn : ∀ x ∈ l, x.1.size < N) : sched_CheckBearers N b c p t l = some (bothErr b c p t l) := by
 unfold sched_CheckBearers sched_open bothErr
 rw [CheckSite_eq hM h4]
 simp only [bnd_val]
 by_cases h : siteErr b c p t = 0
 ·
  obtain ⟨h1, h2, h3, _, h5, h6⟩ := siteErr_zero h
  rw [br_neg (by simpa using h), if_neg (by simpa using h), bearersErr_eq hM h4 (by omega) (by omega) (by omega) h6 (by omega) l hn]
  rfl
 · rw [br_pos (by simpa using h), if_pos h]
theorem openAll_eq {N : Nat} (hM : N ≤ 20000) (h4 : 16 < N) (b c p : Int) (t : List Int) (l : List Bearer) (hn : ∀ x ∈ l, x.1.size < N) : sched_openAll N b c p t l = some (b, c, p, t, (bothErr b c p t l).2) := by
 unfold sched_openAll
 rw [CheckBearers_eq hM h4 b c p t l hn]
 rfl
theorem bothErr_zero {b c p : Int} {t : List Int} {l : List Bearer} (h : (bothErr b c p t l).2 = 0) : siteErr b c p t = 0 ∧ l.length ≤ 8 ∧ (∀ x ∈ l, bearErr t x = 0) ∧ fitB b c p t l = true := by
 unfold bothErr at h
 by_cases hs : siteErr b c p t = 0
 ·
  rw [if_neg (by simpa using hs)] at h
  unfold bearsErr at h
  by_cases h8 : (8 : Int) < l.length
  · rw [if_pos h8] at h; exact absurd h (by decide)
  ·
   rw [if_neg h8] at h
   rcases hq : bearsE t l 0 l with _ | r
   ·
    rw [hq] at h
    refine ⟨hs, by omega, bearsE_none l 0 hq, ?_⟩
    cases hf : fitB b c p t l
    · rw [hf] at h; exact absurd h (by decide)
    · rfl
   ·
    rw [hq] at h
    exfalso
    have : ∀ (s : List Bearer) (k : Nat), bearsE t l k s = some r → r.2 ≠ 0 := by
     intro s
     induction s with
     | nil => intro k hk; simp [bearsE] at hk
     | cons y s ih =>
      intro k hk
      rw [bearsE] at hk
      by_cases h1 : bearErr t y = 0
      ·
       rw [if_neg (by simpa using h1)] at hk
       by_cases h2 : hasName (l.take k) y.1 = true
       ·
        rw [if_pos h2] at hk
        simp only [Option.some.injEq] at hk
        rw [← hk]; show (5 : Int) ≠ 0; decide
       · rw [if_neg h2] at hk; exact ih _ hk
      ·
       rw [if_pos h1] at hk
       simp only [Option.some.injEq] at hk
       rw [← hk]; exact h1
    exact this l 0 hq h
 · rw [if_pos hs] at h; exact absurd h hs
theorem BothErr_eq {N : Nat} (hM : N ≤ 20000) (h4 : 16 < N) (b c p : Int) (t : List Int) (l : List Bearer) : ref06_BothErr N b c p t l = some (bothErr b c p t l).2 := by
 unfold ref06_BothErr bothErr
 rw [SiteErr_eq hM h4]
 simp only [bnd_val]
 by_cases h : siteErr b c p t = 0
 ·
  obtain ⟨h1, h2, h3, _, h5, h6⟩ := siteErr_zero h
  rw [br_neg (by simpa using h), if_neg (by simpa using h), RefBearers_eq hM h4 h6 (by omega)]
  rfl
 · rw [br_pos (by simpa using h), if_pos h]
theorem Few_true {N : Nat} (hM : N ≤ 20000) (h4 : 24 < N) {b c p : Int} {t : List Int} {l : List Bearer} {r : Bool} (h : law06_Few N b c p t l = some r) : r = true → t.length ≤ 18 ∧ l.length ≤ 10 ∧ ∀ x ∈ l, x.1.size ≤ 20 := by
 unfold law06_Few at h
 intro hr
 subst hr
 by_cases h1 : (((decide ((t.length : Int) > (18 : Int))) || ((decide ((l.length : Int) > (6 : Int))) && (decide ((l.length : Int) < (8 : Int))))) || (decide ((l.length : Int) > (10 : Int)))) = true
 · rw [br_pos h1] at h; simp at h
 ·
  rw [br_neg (by simpa using h1)] at h
  have h1' : ¬ ((t.length : Int) > 18) ∧ ¬ ((l.length : Int) > 10) := by
   simp only [Bool.or_eq_true, Bool.and_eq_true, decide_eq_true_eq] at h1
   omega
  simp only [jn] at h
  rw [rds_scan l default (fun x => decide ((x.1.size : Int) > 20)) (some false) (some true) _ (fun k rec hk => ?_) (fun rec => ?_) (by omega)] at h
  ·
   refine ⟨by omega, by omega, fun x hx => ?_⟩
   by_cases h2 : (l.any fun x => decide ((x.1.size : Int) > 20)) = true
   · rw [if_pos h2] at h; simp at h
   ·
    rw [Bool.not_eq_true, List.any_eq_false] at h2
    have := h2 x hx
    simp only [decide_eq_true_eq] at this
    omega
  ·
   simp only [law06_Few.b1]
   rw [br_pos (by simpa using hk), chk_pos (by omega), w64_succ (by omega)]
   simp only [Int.toNat_natCast]
   rfl
  ·
   simp only [law06_Few.b1]
   rw [br_neg (by simp)]
theorem Few_some {N : Nat} (hM : N ≤ 20000) (h4 : 24 < N) (b c p : Int) (t : List Int) (l : List Bearer) : ∃ r, law06_Few N b c p t l = some r := by
 unfold law06_Few
 by_cases h1 : (((decide ((t.length : Int) > (18 : Int))) || ((decide ((l.length : Int) > (6 : Int))) && (decide ((l.length : Int) < (8 : Int))))) || (decide ((l.length : Int) > (10 : Int)))) = true
 · rw [br_pos h1]; exact ⟨_, rfl⟩
 ·
  rw [br_neg (by simpa using h1)]
  have h1' : ¬ ((l.length : Int) > 10) := by
   simp only [Bool.or_eq_true, Bool.and_eq_true, decide_eq_true_eq] at h1
   omega
  simp only [jn]
  rw [rds_scan l default (fun x => decide ((x.1.size : Int) > 20)) (some false) (some true) _ (fun k rec hk => ?_) (fun rec => ?_) (by omega)]
  ·
   by_cases h2 : (l.any fun x => decide ((x.1.size : Int) > 20)) = true
   · rw [if_pos h2]; exact ⟨_, rfl⟩
   · rw [if_neg h2]; exact ⟨_, rfl⟩
  ·
   simp only [law06_Few.b1]
   rw [br_pos (by simpa using hk), chk_pos (by omega), w64_succ (by omega)]
   simp only [Int.toNat_natCast]
   rfl
  ·
   simp only [law06_Few.b1]
   rw [br_neg (by simp)]
theorem Copy_eq (N : Nat) (b c p : Int) {t : List Int} (h : t.length ≤ 1000000) : ref06_Copy N b c p t = some (b, c, p, t) := by
 unfold ref06_Copy base_CopyInts
 rw [chk_pos (by simp; omega)]; rfl
theorem CopyInts_eq (N : Nat) {t : List Int} (h : t.length ≤ 1000000) : base_CopyInts N t = some t := by
 unfold base_CopyInts
 rw [chk_pos (by simp; omega)]; rfl
theorem CopyBearers_eq (N : Nat) {l : List Bearer} (h : l.length ≤ 1000000) : ref06_CopyBearers N l = some l := by
 unfold ref06_CopyBearers
 rw [chk_pos (by omega)]
end Go.Sh

/-
 The laws of bearers and of delays, of contracts: what the shallow functions come to.
-/
namespace Go.Sh
open Go.PW

end Go.Sh

/-
 The law of delays: what the shallow functions come to.
-/
namespace Go.Sh
open Go.PW

end Go.Sh

/-
 The law of contracts: what the shallow functions come to.
-/
namespace Go.Sh
open Go.PW

def okArr (l : List Int) : Prop := ∀ x ∈ l, (0 : Int) ≤ x ∧ x ≤ 1000000
end Go.Sh

/-
 Small cases: their errors, choices, and the least total of one.
-/
namespace Go.Sh
open Go.PW

structure Case (r : List (List Int)) (n m : Nat) : Prop where
 len : r.length = n
 n1 : 1 ≤ n
 n6 : n ≤ 6
 m1 : 1 ≤ m
 m4 : m ≤ 4
 head : (r.getD 0 default).length = m
 row : ∀ x ∈ r, x.length = m ∧ okArr x
theorem map_getD {α : Type} (d : α) (r : List α) : ((List.range r.length).map fun k => r.getD k d) = r := by
 apply List.ext_getElem (by simp)
 intro i h1 h2
 simp only [List.getElem_map, List.getElem_range]
 rw [getD_of h2]
end Go.Sh

/-
 The least total of a choice: totals, their least one, and what weights say about them.
-/
namespace Go.Sh
open Go.PW

structure VT (n m : Nat) (t : List Int) : Prop where
 len : t.length = n
 ok : ∀ x ∈ t, (0 : Int) ≤ x ∧ x < (m : Int)
theorem VT.get {n m : Nat} {t : List Int} (h : VT n m t) {k : Nat} (hk : k < n) : (0 : Int) ≤ t.getD k 0 ∧ t.getD k 0 < (m : Int) := by
 have hk' : k < t.length := by rw [h.len]; exact hk
 rw [getD_of hk']; exact h.ok _ (List.getElem_mem hk')
def gT (r : List (List Int)) (k u : Nat) : Int := (r.getD k default).getD u 0
theorem Case.g {r : List (List Int)} {n m : Nat} (c : Case r n m) {k u : Nat} (hk : k < n) (hu : u < m) : 0 ≤ gT r k u ∧ gT r k u ≤ 1000000 := by
 have hk' : k < r.length := by rw [c.len]; exact hk
 have hr := c.row _ (List.getElem_mem hk')
 unfold gT
 rw [getD_of hk', getD_of (by rw [hr.1]; exact hu)]
 exact hr.2 _ (List.getElem_mem _)
def sumN (f : Nat → Int) : Nat → Int
 | 0 => 0
 | k + 1 => sumN f k + f k
end Go.Sh

/-
 All choices of a small case, one behind the other, and the best one.
-/
namespace Go.PW
end Go.PW
namespace Go.Sh
open Go.PW

theorem VT.set {n m : Nat} {t : List Int} (v : VT n m t) {k : Nat} {x : Int} (hx : 0 ≤ x ∧ x < (m : Int)) : VT n m (t.set k x) := by
 refine ⟨by rw [List.length_set]; exact v.len, fun y hy => ?_⟩
 rcases List.mem_or_eq_of_mem_set hy with h | rfl
 · exact v.ok _ h
 · exact hx
end Go.Sh

/-
 A slot of a run, told as a function of the users.
-/
namespace Go.PW
theorem getD_set' {α : Type} (d : α) {b : List α} {i j : Nat} {v : α} (hi : i < b.length) : (b.set i v).getD j d = if i = j then v else b.getD j d := by
 simp only [List.getD_eq_getElem?_getD, List.getElem?_set]
 by_cases h : i = j
 · subst h; simp [hi]
 · simp [h]
def eachL {α β : Type} (d : α) (f : Nat → α → β) (us : List α) : List β := (List.range us.length).map fun k => f k (us.getD k d)
theorem eachL_length {α β : Type} (d : α) (f : Nat → α → β) (us : List α) : (eachL d f us).length = us.length := by simp [eachL]
theorem eachL_getD {α β : Type} (d : α) (e : β) (f : Nat → α → β) (us : List α) {k : Nat} (h : k < us.length) : (eachL d f us).getD k e = f k (us.getD k d) := by
 simp only [eachL, List.getD_eq_getElem?_getD, List.getElem?_map, List.getElem?_range h]; rfl
theorem getD_ext {α : Type} (d : α) {a b : List α} (hl : a.length = b.length) (h : ∀ k, k < a.length → a.getD k d = b.getD k d) : a = b := by
 refine List.ext_getElem hl fun i h1 h2 => ?_
 have := h i h1
 simpa [List.getD_eq_getElem?_getD, h1, h2] using this
theorem rds_each {α R : Type} (d : α) (f : Nat → α → α) (us : List α) (b : (Int × List α → Option R) → Int × List α → Option R) (K : List α → Option R)
  (hstep : ∀ k s rec, k < us.length → s.length = us.length → s.getD k d = us.getD k d → b rec ((k : Int), s) = rec (((k + 1 : Nat) : Int), s.set k (f k (us.getD k d))))
  (hend : ∀ s rec, s.length = us.length → b rec ((us.length : Int), s) = K s) {N : Nat} (hN : us.length < N) : rds b N (0, us) = K (eachL d f us) := by
 refine rds_spec (fun s : Int × List α => ∃ k : Nat, k ≤ us.length ∧ s.1 = (k : Int) ∧ s.2.length = us.length ∧ (∀ j, j < k → s.2.getD j d = f j (us.getD j d)) ∧ ∀ j, k ≤ j → s.2.getD j d = us.getD j d) (fun s => us.length - s.1.toNat) (fun _ => K (eachL d f us)) (fun rec s hI hrec => ?_) N (0, us)
  ⟨0, Nat.zero_le _, rfl, rfl, fun j h => by omega, fun j _ => rfl⟩ (by simp; omega)
 obtain ⟨i, s⟩ := s
 obtain ⟨k, hk, hi, hl, h1, h2⟩ := hI
 simp only at hi hl h1 h2
 subst hi
 by_cases hkl : k < us.length
 ·
  rw [hstep k s rec hkl hl (h2 k (Nat.le_refl _))]
  refine hrec _ ⟨k + 1, hkl, rfl, by simp only [List.length_set]; exact hl, fun j hj => ?_, fun j hj => ?_⟩ (by simp only [Int.toNat_natCast]; omega)
  ·
   simp only
   rw [getD_set' d (by omega)]
   by_cases e : k = j
   · rw [if_pos e, e]
   · rw [if_neg e]; exact h1 j (by omega)
  ·
   simp only
   rw [getD_set' d (by omega), if_neg (by omega)]; exact h2 j (by omega)
 ·
  have : k = us.length := by omega
  subst this
  rw [hend s rec hl]
  congr 1
  refine getD_ext d (by rw [hl, eachL_length]) fun j hj => ?_
  rw [h1 j (by omega), eachL_getD d d f us (by omega)]
theorem rds_each2 {α β R : Type} (d : α) (f : Nat → α → α) (g : Nat → α → β) (us : List α) (b : (Int × List α × List β → Option R) → Int × List α × List β → Option R) (K : List α × List β → Option R)
  (hstep : ∀ k s a rec, k < us.length → s.length = us.length → a.length = k → s.getD k d = us.getD k d → b rec ((k : Int), s, a) = rec (((k + 1 : Nat) : Int), s.set k (f k (us.getD k d)), a ++ [g k (us.getD k d)]))
  (hend : ∀ s a rec, s.length = us.length → b rec ((us.length : Int), s, a) = K (s, a)) {N : Nat} (hN : us.length < N) : rds b N (0, us, []) = K (eachL d f us, eachL d g us) := by
 refine rds_spec (fun s : Int × List α × List β => ∃ k : Nat, k ≤ us.length ∧ s.1 = (k : Int) ∧ s.2.1.length = us.length ∧ (∀ j, j < k → s.2.1.getD j d = f j (us.getD j d)) ∧ (∀ j, k ≤ j → s.2.1.getD j d = us.getD j d) ∧ s.2.2 = (List.range k).map fun k => g k (us.getD k d)) (fun s => us.length - s.1.toNat)
  (fun _ => K (eachL d f us, eachL d g us)) (fun rec s hI hrec => ?_) N (0, us, []) ⟨0, Nat.zero_le _, rfl, rfl, fun j h => by omega, fun j _ => rfl, rfl⟩ (by simp; omega)
 obtain ⟨i, s, a⟩ := s
 obtain ⟨k, hk, hi, hl, h1, h2, h3⟩ := hI
 simp only at hi hl h1 h2 h3
 subst hi h3
 by_cases hkl : k < us.length
 ·
  rw [hstep k s _ rec hkl hl (by simp) (h2 k (Nat.le_refl _))]
  refine hrec _ ⟨k + 1, hkl, rfl, by simp only [List.length_set]; exact hl, fun j hj => ?_, fun j hj => ?_, by simp [List.range_succ]⟩ (by simp only [Int.toNat_natCast]; omega)
  ·
   simp only
   rw [getD_set' d (by omega)]
   by_cases e : k = j
   · rw [if_pos e, e]
   · rw [if_neg e]; exact h1 j (by omega)
  ·
   simp only
   rw [getD_set' d (by omega), if_neg (by omega)]; exact h2 j (by omega)
 ·
  have : k = us.length := by omega
  subst this
  rw [hend s _ rec hl]
  congr 2
  refine getD_ext d (by rw [hl, eachL_length]) fun j hj => ?_
  rw [h1 j (by omega), eachL_getD d d f us (by omega)]
end Go.PW
namespace Go.Sh
open Go.PW

abbrev U := ByteArray × Int × Int × Int × Int × Int × Int × Int × Int × Int × Int × Int × Int × Int
def mkU (x : Bearer) (n w s r b : Int) : U := (x.1, x.2.1, x.2.2.1, x.2.2.2.1, x.2.2.2.2.1, x.2.2.2.2.2.1, x.2.2.2.2.2.2.1, x.2.2.2.2.2.2.2.1, x.2.2.2.2.2.2.2.2, n, w, s, r, b)
def uX (u : U) : Bearer := (u.1, u.2.1, u.2.2.1, u.2.2.2.1, u.2.2.2.2.1, u.2.2.2.2.2.1, u.2.2.2.2.2.2.1, u.2.2.2.2.2.2.2.1, u.2.2.2.2.2.2.2.2.1)
def uK (u : U) : Int := u.2.1
def uG (u : U) : Int := u.2.2.2.1
def uP (u : U) : Int := u.2.2.2.2.1
def uN (u : U) : Int := u.2.2.2.2.2.2.2.2.2.1
def uW (u : U) : Int := u.2.2.2.2.2.2.2.2.2.2.1
def uS (u : U) : Int := u.2.2.2.2.2.2.2.2.2.2.2.1
def uR (u : U) : Int := u.2.2.2.2.2.2.2.2.2.2.2.2.1
def uB (u : U) : Int := u.2.2.2.2.2.2.2.2.2.2.2.2.2
def startU (rate arr : Int) (u : U) : U :=
 mkU (uX u) (uN u) (uW u + arr) (uS u) rate (if uK u ≠ 0 ∧ 0 < rate then (if ceilI (uW u + arr) rate < uN u then ceilI (uW u + arr) rate else uN u) else 0)
def takeU (u : U) : Int := if uB u * uR u < uW u then uB u * uR u else uW u
def endU (u : U) : U := mkU (uX u) (uN u) (uW u - takeU u) (uS u + takeU u) (uR u) (uB u)
def incU (u : U) : U := mkU (uX u) (uN u) (uW u) (uS u) (uR u) (uB u + 1)
structure OkU (u : U) : Prop where
 b0 : 0 ≤ uB u
 b1 : uB u ≤ 1000000
 p0 : 0 ≤ uP u
 p1 : uP u ≤ 100000
 w0 : 0 ≤ uW u
 w1 : uW u ≤ 1000000000
 s0 : 0 ≤ uS u
 s1 : uS u ≤ 1000000000
 r0 : 0 ≤ uR u
 r1 : uR u ≤ 1000
 g0 : 1 ≤ uG u
 g1 : uG u ≤ 100
theorem OkU.prod {u : U} (h : OkU u) : (0 ≤ uB u * uR u ∧ uB u * uR u ≤ 1000000000) ∧ (0 ≤ uB u * uP u ∧ uB u * uP u ≤ 100000000000) :=
 ⟨⟨Int.mul_nonneg h.b0 h.r0, Int.le_trans (Int.mul_le_mul h.b1 h.r1 h.r0 (by omega)) (by omega)⟩, ⟨Int.mul_nonneg h.b0 h.p0, Int.le_trans (Int.mul_le_mul h.b1 h.p1 h.p0 (by omega)) (by omega)⟩⟩
theorem OkU.take {u : U} (h : OkU u) : 0 ≤ takeU u ∧ takeU u ≤ uW u := by
 have := h.prod; have := h.w0
 unfold takeU; split <;> omega
def usedU : List U → Int × Int × Int
 | [] => (0, 0, 0)
 | u :: l => (uB u + (usedU l).1, (if 0 < uB u then 1 else 0) + (usedU l).2.1, uB u * uP u + (usedU l).2.2)
theorem usedU_snoc (u : U) : ∀ l : List U, usedU (l ++ [u]) = ((usedU l).1 + uB u, (usedU l).2.1 + (if 0 < uB u then 1 else 0), (usedU l).2.2 + uB u * uP u)
 | [] => by simp [usedU]
 | y :: l => by rw [List.cons_append, usedU, usedU_snoc u l, usedU]; simp only [Int.add_assoc]
theorem usedU_bounds : ∀ {l : List U}, (∀ u ∈ l, OkU u) → (0 ≤ (usedU l).1 ∧ (usedU l).1 ≤ 1000000 * (l.length : Int)) ∧ (0 ≤ (usedU l).2.1 ∧ (usedU l).2.1 ≤ (l.length : Int)) ∧ (0 ≤ (usedU l).2.2 ∧ (usedU l).2.2 ≤ 100000000000 * (l.length : Int))
 | [], _ => by simp [usedU]
 | u :: l, h => by
  have h1 := h u (by simp)
  have h3 := h1.prod; have h4 := h1.b0; have h5 := h1.b1
  have h2 := usedU_bounds (l := l) fun x hx => h x (by simp [hx])
  simp only [usedU, List.length_cons]
  split <;> omega
theorem left_eq {N : Nat} {b c p : Int} (hb : 0 ≤ b ∧ b ≤ 1000000) (hc : 0 ≤ c ∧ c ≤ 1000000) (hp : 0 ≤ p ∧ p ≤ 1000000) (t : List Int) (l : List U) (hl : l.length ≤ 8) (hN : 62 < N) (h : ∀ x ∈ l, OkU x) :
  sched_run_left N b c p t l = some (b - (usedU l).1, c - (usedU l).2.1, p - (usedU l).2.2) := by
 unfold sched_run_left
 simp only [jn]
 refine rds_spec (fun s : Int × Int × Int × Int => ∃ k : Nat, k ≤ l.length ∧ s = ((k : Int), b - (usedU (l.take k)).1, c - (usedU (l.take k)).2.1, p - (usedU (l.take k)).2.2)) (fun s => l.length - s.1.toNat)
  (fun _ => some (b - (usedU l).1, c - (usedU l).2.1, p - (usedU l).2.2)) (fun rec s hI hrec => ?_) N _ ⟨0, Nat.zero_le _, by simp [usedU]⟩ (by simp; omega)
 obtain ⟨k, hk, rfl⟩ := hI
 simp only [sched_run_left.b1]
 by_cases hkl : k < l.length
 ·
  have hx : OkU l[k] := h _ (List.getElem_mem hkl)
  have h1 := hx.prod; have h4 := hx.b0; have h5 := hx.b1
  have h2 := usedU_bounds (l := l.take k) fun x hx => h x (List.mem_of_mem_take hx)
  have hlen : (l.take k).length = k := by simp; omega
  rw [hlen] at h2
  rw [br_pos (by simpa using hkl), chk_pos (by omega)]
  simp only [Int.toNat_natCast, getD_of hkl]
  have es := take_snoc l hkl
  have eu := usedU_snoc l[k] (l.take k)
  rw [← es] at eu
  have k1 : b - (usedU (l.take k)).1 - uB l[k] = b - (usedU (l.take (k + 1))).1 := by rw [eu]; simp only; omega
  have k3 : p - (usedU (l.take k)).2.2 - uB l[k] * uP l[k] = p - (usedU (l.take (k + 1))).2.2 := by rw [eu]; simp only; omega
  change br (decide (uB l[k] > 0)) (rec (_, w64 (_ - uB l[k]), _, w64 (_ - w64 (uB l[k] * uP l[k])))) (rec (_, w64 (_ - uB l[k]), _, w64 (_ - w64 (uB l[k] * uP l[k])))) = _
  rw [w64_succ (by omega), w64_id (n := _ - uB l[k]) (by omega), w64_id (n := uB l[k] * uP l[k]) (by omega), w64_id (n := _ - uB l[k] * uP l[k]) (by omega), w64_id (n := _ - 1) (by omega), k1, k3]
  by_cases hp : 0 < uB l[k]
  ·
   have k2 : c - (usedU (l.take k)).2.1 - 1 = c - (usedU (l.take (k + 1))).2.1 := by rw [eu, if_pos hp]; simp only; omega
   rw [br_pos (by simpa using hp), k2]
   exact hrec _ ⟨k + 1, hkl, rfl⟩ (by simp only [Int.toNat_natCast]; omega)
  ·
   have k2 : c - (usedU (l.take k)).2.1 = c - (usedU (l.take (k + 1))).2.1 := by rw [eu, if_neg hp]; simp only; omega
   rw [br_neg (by simpa using hp), k2]
   exact hrec _ ⟨k + 1, hkl, rfl⟩ (by simp only [Int.toNat_natCast]; omega)
 ·
  have : k = l.length := by omega
  subst this
  rw [br_neg (by simp)]
  simp

def candU (c p : Int) (u : U) : Bool := ((decide (uR u > 0) && decide (uW u > takeU u)) && decide (uP u ≤ p)) && (decide (uB u > 0) || decide (c > 0))
def beforeU (u v : U) : Bool := decide ((uS u + takeU u) * uG v < (uS v + takeU v) * uG u)
def atU (us : List U) (k : Int) : U := us.getD k.toNat default
def stepN (us : List U) (c p : Int) (k : Nat) (best : Int) : Int :=
 if candU c p (atU us k) = true ∧ (best < 0 ∨ beforeU (atU us k) (atU us best) = true) then (k : Int) else best
def nextU (b c p : Int) (us : List U) : Int :=
 if b - (usedU us).1 = 0 then -1 else itN (stepN us (c - (usedU us).2.1) (p - (usedU us).2.2)) us.length (-1)
theorem stepN_range (us : List U) (c p : Int) : ∀ k, -1 ≤ itN (stepN us c p) k (-1) ∧ itN (stepN us c p) k (-1) < (k : Int)
 | 0 => by simp [itN]
 | k + 1 => by
  have ih := stepN_range us c p k
  rw [itN, stepN]
  split <;> omega
theorem stepN_cand (us : List U) (c p : Int) : ∀ k, (0 ≤ itN (stepN us c p) k (-1) → candU c p (atU us (itN (stepN us c p) k (-1))) = true) ∧ (itN (stepN us c p) k (-1) < 0 → ∀ j, j < k → candU c p (atU us (j : Int)) = false)
 | 0 => ⟨fun h => absurd h (by simp [itN]), fun _ j h => by omega⟩
 | k + 1 => by
  have ih := stepN_cand us c p k
  rw [itN]
  generalize hB : itN (stepN us c p) k (-1) = best at ih ⊢
  rw [stepN]
  by_cases h : candU c p (atU us (k : Int)) = true ∧ (best < 0 ∨ beforeU (atU us (k : Int)) (atU us best) = true)
  ·
   rw [if_pos h]
   exact ⟨fun _ => h.1, fun h => absurd h (by omega)⟩
  ·
   rw [if_neg h]
   refine ⟨ih.1, fun hb j hj => ?_⟩
   rcases Nat.lt_succ_iff_lt_or_eq.1 hj with h1 | rfl
   · exact ih.2 hb j h1
   ·
    cases hc : candU c p (atU us (j : Int))
    · rfl
    · exact absurd ⟨hc, Or.inl hb⟩ h
theorem atU_mem {us : List U} {k : Int} (h0 : 0 ≤ k) (h1 : k < (us.length : Int)) : atU us k ∈ us := by
 unfold atU
 rw [getD_of (show k.toNat < us.length by omega)]
 exact List.getElem_mem _
theorem taken_eq (N : Nat) {u : U} (h : OkU u) : sched_user_taken N u.1 u.2.1 u.2.2.1 u.2.2.2.1 u.2.2.2.2.1 u.2.2.2.2.2.1 u.2.2.2.2.2.2.1 u.2.2.2.2.2.2.2.1 u.2.2.2.2.2.2.2.2.1 u.2.2.2.2.2.2.2.2.2.1 u.2.2.2.2.2.2.2.2.2.2.1 u.2.2.2.2.2.2.2.2.2.2.2.1 u.2.2.2.2.2.2.2.2.2.2.2.2.1 u.2.2.2.2.2.2.2.2.2.2.2.2.2 = some (takeU u) := by
 have h1 := h.prod
 unfold sched_user_taken takeU
 show some (if w64 (uB u * uR u) < uW u then w64 (uB u * uR u) else uW u) = _
 rw [w64_id (by omega)]
noncomputable def tkN (N : Nat) (u : U) : Option Int := sched_user_taken N u.1 u.2.1 u.2.2.1 u.2.2.2.1 u.2.2.2.2.1 u.2.2.2.2.2.1 u.2.2.2.2.2.2.1 u.2.2.2.2.2.2.2.1 u.2.2.2.2.2.2.2.2.1 u.2.2.2.2.2.2.2.2.2.1 u.2.2.2.2.2.2.2.2.2.2.1 u.2.2.2.2.2.2.2.2.2.2.2.1 u.2.2.2.2.2.2.2.2.2.2.2.2.1 u.2.2.2.2.2.2.2.2.2.2.2.2.2
theorem tkN_eq (N : Nat) {u : U} (h : OkU u) : tkN N u = some (takeU u) := taken_eq N h
def candZ (c p : Int) (u : U) (z : Int) : Bool := ((decide (uR u > 0) && decide (uW u > z)) && decide (uP u ≤ p)) && (decide (uB u > 0) || decide (c > 0))
theorem candZ_eq (c p : Int) (u : U) : candZ c p u (if 0 < uR u then takeU u else 0) = candU c p u := by
 unfold candZ candU
 by_cases hr : 0 < uR u
 · rw [if_pos hr]
 · rw [show decide (uR u > 0) = false from by simpa using hr]; simp
theorem grd_if (r x : Int) : grd (decide (r > 0)) 0 (some x) = some (if 0 < r then x else 0) := by
 by_cases hr : 0 < r
 · rw [if_pos hr, show decide (r > 0) = true from by simpa using hr]; rfl
 · rw [if_neg hr, show decide (r > 0) = false from by simpa using hr]; rfl
theorem b4_eq (N : Nat) (l0 l : List U) (lc lp : Int) (K : Int → Option Int) (rec : Int × Int → Option Int) (best k : Int) : sched_Run.b4 N l0 l lc lp K rec (best, k) =
  br (decide (k < (l0.length : Int))) (chk (0 ≤ k ∧ k < (l0.length : Int)) <| bnd (grd (decide (uR (atU l k) > 0)) 0 (tkN N (atU l k))) fun z => bnd (some (candZ lc lp (atU l k) z)) fun q =>
   bnd (grd (q && !(decide (best < 0))) 0 (tkN N (atU l k))) fun x => chk ((q && !(decide (best < 0))) = true → best.toNat < l0.length) <| chk ((q && !(decide (best < 0))) = true → best.toNat < l0.length) <| chk ((q && !(decide (best < 0))) = true → best.toNat < l0.length) <|
   bnd (grd (q && !(decide (best < 0))) 0 (tkN N (atU l best))) fun y =>
   br (q && (decide (best < 0) || decide (w64 (w64 (uS (atU l k) + x) * uG (atU l best)) < w64 (w64 (uS (atU l best) + y) * uG (atU l k))))) (rec (((k.toNat : Nat) : Int), w64 (k + 1))) (
   chk (best < ((l0.length : Nat) : Int)) <| rec (best, w64 (k + 1)))) (chk (best < ((l0.length : Nat) : Int)) <| K best) := rfl
theorem before_bounds {u v : U} (hu : OkU u) (hv : OkU v) : w64 (w64 (uS u + takeU u) * uG v) = (uS u + takeU u) * uG v := by
 have t1 := hu.take
 have r2 := hu.w0; have r3 := hu.w1; have r4 := hu.s0; have r5 := hu.s1; have r6 := hv.g0; have r7 := hv.g1
 have h0 : 0 ≤ (uS u + takeU u) * uG v := Int.mul_nonneg (by omega) (by omega)
 have h1 : (uS u + takeU u) * uG v ≤ 2000000000 * 100 := Int.mul_le_mul (by omega) r7 (by omega) (by omega)
 rw [w64_id (n := uS u + takeU u) (by omega), w64_id (by omega)]
theorem next_eq {N : Nat} {b c p : Int} (hb : 0 ≤ b ∧ b ≤ 1000000) (hc : 0 ≤ c ∧ c ≤ 1000000) (hp : 0 ≤ p ∧ p ≤ 1000000) (t : List Int) (l0 l : List U) (hl : l.length ≤ 8) (hll : l.length = l0.length) (hN : 62 < N) (h : ∀ x ∈ l, OkU x) :
  sched_Run.m134 N b c p t l0 l = some (nextU b c p l) := by
 unfold sched_Run.m134
 rw [chk_pos hll, left_eq hb hc hp t l hl hN h, bnd_val]
 simp only [jn]
 unfold nextU
 by_cases h0 : b - (usedU l).1 = 0
 · rw [if_pos h0, br_pos (by rw [h0]; rfl)]
 rw [if_neg h0, br_neg (by rw [beq_eq_false_iff_ne]; exact h0)]
 have hs := stepN_range l (c - (usedU l).2.1) (p - (usedU l).2.2)
 refine (rds_itR l.length (stepN l (c - (usedU l).2.1) (p - (usedU l).2.2)) (fun k s => -1 ≤ s ∧ s < (k : Int)) _ (fun best => some best) (s := -1) (by simp) (fun k s hk hI => ?_) (fun k s rec hk hI => ?_) (fun s rec hI => ?_) (show l.length < N by omega)).1
 · rw [stepN]; split <;> omega
 ·
  have hku : OkU (atU l (k : Int)) := h _ (atU_mem (by omega) (by omega))
  rw [b4_eq, br_pos (by simp only [decide_eq_true_eq]; omega), chk_pos (by omega), tkN_eq N hku, grd_if, bnd_val, bnd_val, candZ_eq, stepN, w64_succ (by omega), Int.toNat_natCast]
  cases hq : candU (c - (usedU l).2.1) (p - (usedU l).2.2) (atU l (k : Int))
  ·
   simp only [Bool.false_and, grd_false, bnd_val, br_false, false_and, if_false]
   rw [chk_pos (by simp), chk_pos (by simp), chk_pos (by simp), chk_pos (by omega), if_neg (by simp)]
  ·
   by_cases hb : s < 0
   ·
    rw [show decide (s < 0) = true from by simpa using hb]
    simp only [Bool.not_true, Bool.and_false, grd_false, bnd_val, Bool.true_or, Bool.and_true, br_true]
    rw [chk_pos (by simp), chk_pos (by simp), chk_pos (by simp), if_pos ⟨trivial, Or.inl hb⟩]
   ·
    have hbu : OkU (atU l s) := h _ (atU_mem (by omega) (by omega))
    rw [show decide (s < 0) = false from by simpa using hb, tkN_eq N hbu]
    simp only [Bool.not_false, Bool.and_true, grd_true, bnd_val, Bool.false_or, Bool.true_and]
    rw [chk_pos (fun _ => by omega), chk_pos (fun _ => by omega), chk_pos (fun _ => by omega), before_bounds hku hbu, before_bounds hbu hku, chk_pos (by omega)]
    by_cases hf : beforeU (atU l (k : Int)) (atU l s) = true
    · rw [if_pos ⟨trivial, Or.inr hf⟩]; exact br_pos hf _ _
    · rw [if_neg (fun h => h.2.elim hb hf)]; exact br_neg (by rw [Bool.not_eq_true] at hf; exact hf) _ _
 ·
  rw [b4_eq, br_neg (by simp only [decide_eq_false_iff_not]; omega), chk_pos (by omega)]
  exact chk_pos (by omega) _
end Go.Sh

/-
 A slot of a run: the blocks are given, and the rest of them is told.
-/
namespace Go.Sh
open Go.PW

structure FitsU (b c p : Int) (us : List U) : Prop where
 b : (usedU us).1 ≤ b
 c : (usedU us).2.1 ≤ c
 p : (usedU us).2.2 ≤ p
theorem uB_le_used : ∀ {us : List U}, (∀ u ∈ us, OkU u) → ∀ u ∈ us, uB u ≤ (usedU us).1
 | [], _, u, h => by simp at h
 | v :: l, h, u, hu => by
  have h2 := usedU_bounds (l := l) fun x hx => h x (by simp [hx])
  have hv := (h v (by simp)).b0
  simp only [usedU]
  rcases List.mem_cons.1 hu with rfl | hu
  · omega
  · have := uB_le_used (us := l) (fun x hx => h x (by simp [hx])) u hu; omega
theorem used_set {us : List U} {k : Nat} (hk : k < us.length) (h0 : 0 ≤ uB (us.getD k default)) :
  usedU (us.set k (incU (us.getD k default))) = ((usedU us).1 + 1, (usedU us).2.1 + (if 0 < uB (us.getD k default) then 0 else 1), (usedU us).2.2 + uP (us.getD k default)) := by
 induction us generalizing k with
 | nil => simp at hk
 | cons v l ih =>
  cases k with
  | zero =>
   simp only [List.set_cons_zero, List.getD_cons_zero, usedU] at h0 ⊢
   have e1 : uB (incU v) = uB v + 1 := rfl
   have e2 : uP (incU v) = uP v := rfl
   have e3 : (uB v + 1) * uP v = uB v * uP v + uP v := by rw [Int.add_mul, Int.one_mul]
   rw [e1, e2, e3, if_pos (by omega)]
   simp only [Prod.mk.injEq]
   refine ⟨by omega, ?_, by omega⟩
   split <;> omega
  | succ k =>
   simp only [List.set_cons_succ, List.getD_cons_succ, usedU, List.length_cons] at h0 hk ⊢
   rw [ih (by omega) h0]
   simp only [Prod.mk.injEq]
   refine ⟨by omega, by omega, by omega⟩
theorem nextU_spec (b c p : Int) (us : List U) : (-1 ≤ nextU b c p us ∧ nextU b c p us < (us.length : Int)) ∧
  (nextU b c p us < 0 → b - (usedU us).1 = 0 ∨ ∀ j, j < us.length → candU (c - (usedU us).2.1) (p - (usedU us).2.2) (us.getD j default) = false) ∧
  (0 ≤ nextU b c p us → b - (usedU us).1 ≠ 0 ∧ candU (c - (usedU us).2.1) (p - (usedU us).2.2) (atU us (nextU b c p us)) = true) := by
 unfold nextU
 by_cases h0 : b - (usedU us).1 = 0
 ·
  rw [if_pos h0]
  exact ⟨⟨by omega, by omega⟩, fun _ => Or.inl h0, fun h => absurd h (by decide)⟩
 rw [if_neg h0]
 have h1 := stepN_range us (c - (usedU us).2.1) (p - (usedU us).2.2) us.length
 have h2 := stepN_cand us (c - (usedU us).2.1) (p - (usedU us).2.2) us.length
 exact ⟨h1, fun h => Or.inr fun j hj => h2.2 h j hj, fun h => ⟨h0, h2.1 h⟩⟩
def giveF (b c p : Int) : Nat → List U → List U
 | 0, us => us
 | m + 1, us => if nextU b c p us < 0 then us else giveF b c p m (us.set (nextU b c p us).toNat (incU (atU us (nextU b c p us))))
def moreU (u v : U) : Prop := v = mkU (uX u) (uN u) (uW u) (uS u) (uR u) (uB v) ∧ uB u ≤ uB v
theorem moreU_refl (u : U) : moreU u u := ⟨rfl, Int.le_refl _⟩
theorem moreU_trans {u v w : U} (h : moreU u v) (g : moreU v w) : moreU u w := by
 obtain ⟨h1, h2⟩ := h
 obtain ⟨g1, g2⟩ := g
 refine ⟨?_, by omega⟩
 rw [h1] at g1
 exact g1
theorem b5_eq (N : Nat) (b c p : Int) (t : List Int) (l0 us : List U) (K : List U → Option (List Int × List U)) (rec : Int × List U → Option (List Int × List U)) (u : Int) : sched_Run.b5 N b c p t l0 K rec (u, us) =
  br (!(decide (u < 0))) (chk (0 ≤ u) <| chk (u.toNat < l0.length) <| chk (u.toNat < us.length) <| bnd (some (us.set u.toNat (mkU (uX (atU us u)) (uN (atU us u)) (uW (atU us u)) (uS (atU us u)) (uR (atU us u)) (w64 (uB (atU us u) + 1))))) fun f2 =>
   bnd (sched_Run.m134 N b c p t l0 f2) fun r => chk (r < ((l0.length : Nat) : Int)) <| rec (r, f2)) (K us) := rfl
theorem OkU.inc {u : U} (h : OkU u) (hb : uB u + 1 ≤ 1000000) : OkU (incU u) :=
 ⟨by have := h.b0; show 0 ≤ uB u + 1; omega, hb, h.p0, h.p1, h.w0, h.w1, h.s0, h.s1, h.r0, h.r1, h.g0, h.g1⟩
theorem moreU_set {us : List U} {r : Nat} (hr : r < us.length) (k : Nat) : moreU (us.getD k default) ((us.set r (incU (us.getD r default))).getD k default) := by
 rw [getD_set' default hr]
 by_cases e : r = k
 ·
  subst e
  rw [if_pos rfl]
  exact ⟨rfl, by show uB (us.getD r default) ≤ uB (us.getD r default) + 1; omega⟩
 · rw [if_neg e]; exact moreU_refl _
theorem give_eq {N : Nat} {b c p : Int} (hb : 0 ≤ b ∧ b ≤ 1000000) (hc : 0 ≤ c ∧ c ≤ 1000000) (hp : 0 ≤ p ∧ p ≤ 1000000) (t : List Int) (l0 : List U) (hl : l0.length ≤ 8) (hN : 62 < N) (K : List U → Option (List Int × List U)) :
  ∀ (m M : Nat) (us : List U), us.length = l0.length → (∀ u ∈ us, OkU u) → FitsU b c p us → b - (usedU us).1 = (m : Int) → m < M →
   rds (sched_Run.b5 N b c p t l0 K) M (nextU b c p us, us) = K (giveF b c p m us) ∧ (giveF b c p m us).length = us.length ∧ (∀ k, k < us.length → moreU (us.getD k default) ((giveF b c p m us).getD k default)) ∧
    (∀ u ∈ giveF b c p m us, OkU u) ∧ FitsU b c p (giveF b c p m us) ∧
    (b - (usedU (giveF b c p m us)).1 = 0 ∨ ∀ j, j < us.length → candU (c - (usedU (giveF b c p m us)).2.1) (p - (usedU (giveF b c p m us)).2.2) ((giveF b c p m us).getD j default) = false)
 | m, 0, us, _, _, _, _, h => by omega
 | 0, M + 1, us, hul, hok, hf, hm, _ => by
  have hs := nextU_spec b c p us
  have hneg : nextU b c p us < 0 := by unfold nextU; rw [if_pos (by omega)]; decide
  rw [rds_succ, b5_eq, br_neg (by simpa using hneg)]
  exact ⟨rfl, rfl, fun k _ => moreU_refl _, hok, hf, hs.2.1 hneg⟩
 | m + 1, M + 1, us, hul, hok, hf, hm, hM => by
  have hs := nextU_spec b c p us
  rw [rds_succ, b5_eq, giveF]
  by_cases hneg : nextU b c p us < 0
  ·
   rw [br_neg (by simpa using hneg), if_pos hneg]
   exact ⟨rfl, rfl, fun k _ => moreU_refl _, hok, hf, hs.2.1 hneg⟩
  rw [br_pos (by simpa using hneg), if_neg hneg]
  obtain ⟨hs1, hs2, hs3⟩ := hs
  obtain ⟨hb0, hcand⟩ := hs3 (by omega)
  generalize hr : nextU b c p us = r at *
  have hrl : r.toNat < us.length := by omega
  have hmem : atU us r ∈ us := atU_mem (by omega) (by omega)
  have hou := hok _ hmem
  have hub := uB_le_used hok _ hmem
  have hb0' := hou.b0
  have hfb := hf.b
  rw [chk_pos (by omega), chk_pos (by omega), chk_pos hrl, bnd_val, w64_id (by omega)]
  have hset := used_set hrl hb0'
  change bnd (sched_Run.m134 N b c p t l0 (us.set r.toNat (incU (atU us r)))) _ = _ ∧ _
  have hou' : ∀ u ∈ us.set r.toNat (incU (atU us r)), OkU u := fun u hu => by
   rcases List.mem_or_eq_of_mem_set hu with h | rfl
   · exact hok u h
   · exact hou.inc (by omega)
  have hf' : FitsU b c p (us.set r.toNat (incU (atU us r))) := by
   have hfc := hf.c; have hfp := hf.p
   unfold candU at hcand
   simp only [Bool.and_eq_true, Bool.or_eq_true, decide_eq_true_eq] at hcand
   refine ⟨?_, ?_, ?_⟩
   · unfold atU; rw [hset]; simp only; omega
   ·
    unfold atU; rw [hset]; simp only
    have := hcand.2
    unfold atU at this
    split <;> omega
   ·
    unfold atU; rw [hset]; simp only
    have := hcand.1.2
    unfold atU at this
    omega
  rw [next_eq hb hc hp t l0 _ (by rw [List.length_set]; omega) (by rw [List.length_set]; omega) hN hou', bnd_val]
  have hs' := nextU_spec b c p (us.set r.toNat (incU (atU us r)))
  rw [List.length_set] at hs'
  rw [chk_pos (by omega)]
  have ih := give_eq hb hc hp t l0 hl hN K m M (us.set r.toNat (incU (atU us r))) (by rw [List.length_set]; omega) hou' hf' (by unfold atU; rw [hset]; simp only; omega) (by omega)
  rw [List.length_set] at ih
  obtain ⟨i1, i2, i3, i4⟩ := ih
  exact ⟨i1, i2, fun k hk => moreU_trans (moreU_set hrl k) (i3 k hk), i4⟩

structure GoodU (T : List Int) (B : Int) (u : U) : Prop where
 ok : bearErr T (uX u) = 0
 n : uN u = (needB T (uX u)).1
 w : 0 ≤ uW u
 s : 0 ≤ uS u
 ws : uW u + uS u ≤ B
structure SlotOK (T : List Int) (len : Nat) (x : List Int × List Int) : Prop where
 l1 : x.1.length = len
 l2 : x.2.length = len
 r : ∀ k, k < len → 0 ≤ x.1.getD k 0 ∧ x.1.getD k 0 < (T.length : Int)
 a : ∀ k, k < len → 0 ≤ x.2.getD k 0 ∧ x.2.getD k 0 ≤ 1000000
theorem bearErr_w {t : List Int} {x : Bearer} (h : bearErr t x = 0) : 1 ≤ x.2.2.2.1 ∧ x.2.2.2.1 ≤ 100 := by
 obtain ⟨n, k, pr, w, po, le, bu, ra, de⟩ := x
 unfold bearErr at h
 simp only at h ⊢
 cases h1 : nameOK n
 · rw [if_pos h1] at h; exact absurd h (by decide)
 cases h2 : inB k 0 2
 · rw [if_neg (by simp [h1]), if_pos h2] at h; exact absurd h (by decide)
 cases h3 : (inB pr 0 100 && inB w 1 100 && inB po 0 100000)
 · rw [if_neg (by simp [h1]), if_neg (by simp [h2]), if_pos h3] at h; exact absurd h (by decide)
 simp only [Bool.and_eq_true, inB_true] at h3
 exact h3.1.2
def rateU (T : List Int) (x : List Int × List Int) (k : Nat) : Int := T.getD (x.1.getD k 0).toNat 0
def arrU (x : List Int × List Int) (k : Nat) : Int := x.2.getD k 0
def startL (T : List Int) (x : List Int × List Int) (us : List U) : List U := eachL default (fun k u => startU (rateU T x k) (arrU x k) u) us
theorem rate_ok {T : List Int} (hT : rightT T) {len : Nat} {x : List Int × List Int} (hx : SlotOK T len x) {k : Nat} (hk : k < len) : 0 ≤ rateU T x k ∧ rateU T x k ≤ 1000 := by
 have := hx.r k hk
 exact tabGet hT (by omega)
theorem startU_ok {T : List Int} (hT : rightT T) {B : Int} (hB : B ≤ 100000000) {u : U} (g : GoodU T B u) {rate arr : Int} (hr : 0 ≤ rate ∧ rate ≤ 1000) (ha : 0 ≤ arr ∧ arr ≤ 1000000) :
  OkU (startU rate arr u) ∧ (uB (startU rate arr u) ≤ uN u) ∧ (0 < uB (startU rate arr u) → uK u ≠ 0) := by
 have hn := needB_bounds hT g.ok
 have hw := bearErr_w g.ok
 have hz := bearErr_zero g.ok
 have g1 := g.n; have g2 := g.w; have g3 := g.s; have g4 := g.ws
 have hbl : 0 ≤ uB (startU rate arr u) ∧ uB (startU rate arr u) ≤ uN u ∧ (0 < uB (startU rate arr u) → uK u ≠ 0) := by
  show 0 ≤ (if uK u ≠ 0 ∧ 0 < rate then (if ceilI (uW u + arr) rate < uN u then ceilI (uW u + arr) rate else uN u) else 0) ∧ (if uK u ≠ 0 ∧ 0 < rate then (if ceilI (uW u + arr) rate < uN u then ceilI (uW u + arr) rate else uN u) else 0) ≤ _ ∧ (0 < (if uK u ≠ 0 ∧ 0 < rate then (if ceilI (uW u + arr) rate < uN u then ceilI (uW u + arr) rate else uN u) else 0) → _)
  by_cases h : uK u ≠ 0 ∧ 0 < rate
  ·
   have := ceilI_bounds (n := uW u + arr) (b := rate) (by omega) (by omega)
   rw [if_pos h]
   refine ⟨by split <;> omega, by split <;> omega, fun _ => h.1⟩
  ·
   rw [if_neg h]
   exact ⟨by omega, by omega, fun h => absurd h (by omega)⟩
 refine ⟨⟨hbl.1, by omega, hz.2.2.1.1, hz.2.2.1.2, ?_, ?_, ?_, ?_, hr.1, hr.2, hw.1, hw.2⟩, hbl.2⟩
 · show 0 ≤ uW u + arr; omega
 · show uW u + arr ≤ _; omega
 · show 0 ≤ uS u; omega
 · show uS u ≤ _; omega
theorem used_le_needs {T : List Int} (hT : rightT T) : ∀ us : List U, (∀ u ∈ us, bearErr T (uX u) = 0 ∧ 0 ≤ uB u ∧ uB u ≤ (needB T (uX u)).1 ∧ (0 < uB u → uK u ≠ 0)) →
  (usedU us).1 ≤ (needsB T (us.map uX)).1 ∧ (usedU us).2.1 ≤ (needsB T (us.map uX)).2.1 ∧ (usedU us).2.2 ≤ (needsB T (us.map uX)).2.2
 | [], _ => by simp [usedU, needsB]
 | u :: l, h => by
  have ih := used_le_needs hT l fun x hx => h x (by simp [hx])
  obtain ⟨h1, h2, h3, h4⟩ := h u (by simp)
  have hp := (bearErr_zero h1).2.2.1.1
  have hnb := needB_bounds hT h1
  simp only [usedU, List.map_cons, needsB]
  by_cases hk : uK u ≠ 0
  ·
   have hne : needB T (uX u) = ((needB T (uX u)).1, 1, (needB T (uX u)).1 * uP u) := by
    unfold needB
    rw [if_neg (show ¬ (uX u).2.1 = 0 from hk)]; rfl
   have hm : uB u * uP u ≤ (needB T (uX u)).1 * uP u := Int.mul_le_mul_of_nonneg_right h3 hp
   have e1 : (needB T (uX u)).2.1 = 1 := by rw [hne]
   have e2 : (needB T (uX u)).2.2 = (needB T (uX u)).1 * uP u := by rw [hne]
   refine ⟨by omega, by split <;> omega, by omega⟩
  ·
   have hb : uB u = 0 := by
    by_cases h0 : 0 < uB u
    · exact absurd (h4 h0) hk
    · omega
   rw [hb, if_neg (by decide), Int.zero_mul]
   refine ⟨by omega, by omega, by omega⟩
theorem eachL_mem {α β : Type} {d : α} {f : Nat → α → β} {us : List α} {v : β} (h : v ∈ eachL d f us) : ∃ k, k < us.length ∧ v = f k (us.getD k d) ∧ us.getD k d ∈ us := by
 unfold eachL at h
 obtain ⟨k, hk, rfl⟩ := List.mem_map.1 h
 rw [List.mem_range] at hk
 exact ⟨k, hk, rfl, by rw [getD_of hk]; exact List.getElem_mem _⟩
theorem eachL_map {α β γ : Type} {d : α} {f : Nat → α → β} {us : List α} (g : β → γ) (g' : α → γ) (h : ∀ k u, g (f k u) = g' u) : (eachL d f us).map g = us.map g' := by
 refine List.ext_getElem (by simp [eachL]) fun i h1 h2 => ?_
 simp only [eachL, List.getElem_map, List.getElem_range, h]
 rw [getD_of (by simpa using h2)]
theorem startL_ok {T : List Int} (hT : rightT T) {b c p B : Int} (hB : B ≤ 100000000) {us : List U} (g : ∀ u ∈ us, GoodU T B u) (hf : fitB b c p T (us.map uX) = true) {x : List Int × List Int} (hx : SlotOK T us.length x) :
  (∀ u ∈ startL T x us, OkU u) ∧ FitsU b c p (startL T x us) := by
 have h0 : ∀ u ∈ startL T x us, OkU u ∧ bearErr T (uX u) = 0 ∧ 0 ≤ uB u ∧ uB u ≤ (needB T (uX u)).1 ∧ (0 < uB u → uK u ≠ 0) := fun u hu => by
  obtain ⟨k, hk, rfl, hm⟩ := eachL_mem hu
  have gu := g _ hm
  have := startU_ok hT hB gu (rate_ok hT hx hk) (hx.a k hk)
  refine ⟨this.1, gu.ok, this.1.b0, ?_, this.2.2⟩
  have e := gu.n
  show _ ≤ (needB T (uX (us.getD k default))).1
  rw [← e]; exact this.2.1
 refine ⟨fun u hu => (h0 u hu).1, ?_⟩
 have h1 := used_le_needs hT (startL T x us) fun u hu => (h0 u hu).2
 have e : (startL T x us).map uX = us.map uX := eachL_map uX uX fun k u => rfl
 rw [e] at h1
 unfold fitB at hf
 simp only [Bool.and_eq_true, decide_eq_true_eq] at hf
 exact ⟨by omega, by omega, by omega⟩
theorem b3_eq (N : Nat) (slots : List (List Int × List Int)) (T : List Int) (l0 s : List U) (t28 k : Int) (K : List U → Option (List Int × List U)) (rec : Int × List U → Option (List Int × List U)) : sched_Run.b3 N slots T l0 t28 K rec (k, s) =
  br (decide (k < (l0.length : Int))) (chk (0 ≤ k ∧ k < (l0.length : Int)) <| chk (0 ≤ k ∧ k < (((slots.getD t28.toNat default).1).length : Int)) <|
   chk (0 ≤ (((slots.getD t28.toNat default).1).getD k.toNat 0) ∧ (((slots.getD t28.toNat default).1).getD k.toNat 0) < (T.length : Int)) <| chk (0 ≤ k ∧ k < (((slots.getD t28.toNat default).2).length : Int)) <| chk (k.toNat < s.length) <|
   bnd (some (s.set k.toNat (mkU (uX (atU s k)) (uN (atU s k)) (w64 (uW (atU s k) + arrU (slots.getD t28.toNat default) k.toNat)) (uS (atU s k)) (rateU T (slots.getD t28.toNat default) k.toNat) 0))) fun f =>
   bnd (some (uK (atU f k) != 0)) fun x6 => br (x6 && decide (uR (atU f k) > 0)) (bnd (sched_ceil N (uW (atU f k)) (uR (atU f k))) fun x7 => chk (k.toNat < f.length) <|
    bnd (some (f.set k.toNat (mkU (uX (atU f k)) (uN (atU f k)) (uW (atU f k)) (uS (atU f k)) (uR (atU f k)) (if x7 < uN (atU f k) then x7 else uN (atU f k))))) fun f1 => rec (w64 (k + 1), f1)) (rec (w64 (k + 1), f))) (K s) := rfl
theorem b7_eq (N : Nat) (l0 s : List U) (k : Int) (a : List Int) (K : List U × List Int → Option (List Int × List U)) (rec : Int × List U × List Int → Option (List Int × List U)) : sched_Run.b7 N l0 K rec (k, s, a) =
  br (decide (k < (l0.length : Int))) (chk (0 ≤ k ∧ k < (l0.length : Int)) <| bnd (tkN N (atU s k)) fun z => chk (k.toNat < s.length) <|
   bnd (some (s.set k.toNat (mkU (uX (atU s k)) (uN (atU s k)) (w64 (uW (atU s k) - z)) (w64 (uS (atU s k) + z)) (uR (atU s k)) (uB (atU s k))))) fun f =>
   chk (a.length + ([uB (atU f k)] : List Int).length ≤ 1000000000) <| rec (w64 (k + 1), f, a ++ [uB (atU f k)])) (K (s, a)) := rfl
theorem atU_set {s : List U} {k : Nat} {v : U} (h : k < s.length) : atU (s.set k v) (k : Int) = v := by
 unfold atU
 rw [Int.toNat_natCast, getD_set' default h, if_pos rfl]
def givenL (b c p : Int) (T : List Int) (x : List Int × List Int) (us : List U) : List U := giveF b c p (b - (usedU (startL T x us)).1).toNat (startL T x us)
def slotF (b c p : Int) (T : List Int) (x : List Int × List Int) (us : List U) : List Int × List U :=
 (eachL default (fun _ u => uB u) (givenL b c p T x us), eachL default (fun _ u => endU u) (givenL b c p T x us))
theorem start_loop {N : Nat} (hN : 100 < N) {T : List Int} (hT : rightT T) {B : Int} (hB : B ≤ 100000000) (slots : List (List Int × List Int)) (t : Int) (l0 us : List U) (hl : us.length = l0.length) (h8 : l0.length ≤ 8) (g : ∀ u ∈ us, GoodU T B u)
  {x : List Int × List Int} (hxx : slots.getD t.toNat default = x) (hx : SlotOK T us.length x) (K : List U → Option (List Int × List U)) : rds (sched_Run.b3 N slots T l0 t K) N (0, us) = K (startL T x us) := by
 refine rds_each default (fun k u => startU (rateU T x k) (arrU x k) u) us _ K (fun k s rec hk hs hsk => ?_) (fun s rec hs => ?_) (by omega)
 ·
  have hr := hx.r k hk; have ha := hx.a k hk; have h1 := hx.l1; have h2 := hx.l2
  have hrate := rate_ok hT hx hk
  have hmem : us.getD k default ∈ us := by rw [getD_of hk]; exact List.getElem_mem _
  have gu := g _ hmem
  have g2 := gu.w; have g3 := gu.s; have g4 := gu.ws
  rw [b3_eq, hxx]
  simp only [Int.toNat_natCast]
  rw [br_pos (by simp only [decide_eq_true_eq]; omega), chk_pos (by omega), chk_pos (by omega), chk_pos hr, chk_pos (by omega), chk_pos (by omega), bnd_val, show atU s (k : Int) = us.getD k default from by unfold atU; rw [Int.toNat_natCast]; exact hsk,
   bnd_val, atU_set (by omega), w64_succ (by omega), w64_id (n := uW (us.getD k default) + arrU x k) (by unfold arrU; omega)]
  generalize us.getD k default = v at *
  show br ((uK v != 0) && decide (rateU T x k > 0)) (bnd (sched_ceil N (uW v + arrU x k) (rateU T x k)) _) _ = _
  by_cases h : uK v ≠ 0 ∧ 0 < rateU T x k
  ·
   rw [br_pos (by simp only [Bool.and_eq_true, bne_iff_ne, decide_eq_true_eq]; exact h), ceil_eq N (by unfold arrU; omega) (by omega) (by unfold arrU; omega) (by omega), bnd_val, chk_pos (by rw [List.length_set]; omega), bnd_val, List.set_set]
   show rec (_, s.set k (mkU (uX v) (uN v) (uW v + arrU x k) (uS v) (rateU T x k) (if ceilI (uW v + arrU x k) (rateU T x k) < uN v then ceilI (uW v + arrU x k) (rateU T x k) else uN v))) = _
   unfold startU
   rw [if_pos h]
  ·
   rw [br_neg (by
    simp only [Bool.and_eq_false_iff, bne_eq_false_iff_eq, decide_eq_false_iff_not]
    by_cases h0 : uK v = 0
    · exact Or.inl h0
    · exact Or.inr fun h1 => h ⟨h0, h1⟩)]
   unfold startU
   rw [if_neg h]
 · rw [b3_eq, br_neg (by simp only [decide_eq_false_iff_not]; omega)]
theorem end_loop {N : Nat} (hN : 100 < N) (l0 us : List U) (hl : us.length = l0.length) (h8 : l0.length ≤ 8) (g : ∀ u ∈ us, OkU u) (K : List U × List Int → Option (List Int × List U)) :
  rds (sched_Run.b7 N l0 K) N (0, us, []) = K (eachL default (fun _ u => endU u) us, eachL default (fun _ u => uB u) us) := by
 refine rds_each2 default (fun _ u => endU u) (fun _ u => uB u) us _ K (fun k s a rec hk hs hak hsk => ?_) (fun s a rec hs => ?_) (by omega)
 ·
  have hmem : us.getD k default ∈ us := by rw [getD_of hk]; exact List.getElem_mem _
  have gu := g _ hmem
  have tk := gu.take; have g2 := gu.w0; have g3 := gu.w1; have g4 := gu.s0; have g5 := gu.s1
  rw [b7_eq]
  simp only [Int.toNat_natCast]
  rw [br_pos (by simp only [decide_eq_true_eq]; omega), chk_pos (by omega), show atU s (k : Int) = us.getD k default from by unfold atU; rw [Int.toNat_natCast]; exact hsk, tkN_eq N gu, bnd_val, chk_pos (by omega), bnd_val, atU_set (by omega),
   chk_pos (by simp only [List.length_cons, List.length_nil]; omega), w64_succ (by omega), w64_id (n := uW (us.getD k default) - takeU (us.getD k default)) (by omega), w64_id (n := uS (us.getD k default) + takeU (us.getD k default)) (by omega)]
  rfl
 · rw [b7_eq, br_neg (by simp only [decide_eq_false_iff_not]; omega)]
theorem slot_eq {N : Nat} (hM : N ≤ 20000) (hN : 100 < N) {b c p : Int} (hb : 0 ≤ b ∧ b ≤ 20) (hc : 0 ≤ c ∧ c ≤ 1000000) (hp : 0 ≤ p ∧ p ≤ 1000000) {T : List Int} (hT : rightT T) {B : Int} (hB : B ≤ 100000000)
  (slots : List (List Int × List Int)) (t : Int) (l0 us : List U) (hl : us.length = l0.length) (h8 : l0.length ≤ 8) (g : ∀ u ∈ us, GoodU T B u) (hf : fitB b c p T (us.map uX) = true) {x : List Int × List Int} (hxx : slots.getD t.toNat default = x) (hx : SlotOK T us.length x) :
  sched_Run.m129 N slots b c p T l0 t us = some (slotF b c p T x us) ∧
   (givenL b c p T x us).length = us.length ∧ (∀ k, k < us.length → moreU ((startL T x us).getD k default) ((givenL b c p T x us).getD k default)) ∧
   (∀ u ∈ givenL b c p T x us, OkU u) ∧ FitsU b c p (givenL b c p T x us) ∧
   (b - (usedU (givenL b c p T x us)).1 = 0 ∨ ∀ j, j < us.length → candU (c - (usedU (givenL b c p T x us)).2.1) (p - (usedU (givenL b c p T x us)).2.2) ((givenL b c p T x us).getD j default) = false) := by
 have hs := startL_ok hT hB g hf hx
 have hsl : (startL T x us).length = us.length := eachL_length _ _ _
 have hub := usedU_bounds hs.1
 have hfb := hs.2.b
 have hg := fun K => give_eq (N := N) (b := b) ⟨hb.1, by omega⟩ hc hp T l0 h8 (by omega) K (b - (usedU (startL T x us)).1).toNat N (startL T x us) (by omega) hs.1 hs.2 (by omega) (by omega)
 rw [hsl] at hg
 refine ⟨?_, (hg fun _ => none).2⟩
 unfold sched_Run.m129
 simp only [jn]
 rw [start_loop hN hT hB slots t l0 us hl h8 g hxx hx]
 have hnx := nextU_spec b c p (startL T x us)
 rw [next_eq ⟨hb.1, by omega⟩ hc hp T l0 (startL T x us) (by omega) (by omega) (by omega) hs.1, bnd_val, chk_pos (by omega), (hg _).1]
 have hgl := (hg fun _ => none).2
 rw [end_loop hN l0 _ (by show (givenL b c p T x us).length = _; unfold givenL; omega) h8 hgl.2.2.1]
 rfl
end Go.Sh

/-
 Runs: their errors, the users at the beginning, and behind each slot.
-/
namespace Go.Sh
open Go.PW

def slotBad (T : List Int) (x : List Int × List Int) (k : Nat) : Bool := !(inB (x.1.getD k 0) 0 ((T.length : Int) - 1)) || !(inB (x.2.getD k 0) 0 1000000)
def slotsE (T : List Int) (n : Nat) : List (List Int × List Int) → Int
 | [] => 0
 | x :: l => if x.1.length ≠ n ∨ x.2.length ≠ n then 10 else if (List.range n).any (slotBad T x) = true then 2 else slotsE T n l
def slotsErr (T : List Int) (n : Nat) (l : List (List Int × List Int)) : Int := if 60 < l.length then 8 else slotsE T n l
theorem slotsE_zero {T : List Int} {n : Nat} : ∀ {l : List (List Int × List Int)}, slotsE T n l = 0 → ∀ x ∈ l, SlotOK T n x
 | [], _, x, hx => by simp at hx
 | y :: l, h, x, hx => by
  rw [slotsE] at h
  by_cases h1 : y.1.length ≠ n ∨ y.2.length ≠ n
  · rw [if_pos h1] at h; exact absurd h (by decide)
  rw [if_neg h1] at h
  by_cases h2 : (List.range n).any (slotBad T y) = true
  · rw [if_pos h2] at h; exact absurd h (by decide)
  rw [if_neg h2] at h
  rcases List.mem_cons.1 hx with rfl | hx
  ·
   rw [Bool.not_eq_true, List.any_eq_false] at h2
   have hb : ∀ k, k < n → inB (x.1.getD k 0) 0 ((T.length : Int) - 1) = true ∧ inB (x.2.getD k 0) 0 1000000 = true := fun k hk => by
    have := h2 k (List.mem_range.2 hk)
    unfold slotBad at this
    simpa using this
   refine ⟨by omega, by omega, fun k hk => ?_, fun k hk => inB_true.1 (hb k hk).2⟩
   have := inB_true.1 (hb k hk).1
   omega
  · exact slotsE_zero h x hx
theorem slotsErr_zero {T : List Int} {n : Nat} {l : List (List Int × List Int)} (h : slotsErr T n l = 0) : l.length ≤ 60 ∧ ∀ x ∈ l, SlotOK T n x := by
 unfold slotsErr at h
 by_cases h1 : 60 < l.length
 · rw [if_pos h1] at h; exact absurd h (by decide)
 · rw [if_neg h1] at h; exact ⟨by omega, slotsE_zero h⟩
theorem range_getD {n k : Nat} (h : k < n) : (List.range n).getD k 0 = k := by simp [List.getD_eq_getElem?_getD, h]
theorem isReport_eq (N : Nat) {b c p : Int} {T : List Int} (hT : T.length < 1000000) (n : Int) : sched_site_isReport N b c p T n = some (inB n 0 ((T.length : Int) - 1)) := by
 unfold sched_site_isReport
 rw [w64_id (by omega), within_eq]; rfl
theorem IsReport_eq (N : Nat) {b c p : Int} {T : List Int} (hT : T.length < 1000000) (n : Int) : ref06_IsReport N b c p T n = some (inB n 0 ((T.length : Int) - 1)) := by
 unfold ref06_IsReport
 rw [w64_id (by omega), Within_eq]; rfl
theorem slotsErr_eq {N : Nat} (hM : N ≤ 20000) (hN : 100 < N) (b c p : Int) {T : List Int} (hT : T.length < 1000000) {n : Nat} (hn : n ≤ 20) (l : List (List Int × List Int)) : sched_site_slotsErr N b c p T (n : Int) l = some (slotsErr T n l) := by
 unfold sched_site_slotsErr slotsErr
 by_cases h1 : 60 < l.length
 · rw [if_pos h1, br_pos (by simp only [decide_eq_true_eq]; omega)]
 rw [if_neg h1, br_neg (by simp only [decide_eq_false_iff_not]; omega)]
 simp only [jn]
 refine (rds_up1 l.length _ (fun k => some (slotsE T n (l.drop k))) (fun k rec hk hrec => ?_) (fun rec => ?_) (by omega)).trans (by simp)
 ·
  simp only [sched_site_slotsErr.b1, jn, Int.toNat_natCast]
  rw [br_pos (by simpa using hk), chk_pos (by omega), List.drop_eq_getElem_cons hk, slotsE, w64_succ (by omega), hrec]
  by_cases h2 : l[k].1.length ≠ n ∨ l[k].2.length ≠ n
  · rw [if_pos h2, br_pos (by simp only [getD_of hk, Bool.or_eq_true, bne_iff_ne]; omega)]
  rw [if_neg h2, br_neg (by simp only [getD_of hk, Bool.or_eq_false_iff, bne_eq_false_iff_eq]; omega)]
  rw [rds_scan (List.range n) 0 (slotBad T l[k]) (some 2) (some (slotsE T n (l.drop (k + 1)))) _ (fun j rec hj => ?_) (fun rec => ?_) (by rw [List.length_range]; omega)]
  · split <;> rfl
  ·
   rw [List.length_range] at hj
   simp only [sched_site_slotsErr.b2, isReport_eq N hT, within_eq, bnd_val, Int.toNat_natCast, getD_of hk, grd_and]
   rw [br_pos (by simp only [decide_eq_true_eq]; omega), chk_pos (by omega), chk_pos (fun _ => by omega), w64_succ (by omega), range_getD hj]
   unfold slotBad
   cases inB (l[k].1.getD j 0) 0 ((T.length : Int) - 1) <;> cases inB (l[k].2.getD j 0) 0 1000000 <;> rfl
  ·
   rw [List.length_range]
   simp only [sched_site_slotsErr.b2, Int.toNat_natCast, getD_of hk]
   rw [br_neg (by simp only [decide_eq_false_iff_not]; omega)]
 ·
  simp only [sched_site_slotsErr.b1]
  rw [br_neg (by simp)]
  simp [slotsE]
theorem SlotsErr_eq {N : Nat} (hM : N ≤ 20000) (hN : 100 < N) (b c p : Int) {T : List Int} (hT : T.length < 1000000) {n : Nat} (hn : n ≤ 20) (l : List (List Int × List Int)) : ref06_SlotsErr N b c p T (n : Int) l = some (slotsErr T n l) := by
 unfold ref06_SlotsErr slotsErr
 by_cases h1 : 60 < l.length
 · rw [if_pos h1, br_pos (by simp only [decide_eq_true_eq]; omega)]
 rw [if_neg h1, br_neg (by simp only [decide_eq_false_iff_not]; omega)]
 simp only [jn]
 refine (rds_up1 l.length _ (fun k => some (slotsE T n (l.drop k))) (fun k rec hk hrec => ?_) (fun rec => ?_) (by omega)).trans (by simp)
 ·
  simp only [ref06_SlotsErr.b1, jn, Int.toNat_natCast]
  rw [br_pos (by simpa using hk), chk_pos (by omega), chk_pos (fun _ => by omega), List.drop_eq_getElem_cons hk, slotsE, w64_succ (by omega), hrec]
  by_cases h2 : l[k].1.length ≠ n ∨ l[k].2.length ≠ n
  · rw [if_pos h2, br_pos (by simp only [getD_of hk, Bool.or_eq_true, bne_iff_ne]; omega)]
  rw [if_neg h2, br_neg (by simp only [getD_of hk, Bool.or_eq_false_iff, bne_eq_false_iff_eq]; omega)]
  rw [rds_scan (List.range n) 0 (slotBad T l[k]) (some 2) (some (slotsE T n (l.drop (k + 1)))) _ (fun j rec hj => ?_) (fun rec => ?_) (by rw [List.length_range]; omega)]
  · split <;> rfl
  ·
   rw [List.length_range] at hj
   simp only [ref06_SlotsErr.b2, IsReport_eq N hT, Within_eq, bnd_val, Int.toNat_natCast, getD_of hk, grd_and]
   rw [br_pos (by simp only [decide_eq_true_eq]; omega), chk_pos (by omega), chk_pos (by omega), chk_pos (fun _ => by omega), chk_pos (fun _ => by omega), w64_succ (by omega), range_getD hj]
   unfold slotBad
   cases inB (l[k].1.getD j 0) 0 ((T.length : Int) - 1) <;> cases inB (l[k].2.getD j 0) 0 1000000 <;> rfl
  ·
   rw [List.length_range]
   simp only [ref06_SlotsErr.b2, Int.toNat_natCast]
   rw [br_neg (by simp only [decide_eq_false_iff_not]; omega)]
 ·
  simp only [ref06_SlotsErr.b1]
  rw [br_neg (by simp)]
  simp [slotsE]
theorem brief_some {N : Nat} (hN : 100 < N) (l : List (List Int × List Int)) : ∃ r, law06_brief N l = some r ∧ (r = true → l.length ≤ 62 ∧ ∀ x ∈ l, x.1.length ≤ 12 ∧ x.2.length ≤ 12) := by
 unfold law06_brief
 by_cases h1 : ((decide ((l.length : Int) > (12 : Int))) && (decide ((l.length : Int) ≤ (60 : Int))) || (decide ((l.length : Int) > (62 : Int)))) = true
 · rw [br_pos h1]; exact ⟨_, rfl, fun h => absurd h (by decide)⟩
 rw [br_neg (by rw [Bool.not_eq_true] at h1; exact h1)]
 simp only [Bool.or_eq_true, Bool.and_eq_true, decide_eq_true_eq] at h1
 simp only [jn]
 rw [rds_scan l default (fun x => decide (12 < x.1.length) || decide (12 < x.2.length)) (some false) (some true) _ (fun k rec hk => ?_) (fun rec => ?_) (by omega)]
 ·
  by_cases ha : (l.any fun x => decide (12 < x.1.length) || decide (12 < x.2.length)) = true
  · rw [if_pos ha]; exact ⟨_, rfl, fun h => absurd h (by decide)⟩
  ·
   rw [if_neg ha]
   refine ⟨_, rfl, fun _ => ⟨by omega, fun x hx => ?_⟩⟩
   rw [Bool.not_eq_true, List.any_eq_false] at ha
   have := ha x hx
   simp only [Bool.or_eq_true, decide_eq_true_eq] at this
   omega
 ·
  simp only [law06_brief.b1, Int.toNat_natCast]
  rw [br_pos (by simpa using hk), chk_pos (by omega), chk_pos (fun _ => by omega), w64_succ (by omega)]
  have e : (decide ((((l.getD k default).1).length : Int) > (12 : Int)) || decide ((((l.getD k default).2).length : Int) > (12 : Int))) = (decide (12 < (l.getD k default).1.length) || decide (12 < (l.getD k default).2.length)) := by
   rw [Bool.eq_iff_iff]
   simp only [Bool.or_eq_true, decide_eq_true_eq]; omega
  rw [e]; rfl
 ·
  simp only [law06_brief.b1]
  rw [br_neg (by simp)]
theorem CopySlots_eq {N : Nat} {l : List (List Int × List Int)} (hl : l.length ≤ 62) (hN : 100 < N) (h : ∀ x ∈ l, x.1.length ≤ 12 ∧ x.2.length ≤ 12) : ref06_CopySlots N l = some l := by
 unfold ref06_CopySlots
 simp only [jn]
 refine (rds_map l.length (fun k => l.getD k default) _ (fun b0 => some b0) (fun k s rec hk hs => ?_) (fun s rec hs => ?_) (by omega)).trans (by rw [map_getD])
 ·
  have h6 := h _ (List.getElem_mem hk)
  simp only [ref06_CopySlots.b1, Int.toNat_natCast]
  rw [br_pos (by simpa using hk), chk_pos (by omega)]
  simp only [getD_of hk]
  rw [CopyInts_eq N (by omega), bnd_val, chk_pos (by omega), CopyInts_eq N (by omega), bnd_val, chk_pos (by simp only [List.length_cons, List.length_nil]; omega), w64_succ (by omega)]
 ·
  simp only [ref06_CopySlots.b1]
  rw [br_neg (by simp)]

def newU (T : List Int) (x : Bearer) : U := mkU x (needB T x).1 0 0 0 0
def usN (b c p : Int) (T : List Int) (l : List Bearer) (slots : List (List Int × List Int)) : Nat → List U
 | 0 => l.map (newU T)
 | t + 1 => (slotF b c p T (slots.getD t default) (usN b c p T l slots t)).2
def blN (b c p : Int) (T : List Int) (l : List Bearer) (slots : List (List Int × List Int)) (t : Nat) : List Int := (slotF b c p T (slots.getD t default) (usN b c p T l slots t)).1
def gvN (b c p : Int) (T : List Int) (l : List Bearer) (slots : List (List Int × List Int)) (t : Nat) : List U := givenL b c p T (slots.getD t default) (usN b c p T l slots t)
structure RunOK (b c p : Int) (T : List Int) (l : List Bearer) (slots : List (List Int × List Int)) : Prop where
 site : siteErr b c p T = 0
 len : l.length ≤ 8
 ok : ∀ x ∈ l, bearErr T x = 0
 fit : fitB b c p T l = true
 n : slots.length ≤ 60
 sl : ∀ x ∈ slots, SlotOK T l.length x
theorem RunOK.slot {b c p : Int} {T : List Int} {l : List Bearer} {slots : List (List Int × List Int)} (h : RunOK b c p T l slots) {t : Nat} (ht : t < slots.length) : SlotOK T l.length (slots.getD t default) := by
 rw [getD_of ht]; exact h.sl _ (List.getElem_mem ht)
structure UsOK (T : List Int) (l : List Bearer) (t : Nat) (us : List U) : Prop where
 len : us.length = l.length
 x : us.map uX = l
 g : ∀ u ∈ us, GoodU T (1000000 * (t : Int)) u
structure StepOK (b c p : Int) (T : List Int) (x : List Int × List Int) (us gv us' : List U) : Prop where
 len : gv.length = us.length
 len' : us'.length = us.length
 more : ∀ k, k < us.length → moreU (startU (rateU T x k) (arrU x k) (us.getD k default)) (gv.getD k default)
 fin : ∀ k, k < us.length → us'.getD k default = endU (gv.getD k default)
 ok : ∀ u ∈ gv, OkU u
 fits : FitsU b c p gv
 idle : b - (usedU gv).1 = 0 ∨ ∀ j, j < us.length → candU (c - (usedU gv).2.1) (p - (usedU gv).2.2) (gv.getD j default) = false
theorem step_ok {N : Nat} (hM : N ≤ 20000) (hN : 100 < N) {b c p : Int} {T : List Int} {l : List Bearer} {slots : List (List Int × List Int)} (h : RunOK b c p T l slots) (l0 : List U) (hl0 : l0.length = l.length) {t : Nat} (ht : t < slots.length) {us : List U} (hu : UsOK T l t us) :
  sched_Run.m129 N slots b c p T l0 (t : Int) us = some (slotF b c p T (slots.getD t default) us) ∧ StepOK b c p T (slots.getD t default) us (givenL b c p T (slots.getD t default) us) (slotF b c p T (slots.getD t default) us).2 ∧ UsOK T l (t + 1) (slotF b c p T (slots.getD t default) us).2 := by
 obtain ⟨h1, h2, h3, h4, h5, h6⟩ := siteErr_zero h.site
 have hn := h.n; have hlen := h.len; have hul := hu.len
 have hx := h.slot ht
 have hx' : SlotOK T us.length (slots.getD t default) := by rw [hul]; exact hx
 have hs := slot_eq hM hN (b := b) (c := c) (p := p) ⟨by omega, by omega⟩ ⟨by omega, by omega⟩ ⟨by omega, by omega⟩ h6 (B := 1000000 * (t : Int)) (by omega) slots (t : Int) l0 us (by omega) (by omega) hu.g (by rw [hu.x]; exact h.fit) (x := slots.getD t default) (by rw [Int.toNat_natCast]) hx'
 obtain ⟨s1, s2, s3, s4, s5, s6⟩ := hs
 have e2 : (slotF b c p T (slots.getD t default) us).2 = eachL default (fun _ u => endU u) (givenL b c p T (slots.getD t default) us) := rfl
 have hmore : ∀ k, k < us.length → moreU (startU (rateU T (slots.getD t default) k) (arrU (slots.getD t default) k) (us.getD k default)) ((givenL b c p T (slots.getD t default) us).getD k default) := fun k hk => by
  have := s3 k hk
  unfold startL at this
  rwa [eachL_getD default default _ us hk] at this
 have hfin : ∀ k, k < us.length → (slotF b c p T (slots.getD t default) us).2.getD k default = endU ((givenL b c p T (slots.getD t default) us).getD k default) := fun k hk => by
  rw [e2, eachL_getD default default _ _ (by omega)]
 have hlen2 : (slotF b c p T (slots.getD t default) us).2.length = us.length := by rw [e2, eachL_length]; exact s2
 refine ⟨s1, ⟨s2, hlen2, hmore, hfin, s4, s5, s6⟩, ?_, ?_, ?_⟩
 · omega
 ·
  rw [← hu.x]
  refine getD_ext default (by rw [List.length_map, List.length_map, hlen2]) fun k hk => ?_
  have hk' : k < us.length := by rw [List.length_map] at hk; omega
  have e : ∀ (vs : List U), k < vs.length → (vs.map uX).getD k default = uX (vs.getD k default) := fun vs hv => by
   simp [List.getD_eq_getElem?_getD, hv]
  rw [e _ (by omega), e _ hk', hfin k hk', (hmore k hk').1]
  rfl
 ·
  intro u hu'
  rw [e2] at hu'
  obtain ⟨k, hk, rfl, hm⟩ := eachL_mem hu'
  rw [s2] at hk
  have gk : GoodU T (1000000 * (t : Int)) (us.getD k default) := hu.g _ (by rw [getD_of hk]; exact List.getElem_mem _)
  have om := s4 _ hm
  have tk := om.take
  have ha := hx'.a k hk
  have hw : uW ((givenL b c p T (slots.getD t default) us).getD k default) = uW (us.getD k default) + arrU (slots.getD t default) k := by rw [(hmore k hk).1]; rfl
  have hs' : uS ((givenL b c p T (slots.getD t default) us).getD k default) = uS (us.getD k default) := by rw [(hmore k hk).1]; rfl
  have hxk : uX ((givenL b c p T (slots.getD t default) us).getD k default) = uX (us.getD k default) := by rw [(hmore k hk).1]; rfl
  have hnk : uN ((givenL b c p T (slots.getD t default) us).getD k default) = uN (us.getD k default) := by rw [(hmore k hk).1]; rfl
  generalize (givenL b c p T (slots.getD t default) us).getD k default = v at *
  have g1 := gk.w; have g2 := gk.s; have g3 := gk.ws; have g4 := gk.ok; have g5 := gk.n
  unfold arrU at hw
  refine ⟨?_, ?_, ?_, ?_, ?_⟩
  · show bearErr T (uX v) = 0; rw [hxk]; exact g4
  · show uN v = (needB T (uX v)).1; rw [hxk, hnk]; exact g5
  · show 0 ≤ uW v - takeU v; omega
  · show 0 ≤ uS v + takeU v; omega
  · show (uW v - takeU v) + (uS v + takeU v) ≤ 1000000 * ((t + 1 : Nat) : Int); omega
theorem usN_ok {b c p : Int} {T : List Int} {l : List Bearer} {slots : List (List Int × List Int)} (h : RunOK b c p T l slots) : ∀ t, t ≤ slots.length → UsOK T l t (usN b c p T l slots t)
 | 0, _ => by
  refine ⟨by simp [usN], ?_, fun u hu => ?_⟩
  ·
   rw [usN, List.map_map]
   have : (uX ∘ newU T) = id := rfl
   rw [this, List.map_id]
  ·
   rw [usN] at hu
   obtain ⟨x, hx, rfl⟩ := List.mem_map.1 hu
   exact ⟨h.ok x hx, rfl, by show (0 : Int) ≤ 0; decide, by show (0 : Int) ≤ 0; decide, by show (0 : Int) + 0 ≤ 1000000 * ((0 : Nat) : Int); decide⟩
 | t + 1, ht => (step_ok (N := 20000) (Nat.le_refl _) (by decide) h (usN b c p T l slots t) (usN_ok h t (by omega)).len (show t < slots.length by omega) (usN_ok h t (by omega))).2.2
theorem stepN_ok {b c p : Int} {T : List Int} {l : List Bearer} {slots : List (List Int × List Int)} (h : RunOK b c p T l slots) {t : Nat} (ht : t < slots.length) :
  StepOK b c p T (slots.getD t default) (usN b c p T l slots t) (gvN b c p T l slots t) (usN b c p T l slots (t + 1)) :=
 (step_ok (N := 20000) (Nat.le_refl _) (by decide) h (usN b c p T l slots t) (usN_ok h t (by omega)).len ht (usN_ok h t (by omega))).2.1
theorem newRun_eq {N : Nat} (hN : 100 < N) {b c p : Int} {T : List Int} {l : List Bearer} {slots : List (List Int × List Int)} (h : siteErr b c p T = 0) (hl : l.length ≤ 8) (hok : ∀ x ∈ l, bearErr T x = 0) : sched_Run.m1 N l b c p T = some (usN b c p T l slots 0) := by
 obtain ⟨h1, h2, h3, h4, h5, h6⟩ := siteErr_zero h
 unfold sched_Run.m1
 simp only [jn]
 refine (rds_map l.length (fun k => newU T (l.getD k default)) _ (fun b0 => some b0) (fun k s rec hk hs => ?_) (fun s rec hs => ?_) (by omega)).trans ?_
 ·
  have hx := hok _ (List.getElem_mem hk)
  have hnb := needB_bounds h6 hx
  simp only [sched_Run.b1, Int.toNat_natCast]
  rw [br_pos (by simpa using hk), chk_pos (by omega)]
  simp only [getD_of hk]
  rw [need_eq N h6 l[k] hx]
  rcases hn : needB T l[k] with ⟨n1, n2, n3⟩
  simp only [bnd_val]
  rw [chk_pos (by omega), w64_succ (by omega)]
  unfold newU mkU
  rw [hn]
 ·
  simp only [sched_Run.b1]
  rw [br_neg (by simp)]
 ·
  congr 1
  show _ = l.map (newU T)
  refine List.ext_getElem (by simp) fun i h1 h2 => ?_
  simp only [List.getElem_map, List.getElem_range]
  rw [getD_of (by simpa using h2)]
theorem Run_eq {N : Nat} (hM : N ≤ 20000) (hN : 100 < N) {b c p : Int} {T : List Int} {l : List Bearer} {slots : List (List Int × List Int)} (h : RunOK b c p T l slots) (hb : (bothErr b c p T l).2 = 0) (hs0 : slotsErr T l.length slots = 0) (hn : ∀ x ∈ l, x.1.size < N) :
  sched_Run N b c p T l slots = some ((List.range slots.length).map (blN b c p T l slots), eachL default (fun _ u => uS u) (usN b c p T l slots slots.length), eachL default (fun _ u => uW u) (usN b c p T l slots slots.length), 0) := by
 obtain ⟨h1, h2, h3, h4, h5, h6⟩ := siteErr_zero h.site
 have h60 := h.n; have hlen := h.len
 unfold sched_Run
 rw [openAll_eq hM (by omega) b c p T l hn, bnd_val]
 simp only [hb]
 rw [br_neg (by rfl), newRun_eq hN (slots := slots) h.site h.len h.ok, bnd_val, slotsErr_eq hM hN b c p (by omega) (by omega) slots, bnd_val, hs0, br_neg (by rfl)]
 simp only [jn]
 have hl0 : (usN b c p T l slots 0).length = l.length := (usN_ok h 0 (by omega)).len
 generalize hl0' : usN b c p T l slots 0 = l0 at hl0
 rw [← hl0']
 refine rds_spec (fun s : Int × List U × List (List Int) => ∃ t : Nat, t ≤ slots.length ∧ s = ((t : Int), usN b c p T l slots t, (List.range t).map (blN b c p T l slots))) (fun s => slots.length - s.1.toNat)
  (fun _ => some ((List.range slots.length).map (blN b c p T l slots), eachL default (fun _ u => uS u) (usN b c p T l slots slots.length), eachL default (fun _ u => uW u) (usN b c p T l slots slots.length), 0)) (fun rec s hI hrec => ?_) N _ ⟨0, Nat.zero_le _, by simp⟩ (by simp; omega)
 obtain ⟨t, ht, rfl⟩ := hI
 by_cases htl : t < slots.length
 ·
  simp only [sched_Run.b2]
  rw [br_pos (by simpa using htl), chk_pos (by omega), (step_ok hM hN h (usN b c p T l slots 0) (by rw [hl0']; exact hl0) htl (usN_ok h t ht)).1]
  simp only [bnd_val]
  rw [chk_pos (by simp only [List.length_map, List.length_range, List.length_cons, List.length_nil]; omega), w64_succ (by omega)]
  refine hrec _ ⟨t + 1, htl, ?_⟩ (by simp only [Int.toNat_natCast]; omega)
  rw [List.range_succ, List.map_append]; rfl
 ·
  have : t = slots.length := by omega
  subst this
  have hul := (usN_ok h _ (Nat.le_refl _)).len
  simp only [sched_Run.b2]
  rw [br_neg (by simp)]
  generalize usN b c p T l slots slots.length = us at hul
  have := rds_spec (b := sched_Run.b8 N (usN b c p T l slots 0) us (fun x => match x with | (b10, b112) => some ((List.range slots.length).map (blN b c p T l slots), b10, b112, (0 : Int)))) (fun s : Int × List Int × List Int => ∃ k : Nat, k ≤ us.length ∧ s = ((k : Int), (List.range k).map (fun k => uS (us.getD k default)), (List.range k).map (fun k => uW (us.getD k default)))) (fun s => us.length - s.1.toNat)
   (fun _ => some ((List.range slots.length).map (blN b c p T l slots), eachL default (fun _ u => uS u) us, eachL default (fun _ u => uW u) us, 0)) (fun rec s hI hrec => ?_) N (0, [], []) ⟨0, Nat.zero_le _, rfl⟩ (by simp; omega)
  · exact this
  ·
   obtain ⟨k, hk, rfl⟩ := hI
   simp only [sched_Run.b8, Int.toNat_natCast]
   by_cases hkl : k < us.length
   ·
    rw [br_pos (by simp only [decide_eq_true_eq]; rw [hl0']; omega), chk_pos (by rw [hl0']; omega), chk_pos (by simp only [List.length_map, List.length_range, List.length_cons, List.length_nil]; omega), chk_pos (by simp only [List.length_map, List.length_range, List.length_cons, List.length_nil]; omega), w64_succ (by omega)]
    refine hrec _ ⟨k + 1, hkl, ?_⟩ (by simp only [Int.toNat_natCast]; omega)
    rw [List.range_succ, List.map_append, List.map_append]; rfl
   ·
    have : k = us.length := by omega
    subst this
    rw [br_neg (by simp only [decide_eq_false_iff_not]; rw [hl0']; omega)]
    rfl
end Go.Sh

/-
 The bound of weights; no choice beyond a bound.
-/
namespace Go.Sh
open Go.PW

theorem itN_sumN (f : Nat → Int) : ∀ k, itN (fun t s => s + f t) k 0 = sumN f k
 | 0 => rfl
 | k + 1 => by rw [itN, itN_sumN f k, sumN]
end Go.Sh

/-
 Nothing is lost, no block is idle.
-/
namespace Go.Sh
open Go.PW

def runErrV (b c p : Int) (T : List Int) (l : List Bearer) (slots : List (List Int × List Int)) : Int := if (bothErr b c p T l).2 ≠ 0 then (bothErr b c p T l).2 else slotsErr T l.length slots
theorem runErr_eq {N : Nat} (hM : N ≤ 20000) (hN : 100 < N) (b c p : Int) {T : List Int} (hT : T.length ≤ 18) {l : List Bearer} (hl : l.length ≤ 10) (slots : List (List Int × List Int)) : law06_runErr N b c p T l slots = some (runErrV b c p T l slots) := by
 unfold law06_runErr runErrV
 rw [BothErr_eq hM (by omega), bnd_val]
 by_cases h : (bothErr b c p T l).2 ≠ 0
 · rw [if_pos h, br_pos (by rw [bne_iff_ne]; exact h)]
 · rw [if_neg h, br_neg (by rw [bne_eq_false_iff_eq]; exact Classical.not_not.1 h), SlotsErr_eq hM hN b c p (by omega) (by omega), bnd_val]
theorem runOK_of {b c p : Int} {T : List Int} {l : List Bearer} {slots : List (List Int × List Int)} (h : runErrV b c p T l slots = 0) : RunOK b c p T l slots ∧ (bothErr b c p T l).2 = 0 ∧ slotsErr T l.length slots = 0 := by
 unfold runErrV at h
 by_cases h1 : (bothErr b c p T l).2 ≠ 0
 · rw [if_pos h1] at h; exact absurd h h1
 rw [if_neg h1] at h
 have h1 := Classical.not_not.1 h1
 have h2 := bothErr_zero h1
 have h3 := slotsErr_zero h
 exact ⟨⟨h2.1, h2.2.1, h2.2.2.1, h2.2.2.2, h3.1, h3.2⟩, h1, h⟩
section
variable {b c p : Int} {T : List Int} {l : List Bearer} {slots : List (List Int × List Int)}
def arrivedN (slots : List (List Int × List Int)) (k t : Nat) : Int := sumN (fun t => arrU (slots.getD t default) k) t
theorem arr_ok (h : RunOK b c p T l slots) {t k : Nat} (ht : t < slots.length) (hk : k < l.length) : 0 ≤ arrU (slots.getD t default) k ∧ arrU (slots.getD t default) k ≤ 1000000 := (h.slot ht).a k hk
theorem arrived_ok (h : RunOK b c p T l slots) {k : Nat} (hk : k < l.length) : ∀ t, t ≤ slots.length → 0 ≤ arrivedN slots k t ∧ arrivedN slots k t ≤ 1000000 * (t : Int)
 | 0, _ => by simp [arrivedN, sumN]
 | t + 1, ht => by
  have ih := arrived_ok h hk t (by omega)
  have := arr_ok h (show t < slots.length by omega) hk
  show 0 ≤ arrivedN slots k t + arrU (slots.getD t default) k ∧ arrivedN slots k t + arrU (slots.getD t default) k ≤ _
  omega
theorem user_step (h : RunOK b c p T l slots) {t k : Nat} (ht : t < slots.length) (hk : k < l.length) :
  let u := (usN b c p T l slots t).getD k default; let v := (gvN b c p T l slots t).getD k default
  v = mkU (uX u) (uN u) (uW u + arrU (slots.getD t default) k) (uS u) (rateU T (slots.getD t default) k) (uB v) ∧ uB (startU (rateU T (slots.getD t default) k) (arrU (slots.getD t default) k) u) ≤ uB v ∧ OkU v ∧ (usN b c p T l slots (t + 1)).getD k default = endU v := by
 have hu := usN_ok h t (by omega)
 have st := stepN_ok h ht
 have hk' : k < (usN b c p T l slots t).length := by rw [hu.len]; exact hk
 have m := st.more k hk'
 refine ⟨m.1, m.2, st.ok _ ?_, st.fin k hk'⟩
 have hg : k < (gvN b c p T l slots t).length := by rw [st.len]; exact hk'
 rw [getD_of hg]; exact List.getElem_mem _
theorem waits_sum (h : RunOK b c p T l slots) {k : Nat} (hk : k < l.length) : ∀ t, t ≤ slots.length → uW ((usN b c p T l slots t).getD k default) + uS ((usN b c p T l slots t).getD k default) = arrivedN slots k t
 | 0, _ => by
  have : (usN b c p T l slots 0).getD k default = newU T l[k] := by
   rw [usN, getD_of (by simpa using hk)]; simp
  rw [this]; rfl
 | t + 1, ht => by
  have ih := waits_sum h hk t (by omega)
  obtain ⟨h1, h2, h3, h4⟩ := user_step h (show t < slots.length by omega) hk
  rw [h4]
  show (uW _ - takeU _) + (uS _ + takeU _) = arrivedN slots k t + arrU (slots.getD t default) k
  have e1 : uW ((gvN b c p T l slots t).getD k default) = uW ((usN b c p T l slots t).getD k default) + arrU (slots.getD t default) k := by rw [h1]; rfl
  have e2 : uS ((gvN b c p T l slots t).getD k default) = uS ((usN b c p T l slots t).getD k default) := by rw [h1]; rfl
  omega
theorem user_good (h : RunOK b c p T l slots) {t k : Nat} (ht : t ≤ slots.length) (hk : k < l.length) : GoodU T (1000000 * (t : Int)) ((usN b c p T l slots t).getD k default) := by
 have hu := usN_ok h t ht
 have hk' : k < (usN b c p T l slots t).length := by rw [hu.len]; exact hk
 refine hu.g _ ?_
 rw [getD_of hk']; exact List.getElem_mem _
theorem user_x (h : RunOK b c p T l slots) {t k : Nat} (ht : t ≤ slots.length) (hk : k < l.length) : uX ((usN b c p T l slots t).getD k default) = l.getD k default := by
 have hu := usN_ok h t ht
 have hk' : k < (usN b c p T l slots t).length := by rw [hu.len]; exact hk
 have : ((usN b c p T l slots t).map uX).getD k default = uX ((usN b c p T l slots t).getD k default) := by simp [List.getD_eq_getElem?_getD, hk']
 rw [← this, hu.x]
theorem bl_len (h : RunOK b c p T l slots) {t : Nat} (ht : t < slots.length) : (blN b c p T l slots t).length = l.length := by
 have hu := usN_ok h t (by omega)
 have st := stepN_ok h ht
 show (eachL default (fun _ u => uB u) (gvN b c p T l slots t)).length = _
 rw [eachL_length, st.len, hu.len]
theorem bl_get (h : RunOK b c p T l slots) {t k : Nat} (ht : t < slots.length) (hk : k < l.length) : (blN b c p T l slots t).getD k 0 = uB ((gvN b c p T l slots t).getD k default) := by
 have hu := usN_ok h t (by omega)
 have st := stepN_ok h ht
 show (eachL default (fun _ u => uB u) (gvN b c p T l slots t)).getD k 0 = _
 rw [eachL_getD default 0 _ _ (by rw [st.len, hu.len]; exact hk)]
theorem x8_get {n t : Nat} (ht : t < n) (f : Nat → List Int) : ((List.range n).map f).getD t default = f t := by
 simp [List.getD_eq_getElem?_getD, ht]
end

theorem law_SchedIdle {N : Nat} (hM : N ≤ 20000) (hN : 100 < N) (hA : law06_awake N = some true) (b c p : Int) (T : List Int) (l : List Bearer) (slots : List (List Int × List Int)) : law06_SchedIdle N b c p T l slots = some true := by
 unfold law06_SchedIdle
 rw [hA]
 simp only [bnd_val, Bool.not_true, br_false]
 obtain ⟨r, hr⟩ := Few_some hM (by omega) b c p T l
 have hF := Few_true hM (by omega) hr
 obtain ⟨r', hr', hB⟩ := brief_some hN slots
 rw [hr, hr']
 simp only [bnd_val]
 cases r
 · rfl
 obtain ⟨f1, f2, f3⟩ := hF rfl
 by_cases h12 : (slots.length : Int) > 12
 · rw [show decide ((slots.length : Int) > 12) = true from by simpa using h12]; rfl
 rw [show decide ((slots.length : Int) > 12) = false from by simpa using h12]
 simp only [Bool.not_true, Bool.or_false, Bool.not_false, grd_true, bnd_val, Bool.false_or]
 cases r'
 · rfl
 obtain ⟨g1, g2⟩ := hB rfl
 simp only [Bool.not_true, Bool.not_false, grd_true, Bool.false_or]
 rw [runErr_eq hM hN b c p (by omega) (by omega), bnd_val]
 by_cases he : ¬ runErrV b c p T l slots = 0
 · rw [br_pos (by rw [bne_iff_ne]; exact he)]
 have he := Classical.not_not.1 he
 rw [br_neg (by rw [he]; rfl)]
 obtain ⟨hR, hb0, hs0⟩ := runOK_of he
 rw [Copy_eq N b c p (by omega), bnd_val]
 simp only
 rw [CopyBearers_eq N (by omega), bnd_val, CopySlots_eq g1 hN g2, bnd_val, Run_eq hM hN hR hb0 hs0 (fun x hx => by have := f3 x hx; omega), bnd_val]
 simp only [jn]
 have hnl := (usN_ok hR slots.length (Nat.le_refl _)).len
 have hl8 := hR.len
 obtain ⟨s1, s2, s3, s4, s5, s6⟩ := siteErr_zero hR.site
 rw [br_neg (by simp [eachL_length, hnl])]
 have hlast : ∀ k, k < l.length → (eachL default (fun _ u => uS u) (usN b c p T l slots slots.length)).getD k 0 = uS ((usN b c p T l slots slots.length).getD k default) ∧ (eachL default (fun _ u => uW u) (usN b c p T l slots slots.length)).getD k 0 = uW ((usN b c p T l slots slots.length).getD k default) := fun k hk =>
  ⟨eachL_getD default 0 _ _ (by omega), eachL_getD default 0 _ _ (by omega)⟩
 have hL1 : (eachL default (fun _ u => uS u) (usN b c p T l slots slots.length)).length = l.length := by rw [eachL_length, hnl]
 have hL2 : (eachL default (fun _ u => uW u) (usN b c p T l slots slots.length)).length = l.length := by rw [eachL_length, hnl]
 generalize eachL default (fun _ u => uS u) (usN b c p T l slots slots.length) = sent at *
 generalize eachL default (fun _ u => uW u) (usN b c p T l slots slots.length) = left at *
 -- what was sent and what is left
 refine (rds_up1 l.length (law06_SchedIdle.b1 N l slots sent left _) (fun _ => some true) (fun k rec hk hrec => ?_) (fun rec => ?_) (by omega))
 ·
  simp only [law06_SchedIdle.b1, jn, Int.toNat_natCast]
  rw [br_pos (by simpa using hk)]
  have hsl : ∀ t, t < slots.length → k < ((slots.getD t default).2).length := fun t ht => by rw [(hR.slot ht).l2]; exact hk
  refine (rds_itR slots.length (fun t s => s + arrU (slots.getD t default) k) (fun t s => 0 ≤ s ∧ s ≤ 1000000 * (t : Int)) _ (fun all => chk (0 ≤ (k : Int) ∧ (k : Int) < (sent.length : Int)) <|
   bnd (base_Within N (sent.getD k 0) (0 : Int) all) fun x9 => chk (x9 = true → 0 ≤ (k : Int) ∧ (k : Int) < (left.length : Int)) <| chk (x9 = true → 0 ≤ (k : Int) ∧ (k : Int) < (sent.length : Int)) <|
   br (((!x9) || ((left.getD k 0) != w64 (all - (sent.getD k 0))))) (some false) (rec (w64 ((k : Int) + 1)))) (s := 0) (by simp) (fun t s ht hI => ?_) (fun t s rec1 ht hI => ?_) (fun s rec1 hI => ?_) (show slots.length < N by omega)).1.trans ?_
  · have := arr_ok hR ht hk; omega
  ·
   have := arr_ok hR ht hk
   simp only [law06_SchedIdle.b2, Int.toNat_natCast]
   rw [br_pos (by simpa using ht), chk_pos (by omega), chk_pos (by have := hsl t ht; omega), w64_succ (by omega)]
   show rec1 (w64 (s + arrU (slots.getD t default) k), _) = _
   rw [w64_id (by omega)]
  ·
   simp only [law06_SchedIdle.b2]
   rw [br_neg (by simp)]
  ·
   rw [itN_sumN]
   change (chk _ <| bnd (base_Within N (sent.getD k 0) (0 : Int) (arrivedN slots k slots.length)) fun x9 => chk _ <| chk _ <| br (((!x9) || ((left.getD k 0) != w64 (arrivedN slots k slots.length - (sent.getD k 0))))) (some false) (rec (w64 ((k : Int) + 1)))) = _
   have hw := waits_sum hR hk slots.length (Nat.le_refl _)
   have hg := user_good hR (Nat.le_refl slots.length) hk
   have ha := arrived_ok hR hk slots.length (Nat.le_refl _)
   have g1 := hg.w; have g2 := hg.s
   rw [(hlast k hk).1, (hlast k hk).2, chk_pos (by omega), Within_eq, bnd_val, chk_pos (fun _ => by omega), chk_pos (fun _ => by omega), inB_true.2 ⟨g2, by omega⟩, w64_id (by omega), br_neg (by
    simp only [Bool.not_true, Bool.false_or, bne_eq_false_iff_eq]; omega), w64_succ (by omega), hrec]
 ·
  simp only [law06_SchedIdle.b1]
  rw [br_neg (by simp)]
  -- each slot
  refine (rds_up1 slots.length (law06_SchedIdle.b3 N b c p T l slots ((List.range slots.length).map (blN b c p T l slots)) left _) (fun _ => some true) (fun t rec ht hrec => ?_) (fun rec => ?_) (by omega))
  ·
   have st := stepN_ok hR ht
   have hu := usN_ok hR t (by omega)
   have hgl : (gvN b c p T l slots t).length = l.length := by rw [st.len, hu.len]
   simp only [law06_SchedIdle.b3, jn, Int.toNat_natCast]
   rw [br_pos (by simpa using ht), chk_pos (by simp only [List.length_map, List.length_range]; omega), x8_get ht, br_neg (by rw [bl_len hR ht]; simp)]
   have hub := usedU_bounds st.ok
   rw [hgl] at hub
   have hfit := st.fits
   have fb := hfit.b; have fc := hfit.c; have fp := hfit.p
   rw [rds_spec (b := law06_SchedIdle.b4 N b l ((List.range slots.length).map (blN b c p T l slots)) t _) (fun s : Int × Int × Int × Int => ∃ k : Nat, k ≤ l.length ∧ s = ((usedU ((gvN b c p T l slots t).take k)).1, (usedU ((gvN b c p T l slots t).take k)).2.1, (usedU ((gvN b c p T l slots t).take k)).2.2, (k : Int)))
    (fun s => l.length - s.2.2.2.toNat) (fun _ => some true) (fun rec1 s hI hrec1 => ?_) N _ ⟨0, Nat.zero_le _, by simp [usedU]⟩ (by simp; omega)]
   obtain ⟨k, hk, rfl⟩ := hI
   by_cases hkl : k < l.length
   ·
    have hkg : k < (gvN b c p T l slots t).length := by omega
    have hsn := usedU_snoc (gvN b c p T l slots t)[k] ((gvN b c p T l slots t).take k)
    rw [← take_snoc _ hkg] at hsn
    have hmem : (gvN b c p T l slots t)[k] ∈ gvN b c p T l slots t := List.getElem_mem hkg
    have hok := st.ok _ hmem
    have hub1 := uB_le_used st.ok _ hmem
    have hpr := hok.prod; have hb0 := hok.b0
    have hub2 := usedU_bounds (l := (gvN b c p T l slots t).take k) fun x hx => st.ok x (List.mem_of_mem_take hx)
    have hlen : ((gvN b c p T l slots t).take k).length = k := by simp; omega
    rw [hlen] at hub2
    have hbl : (blN b c p T l slots t).getD k 0 = uB (gvN b c p T l slots t)[k] := by rw [bl_get hR ht hkl, getD_of hkg]
    have hpw : (l.getD k default).2.2.2.2.1 = uP (gvN b c p T l slots t)[k] := by
     obtain ⟨e1, _⟩ := user_step hR ht hkl
     rw [getD_of hkg] at e1
     rw [← user_x hR (show t ≤ slots.length by omega) hkl, e1]; rfl
    have hx8 : ((List.range slots.length).map (blN b c p T l slots)).length = slots.length := by simp
    simp only [law06_SchedIdle.b4, Int.toNat_natCast, x8_get ht, hbl, hpw, Within_eq, bnd_val, bl_len hR ht, hx8]
    rw [br_pos (by simpa using hkl), chk_pos (by omega), chk_pos (by omega), inB_true.2 ⟨hb0, by omega⟩]
    simp only [Bool.not_true, br_false]
    rw [chk_pos (by omega), chk_pos (by omega), chk_pos (by omega), chk_pos (by omega), chk_pos (by omega), chk_pos (by omega), chk_pos (by omega), w64_succ (by omega),
     w64_id (n := _ + uB (gvN b c p T l slots t)[k]) (by omega), w64_id (n := uB (gvN b c p T l slots t)[k] * uP (gvN b c p T l slots t)[k]) (by omega), w64_id (n := _ + uB (gvN b c p T l slots t)[k] * uP (gvN b c p T l slots t)[k]) (by omega), w64_id (n := _ + 1) (by omega)]
    by_cases h0 : 0 < uB (gvN b c p T l slots t)[k]
    ·
     rw [br_pos (by simpa using h0)]
     rw [if_pos h0] at hsn
     refine hrec1 _ ⟨k + 1, hkl, by rw [hsn]⟩ (by simp only [Int.toNat_natCast]; omega)
    ·
     rw [br_neg (by simpa using h0)]
     rw [if_neg h0, Int.add_zero] at hsn
     refine hrec1 _ ⟨k + 1, hkl, by rw [hsn]⟩ (by simp only [Int.toNat_natCast]; omega)
   ·
    have hkk : k = (gvN b c p T l slots t).length := by omega
    subst hkk
    simp only [law06_SchedIdle.b4, List.take_length]
    rw [br_neg (by simp only [decide_eq_false_iff_not]; omega), br_neg (by simp only [Bool.or_eq_false_iff, decide_eq_false_iff_not]; omega)]
    by_cases hl : ((decide ((t : Int) < w64 ((slots.length : Int) - (1 : Int)))) || ((usedU (gvN b c p T l slots t)).1 == b)) = true
    · rw [br_pos hl, w64_succ (by omega), hrec]
    rw [br_neg (by rw [Bool.not_eq_true] at hl; exact hl)]
    rw [w64_id (by omega)] at hl
    simp only [Bool.or_eq_true, decide_eq_true_eq, beq_iff_eq] at hl
    have htn : t + 1 = slots.length := by omega
    have hidle : ∀ j, j < l.length → candU (c - (usedU (gvN b c p T l slots t)).2.1) (p - (usedU (gvN b c p T l slots t)).2.2) ((gvN b c p T l slots t).getD j default) = false := by
     rcases st.idle with h | h
     · omega
     · rw [hu.len] at h; exact h
    refine (rds_up1 l.length (law06_SchedIdle.b5 N c p T l slots ((List.range slots.length).map (blN b c p T l slots)) left t _ _ _) (fun _ => some true) (fun k rec2 hk hrec2 => ?_) (fun rec2 => ?_) (by omega))
    ·
     have hx8 : ((List.range slots.length).map (blN b c p T l slots)).length = slots.length := by simp
     obtain ⟨e1, _, e3, e4⟩ := user_step hR ht hk
     rw [htn] at e4
     have hleft : left.getD k 0 = uW ((gvN b c p T l slots t).getD k default) - takeU ((gvN b c p T l slots t).getD k default) := by rw [(hlast k hk).2, e4]; rfl
     have hpw : (l.getD k default).2.2.2.2.1 = uP ((gvN b c p T l slots t).getD k default) := by
      rw [← user_x hR (show t ≤ slots.length by omega) hk, e1]; rfl
     have hrt : T.getD ((slots.getD t default).1.getD k 0).toNat 0 = uR ((gvN b c p T l slots t).getD k default) := by rw [e1]; rfl
     have hsl := hR.slot ht
     have hrep := hsl.r k hk; have hl1 := hsl.l1
     have hcand := hidle k hk
     simp only [law06_SchedIdle.b5, Int.toNat_natCast, x8_get ht, bl_get hR ht hk, hpw, hleft, hrt, bl_len hR ht, hx8]
     generalize (gvN b c p T l slots t).getD k default = v at *
     have hp1 := e3.p0; have hp2 := e3.p1
     rw [br_pos (by simpa using hk), chk_pos (by omega), chk_pos (by omega), chk_pos (by omega), chk_pos (fun _ => by omega), chk_pos (fun _ => by omega), chk_pos (fun _ => hrep), chk_pos (fun _ => by omega), w64_id (by omega)]
     have hf : (((decide (uW v - takeU v > 0)) && (decide (uR v > 0))) && ((decide (uB v > 0)) || (decide ((usedU (gvN b c p T l slots t)).2.1 < c))) && (decide ((usedU (gvN b c p T l slots t)).2.2 + uP v ≤ p))) = false := by
      rw [← Bool.not_eq_true]
      intro h
      refine absurd hcand ?_
      rw [Bool.not_eq_false]
      unfold candU
      simp only [Bool.and_eq_true, Bool.or_eq_true, decide_eq_true_eq] at h ⊢
      omega
     rw [br_neg hf, w64_succ (by omega), hrec2]
    ·
     simp only [law06_SchedIdle.b5]
     rw [br_neg (by simp), w64_succ (by omega), hrec]
  ·
   simp only [law06_SchedIdle.b3]
   rw [br_neg (by simp)]
end Go.Sh

/-
 The first test of each law of the scheduling chapter: fixed calls come to what they should.
-/
namespace Go.Sh
open Go.PW
set_option maxRecDepth 100000
theorem awake_true : law06_awake 5000 = some true := by
 repeat delta law06_awake ref06_SameShares ref06_SameTrace base_Lists base_Lists.b1 base_Ints base_Ints.b1 ref06_SameAdmission ref06_SameAdmission.b1 base_Texts base_Texts.b1 sched_BestTurns sched_BestTurns.b1 sched_BestTurns.b3 sched_BestTurns.b2 sched_least sched_least.b1 slices_Min_ii slices_Min_ii.b1 sched_choices sched_caseErr sched_caseErr.b1 sched_caseErr_1 slices_ContainsFunc_ii slices_IndexFunc_ii slices_IndexFunc_ii.b1 sched_SharesOf sched_fair sched_fair.b5 sched_fair.b4 sched_fair.b2 sched_fair.b3 sched_fair.b1 sched_divisor sched_divisor.b1 sched_divisor.b2 sched_demandErr sched_demandErr.b1 sched_Run sched_Run.b8 sched_Run.b2 sched_Run.m129 sched_Run.b7 sched_Run.b5 sched_Run.m134 sched_Run.b4 sched_Run.b3 sched_Run.m1 sched_Run.b1 sched_user_taken sched_run_left sched_run_left.b1 sched_site_slotsErr sched_site_slotsErr.b1 sched_site_slotsErr.b2 law06_Best sched_Admit sched_Admit.b1 sched_last sched_last.b1 sched_openAll sched_CheckBearers sched_site_bearersErr sched_site_bearersErr.b1 sched_site_fit sched_site_room sched_site_room.b1 sched_named slices_ContainsFunc_api_SchedBearer_api_SchedBearer slices_IndexFunc_api_SchedBearer_api_SchedBearer slices_IndexFunc_api_SchedBearer_api_SchedBearer.b1 sched_named_1 law06_Alarm sched_NeedOf sched_site_need sched_ceil sched_guaranteed sched_openBearer sched_site_bearerErr sched_site_isReport sched_isName sched_isName.b1 sched_open sched_CheckSite sched_CheckSite.b1 sched_first sched_first.b1 sched_unless sched_within law06_Voice law06_Site slices_Clone_bb slices_Clone_ii
 simp only [w64_eq, ByteArray.toList_eq]
 decide +kernel
end Go.Sh
