/-
 Plain words: loops that count up. For every program.
-/
import Derived.Test.YtabojpkmfkjjkaaPlA
import Derived.Test.YtabojpkmfkjjkaaSsS
import Derived.Laws.Strings
set_option linter.all false
namespace Go.PW
theorem k5 {k : Nat} (h : k < 4611686018427387904) : w64 ((k : Int) + 1) = ((k + 1 : Nat) : Int) := by rw [n9 (by omega)]; rfl

theorem rds_up1 {R : Type} (len : Nat) (b : (Int → Option R) → Int → Option R) (F : Nat → Option R)
  (hstep : ∀ k rec, k < len → rec ((k + 1 : Nat) : Int) = F (k + 1) → b rec (k : Int) = F k) (hend : ∀ rec, b rec (len : Int) = F len)
  {N : Nat} (hN : len < N) : rds b N 0 = F 0 := by
 have h := u1 (b := b) (fun x => ∃ k : Nat, k ≤ len ∧ x = k) (fun x => len - x.toNat) (fun x => F x.toNat) (fun rec x hI hrec => ?_) N 0 ⟨0, Nat.zero_le _, rfl⟩ (by simp; omega)
 · simpa using h
 ·
  obtain ⟨k, hk, hx⟩ := hI
  subst hx
  by_cases hkl : k < len
  ·
   rw [hstep k rec hkl ?_]
   · simp
   ·
    have := hrec ((k + 1 : Nat) : Int) ⟨k + 1, hkl, rfl⟩ (by simp only [Int.toNat_natCast]; omega)
    simpa using this
  ·
   have : k = len := by omega
   subst this
   rw [hend rec]; simp
end Go.PW

/-
 Plain words: loops that build a list, that fold, that look for a wrong element. For every program.
-/
namespace Go.PW

theorem rds_map {α R : Type} (len : Nat) (f : Nat → α) (b : (Int × List α → Option R) → Int × List α → Option R) (K : List α → Option R)
  (hstep : ∀ k acc rec, k < len → acc.length = k → b rec ((k : Int), acc) = rec (((k + 1 : Nat) : Int), acc ++ [f k])) (hend : ∀ acc rec, acc.length = len → b rec ((len : Int), acc) = K acc)
  {N : Nat} (hN : len < N) : rds b N (0, []) = K ((List.range len).map f) := by
 refine u1 (fun s : Int × List α => ∃ k : Nat, k ≤ len ∧ s = ((k : Int), (List.range k).map f)) (fun s => len - s.1.toNat) (fun _ => K ((List.range len).map f)) (fun rec s hI hrec => ?_) N (0, []) ⟨0, Nat.zero_le _, by simp⟩ (by simp; omega)
 obtain ⟨k, hk, rfl⟩ := hI
 by_cases hkl : k < len
 ·
  rw [hstep k _ rec hkl (by simp)]
  refine hrec _ ⟨k + 1, hkl, ?_⟩ (by simp only [Int.toNat_natCast]; omega)
  rw [List.range_succ, List.map_append]; rfl
 ·
  have : k = len := by omega
  subst this
  exact hend _ rec (by simp)
def itN {σ : Type} (g : Nat → σ → σ) : Nat → σ → σ
 | 0, s => s
 | n + 1, s => g n (itN g n s)
theorem rds_itR {σ R : Type} (len : Nat) (g : Nat → σ → σ) (I : Nat → σ → Prop) (b : (σ × Int → Option R) → σ × Int → Option R) (K : σ → Option R) {s : σ} (h0 : I 0 s)
  (hI : ∀ k s, k < len → I k s → I (k + 1) (g k s)) (hstep : ∀ k s rec, k < len → I k s → b rec (s, (k : Int)) = rec (g k s, ((k + 1 : Nat) : Int))) (hend : ∀ s rec, I len s → b rec (s, (len : Int)) = K s)
  {N : Nat} (hN : len < N) : rds b N (s, 0) = K (itN g len s) ∧ I len (itN g len s) := by
 have hIk : ∀ k, k ≤ len → I k (itN g k s) := fun k => by
  induction k with
  | zero => exact fun _ => h0
  | succ k ih => exact fun hk => hI k _ hk (ih (by omega))
 refine ⟨?_, hIk len (Nat.le_refl _)⟩
 refine u1 (fun x : σ × Int => ∃ k : Nat, k ≤ len ∧ x = (itN g k s, (k : Int))) (fun x => len - x.2.toNat) (fun _ => K (itN g len s)) (fun rec x hx hrec => ?_) N (s, 0) ⟨0, Nat.zero_le _, rfl⟩ (by simp; omega)
 obtain ⟨k, hk, rfl⟩ := hx
 by_cases hkl : k < len
 ·
  rw [hstep k _ rec hkl (hIk k hk)]
  exact hrec _ ⟨k + 1, hkl, rfl⟩ (by simp only [Int.toNat_natCast]; omega)
 ·
  have : k = len := by omega
  subst this
  exact hend _ rec (hIk k hk)
theorem any_drop {α : Type} (bad : α → Bool) (l : List α) (d : α) (k : Nat) (h : k < l.length) : (l.drop k).any bad = (bad (l.getD k d) || (l.drop (k + 1)).any bad) := by
 rw [List.drop_eq_getElem_cons h, List.any_cons]; simp [List.getD_eq_getElem?_getD, h]
theorem rds_scan {α R : Type} (l : List α) (d : α) (bad : α → Bool) (e K : Option R) (b : (Int → Option R) → Int → Option R)
  (hstep : ∀ k rec, k < l.length → b rec (k : Int) = if bad (l.getD k d) = true then e else rec ((k + 1 : Nat) : Int)) (hend : ∀ rec, b rec (l.length : Int) = K)
  {N : Nat} (hN : l.length < N) : rds b N 0 = if l.any bad = true then e else K := by
 refine (rds_up1 l.length _ (fun k => if (l.drop k).any bad = true then e else K) (fun k rec hk hr => ?_) (fun rec => ?_) hN).trans (by simp)
 ·
  rw [hstep k rec hk, hr, any_drop bad l d k hk]
  cases bad (l.getD k d) <;> simp
 · rw [hend]; simp
end Go.PW

/-
 What the shallow functions of the scheduling chapter come to: sites, names, bearers and their errors.
-/
namespace Go.Sh
open Go.PW

abbrev j5 := ByteArray × Int × Int × Int × Int × Int × Int × Int × Int
def inB (n lo hi : Int) : Bool := (decide (lo ≤ n)) && (decide (n ≤ hi))
theorem A8 {n lo hi : Int} : inB n lo hi = true ↔ lo ≤ n ∧ n ≤ hi := by simp [inB]
theorem within_eq (N : Nat) (n lo hi : Int) : j3 N n lo hi = some (inB n lo hi) := rfl
theorem Within_eq (N : Nat) (n lo hi : Int) : m7 N n lo hi = some (inB n lo hi) := rfl
theorem unless_eq (N : Nat) (b : Bool) (e : Int) : i5 N b e = some (if b = true then 0 else e) := by cases b <;> rfl
def firstE : List Int → Int
 | [] => 0
 | x :: l => if x ≠ 0 then x else firstE l
theorem j6 {α : Type} {l : List α} {k : Nat} (h : k < l.length) (d : α) : l.getD k d = l[k] := by simp [List.getD_eq_getElem?_getD, h]
theorem first_eq {N : Nat} (hM : N ≤ 20000) (l : List Int) (h : l.length < N) : sched_first N l = some (firstE l) := by
 unfold sched_first
 simp only [jn]
 refine (rds_up1 l.length _ (fun k => some (firstE (l.drop k))) (fun k rec hk hr => ?_) (fun rec => ?_) h).trans (by simp)
 ·
  simp only [sched_first.b1]
  rw [j4 (by simpa using hk), f5 (by omega), List.drop_eq_getElem_cons hk, firstE, k5 (by omega), hr, Int.toNat_natCast, j6 hk]
  by_cases h0 : l[k] = 0 <;> simp [br, h0]
 · simp [sched_first.b1, br, firstE]

def D1 : Int → List Int → Int
 | _, [] => 0
 | b, x :: l => if inB x 0 1000 = false then 2 else if x < b then 9 else D1 x l
def v5 (b c p : Int) (t : List Int) : Int :=
 if (inB b 1 20 && inB c 1 8 && inB p 0 100000) = false then 2 else if t.length = 0 then 10 else if (16 : Int) < t.length then 8 else D1 0 t
theorem CheckSite_eq {N : Nat} (hM : N ≤ 20000) (h4 : 16 < N) (b c p : Int) (t : List Int) : sched_CheckSite N b c p t = some (v5 b c p t) := by
 unfold sched_CheckSite v5
 simp only [within_eq, f6, unless_eq]
 have hg : ∀ (x : Bool) (y : Bool), grd x false (some y) = some (x && y) := by intro x y; cases x <;> rfl
 simp only [hg, f6]
 rw [first_eq hM _ (by simp; omega)]
 simp only [f6, firstE]
 generalize hA : (inB b 1 20 && inB c 1 8 && inB p 0 100000) = A
 have hA' : (inB b 1 20 && (inB b 1 20 && inB c 1 8) && (inB b 1 20 && (inB b 1 20 && inB c 1 8) && inB p 0 100000)) = A := by
  rw [← hA]; cases inB b 1 20 <;> cases inB c 1 8 <;> simp
 have hA'' : (inB b 1 20 && (inB b 1 20 && inB c 1 8) && (inB b 1 20 && inB c 1 8 && inB p 0 100000)) = A := by
  rw [← hA]; cases inB b 1 20 <;> cases inB c 1 8 <;> simp
 first | rw [hA'] | rw [hA''] | skip
 cases A
 · simp [br, jn]
 ·
  simp only [if_true, ne_eq, not_true_eq_false, if_false, Bool.true_eq_false]
  by_cases h1 : t.length = 0
  · simp [br, h1]
  ·
   by_cases h2 : (16 : Int) < t.length
   · simp [br, h1, h2, show ¬ (t.length : Int) ≤ 16 by omega, show (0 : Int) < t.length by omega]
   ·
    rw [if_neg h1, if_neg h2]
    simp only [show decide ((t.length : Int) > 0) = true by simp; omega, show decide ((t.length : Int) ≤ 16) = true by simp; omega, if_true, ne_eq, not_true_eq_false, if_false, bne_self_eq_false, w5, jn]
    refine (u1 (fun s : Int × Int => ∃ k : Nat, k ≤ t.length ∧ s.2 = (k : Int)) (fun s => t.length - s.2.toNat) (fun s => some (D1 s.1 (t.drop s.2.toNat))) (fun rec s hI hrec => ?_) N ((0 : Int), (0 : Int)) ⟨0, Nat.zero_le _, rfl⟩ (by simp; omega)).trans (by simp)
    obtain ⟨k, hk, hs⟩ := hI
    obtain ⟨bf, i⟩ := s
    simp only at hs
    subst hs
    simp only [sched_CheckSite.b1, Int.toNat_natCast]
    by_cases hkl : k < t.length
    ·
     rw [j4 (by simpa using hkl), f5 (by omega), List.drop_eq_getElem_cons hkl, D1]
     simp only [within_eq, f6, unless_eq, Int.toNat_natCast, j6 hkl]
     rw [first_eq hM _ (by simp; omega), k5 (by omega), hrec _ ⟨k + 1, hkl, rfl⟩ (by simp only [Int.toNat_natCast]; omega)]
     simp only [f6, firstE, Int.toNat_natCast]
     cases h3 : inB t[k] 0 1000
     · simp [br]
     ·
      by_cases h4 : t[k] < bf
      · simp [br, h4, show ¬ bf ≤ t[k] by omega]
      · simp [br, h4, show bf ≤ t[k] by omega]
    ·
     have : k = t.length := by omega
     subst this
     simp [br, D1]
theorem SiteErr_eq {N : Nat} (hM : N ≤ 20000) (h4 : 16 < N) (b c p : Int) (t : List Int) : ref06_SiteErr N b c p t = some (v5 b c p t) := by
 unfold ref06_SiteErr v5
 simp only [Within_eq, f6]
 have hg : ∀ (x : Bool) (y : Bool), grd x false (some y) = some (x && y) := by intro x y; cases x <;> rfl
 simp only [hg, f6]
 cases h1 : inB b 1 20
 · simp [br]
 cases h2 : inB c 1 8
 · simp [br]
 cases h3 : inB p 0 100000
 · simp [br]
 simp only [Bool.true_and, Bool.not_true, Bool.or_false, Bool.not_false, Bool.and_true, w5, Bool.and_self, Bool.true_eq_false, if_false, Bool.or_self]
 by_cases h5 : t.length = 0
 · simp [br, h5]
 rw [if_neg h5, j2 (by simpa using h5)]
 by_cases h6 : (16 : Int) < t.length
 · rw [if_pos h6, j4 (by simpa using h6)]
 rw [if_neg h6, j2 (by simpa using h6)]
 simp only [jn]
 refine (rds_up1 t.length _ (fun k => some (D1 (if k = 0 then 0 else t.getD (k - 1) 0) (t.drop k))) (fun k rec hk hr => ?_) (fun rec => ?_) (show t.length < N by omega)).trans (by simp)
 ·
  simp only [ref06_SiteErr.b1, Int.toNat_natCast]
  rw [j4 (by simpa using hk), f5 (by omega), List.drop_eq_getElem_cons hk, D1]
  simp only [Within_eq, f6, Int.toNat_natCast, j6 hk]
  rw [k5 (by omega), hr]
  cases h7 : inB t[k] 0 1000
  · simp [br]
  ·
   simp only [Bool.not_true, w5, Bool.true_eq_false, if_false]
   rw [f5 (by intro _; omega)]
   by_cases hk0 : k = 0
   ·
    subst hk0
    rw [f5 (by intro h; simp at h)]
    have hpos : 0 ≤ t[0] := (A8.1 h7).1
    have hg0 : t[0]? = some t[0] := List.getElem?_eq_getElem hk
    simp [br, show ¬ t[0] < 0 by omega, hg0]
   ·
    rw [n9 (by omega), f5 (by intro _; omega)]
    have e : ((k : Int) - 1).toNat = k - 1 := by omega
    rw [e, if_neg hk0]
    simp only [show decide ((k : Int) > 0) = true by simp; omega, Bool.true_and, Nat.add_eq_zero_iff, Nat.one_ne_zero, and_false, if_false, Nat.add_sub_cancel, j6 hk]
    by_cases h8 : t[k] < t.getD (k - 1) 0
    · rw [j4 (by simpa using h8), if_pos h8]
    · rw [j2 (by simpa using h8), if_neg h8]
 · simp [ref06_SiteErr.b1, br, D1]
end Go.Sh

/-
 What the shallow functions of the scheduling chapter come to: names, and the errors of one bearer.
-/
namespace Go.Sh
open Go.PW

def chBad (f : Bool) (c : Int) : Bool :=
 ((!(((decide (c ≥ (97 : Int))) && (decide (c ≤ (122 : Int)))) || ((decide (c ≥ (65 : Int))) && (decide (c ≤ (90 : Int)))))) && (f || ((c != (45 : Int)) && ((decide (c < (48 : Int))) || (decide (c > (57 : Int)))))))
def nameL : Bool → List Int → Bool
 | _, [] => true
 | f, c :: l => !(chBad f c) && nameL false l
def nameOK (s : ByteArray) : Bool := decide (1 ≤ s.size ∧ s.size ≤ 12) && nameL true (f7 s)
theorem noText (s : ByteArray) : (s.toList == (⟨#[]⟩ : ByteArray).toList) = decide (s.size = 0) := by
 rw [ByteArray.toList_eq, ByteArray.toList_eq]
 have : s.size = s.data.toList.length := by simp
 rw [this]
 cases s.data.toList <;> simp
theorem isName_eq {N : Nat} (hM : N ≤ 20000) (s : ByteArray) (h : s.size < N) : sched_isName N s = some (nameOK s) := by
 unfold sched_isName
 simp only [jn]
 have hl := F5 s
 refine (rds_up1 (f7 s).length _ (fun k => some (nameL (decide (k = 0)) ((f7 s).drop k) && decide (1 ≤ s.size ∧ s.size ≤ 12))) (fun k rec hk hr => ?_) (fun rec => ?_) (by omega)).trans ?_
 ·
  simp only [sched_isName.b1]
  rw [j4 (by simpa using hk), f5 (by omega), List.drop_eq_getElem_cons hk, nameL, k5 (by omega), hr]
  simp only [Int.toNat_natCast, j6 hk]
  have hc : (((!(((decide (((f7 s)[k]) ≥ (97 : Int))) && (decide (((f7 s)[k]) ≤ (122 : Int)))) || ((decide (((f7 s)[k]) ≥ (65 : Int))) && (decide (((f7 s)[k]) ≤ (90 : Int)))))) && (((k : Int) == (0 : Int)) || ((((f7 s)[k]) != (45 : Int)) && ((decide (((f7 s)[k]) < (48 : Int))) || (decide (((f7 s)[k]) > (57 : Int)))))))) = chBad (decide (k = 0)) (f7 s)[k] := by
   unfold chBad
   have : ((k : Int) == 0) = decide (k = 0) := by rw [Bool.eq_iff_iff]; simp
   rw [this]
  rw [hc]
  cases chBad (decide (k = 0)) (f7 s)[k]
  · simp [br]
  · simp [br]
 ·
  simp only [sched_isName.b1, noText]
  rw [j2 (by simp)]
  simp only [List.drop_length, nameL, Bool.true_and, Option.some.injEq]
  rw [Bool.eq_iff_iff]
  simp only [Bool.and_eq_true, Bool.not_eq_true', decide_eq_false_iff_not, decide_eq_true_eq]
  omega
 · rw [nameOK, Bool.and_comm]; rfl
theorem IsName_eq {N : Nat} (hM : N ≤ 20000) (h12 : 12 < N) (s : ByteArray) : base_IsName N s = some (nameOK s) := by
 unfold base_IsName nameOK
 by_cases h1 : 1 ≤ s.size ∧ s.size ≤ 12
 ·
  rw [j2 (by simp; omega)]
  simp only [jn]
  have hl := F5 s
  refine (rds_up1 s.size _ (fun k => some (nameL (decide (k = 0)) ((f7 s).drop k))) (fun k rec hk hr => ?_) (fun rec => ?_) (by omega)).trans (by simp [h1])
  ·
   have hk' : k < (f7 s).length := by omega
   simp only [base_IsName.b1]
   rw [j4 (by simpa using hk), f5 (by omega), List.drop_eq_getElem_cons hk', nameL, k5 (by omega), hr]
   have hb : ((s.data.getD k 0).toNat : Int) = (f7 s)[k] := by rw [← bytesL_getD s hk, j6 hk']
   simp only [Int.toNat_natCast, hb]
   have hc : (((!(((decide (((f7 s)[k]) ≥ (97 : Int))) && (decide (((f7 s)[k]) ≤ (122 : Int)))) || ((decide (((f7 s)[k]) ≥ (65 : Int))) && (decide (((f7 s)[k]) ≤ (90 : Int)))))) && (((k : Int) == (0 : Int)) || ((((f7 s)[k]) != (45 : Int)) && ((decide (((f7 s)[k]) < (48 : Int))) || (decide (((f7 s)[k]) > (57 : Int)))))))) = chBad (decide (k = 0)) (f7 s)[k] := by
    unfold chBad
    have : ((k : Int) == 0) = decide (k = 0) := by rw [Bool.eq_iff_iff]; simp
    rw [this]
   rw [hc]
   cases chBad (decide (k = 0)) (f7 s)[k]
   · simp [br]
   · simp [br]
  ·
   simp only [base_IsName.b1]
   rw [j2 (by simp), ← hl]
   simp [nameL]
 ·
  rw [j4 (by simp; omega)]
  simp [h1]

def k4 (t : List Int) (x : j5) : Int :=
 if nameOK x.1 = false then 4 else if inB x.2.1 0 2 = false then 15 else
 if (inB x.2.2.1 0 100 && inB x.2.2.2.1 1 100 && inB x.2.2.2.2.1 0 100000) = false then 2 else
 if x.2.1 = 0 then (if x.2.2.2.2.2.1 = 0 ∧ x.2.2.2.2.2.2.1 = 0 ∧ x.2.2.2.2.2.2.2.1 = 0 ∧ x.2.2.2.2.2.2.2.2 = 0 then 0 else 3) else
 if (inB x.2.2.2.2.2.1 0 ((t.length : Int) - 1) && inB x.2.2.2.2.2.2.1 1 1000000 && inB x.2.2.2.2.2.2.2.1 0 1000000 && inB x.2.2.2.2.2.2.2.2 1 1000) = false then 2 else
 if t.getD x.2.2.2.2.2.1.toNat 0 ≤ 0 then 11 else 0
theorem grd_and (x y : Bool) : grd x false (some y) = some (x && y) := by cases x <;> rfl
theorem andself (x y : Bool) : (x && (x && y)) = (x && y) := by cases x <;> rfl
theorem and3 (x y z : Bool) : (x && y && (x && y && z)) = (x && y && z) := by cases x <;> cases y <;> rfl
theorem bearerErr_eq {N : Nat} (hM : N ≤ 20000) (h4 : 16 < N) (b c p : Int) (t : List Int) (ht : t.length < N) (n : ByteArray) (k pr w po le bu ra de : Int) (hn : n.size < N) :
  k9 N b c p t n k pr w po le bu ra de = some (k4 t (n, k, pr, w, po, le, bu, ra, de)) := by
 unfold k9 k4
 simp only [within_eq, f6, grd_and, andself, and3, isName_eq hM n hn, unless_eq]
 rw [first_eq hM _ (by simp; omega)]
 simp only [f6, firstE]
 cases h1 : nameOK n
 · simp [br]
 cases h2 : inB k 0 2
 · simp [br]
 cases h3 : (inB pr 0 100 && inB w 1 100 && inB po 0 100000)
 · simp [br]
 simp only [if_true, ne_eq, not_true_eq_false, if_false, Bool.true_eq_false, bne_self_eq_false, w5]
 by_cases h5 : k = 0
 ·
  subst h5
  simp only [beq_self_eq_true, br_true, f6, if_true]
  congr 1
  by_cases h6 : le = 0 ∧ bu = 0 ∧ ra = 0 ∧ de = 0
  · obtain ⟨rfl, rfl, rfl, rfl⟩ := h6; rfl
  · rw [if_neg (by simp; omega), if_neg h6]
 ·
  rw [j2 (by simpa using h5), if_neg h5]
  simp only [l7, within_eq, f6, n9 (show -9223372036854775808 ≤ (t.length : Int) - 1 ∧ (t.length : Int) - 1 ≤ 9223372036854775807 by omega)]
  cases h6 : inB le 0 ((t.length : Int) - 1)
  · simp [br]
  ·
   have h7 := A8.1 h6
   simp only [Bool.not_true, w5, Bool.true_and]
   rw [f5 (by omega), first_eq hM _ (by simp; omega)]
   simp only [f6, firstE]
   cases (inB bu 1 1000000 && inB ra 0 1000000 && inB de 1 1000)
   · simp
   ·
    by_cases h8 : t.getD le.toNat 0 ≤ 0
    · simp [h8, show ¬ (0 : Int) < t[le.toNat]?.getD 0 by rw [← List.getD_eq_getElem?_getD]; omega]
    · simp [h8, show (0 : Int) < t[le.toNat]?.getD 0 by rw [← List.getD_eq_getElem?_getD]; omega]
theorem BearerErr_eq {N : Nat} (hM : N ≤ 20000) (h4 : 16 < N) (b c p : Int) (t : List Int) (ht : t.length < N) (n : ByteArray) (k pr w po le bu ra de : Int) (hpos : ∀ x ∈ t, (0 : Int) ≤ x) :
  B4 N b c p t n k pr w po le bu ra de = some (k4 t (n, k, pr, w, po, le, bu, ra, de)) := by
 unfold B4 k4
 simp only [Within_eq, f6, IsName_eq hM (by omega) n]
 cases h1 : nameOK n
 · simp [br]
 simp only [Bool.not_true, w5]
 cases h2 : inB k 0 2
 · simp [br]
 simp only [Bool.not_true, w5, grd_and, f6]
 have e3 : ∀ x y z : Bool, (!x || !(x && y) || !(!(!x || !(x && y)) && z)) = !(x && y && z) := by intro x y z; cases x <;> cases y <;> cases z <;> rfl
 rw [e3]
 cases h3 : (inB pr 0 100 && inB w 1 100 && inB po 0 100000)
 · simp [br]
 simp only [Bool.not_true, w5, Bool.true_eq_false, if_false]
 by_cases h5 : k = 0
 ·
  subst h5
  simp only [beq_self_eq_true, br_true, if_true]
  by_cases h6 : le = 0 ∧ bu = 0 ∧ ra = 0 ∧ de = 0
  · obtain ⟨rfl, rfl, rfl, rfl⟩ := h6; rfl
  · rw [j4 (by simp; omega), if_neg h6]
 ·
  rw [j2 (by simpa using h5), if_neg h5]
  simp only [v7, Within_eq, f6, n9 (show -9223372036854775808 ≤ (t.length : Int) - 1 ∧ (t.length : Int) - 1 ≤ 9223372036854775807 by omega), grd_and]
  have e4 : ∀ x y z u : Bool, (!x || !(x && y) || !(!(!x || !(x && y)) && z) || !(!(!x || !(x && y) || !(!(!x || !(x && y)) && z)) && u)) = !(x && y && z && u) := by
   intro x y z u; cases x <;> cases y <;> cases z <;> cases u <;> rfl
  rw [e4]
  cases h6 : (inB le 0 ((t.length : Int) - 1) && inB bu 1 1000000 && inB ra 0 1000000 && inB de 1 1000)
  · simp [br]
  ·
   have h7 := A8.1 (show inB le 0 ((t.length : Int) - 1) = true by simp only [Bool.and_eq_true] at h6; exact h6.1.1.1)
   simp only [Bool.not_true, w5, Bool.true_eq_false, if_false]
   rw [f5 (by omega)]
   have hk : le.toNat < t.length := by omega
   have h0 : 0 ≤ t.getD le.toNat 0 := by rw [j6 hk]; exact hpos _ (List.getElem_mem hk)
   by_cases h8 : t.getD le.toNat 0 ≤ 0
   · rw [j4 (by simp only [beq_iff_eq]; omega), if_pos h8]
   · rw [j2 (by simp only [beq_eq_false_iff_ne, ne_eq]; omega), if_neg h8]
end Go.Sh

/-
 What the shallow functions of the scheduling chapter come to: quotients rounded up, needs, room, names of several bearers.
-/
namespace Go.Sh
open Go.PW

def C2 (n b : Int) : Int := (n + b - 1) / b
theorem B6 {n b : Int} (hn : 0 ≤ n) (hb : 1 ≤ b) : 0 ≤ C2 n b ∧ C2 n b ≤ n := by
 unfold C2
 constructor
 · exact Int.ediv_nonneg (by omega) (by omega)
 ·
  have h1 : (n + b - 1) / b < n + 1 := by
   refine Int.ediv_lt_of_lt_mul (by omega) ?_
   have : (n + 1) * b = n * b + b := by rw [Int.add_mul, Int.one_mul]
   have h2 : n * 1 ≤ n * b := Int.mul_le_mul_of_nonneg_left hb hn
   omega
  omega
theorem ceil_eq (N : Nat) {n b : Int} (hn : 0 ≤ n) (hb : 1 ≤ b) (hn' : n ≤ 1000000000000) (hb' : b ≤ 1000000000000) : A2 N n b = some (C2 n b) := by
 unfold A2
 rw [f5 (by omega), n9 (n := n + b) (by omega), n9 (n := n + b - 1) (by omega), Int.tdiv_eq_ediv_of_nonneg (by omega)]
 have := B6 hn hb
 unfold C2 at this
 rw [n9 (by omega)]; rfl
theorem ceilI_floor {n b : Int} (hn : 0 ≤ n) (hb : 1 ≤ b) : C2 n b = if n % b = 0 then n / b else n / b + 1 := by
 unfold C2
 have h1 := Int.emod_nonneg n (show b ≠ 0 by omega)
 have h2 := Int.emod_lt_of_pos n (show 0 < b by omega)
 have h3 := Int.mul_ediv_add_emod n b
 generalize hq : n / b = q at *
 generalize hr : n % b = r at *
 have hqb : q * b = b * q := Int.mul_comm ..
 by_cases h : r = 0
 ·
  rw [if_pos h]
  have e : n + b - 1 = (b - 1) + b * q := by omega
  rw [e, Int.add_mul_ediv_left _ _ (by omega), Int.ediv_eq_zero_of_lt (by omega) (by omega)]
  omega
 ·
  rw [if_neg h]
  have e : n + b - 1 = (r - 1) + b * (q + 1) := by rw [Int.mul_add, Int.mul_one]; omega
  rw [e, Int.add_mul_ediv_left _ _ (by omega), Int.ediv_eq_zero_of_lt (by omega) (by omega)]
  omega
theorem Ceil_eq (N : Nat) {n b : Int} (hn : 0 ≤ n) (hb : 1 ≤ b) (hn' : n ≤ 1000000000000) (hb' : b ≤ 1000000000000) : base_Ceil N n b = some (C2 n b) := by
 unfold base_Ceil base_Floor
 rw [n9 (n := 0 - n) (by omega), f5 (by omega), f5 (by omega)]
 have e : (0 : Int) - n = -n := by omega
 have hq0 : 0 ≤ n / b := Int.ediv_nonneg hn (by omega)
 have hq1 : n / b ≤ n := Int.ediv_le_self b hn
 have h1 := Int.emod_nonneg n (show b ≠ 0 by omega)
 have h2 := Int.emod_lt_of_pos n (show 0 < b by omega)
 rw [e, Int.neg_tdiv, Int.neg_tmod, Int.tdiv_eq_ediv_of_nonneg hn, Int.tmod_eq_emod_of_nonneg hn, n9 (n := -(n / b)) (by omega), ceilI_floor hn hb]
 by_cases h : n % b = 0
 ·
  rw [j2 (by simp; omega), if_pos h]
  simp only [f6]
  rw [n9 (by omega)]; congr 1; omega
 ·
  rw [j4 (by simp; omega), if_neg h, n9 (n := -(n / b) - 1) (by omega)]
  simp only [f6]
  rw [n9 (by omega)]; congr 1; omega

def E8 (t : List Int) : Prop := ∀ x ∈ t, (0 : Int) ≤ x ∧ x ≤ 1000
theorem tableErr_zero : ∀ (l : List Int) (b : Int), D1 b l = 0 → E8 l
 | [], _, _ => by intro x hx; simp at hx
 | y :: l, b, h => by
  rw [D1] at h
  cases h1 : inB y 0 1000
  · rw [if_pos h1] at h; exact absurd h (by decide)
  ·
   rw [if_neg (by simp [h1])] at h
   by_cases h2 : y < b
   · rw [if_pos h2] at h; exact absurd h (by decide)
   ·
    rw [if_neg h2] at h
    intro x hx
    rcases List.mem_cons.1 hx with rfl | hx
    · exact A8.1 h1
    · exact tableErr_zero l y h x hx
theorem B0 {b c p : Int} {t : List Int} (h : v5 b c p t = 0) : (1 ≤ b ∧ b ≤ 20) ∧ (1 ≤ c ∧ c ≤ 8) ∧ (0 ≤ p ∧ p ≤ 100000) ∧ t.length ≠ 0 ∧ t.length ≤ 16 ∧ E8 t := by
 unfold v5 at h
 split at h
 · exact absurd h (by decide)
 ·
  rename_i h1
  split at h
  · exact absurd h (by decide)
  ·
   rename_i h2
   split at h
   · exact absurd h (by decide)
   ·
    rename_i h3
    have h1' : (inB b 1 20 && inB c 1 8 && inB p 0 100000) = true := by
     cases hq : (inB b 1 20 && inB c 1 8 && inB p 0 100000)
     · exact absurd hq h1
     · rfl
    simp only [Bool.and_eq_true, A8] at h1'
    exact ⟨h1'.1.1, h1'.1.2, h1'.2, h2, by omega, tableErr_zero _ _ h⟩
theorem r9 {t : List Int} {x : j5} (h : k4 t x = 0) : nameOK x.1 = true ∧ (0 ≤ x.2.1 ∧ x.2.1 ≤ 2) ∧ (0 ≤ x.2.2.2.2.1 ∧ x.2.2.2.2.1 ≤ 100000) ∧ (x.2.1 ≠ 0 → (0 ≤ x.2.2.2.2.2.1 ∧ x.2.2.2.2.2.1 < (t.length : Int)) ∧
  (1 ≤ x.2.2.2.2.2.2.1 ∧ x.2.2.2.2.2.2.1 ≤ 1000000) ∧ (0 ≤ x.2.2.2.2.2.2.2.1 ∧ x.2.2.2.2.2.2.2.1 ≤ 1000000) ∧ (1 ≤ x.2.2.2.2.2.2.2.2 ∧ x.2.2.2.2.2.2.2.2 ≤ 1000) ∧ 1 ≤ t.getD x.2.2.2.2.2.1.toNat 0) := by
 obtain ⟨n, k, pr, w, po, le, bu, ra, de⟩ := x
 unfold k4 at h
 simp only at h ⊢
 cases h1 : nameOK n
 · rw [if_pos h1] at h; exact absurd h (by decide)
 cases h2 : inB k 0 2
 · rw [if_neg (by simp [h1]), if_pos h2] at h; exact absurd h (by decide)
 cases h3 : (inB pr 0 100 && inB w 1 100 && inB po 0 100000)
 · rw [if_neg (by simp [h1]), if_neg (by simp [h2]), if_pos h3] at h; exact absurd h (by decide)
 rw [if_neg (by simp [h1]), if_neg (by simp [h2]), if_neg (by simp [h3])] at h
 simp only [Bool.and_eq_true, A8] at h3
 refine ⟨rfl, A8.1 h2, h3.2, fun hk => ?_⟩
 rw [if_neg hk] at h
 cases h4 : (inB le 0 ((t.length : Int) - 1) && inB bu 1 1000000 && inB ra 0 1000000 && inB de 1 1000)
 · rw [if_pos h4] at h; exact absurd h (by decide)
 rw [if_neg (by simp [h4])] at h
 simp only [Bool.and_eq_true, A8] at h4
 by_cases h5 : t.getD le.toNat 0 ≤ 0
 · rw [if_pos h5] at h; exact absurd h (by decide)
 · exact ⟨by omega, h4.1.1.2, h4.1.2, h4.2, by omega⟩
def z9 (t : List Int) (x : j5) : Int × Int × Int :=
 if x.2.1 = 0 then (0, 0, 0) else
 let c := C2 x.2.2.2.2.2.2.1 x.2.2.2.2.2.2.2.2
 let b := C2 (if x.2.2.2.2.2.2.2.1 < c then c else x.2.2.2.2.2.2.2.1) (t.getD x.2.2.2.2.2.1.toNat 0)
 (b, 1, b * x.2.2.2.2.1)
theorem tabGet {t : List Int} (ht : E8 t) {k : Nat} (hk : k < t.length) : 0 ≤ t.getD k 0 ∧ t.getD k 0 ≤ 1000 := by rw [j6 hk]; exact ht _ (List.getElem_mem hk)
theorem u2 {t : List Int} (ht : E8 t) {x : j5} (h : k4 t x = 0) :
  (0 ≤ (z9 t x).1 ∧ (z9 t x).1 ≤ 1000000) ∧ (0 ≤ (z9 t x).2.1 ∧ (z9 t x).2.1 ≤ 1) ∧ (0 ≤ (z9 t x).2.2 ∧ (z9 t x).2.2 ≤ 100000000000) := by
 obtain ⟨_, h1, h2, h3⟩ := r9 h
 unfold z9
 by_cases hk : x.2.1 = 0
 · rw [if_pos hk]; simp
 ·
  rw [if_neg hk]
  obtain ⟨h4, h5, h6, h7, h8⟩ := h3 hk
  have hc := B6 (n := x.2.2.2.2.2.2.1) (b := x.2.2.2.2.2.2.2.2) (by omega) (by omega)
  simp only
  generalize hm : (if x.2.2.2.2.2.2.2.1 < C2 x.2.2.2.2.2.2.1 x.2.2.2.2.2.2.2.2 then C2 x.2.2.2.2.2.2.1 x.2.2.2.2.2.2.2.2 else x.2.2.2.2.2.2.2.1) = m
  have hm' : 0 ≤ m ∧ m ≤ 1000000 := by rw [← hm]; split <;> omega
  have hb := B6 (n := m) (b := t.getD x.2.2.2.2.2.1.toNat 0) (by omega) (by omega)
  generalize C2 m (t.getD x.2.2.2.2.2.1.toNat 0) = q at *
  refine ⟨by omega, by omega, Int.mul_nonneg (by omega) (by omega), ?_⟩
  have h9 : q * x.2.2.2.2.1 ≤ 1000000 * 100000 := Int.mul_le_mul (by omega) (by omega) (by omega) (by omega)
  omega
theorem need_eq (N : Nat) {b c p : Int} {t : List Int} (ht : E8 t) (x : j5) (h : k4 t x = 0) :
  p5 N b c p t x.1 x.2.1 x.2.2.1 x.2.2.2.1 x.2.2.2.2.1 x.2.2.2.2.2.1 x.2.2.2.2.2.2.1 x.2.2.2.2.2.2.2.1 x.2.2.2.2.2.2.2.2 = some (z9 t x) := by
 have hB := u2 ht h
 obtain ⟨_, h1, h2, h3⟩ := r9 h
 unfold p5 l9
 simp only [f6]
 unfold z9 at hB ⊢
 by_cases hk : x.2.1 = 0
 · rw [if_pos hk, j4 (by simp [hk])]
 ·
  rw [if_neg hk] at hB ⊢
  rw [j2 (by simpa using hk)]
  obtain ⟨h4, h5, h6, h7, h8⟩ := h3 hk
  have hc := B6 (n := x.2.2.2.2.2.2.1) (b := x.2.2.2.2.2.2.2.2) (by omega) (by omega)
  have hq := tabGet ht (show x.2.2.2.2.2.1.toNat < t.length by omega)
  rw [ceil_eq N (by omega) (by omega) (by omega) (by omega)]
  simp only [f6]
  rw [f5 (by omega), ceil_eq N (by split <;> omega) (by omega) (by split <;> omega) (by omega)]
  simp only [f6]
  simp only at hB
  rw [n9 (by omega)]
theorem NeedOf_eq (N : Nat) {b c p : Int} {t : List Int} (ht : E8 t) (x : j5) (h : k4 t x = 0) :
  ref06_NeedOf N b c p t x.1 x.2.1 x.2.2.1 x.2.2.2.1 x.2.2.2.2.1 x.2.2.2.2.2.1 x.2.2.2.2.2.2.1 x.2.2.2.2.2.2.2.1 x.2.2.2.2.2.2.2.2 = some (z9 t x) := by
 have hB := u2 ht h
 obtain ⟨_, h1, h2, h3⟩ := r9 h
 unfold ref06_NeedOf
 unfold z9 at hB ⊢
 by_cases hk : x.2.1 = 0
 · rw [if_pos hk, j4 (by simp [hk])]
 ·
  rw [if_neg hk] at hB ⊢
  rw [j2 (by simpa using hk)]
  obtain ⟨h4, h5, h6, h7, h8⟩ := h3 hk
  have hc := B6 (n := x.2.2.2.2.2.2.1) (b := x.2.2.2.2.2.2.2.2) (by omega) (by omega)
  have hq := tabGet ht (show x.2.2.2.2.2.1.toNat < t.length by omega)
  rw [Ceil_eq N (by omega) (by omega) (by omega) (by omega)]
  simp only [f6]
  rw [f5 (by omega), Ceil_eq N (by split <;> omega) (by omega) (by split <;> omega) (by omega)]
  simp only [f6]
  simp only at hB
  rw [n9 (by omega)]
def n5 (t : List Int) : List j5 → Int × Int × Int
 | [] => (0, 0, 0)
 | x :: l => ((z9 t x).1 + (n5 t l).1, (z9 t x).2.1 + (n5 t l).2.1, (z9 t x).2.2 + (n5 t l).2.2)
theorem needsB_snoc (t : List Int) (x : j5) : ∀ l : List j5, n5 t (l ++ [x]) = ((n5 t l).1 + (z9 t x).1, (n5 t l).2.1 + (z9 t x).2.1, (n5 t l).2.2 + (z9 t x).2.2)
 | [] => by simp [n5]
 | y :: l => by rw [List.cons_append, n5, needsB_snoc t x l, n5]; simp only [Int.add_assoc]
theorem needsB_bounds {t : List Int} (ht : E8 t) : ∀ {l : List j5}, (∀ x ∈ l, k4 t x = 0) → (0 ≤ (n5 t l).1 ∧ (n5 t l).1 ≤ 1000000 * (l.length : Int)) ∧ (0 ≤ (n5 t l).2.1 ∧ (n5 t l).2.1 ≤ (l.length : Int)) ∧ (0 ≤ (n5 t l).2.2 ∧ (n5 t l).2.2 ≤ 100000000000 * (l.length : Int))
 | [], _ => by simp [n5]
 | y :: l, h => by
  have h1 := u2 ht (h y (by simp))
  have h2 := needsB_bounds ht (l := l) fun x hx => h x (by simp [hx])
  simp only [n5, List.length_cons]
  omega
theorem take_snoc {α : Type} (l : List α) {k : Nat} (h : k < l.length) : l.take (k + 1) = l.take k ++ [l[k]] := by
 rw [List.take_add_one, List.getElem?_eq_getElem h]; rfl
theorem room_eq {N : Nat} (hM : N ≤ 20000) {b c p : Int} (hb : 0 ≤ b ∧ b ≤ 1000000) (hc : 0 ≤ c ∧ c ≤ 1000000) (hp : 0 ≤ p ∧ p ≤ 1000000) {t : List Int} (ht : E8 t) (l : List j5) (hl : l.length < N) (h : ∀ x ∈ l, k4 t x = 0) :
  sched_site_room N b c p t l = some (b - (n5 t l).1, c - (n5 t l).2.1, p - (n5 t l).2.2) := by
 unfold sched_site_room
 simp only [jn]
 refine u1 (fun s : Int × Int × Int × Int => ∃ k : Nat, k ≤ l.length ∧ s = ((k : Int), b - (n5 t (l.take k)).1, c - (n5 t (l.take k)).2.1, p - (n5 t (l.take k)).2.2)) (fun s => l.length - s.1.toNat)
  (fun _ => some (b - (n5 t l).1, c - (n5 t l).2.1, p - (n5 t l).2.2)) (fun rec s hI hrec => ?_) N _ ⟨0, Nat.zero_le _, by simp [n5]⟩ (by simp; omega)
 obtain ⟨k, hk, rfl⟩ := hI
 simp only [sched_site_room.b1]
 by_cases hkl : k < l.length
 ·
  have hx : k4 t l[k] = 0 := h _ (List.getElem_mem hkl)
  have h1 := u2 ht hx
  have h2 := needsB_bounds ht (l := l.take k) fun x hx => h x (List.mem_of_mem_take hx)
  have hlen : (l.take k).length = k := by simp; omega
  rw [hlen] at h2
  rw [j4 (by simpa using hkl), f5 (by omega)]
  simp only [Int.toNat_natCast, j6 hkl]
  rw [need_eq N ht l[k] hx]
  rcases hn : z9 t l[k] with ⟨n1, n2, n3⟩
  simp only [f6]
  rw [hn] at h1
  simp only at h1
  rw [k5 (by omega), n9 (by omega), n9 (by omega), n9 (by omega)]
  refine hrec _ ⟨k + 1, hkl, ?_⟩ (by simp only [Int.toNat_natCast]; omega)
  rw [take_snoc l hkl, needsB_snoc, hn]
  simp only [Prod.mk.injEq]
  refine ⟨trivial, by omega, by omega, by omega⟩
 ·
  have : k = l.length := by omega
  subst this
  rw [j2 (by simp)]
  simp
theorem needs_eq {N : Nat} (hM : N ≤ 20000) {b c p : Int} {t : List Int} (ht : E8 t) (l : List j5) (hl : l.length < N) (h : ∀ x ∈ l, k4 t x = 0) :
  ref06_needs N b c p t l = some (n5 t l) := by
 unfold ref06_needs
 simp only [jn]
 refine u1 (fun s : Int × Int × Int × Int => ∃ k : Nat, k ≤ l.length ∧ s = ((k : Int), n5 t (l.take k))) (fun s => l.length - s.1.toNat)
  (fun _ => some (n5 t l)) (fun rec s hI hrec => ?_) N _ ⟨0, Nat.zero_le _, by simp [n5]⟩ (by simp; omega)
 obtain ⟨k, hk, rfl⟩ := hI
 simp only [ref06_needs.b1]
 by_cases hkl : k < l.length
 ·
  have hx : k4 t l[k] = 0 := h _ (List.getElem_mem hkl)
  have h1 := u2 ht hx
  have h2 := needsB_bounds ht (l := l.take k) fun x hx => h x (List.mem_of_mem_take hx)
  have hlen : (l.take k).length = k := by simp; omega
  rw [hlen] at h2
  rcases hS : n5 t (l.take k) with ⟨s1, s2, s3⟩
  rw [hS] at h2
  simp only at h2 ⊢
  rw [j4 (by simpa using hkl), f5 (by omega)]
  simp only [Int.toNat_natCast, j6 hkl]
  rw [NeedOf_eq N ht l[k] hx]
  rcases hn : z9 t l[k] with ⟨n1, n2, n3⟩
  simp only [f6]
  rw [hn] at h1
  simp only at h1
  rw [k5 (by omega), n9 (by omega), n9 (by omega), n9 (by omega)]
  refine hrec _ ⟨k + 1, hkl, ?_⟩ (by simp only [Int.toNat_natCast]; omega)
  rw [take_snoc l hkl, needsB_snoc, hn, hS]
 ·
  have : k = l.length := by omega
  subst this
  rw [j2 (by simp)]
  simp
def fitB (b c p : Int) (t : List Int) (l : List j5) : Bool := (decide ((n5 t l).1 ≤ b)) && (decide ((n5 t l).2.1 ≤ c)) && (decide ((n5 t l).2.2 ≤ p))
theorem fit_eq {N : Nat} (hM : N ≤ 20000) {b c p : Int} (hb : 0 ≤ b ∧ b ≤ 1000000) (hc : 0 ≤ c ∧ c ≤ 1000000) (hp : 0 ≤ p ∧ p ≤ 1000000) {t : List Int} (ht : E8 t) (l : List j5) (hl : l.length < N) (h : ∀ x ∈ l, k4 t x = 0) :
  o9 N b c p t l = some (fitB b c p t l) := by
 unfold o9
 rw [room_eq hM hb hc hp ht l hl h]
 simp only [f6, Option.some.injEq, fitB]
 rw [Bool.eq_iff_iff]
 simp only [Bool.and_eq_true, decide_eq_true_eq]
 split <;> split <;> omega
theorem Fit_eq {N : Nat} (hM : N ≤ 20000) {b c p : Int} {t : List Int} (ht : E8 t) (l : List j5) (hl : l.length < N) (h : ∀ x ∈ l, k4 t x = 0) :
  ref06_Fit N b c p t l = some (fitB b c p t l) := by
 unfold ref06_Fit
 rw [needs_eq hM ht l hl h]
 rfl

def B5 (l : List j5) (n : ByteArray) : Bool := l.any fun x => x.1.toList == n.toList
theorem named_eq {N : Nat} (hM : N ≤ 20000) (l : List j5) (hl : l.length < N) (n : ByteArray) : D5 N l n = some (B5 l n) := by
 unfold D5 f9 slices_IndexFunc_api_SchedBearer_api_SchedBearer
 simp only [jn]
 have h := rds_up1 l.length (slices_IndexFunc_api_SchedBearer_api_SchedBearer.b1 N l (fun y0 y1 y2 y3 y4 y5 y6 y7 y8 => z6 N y0 y1 y2 y3 y4 y5 y6 y7 y8 n) (fun _ => some (-1 : Int)))
  (fun k => some (if B5 (l.drop k) n = true then ((k + (l.drop k).findIdx fun x => x.1.toList == n.toList : Nat) : Int) else -1)) (fun k rec hk hr => ?_) (fun rec => ?_) hl
 ·
  rw [h]
  simp only [f6, List.drop_zero, Option.some.injEq]
  cases B5 l n <;> simp
 ·
  simp only [slices_IndexFunc_api_SchedBearer_api_SchedBearer.b1, z6]
  rw [j4 (by simpa using hk), f5 (by omega), k5 (by omega), hr, List.drop_eq_getElem_cons hk]
  simp only [Int.toNat_natCast, j6 hk, f6, B5, List.any_cons, List.findIdx_cons]
  cases hq : l[k].1.toList == n.toList
  ·
   simp only [w5, Bool.false_or, cond_false]
   rw [show ∀ m : Nat, k + 1 + m = k + (m + 1) from fun m => by omega]
   rfl
  · simp [br]
 ·
  simp only [slices_IndexFunc_api_SchedBearer_api_SchedBearer.b1]
  rw [j2 (by simp)]
  simp [B5]
def findB (l : List j5) (n : ByteArray) : Int := if B5 l n = true then ((l.findIdx fun x => x.1.toList == n.toList : Nat) : Int) else -1
theorem findB_nonneg (l : List j5) (n : ByteArray) : decide (findB l n ≥ 0) = B5 l n := by
 unfold findB
 cases B5 l n <;> simp
theorem find_eq {N : Nat} (hM : N ≤ 20000) (l : List j5) (hl : l.length < N) (n : ByteArray) : ref06_find N l n = some (findB l n) := by
 unfold ref06_find
 simp only [jn]
 refine (rds_up1 l.length _ (fun k => some (if B5 (l.drop k) n = true then ((k + (l.drop k).findIdx fun x => x.1.toList == n.toList : Nat) : Int) else -1)) (fun k rec hk hr => ?_) (fun rec => ?_) hl).trans (by simp [findB])
 ·
  simp only [ref06_find.b1]
  rw [j4 (by simpa using hk), f5 (by omega), k5 (by omega), hr, List.drop_eq_getElem_cons hk]
  simp only [Int.toNat_natCast, j6 hk, B5, List.any_cons, List.findIdx_cons]
  cases hq : l[k].1.toList == n.toList
  ·
   simp only [w5, Bool.false_or, cond_false]
   rw [show ∀ m : Nat, k + 1 + m = k + (m + 1) from fun m => by omega]
   rfl
  · simp [br]
 ·
  simp only [ref06_find.b1]
  rw [j2 (by simp)]
  simp [B5]
end Go.Sh

/-
 What the shallow functions of the scheduling chapter come to: the errors of bearers, room.
-/
namespace Go.Sh
open Go.PW

def B7 (t : List Int) (l : List j5) : Nat → List j5 → Option (Int × Int)
 | _, [] => none
 | k, x :: r => if k4 t x ≠ 0 then some ((k : Int), k4 t x) else if B5 (l.take k) x.1 = true then some ((k : Int), 5) else B7 t l (k + 1) r
def bearsErr (b c p : Int) (t : List Int) (l : List j5) : Int × Int :=
 if (8 : Int) < l.length then (0, 8) else match B7 t l 0 l with
 | some r => r
 | none => (0, if fitB b c p t l = true then 0 else 16)
theorem bearsE_none {t : List Int} {l : List j5} : ∀ (r : List j5) (k : Nat), B7 t l k r = none → ∀ x ∈ r, k4 t x = 0
 | [], _, _ => by intro x hx; simp at hx
 | y :: r, k, h => by
  rw [B7] at h
  by_cases h1 : k4 t y = 0
  ·
   rw [if_neg (by simpa using h1)] at h
   by_cases h2 : B5 (l.take k) y.1 = true
   · rw [if_pos h2] at h; simp at h
   ·
    rw [if_neg h2] at h
    intro x hx
    rcases List.mem_cons.1 hx with rfl | hx
    · exact h1
    · exact bearsE_none r (k + 1) h x hx
  · rw [if_pos h1] at h; simp at h
theorem bearersErr_eq {N : Nat} (hM : N ≤ 20000) (h4 : 16 < N) {b c p : Int} (hb : 0 ≤ b ∧ b ≤ 1000000) (hc : 0 ≤ c ∧ c ≤ 1000000) (hp : 0 ≤ p ∧ p ≤ 1000000) {t : List Int} (ht : E8 t) (htl : t.length < N) (l : List j5)
  (hn : ∀ x ∈ l, x.1.size < N) : sched_site_bearersErr N b c p t l = some (bearsErr b c p t l) := by
 unfold sched_site_bearersErr bearsErr
 by_cases h8 : (8 : Int) < l.length
 · rw [j4 (by simpa using h8), if_pos h8]
 rw [j2 (by simpa using h8), if_neg h8]
 simp only [jn]
 have hend : B7 t l 0 l = none → (bnd (o9 N b c p t l) fun x5 => bnd (i5 N x5 16) fun x6 => some ((0 : Int), x6)) = some (0, if fitB b c p t l = true then 0 else 16) := fun h => by
  rw [fit_eq hM hb hc hp ht l (by omega) (bearsE_none l 0 h)]
  simp only [f6, unless_eq]
 have key : ∀ k, k ≤ l.length → ((B7 t l k (l.drop k) = none ∧ B7 t l 0 l = none) ∨ (∃ r, B7 t l k (l.drop k) = some r)) → True := fun _ _ _ => trivial
 refine (u1 (fun s : Int => ∃ k : Nat, k ≤ l.length ∧ s = (k : Int) ∧ B7 t l k (l.drop k) = B7 t l 0 l) (fun s => l.length - s.toNat)
  (fun _ => some (match B7 t l 0 l with | some r => r | none => (0, if fitB b c p t l = true then 0 else 16))) (fun rec s hI hrec => ?_) N 0 ⟨0, Nat.zero_le _, rfl, by rw [List.drop_zero]⟩ (by simp; omega))
 obtain ⟨k, hk, rfl, hE⟩ := hI
 simp only [sched_site_bearersErr.b1]
 by_cases hkl : k < l.length
 ·
  rw [List.drop_eq_getElem_cons hkl, B7] at hE
  rw [j4 (by simpa using hkl), f5 (by omega)]
  simp only [Int.toNat_natCast, j6 hkl]
  rw [bearerErr_eq hM h4 b c p t htl _ _ _ _ _ _ _ _ _ (hn _ (List.getElem_mem hkl))]
  simp only [f6]
  rw [f5 (by omega), named_eq hM _ (by simp; omega)]
  simp only [f6, unless_eq]
  rw [first_eq hM _ (by simp; omega), k5 (by omega)]
  simp only [f6, firstE]
  show br ((if k4 t l[k] ≠ 0 then k4 t l[k] else _) != 0) _ _ = _
  by_cases h1 : k4 t l[k] = 0
  ·
   rw [if_neg (by simpa using h1)] at hE ⊢
   by_cases h2 : B5 (l.take k) l[k].1 = true
   ·
    rw [if_pos h2] at hE
    rw [← hE]; simp [h2, br]
   ·
    rw [if_neg h2] at hE
    simp only [Bool.not_eq_true] at h2
    have h2' : B5 (l.take k) l[k].1 = false := h2
    simp only [h2', Bool.not_false, if_true, ne_eq, not_true_eq_false, if_false, bne_self_eq_false, w5]
    exact hrec _ ⟨k + 1, hkl, rfl, hE⟩ (by simp only [Int.toNat_natCast]; omega)
  ·
   rw [if_pos h1] at hE ⊢
   rw [← hE, j4 (by simpa using h1)]
 ·
  have : k = l.length := by omega
  subst this
  rw [List.drop_length, B7] at hE
  rw [j2 (by simp), hend hE.symm, ← hE]
theorem RefBearers_eq {N : Nat} (hM : N ≤ 20000) (h4 : 16 < N) {b c p : Int} {t : List Int} (ht : E8 t) (htl : t.length < N) (l : List j5) :
  ref06_CheckBearers N b c p t l = some (bearsErr b c p t l) := by
 unfold ref06_CheckBearers bearsErr
 by_cases h8 : (8 : Int) < l.length
 · rw [j4 (by simpa using h8), if_pos h8]
 rw [j2 (by simpa using h8), if_neg h8]
 simp only [jn]
 have hend : B7 t l 0 l = none → (bnd (ref06_Fit N b c p t l) fun x3 => br (!x3) (some ((0 : Int), (16 : Int))) (some ((0 : Int), (0 : Int)))) = some (0, if fitB b c p t l = true then 0 else 16) := fun h => by
  rw [Fit_eq hM ht l (by omega) (bearsE_none l 0 h)]
  simp only [f6]
  cases fitB b c p t l <;> rfl
 refine (u1 (fun s : Int => ∃ k : Nat, k ≤ l.length ∧ s = (k : Int) ∧ B7 t l k (l.drop k) = B7 t l 0 l) (fun s => l.length - s.toNat)
  (fun _ => some (match B7 t l 0 l with | some r => r | none => (0, if fitB b c p t l = true then 0 else 16))) (fun rec s hI hrec => ?_) N 0 ⟨0, Nat.zero_le _, rfl, by rw [List.drop_zero]⟩ (by simp; omega))
 obtain ⟨k, hk, rfl, hE⟩ := hI
 simp only [ref06_CheckBearers.b1]
 by_cases hkl : k < l.length
 ·
  rw [List.drop_eq_getElem_cons hkl, B7] at hE
  rw [j4 (by simpa using hkl), f5 (by omega)]
  simp only [Int.toNat_natCast, j6 hkl]
  rw [BearerErr_eq hM h4 b c p t htl _ _ _ _ _ _ _ _ _ fun x hx => (ht x hx).1]
  simp only [f6]
  show br (k4 t l[k] != 0) _ _ = _
  by_cases h1 : k4 t l[k] = 0
  ·
   rw [if_neg (by simpa using h1)] at hE
   rw [j2 (by simpa using h1), f5 (by omega), f5 (by omega), find_eq hM _ (by simp; omega)]
   simp only [f6, findB_nonneg]
   by_cases h2 : B5 (l.take k) l[k].1 = true
   ·
    rw [if_pos h2] at hE
    rw [← hE, j4 h2]
   ·
    rw [if_neg h2] at hE
    rw [j2 (by simpa using h2), k5 (by omega)]
    exact hrec _ ⟨k + 1, hkl, rfl, hE⟩ (by simp only [Int.toNat_natCast]; omega)
  ·
   rw [if_pos h1] at hE
   rw [← hE, j4 (by simpa using h1)]
 ·
  have : k = l.length := by omega
  subst this
  rw [List.drop_length, B7] at hE
  rw [j2 (by simp), hend hE.symm, ← hE]
def bothErr (b c p : Int) (t : List Int) (l : List j5) : Int × Int := if v5 b c p t ≠ 0 then (0, v5 b c p t) else bearsErr b c p t l
theorem CheckBearers_eq {N : Nat} (hM : N ≤ 20000) (h4 : 16 < N) (b c p : Int) (t : List Int) (l : List j5) (hn : ∀ x ∈ l, x.1.size < N) : q0 N b c p t l = some (bothErr b c p t l) := by
 unfold q0 sched_open bothErr
 rw [CheckSite_eq hM h4]
 simp only [f6]
 by_cases h : v5 b c p t = 0
 ·
  obtain ⟨h1, h2, h3, _, h5, h6⟩ := B0 h
  rw [j2 (by simpa using h), if_neg (by simpa using h), bearersErr_eq hM h4 (by omega) (by omega) (by omega) h6 (by omega) l hn]
  rfl
 · rw [j4 (by simpa using h), if_pos h]
theorem openAll_eq {N : Nat} (hM : N ≤ 20000) (h4 : 16 < N) (b c p : Int) (t : List Int) (l : List j5) (hn : ∀ x ∈ l, x.1.size < N) : t5 N b c p t l = some (b, c, p, t, (bothErr b c p t l).2) := by
 unfold t5
 rw [CheckBearers_eq hM h4 b c p t l hn]
 rfl
theorem bothErr_zero {b c p : Int} {t : List Int} {l : List j5} (h : (bothErr b c p t l).2 = 0) : v5 b c p t = 0 ∧ l.length ≤ 8 ∧ (∀ x ∈ l, k4 t x = 0) ∧ fitB b c p t l = true := by
 unfold bothErr at h
 by_cases hs : v5 b c p t = 0
 ·
  rw [if_neg (by simpa using hs)] at h
  unfold bearsErr at h
  by_cases h8 : (8 : Int) < l.length
  · rw [if_pos h8] at h; exact absurd h (by decide)
  ·
   rw [if_neg h8] at h
   rcases hq : B7 t l 0 l with _ | r
   ·
    rw [hq] at h
    refine ⟨hs, by omega, bearsE_none l 0 hq, ?_⟩
    cases hf : fitB b c p t l
    · rw [hf] at h; exact absurd h (by decide)
    · rfl
   ·
    rw [hq] at h
    exfalso
    have : ∀ (s : List j5) (k : Nat), B7 t l k s = some r → r.2 ≠ 0 := by
     intro s
     induction s with
     | nil => intro k hk; simp [B7] at hk
     | cons y s ih =>
      intro k hk
      rw [B7] at hk
      by_cases h1 : k4 t y = 0
      ·
       rw [if_neg (by simpa using h1)] at hk
       by_cases h2 : B5 (l.take k) y.1 = true
       ·
        rw [if_pos h2] at hk
        simp only [Option.some.injEq] at hk
        rw [← hk]; show (5 : Int) ≠ 0; decide
       · rw [if_neg h2] at hk; exact ih _ hk
      ·
       rw [if_pos h1] at hk
       simp only [Option.some.injEq] at hk
       rw [← hk]; exact h1
    exact this l 0 hq h
 · rw [if_pos hs] at h; exact absurd h hs
theorem BothErr_eq {N : Nat} (hM : N ≤ 20000) (h4 : 16 < N) (b c p : Int) (t : List Int) (l : List j5) : F0 N b c p t l = some (bothErr b c p t l).2 := by
 unfold F0 bothErr
 rw [SiteErr_eq hM h4]
 simp only [f6]
 by_cases h : v5 b c p t = 0
 ·
  obtain ⟨h1, h2, h3, _, h5, h6⟩ := B0 h
  rw [j2 (by simpa using h), if_neg (by simpa using h), RefBearers_eq hM h4 h6 (by omega)]
  rfl
 · rw [j4 (by simpa using h), if_pos h]
theorem Few_true {N : Nat} (hM : N ≤ 20000) (h4 : 24 < N) {b c p : Int} {t : List Int} {l : List j5} {r : Bool} (h : law06_Few N b c p t l = some r) : r = true → t.length ≤ 18 ∧ l.length ≤ 10 ∧ ∀ x ∈ l, x.1.size ≤ 20 := by
 unfold law06_Few at h
 intro hr
 subst hr
 by_cases h1 : (((decide ((t.length : Int) > (18 : Int))) || ((decide ((l.length : Int) > (6 : Int))) && (decide ((l.length : Int) < (8 : Int))))) || (decide ((l.length : Int) > (10 : Int)))) = true
 · rw [j4 h1] at h; simp at h
 ·
  rw [j2 (by simpa using h1)] at h
  have h1' : ¬ ((t.length : Int) > 18) ∧ ¬ ((l.length : Int) > 10) := by
   simp only [Bool.or_eq_true, Bool.and_eq_true, decide_eq_true_eq] at h1
   omega
  simp only [jn] at h
  rw [rds_scan l default (fun x => decide ((x.1.size : Int) > 20)) (some false) (some true) _ (fun k rec hk => ?_) (fun rec => ?_) (by omega)] at h
  ·
   refine ⟨by omega, by omega, fun x hx => ?_⟩
   by_cases h2 : (l.any fun x => decide ((x.1.size : Int) > 20)) = true
   · rw [if_pos h2] at h; simp at h
   ·
    rw [Bool.not_eq_true, List.any_eq_false] at h2
    have := h2 x hx
    simp only [decide_eq_true_eq] at this
    omega
  ·
   simp only [law06_Few.b1]
   rw [j4 (by simpa using hk), f5 (by omega), k5 (by omega)]
   simp only [Int.toNat_natCast]
   rfl
  ·
   simp only [law06_Few.b1]
   rw [j2 (by simp)]
theorem Few_some {N : Nat} (hM : N ≤ 20000) (h4 : 24 < N) (b c p : Int) (t : List Int) (l : List j5) : ∃ r, law06_Few N b c p t l = some r := by
 unfold law06_Few
 by_cases h1 : (((decide ((t.length : Int) > (18 : Int))) || ((decide ((l.length : Int) > (6 : Int))) && (decide ((l.length : Int) < (8 : Int))))) || (decide ((l.length : Int) > (10 : Int)))) = true
 · rw [j4 h1]; exact ⟨_, rfl⟩
 ·
  rw [j2 (by simpa using h1)]
  have h1' : ¬ ((l.length : Int) > 10) := by
   simp only [Bool.or_eq_true, Bool.and_eq_true, decide_eq_true_eq] at h1
   omega
  simp only [jn]
  rw [rds_scan l default (fun x => decide ((x.1.size : Int) > 20)) (some false) (some true) _ (fun k rec hk => ?_) (fun rec => ?_) (by omega)]
  ·
   by_cases h2 : (l.any fun x => decide ((x.1.size : Int) > 20)) = true
   · rw [if_pos h2]; exact ⟨_, rfl⟩
   · rw [if_neg h2]; exact ⟨_, rfl⟩
  ·
   simp only [law06_Few.b1]
   rw [j4 (by simpa using hk), f5 (by omega), k5 (by omega)]
   simp only [Int.toNat_natCast]
   rfl
  ·
   simp only [law06_Few.b1]
   rw [j2 (by simp)]
theorem Copy_eq (N : Nat) (b c p : Int) {t : List Int} (h : t.length ≤ 1000000) : ref06_Copy N b c p t = some (b, c, p, t) := by
 unfold ref06_Copy q7
 rw [f5 (by simp; omega)]; rfl
theorem CopyInts_eq (N : Nat) {t : List Int} (h : t.length ≤ 1000000) : q7 N t = some t := by
 unfold q7
 rw [f5 (by simp; omega)]; rfl
theorem CopyBearers_eq (N : Nat) {l : List j5} (h : l.length ≤ 1000000) : w7 N l = some l := by
 unfold w7
 rw [f5 (by omega)]
end Go.Sh

/-
 The laws of bearers and of delays, of contracts: what the shallow functions come to.
-/
namespace Go.Sh
open Go.PW

def oneErr (b c p : Int) (t : List Int) (x : j5) : Int := if v5 b c p t ≠ 0 then v5 b c p t else k4 t x
theorem openBearer_eq {N : Nat} (hM : N ≤ 20000) (h4 : 16 < N) (b c p : Int) (t : List Int) (x : j5) (hn : x.1.size < N) :
  q3 N b c p t x.1 x.2.1 x.2.2.1 x.2.2.2.1 x.2.2.2.2.1 x.2.2.2.2.2.1 x.2.2.2.2.2.2.1 x.2.2.2.2.2.2.2.1 x.2.2.2.2.2.2.2.2 = some (b, c, p, t, oneErr b c p t x) := by
 unfold q3 sched_open oneErr
 rw [CheckSite_eq hM h4]
 simp only [f6]
 by_cases h : v5 b c p t = 0
 ·
  obtain ⟨h1, h2, h3, _, h5, h6⟩ := B0 h
  rw [j2 (by simpa using h), if_neg (by simpa using h), bearerErr_eq hM h4 b c p t (by omega) _ _ _ _ _ _ _ _ _ hn]
  rfl
 · rw [j4 (by simpa using h), if_pos h]
theorem oneErr_zero {b c p : Int} {t : List Int} {x : j5} (h : oneErr b c p t x = 0) : v5 b c p t = 0 ∧ k4 t x = 0 := by
 unfold oneErr at h
 by_cases hs : v5 b c p t = 0
 · rw [if_neg (by simpa using hs)] at h; exact ⟨hs, h⟩
 · rw [if_pos hs] at h; exact absurd h hs
end Go.Sh

/-
 The law of delays: what the shallow functions come to.
-/
namespace Go.Sh
open Go.PW

end Go.Sh

/-
 The law of contracts: what the shallow functions come to.
-/
namespace Go.Sh
open Go.PW

def innB (R : Int) : Int → Int → List Int → Option Nat
 | _, _, [] => none
 | s, m, x :: l => if s + x > m then some 0 else (innB R (s + x) (m + R) l).map (· + 1)
def outB (B R : Int) : Nat → List Int → Option (Nat × Nat)
 | _, [] => none
 | i, x :: l => match innB R 0 B (x :: l) with
  | some j => some (i, i + j)
  | none => outB B R (i + 1) l
def okArr (l : List Int) : Prop := ∀ x ∈ l, (0 : Int) ≤ x ∧ x ≤ 1000000
theorem okArr_get {l : List Int} (h : okArr l) {k : Nat} (hk : k < l.length) : 0 ≤ l[k] ∧ l[k] ≤ 1000000 := h _ (List.getElem_mem hk)

theorem anyOut_eq {N : Nat} (hM : N ≤ 20000) (l : List Int) (hl : l.length < N) : l3 N l (fun y0 => v6 N y0) = some (l.any fun x => !(inB x 0 1000000)) := by
 unfold l3 slices_IndexFunc_ii
 simp only [jn]
 have h := u1 (b := slices_IndexFunc_ii.b1 N l (fun y0 => v6 N y0) (fun _ => some (-1 : Int))) (fun s : Int => ∃ k : Nat, k ≤ l.length ∧ s = (k : Int)) (fun s => l.length - s.toNat)
  (fun s => some (if (l.drop s.toNat).any (fun x => !(inB x 0 1000000)) = true then s + ((l.drop s.toNat).findIdx fun x => !(inB x 0 1000000) : Nat) else -1)) (fun rec s hI hrec => ?_) N 0 ⟨0, Nat.zero_le _, rfl⟩ (by simp; omega)
 ·
  rw [h]
  simp only [f6, Option.some.injEq, Int.toNat_zero, List.drop_zero]
  cases l.any fun x => !(inB x 0 1000000) <;> simp
 ·
  obtain ⟨k, hk, rfl⟩ := hI
  simp only [slices_IndexFunc_ii.b1, v6, within_eq, f6, Int.toNat_natCast]
  by_cases hkl : k < l.length
  ·
   rw [j4 (by simpa using hkl), f5 (by omega), List.drop_eq_getElem_cons hkl, k5 (by omega), hrec _ ⟨k + 1, hkl, rfl⟩ (by simp only [Int.toNat_natCast]; omega)]
   simp only [j6 hkl, List.any_cons, List.findIdx_cons, Int.toNat_natCast]
   cases hq : !(inB l[k] 0 1000000)
   ·
    simp only [w5, Bool.false_or, cond_false]
    rw [show ∀ m : Nat, ((k + 1 : Nat) : Int) + (m : Int) = (k : Int) + ((m + 1 : Nat) : Int) from fun m => by omega]
   · simp [br]
  ·
   have : k = l.length := by omega
   subst this
   rw [j2 (by simp)]
   simp
def arrErr (l : List Int) : Int := if (60 : Int) < l.length then 8 else if l.any (fun x => !(inB x 0 1000000)) = true then 2 else 0
theorem arrErr_zero {l : List Int} (h : arrErr l = 0) : l.length ≤ 60 ∧ okArr l := by
 unfold arrErr at h
 by_cases h1 : (60 : Int) < l.length
 · rw [if_pos h1] at h; exact absurd h (by decide)
 ·
  rw [if_neg h1] at h
  by_cases h2 : l.any (fun x => !(inB x 0 1000000)) = true
  · rw [if_pos h2] at h; exact absurd h (by decide)
  ·
   rw [Bool.not_eq_true, List.any_eq_false] at h2
   refine ⟨by omega, fun x hx => ?_⟩
   have := h2 x hx
   simp only [Bool.not_eq_true', Bool.not_eq_false] at this
   exact A8.1 this
theorem inner_eq {N : Nat} (hM : N ≤ 20000) {R B : Int} (hR : 0 ≤ R ∧ R ≤ 1000000) (hB : 0 ≤ B ∧ B ≤ 1000000) (a : List Int) (ha : okArr a) (hl : a.length ≤ 60) (hN : 60 < N) (i : Nat) (hi : i ≤ a.length) (K : Unit → Option (Int × Int × Int)) :
  rds (B3 N R a (i : Int) K) N (0, B, 0) = match innB R 0 B (a.drop i) with
   | some j => some ((i : Int), ((i + j : Nat) : Int), 0)
   | none => K () := by
 have e : (a.drop i).take (a.length - i) = a.drop i := List.take_of_length_le (by simp)
 refine (u1 (fun s : Int × Int × Int => ∃ k : Nat, k + i ≤ a.length ∧ s.2.2 = (k : Int) ∧ (0 ≤ s.1 ∧ s.1 ≤ 1000000 * k) ∧ (0 ≤ s.2.1 ∧ s.2.1 ≤ 1000000 * (k + 1))) (fun s => a.length - s.2.2.toNat)
  (fun s => match innB R s.1 s.2.1 (a.drop (i + s.2.2.toNat)) with | some j => some ((i : Int), ((i + (s.2.2.toNat + j) : Nat) : Int), 0) | none => K ()) (fun rec s hI hrec => ?_) N (0, B, 0) ⟨0, by omega, rfl, by simp, by simp; omega⟩ (by simp; omega)).trans (by simp)
 obtain ⟨k, hk, hs, h1, h2⟩ := hI
 obtain ⟨s, m, z⟩ := s
 simp only at hs h1 h2
 subst hs
 simp only [B3, Int.toNat_natCast, e, List.length_drop]
 by_cases hkl : k + i < a.length
 ·
  have hkd : k < (a.drop i).length := by simp; omega
  have hge := okArr_get ha hkl
  have hgk : (a.drop i).getD k 0 = a[k + i] := by rw [j6 hkd]; simp [Nat.add_comm]
  rw [j4 (by simp; omega), f5 (by omega), hgk, n9 (n := s + a[k + i]) (by omega)]
  have hd : a.drop (i + k) = a[k + i] :: a.drop (i + (k + 1)) := by
   rw [List.drop_eq_getElem_cons (by omega)]
   simp only [Nat.add_comm i k, Nat.add_assoc]
   congr 2; omega
  rw [hd, innB]
  by_cases h3 : s + a[k + i] > m
  · rw [j4 (by simpa using h3), if_pos h3, n9 (by omega)]; simp
  ·
   rw [j2 (by simpa using h3), if_neg h3, n9 (by omega), k5 (by omega)]
   rw [hrec _ ⟨k + 1, by omega, rfl, by simp only; omega, by simp only; omega⟩ (by simp only [Int.toNat_natCast]; omega)]
   simp only [Int.toNat_natCast]
   cases innB R (s + a[k + i]) (m + R) (a.drop (i + (k + 1))) with
   | none => rfl
   | some j => simp only [Option.map_some]; congr 3; omega
 ·
  rw [j2 (by simp; omega)]
  rw [List.drop_eq_nil_of_le (by omega), innB]
theorem outer_eq {N : Nat} (hM : N ≤ 20000) {R B : Int} (hR : 0 ≤ R ∧ R ≤ 1000000) (hB : 0 ≤ B ∧ B ≤ 1000000) (a : List Int) (ha : okArr a) (hl : a.length ≤ 60) (hN : 60 < N) (K : Unit → Option (Int × Int × Int)) :
  rds (sched_Breaks.b1 N B R a K) N 0 = match outB B R 0 a with
   | some r => some ((r.1 : Int), (r.2 : Int), 0)
   | none => K () := by
 refine (rds_up1 a.length _ (fun k => match outB B R k (a.drop k) with | some r => some ((r.1 : Int), (r.2 : Int), 0) | none => K ()) (fun k rec hk hr => ?_) (fun rec => ?_) (by omega)).trans (by simp)
 ·
  simp only [sched_Breaks.b1, jn]
  rw [j4 (by simpa using hk), f5 (by omega), inner_eq hM hR hB a ha hl hN k (by omega), k5 (by omega), hr]
  rw [List.drop_eq_getElem_cons hk, outB]
  cases innB R 0 B (a[k] :: a.drop (k + 1)) <;> rfl
 ·
  simp only [sched_Breaks.b1, jn]
  rw [j2 (by simp)]
  simp [outB]
def breakErr (b c p : Int) (t : List Int) (x : j5) (a : List Int) : Int :=
 if oneErr b c p t x ≠ 0 then oneErr b c p t x else if x.2.1 = 0 then 15 else arrErr a
theorem Breaks_eq {N : Nat} (hM : N ≤ 20000) (hN : 62 < N) (b c p : Int) (t : List Int) (x : j5) (hn : x.1.size < N) (a : List Int) (hl : a.length ≤ 62) :
  sched_Breaks N b c p t x.1 x.2.1 x.2.2.1 x.2.2.2.1 x.2.2.2.2.1 x.2.2.2.2.2.1 x.2.2.2.2.2.2.1 x.2.2.2.2.2.2.2.1 x.2.2.2.2.2.2.2.2 a =
   some (if breakErr b c p t x a ≠ 0 then (0, 0, breakErr b c p t x a) else match outB x.2.2.2.2.2.2.1 x.2.2.2.2.2.2.2.1 0 a with
    | some r => ((r.1 : Int), (r.2 : Int), 0)
    | none => (0, 0, 12)) := by
 unfold sched_Breaks l9
 rw [openBearer_eq hM (by omega) b c p t x hn]
 simp only [f6, unless_eq, jn]
 rw [anyOut_eq hM a (by omega)]
 simp only [f6, unless_eq]
 rw [first_eq hM _ (by simp; omega)]
 simp only [f6, firstE]
 by_cases h1 : oneErr b c p t x = 0
 ·
  by_cases h2 : x.2.1 = 0
  ·
   have hd : breakErr b c p t x a = 15 := by unfold breakErr; rw [if_neg (by simpa using h1), if_pos h2]
   rw [hd]; simp [h1, h2, br]
  ·
   have hd : breakErr b c p t x a = arrErr a := by unfold breakErr; rw [if_neg (by simpa using h1), if_neg h2]
   rw [hd]
   by_cases h3 : arrErr a = 0
   ·
    obtain ⟨h5, h6⟩ := arrErr_zero h3
    obtain ⟨g1, g2⟩ := oneErr_zero h1
    obtain ⟨_, b1, b2, b3⟩ := r9 g2
    obtain ⟨c1, c2, c3, c4, c5⟩ := b3 h2
    have h7 : (a.any fun x => !(inB x 0 1000000)) = false := by
     rw [List.any_eq_false]
     intro y hy
     simp [A8.2 (h6 y hy)]
    rw [h3]
    simp only [h1, show (x.2.1 != 0) = true by simpa using h2, h7, show decide ((a.length : Int) ≤ 60) = true by simp; omega, if_true, ne_eq, not_true_eq_false, if_false, bne_self_eq_false, w5, Bool.not_false]
    rw [outer_eq hM (by omega) (by omega) a h6 h5 (by omega)]
    cases outB x.2.2.2.2.2.2.1 x.2.2.2.2.2.2.2.1 0 a <;> rfl
   ·
    rw [if_pos h3]
    unfold arrErr at h3 ⊢
    by_cases h5 : (60 : Int) < a.length
    · simp [h1, h2, h5, br, show ¬ ((a.length : Int) ≤ 60) by omega]
    ·
     rw [if_neg h5] at h3 ⊢
     by_cases h6 : (a.any fun x => !(inB x 0 1000000)) = true
     ·
      rw [if_pos h6]
      simp only [h1, h6, show (x.2.1 != 0) = true by simpa using h2, show decide ((a.length : Int) ≤ 60) = true by simp; omega, if_true, ne_eq, not_true_eq_false, if_false, Bool.not_true, Bool.false_eq_true]
      rfl
     · rw [if_neg h6] at h3; exact absurd rfl h3
 ·
  have hd : breakErr b c p t x a = oneErr b c p t x := by unfold breakErr; rw [if_pos h1]
  rw [hd]; simp [h1, br]
end Go.Sh

/-
 Small cases: their errors, choices, and the least total of one.
-/
namespace Go.Sh
open Go.PW

structure Case (r : List (List Int)) (n m : Nat) : Prop where
 len : r.length = n
 n1 : 1 ≤ n
 n6 : n ≤ 6
 m1 : 1 ≤ m
 m4 : m ≤ 4
 head : (r.getD 0 default).length = m
 row : ∀ x ∈ r, x.length = m ∧ okArr x
theorem map_getD {α : Type} (d : α) (r : List α) : ((List.range r.length).map fun k => r.getD k d) = r := by
 apply List.ext_getElem (by simp)
 intro i h1 h2
 simp only [List.getElem_map, List.getElem_range]
 rw [j6 h2]
end Go.Sh

/-
 The least total of a choice: totals, their least one, and what weights say about them.
-/
namespace Go.Sh
open Go.PW

structure VT (n m : Nat) (t : List Int) : Prop where
 len : t.length = n
 ok : ∀ x ∈ t, (0 : Int) ≤ x ∧ x < (m : Int)
theorem VT.get {n m : Nat} {t : List Int} (h : VT n m t) {k : Nat} (hk : k < n) : (0 : Int) ≤ t.getD k 0 ∧ t.getD k 0 < (m : Int) := by
 have hk' : k < t.length := by rw [h.len]; exact hk
 rw [j6 hk']; exact h.ok _ (List.getElem_mem hk')
def gT (r : List (List Int)) (k u : Nat) : Int := (r.getD k default).getD u 0
theorem Case.g {r : List (List Int)} {n m : Nat} (c : Case r n m) {k u : Nat} (hk : k < n) (hu : u < m) : 0 ≤ gT r k u ∧ gT r k u ≤ 1000000 := by
 have hk' : k < r.length := by rw [c.len]; exact hk
 have hr := c.row _ (List.getElem_mem hk')
 unfold gT
 rw [j6 hk', j6 (by rw [hr.1]; exact hu)]
 exact hr.2 _ (List.getElem_mem _)
def sumN (f : Nat → Int) : Nat → Int
 | 0 => 0
 | k + 1 => sumN f k + f k
end Go.Sh

/-
 All choices of a small case, one behind the other, and the best one.
-/
namespace Go.PW
end Go.PW
namespace Go.Sh
open Go.PW

theorem VT.set {n m : Nat} {t : List Int} (v : VT n m t) {k : Nat} {x : Int} (hx : 0 ≤ x ∧ x < (m : Int)) : VT n m (t.set k x) := by
 refine ⟨by rw [List.length_set]; exact v.len, fun y hy => ?_⟩
 rcases List.mem_or_eq_of_mem_set hy with h | rfl
 · exact v.ok _ h
 · exact hx
end Go.Sh

/-
 A slot of a run, told as a function of the users.
-/
namespace Go.PW
theorem getD_set' {α : Type} (d : α) {b : List α} {i j : Nat} {v : α} (hi : i < b.length) : (b.set i v).getD j d = if i = j then v else b.getD j d := by
 simp only [List.getD_eq_getElem?_getD, List.getElem?_set]
 by_cases h : i = j
 · subst h; simp [hi]
 · simp [h]
def eachL {α β : Type} (d : α) (f : Nat → α → β) (us : List α) : List β := (List.range us.length).map fun k => f k (us.getD k d)
theorem eachL_length {α β : Type} (d : α) (f : Nat → α → β) (us : List α) : (eachL d f us).length = us.length := by simp [eachL]
theorem eachL_getD {α β : Type} (d : α) (e : β) (f : Nat → α → β) (us : List α) {k : Nat} (h : k < us.length) : (eachL d f us).getD k e = f k (us.getD k d) := by
 simp only [eachL, List.getD_eq_getElem?_getD, List.getElem?_map, List.getElem?_range h]; rfl
theorem getD_ext {α : Type} (d : α) {a b : List α} (hl : a.length = b.length) (h : ∀ k, k < a.length → a.getD k d = b.getD k d) : a = b := by
 refine List.ext_getElem hl fun i h1 h2 => ?_
 have := h i h1
 simpa [List.getD_eq_getElem?_getD, h1, h2] using this
theorem rds_each {α R : Type} (d : α) (f : Nat → α → α) (us : List α) (b : (Int × List α → Option R) → Int × List α → Option R) (K : List α → Option R)
  (hstep : ∀ k s rec, k < us.length → s.length = us.length → s.getD k d = us.getD k d → b rec ((k : Int), s) = rec (((k + 1 : Nat) : Int), s.set k (f k (us.getD k d))))
  (hend : ∀ s rec, s.length = us.length → b rec ((us.length : Int), s) = K s) {N : Nat} (hN : us.length < N) : rds b N (0, us) = K (eachL d f us) := by
 refine u1 (fun s : Int × List α => ∃ k : Nat, k ≤ us.length ∧ s.1 = (k : Int) ∧ s.2.length = us.length ∧ (∀ j, j < k → s.2.getD j d = f j (us.getD j d)) ∧ ∀ j, k ≤ j → s.2.getD j d = us.getD j d) (fun s => us.length - s.1.toNat) (fun _ => K (eachL d f us)) (fun rec s hI hrec => ?_) N (0, us)
  ⟨0, Nat.zero_le _, rfl, rfl, fun j h => by omega, fun j _ => rfl⟩ (by simp; omega)
 obtain ⟨i, s⟩ := s
 obtain ⟨k, hk, hi, hl, h1, h2⟩ := hI
 simp only at hi hl h1 h2
 subst hi
 by_cases hkl : k < us.length
 ·
  rw [hstep k s rec hkl hl (h2 k (Nat.le_refl _))]
  refine hrec _ ⟨k + 1, hkl, rfl, by simp only [List.length_set]; exact hl, fun j hj => ?_, fun j hj => ?_⟩ (by simp only [Int.toNat_natCast]; omega)
  ·
   simp only
   rw [getD_set' d (by omega)]
   by_cases e : k = j
   · rw [if_pos e, e]
   · rw [if_neg e]; exact h1 j (by omega)
  ·
   simp only
   rw [getD_set' d (by omega), if_neg (by omega)]; exact h2 j (by omega)
 ·
  have : k = us.length := by omega
  subst this
  rw [hend s rec hl]
  congr 1
  refine getD_ext d (by rw [hl, eachL_length]) fun j hj => ?_
  rw [h1 j (by omega), eachL_getD d d f us (by omega)]
theorem rds_each2 {α β R : Type} (d : α) (f : Nat → α → α) (g : Nat → α → β) (us : List α) (b : (Int × List α × List β → Option R) → Int × List α × List β → Option R) (K : List α × List β → Option R)
  (hstep : ∀ k s a rec, k < us.length → s.length = us.length → a.length = k → s.getD k d = us.getD k d → b rec ((k : Int), s, a) = rec (((k + 1 : Nat) : Int), s.set k (f k (us.getD k d)), a ++ [g k (us.getD k d)]))
  (hend : ∀ s a rec, s.length = us.length → b rec ((us.length : Int), s, a) = K (s, a)) {N : Nat} (hN : us.length < N) : rds b N (0, us, []) = K (eachL d f us, eachL d g us) := by
 refine u1 (fun s : Int × List α × List β => ∃ k : Nat, k ≤ us.length ∧ s.1 = (k : Int) ∧ s.2.1.length = us.length ∧ (∀ j, j < k → s.2.1.getD j d = f j (us.getD j d)) ∧ (∀ j, k ≤ j → s.2.1.getD j d = us.getD j d) ∧ s.2.2 = (List.range k).map fun k => g k (us.getD k d)) (fun s => us.length - s.1.toNat)
  (fun _ => K (eachL d f us, eachL d g us)) (fun rec s hI hrec => ?_) N (0, us, []) ⟨0, Nat.zero_le _, rfl, rfl, fun j h => by omega, fun j _ => rfl, rfl⟩ (by simp; omega)
 obtain ⟨i, s, a⟩ := s
 obtain ⟨k, hk, hi, hl, h1, h2, h3⟩ := hI
 simp only at hi hl h1 h2 h3
 subst hi h3
 by_cases hkl : k < us.length
 ·
  rw [hstep k s _ rec hkl hl (by simp) (h2 k (Nat.le_refl _))]
  refine hrec _ ⟨k + 1, hkl, rfl, by simp only [List.length_set]; exact hl, fun j hj => ?_, fun j hj => ?_, by simp [List.range_succ]⟩ (by simp only [Int.toNat_natCast]; omega)
  ·
   simp only
   rw [getD_set' d (by omega)]
   by_cases e : k = j
   · rw [if_pos e, e]
   · rw [if_neg e]; exact h1 j (by omega)
  ·
   simp only
   rw [getD_set' d (by omega), if_neg (by omega)]; exact h2 j (by omega)
 ·
  have : k = us.length := by omega
  subst this
  rw [hend s _ rec hl]
  congr 2
  refine getD_ext d (by rw [hl, eachL_length]) fun j hj => ?_
  rw [h1 j (by omega), eachL_getD d d f us (by omega)]
end Go.PW
namespace Go.Sh
open Go.PW

abbrev U := ByteArray × Int × Int × Int × Int × Int × Int × Int × Int × Int × Int × Int × Int × Int
def mkU (x : j5) (n w s r b : Int) : U := (x.1, x.2.1, x.2.2.1, x.2.2.2.1, x.2.2.2.2.1, x.2.2.2.2.2.1, x.2.2.2.2.2.2.1, x.2.2.2.2.2.2.2.1, x.2.2.2.2.2.2.2.2, n, w, s, r, b)
def uX (u : U) : j5 := (u.1, u.2.1, u.2.2.1, u.2.2.2.1, u.2.2.2.2.1, u.2.2.2.2.2.1, u.2.2.2.2.2.2.1, u.2.2.2.2.2.2.2.1, u.2.2.2.2.2.2.2.2.1)
def uK (u : U) : Int := u.2.1
def uG (u : U) : Int := u.2.2.2.1
def uP (u : U) : Int := u.2.2.2.2.1
def uN (u : U) : Int := u.2.2.2.2.2.2.2.2.2.1
def uW (u : U) : Int := u.2.2.2.2.2.2.2.2.2.2.1
def uS (u : U) : Int := u.2.2.2.2.2.2.2.2.2.2.2.1
def uR (u : U) : Int := u.2.2.2.2.2.2.2.2.2.2.2.2.1
def uB (u : U) : Int := u.2.2.2.2.2.2.2.2.2.2.2.2.2
def startU (rate arr : Int) (u : U) : U :=
 mkU (uX u) (uN u) (uW u + arr) (uS u) rate (if uK u ≠ 0 ∧ 0 < rate then (if C2 (uW u + arr) rate < uN u then C2 (uW u + arr) rate else uN u) else 0)
def takeU (u : U) : Int := if uB u * uR u < uW u then uB u * uR u else uW u
def endU (u : U) : U := mkU (uX u) (uN u) (uW u - takeU u) (uS u + takeU u) (uR u) (uB u)
def incU (u : U) : U := mkU (uX u) (uN u) (uW u) (uS u) (uR u) (uB u + 1)
structure OkU (u : U) : Prop where
 b0 : 0 ≤ uB u
 b1 : uB u ≤ 1000000
 p0 : 0 ≤ uP u
 p1 : uP u ≤ 100000
 w0 : 0 ≤ uW u
 w1 : uW u ≤ 1000000000
 s0 : 0 ≤ uS u
 s1 : uS u ≤ 1000000000
 r0 : 0 ≤ uR u
 r1 : uR u ≤ 1000
 g0 : 1 ≤ uG u
 g1 : uG u ≤ 100
theorem OkU.prod {u : U} (h : OkU u) : (0 ≤ uB u * uR u ∧ uB u * uR u ≤ 1000000000) ∧ (0 ≤ uB u * uP u ∧ uB u * uP u ≤ 100000000000) :=
 ⟨⟨Int.mul_nonneg h.b0 h.r0, Int.le_trans (Int.mul_le_mul h.b1 h.r1 h.r0 (by omega)) (by omega)⟩, ⟨Int.mul_nonneg h.b0 h.p0, Int.le_trans (Int.mul_le_mul h.b1 h.p1 h.p0 (by omega)) (by omega)⟩⟩
theorem OkU.take {u : U} (h : OkU u) : 0 ≤ takeU u ∧ takeU u ≤ uW u := by
 have := h.prod; have := h.w0
 unfold takeU; split <;> omega
def j9 : List U → Int × Int × Int
 | [] => (0, 0, 0)
 | u :: l => (uB u + (j9 l).1, (if 0 < uB u then 1 else 0) + (j9 l).2.1, uB u * uP u + (j9 l).2.2)
theorem usedU_snoc (u : U) : ∀ l : List U, j9 (l ++ [u]) = ((j9 l).1 + uB u, (j9 l).2.1 + (if 0 < uB u then 1 else 0), (j9 l).2.2 + uB u * uP u)
 | [] => by simp [j9]
 | y :: l => by rw [List.cons_append, j9, usedU_snoc u l, j9]; simp only [Int.add_assoc]
theorem usedU_bounds : ∀ {l : List U}, (∀ u ∈ l, OkU u) → (0 ≤ (j9 l).1 ∧ (j9 l).1 ≤ 1000000 * (l.length : Int)) ∧ (0 ≤ (j9 l).2.1 ∧ (j9 l).2.1 ≤ (l.length : Int)) ∧ (0 ≤ (j9 l).2.2 ∧ (j9 l).2.2 ≤ 100000000000 * (l.length : Int))
 | [], _ => by simp [j9]
 | u :: l, h => by
  have h1 := h u (by simp)
  have h3 := h1.prod; have h4 := h1.b0; have h5 := h1.b1
  have h2 := usedU_bounds (l := l) fun x hx => h x (by simp [hx])
  simp only [j9, List.length_cons]
  split <;> omega
theorem left_eq {N : Nat} {b c p : Int} (hb : 0 ≤ b ∧ b ≤ 1000000) (hc : 0 ≤ c ∧ c ≤ 1000000) (hp : 0 ≤ p ∧ p ≤ 1000000) (t : List Int) (l : List U) (hl : l.length ≤ 8) (hN : 62 < N) (h : ∀ x ∈ l, OkU x) :
  sched_run_left N b c p t l = some (b - (j9 l).1, c - (j9 l).2.1, p - (j9 l).2.2) := by
 unfold sched_run_left
 simp only [jn]
 refine u1 (fun s : Int × Int × Int × Int => ∃ k : Nat, k ≤ l.length ∧ s = ((k : Int), b - (j9 (l.take k)).1, c - (j9 (l.take k)).2.1, p - (j9 (l.take k)).2.2)) (fun s => l.length - s.1.toNat)
  (fun _ => some (b - (j9 l).1, c - (j9 l).2.1, p - (j9 l).2.2)) (fun rec s hI hrec => ?_) N _ ⟨0, Nat.zero_le _, by simp [j9]⟩ (by simp; omega)
 obtain ⟨k, hk, rfl⟩ := hI
 simp only [sched_run_left.b1]
 by_cases hkl : k < l.length
 ·
  have hx : OkU l[k] := h _ (List.getElem_mem hkl)
  have h1 := hx.prod; have h4 := hx.b0; have h5 := hx.b1
  have h2 := usedU_bounds (l := l.take k) fun x hx => h x (List.mem_of_mem_take hx)
  have hlen : (l.take k).length = k := by simp; omega
  rw [hlen] at h2
  rw [j4 (by simpa using hkl), f5 (by omega)]
  simp only [Int.toNat_natCast, j6 hkl]
  have es := take_snoc l hkl
  have eu := usedU_snoc l[k] (l.take k)
  rw [← es] at eu
  have k1 : b - (j9 (l.take k)).1 - uB l[k] = b - (j9 (l.take (k + 1))).1 := by rw [eu]; simp only; omega
  have k3 : p - (j9 (l.take k)).2.2 - uB l[k] * uP l[k] = p - (j9 (l.take (k + 1))).2.2 := by rw [eu]; simp only; omega
  change br (decide (uB l[k] > 0)) (rec (_, w64 (_ - uB l[k]), _, w64 (_ - w64 (uB l[k] * uP l[k])))) (rec (_, w64 (_ - uB l[k]), _, w64 (_ - w64 (uB l[k] * uP l[k])))) = _
  rw [k5 (by omega), n9 (n := _ - uB l[k]) (by omega), n9 (n := uB l[k] * uP l[k]) (by omega), n9 (n := _ - uB l[k] * uP l[k]) (by omega), n9 (n := _ - 1) (by omega), k1, k3]
  by_cases hp : 0 < uB l[k]
  ·
   have k2 : c - (j9 (l.take k)).2.1 - 1 = c - (j9 (l.take (k + 1))).2.1 := by rw [eu, if_pos hp]; simp only; omega
   rw [j4 (by simpa using hp), k2]
   exact hrec _ ⟨k + 1, hkl, rfl⟩ (by simp only [Int.toNat_natCast]; omega)
  ·
   have k2 : c - (j9 (l.take k)).2.1 = c - (j9 (l.take (k + 1))).2.1 := by rw [eu, if_neg hp]; simp only; omega
   rw [j2 (by simpa using hp), k2]
   exact hrec _ ⟨k + 1, hkl, rfl⟩ (by simp only [Int.toNat_natCast]; omega)
 ·
  have : k = l.length := by omega
  subst this
  rw [j2 (by simp)]
  simp

def candU (c p : Int) (u : U) : Bool := ((decide (uR u > 0) && decide (uW u > takeU u)) && decide (uP u ≤ p)) && (decide (uB u > 0) || decide (c > 0))
def beforeU (u v : U) : Bool := decide ((uS u + takeU u) * uG v < (uS v + takeU v) * uG u)
def atU (us : List U) (k : Int) : U := us.getD k.toNat default
def stepN (us : List U) (c p : Int) (k : Nat) (best : Int) : Int :=
 if candU c p (atU us k) = true ∧ (best < 0 ∨ beforeU (atU us k) (atU us best) = true) then (k : Int) else best
def nextU (b c p : Int) (us : List U) : Int :=
 if b - (j9 us).1 = 0 then -1 else itN (stepN us (c - (j9 us).2.1) (p - (j9 us).2.2)) us.length (-1)
theorem stepN_range (us : List U) (c p : Int) : ∀ k, -1 ≤ itN (stepN us c p) k (-1) ∧ itN (stepN us c p) k (-1) < (k : Int)
 | 0 => by simp [itN]
 | k + 1 => by
  have ih := stepN_range us c p k
  rw [itN, stepN]
  split <;> omega
theorem stepN_cand (us : List U) (c p : Int) : ∀ k, (0 ≤ itN (stepN us c p) k (-1) → candU c p (atU us (itN (stepN us c p) k (-1))) = true) ∧ (itN (stepN us c p) k (-1) < 0 → ∀ j, j < k → candU c p (atU us (j : Int)) = false)
 | 0 => ⟨fun h => absurd h (by simp [itN]), fun _ j h => by omega⟩
 | k + 1 => by
  have ih := stepN_cand us c p k
  rw [itN]
  generalize hB : itN (stepN us c p) k (-1) = best at ih ⊢
  rw [stepN]
  by_cases h : candU c p (atU us (k : Int)) = true ∧ (best < 0 ∨ beforeU (atU us (k : Int)) (atU us best) = true)
  ·
   rw [if_pos h]
   exact ⟨fun _ => h.1, fun h => absurd h (by omega)⟩
  ·
   rw [if_neg h]
   refine ⟨ih.1, fun hb j hj => ?_⟩
   rcases Nat.lt_succ_iff_lt_or_eq.1 hj with h1 | rfl
   · exact ih.2 hb j h1
   ·
    cases hc : candU c p (atU us (j : Int))
    · rfl
    · exact absurd ⟨hc, Or.inl hb⟩ h
theorem atU_mem {us : List U} {k : Int} (h0 : 0 ≤ k) (h1 : k < (us.length : Int)) : atU us k ∈ us := by
 unfold atU
 rw [j6 (show k.toNat < us.length by omega)]
 exact List.getElem_mem _
theorem taken_eq (N : Nat) {u : U} (h : OkU u) : l8 N u.1 u.2.1 u.2.2.1 u.2.2.2.1 u.2.2.2.2.1 u.2.2.2.2.2.1 u.2.2.2.2.2.2.1 u.2.2.2.2.2.2.2.1 u.2.2.2.2.2.2.2.2.1 u.2.2.2.2.2.2.2.2.2.1 u.2.2.2.2.2.2.2.2.2.2.1 u.2.2.2.2.2.2.2.2.2.2.2.1 u.2.2.2.2.2.2.2.2.2.2.2.2.1 u.2.2.2.2.2.2.2.2.2.2.2.2.2 = some (takeU u) := by
 have h1 := h.prod
 unfold l8 takeU
 show some (if w64 (uB u * uR u) < uW u then w64 (uB u * uR u) else uW u) = _
 rw [n9 (by omega)]
noncomputable def tkN (N : Nat) (u : U) : Option Int := l8 N u.1 u.2.1 u.2.2.1 u.2.2.2.1 u.2.2.2.2.1 u.2.2.2.2.2.1 u.2.2.2.2.2.2.1 u.2.2.2.2.2.2.2.1 u.2.2.2.2.2.2.2.2.1 u.2.2.2.2.2.2.2.2.2.1 u.2.2.2.2.2.2.2.2.2.2.1 u.2.2.2.2.2.2.2.2.2.2.2.1 u.2.2.2.2.2.2.2.2.2.2.2.2.1 u.2.2.2.2.2.2.2.2.2.2.2.2.2
theorem tkN_eq (N : Nat) {u : U} (h : OkU u) : tkN N u = some (takeU u) := taken_eq N h
def candZ (c p : Int) (u : U) (z : Int) : Bool := ((decide (uR u > 0) && decide (uW u > z)) && decide (uP u ≤ p)) && (decide (uB u > 0) || decide (c > 0))
theorem candZ_eq (c p : Int) (u : U) : candZ c p u (if 0 < uR u then takeU u else 0) = candU c p u := by
 unfold candZ candU
 by_cases hr : 0 < uR u
 · rw [if_pos hr]
 · rw [show decide (uR u > 0) = false from by simpa using hr]; simp
theorem grd_if (r x : Int) : grd (decide (r > 0)) 0 (some x) = some (if 0 < r then x else 0) := by
 by_cases hr : 0 < r
 · rw [if_pos hr, show decide (r > 0) = true from by simpa using hr]; rfl
 · rw [if_neg hr, show decide (r > 0) = false from by simpa using hr]; rfl
theorem b4_eq (N : Nat) (l0 l : List U) (lc lp : Int) (K : Int → Option Int) (rec : Int × Int → Option Int) (best k : Int) : sched_Run.b4 N l0 l lc lp K rec (best, k) =
  br (decide (k < (l0.length : Int))) (chk (0 ≤ k ∧ k < (l0.length : Int)) <| bnd (grd (decide (uR (atU l k) > 0)) 0 (tkN N (atU l k))) fun z => bnd (some (candZ lc lp (atU l k) z)) fun q =>
   bnd (grd (q && !(decide (best < 0))) 0 (tkN N (atU l k))) fun x => chk ((q && !(decide (best < 0))) = true → best.toNat < l0.length) <| chk ((q && !(decide (best < 0))) = true → best.toNat < l0.length) <| chk ((q && !(decide (best < 0))) = true → best.toNat < l0.length) <|
   bnd (grd (q && !(decide (best < 0))) 0 (tkN N (atU l best))) fun y =>
   br (q && (decide (best < 0) || decide (w64 (w64 (uS (atU l k) + x) * uG (atU l best)) < w64 (w64 (uS (atU l best) + y) * uG (atU l k))))) (rec (((k.toNat : Nat) : Int), w64 (k + 1))) (
   chk (best < ((l0.length : Nat) : Int)) <| rec (best, w64 (k + 1)))) (chk (best < ((l0.length : Nat) : Int)) <| K best) := rfl
theorem before_bounds {u v : U} (hu : OkU u) (hv : OkU v) : w64 (w64 (uS u + takeU u) * uG v) = (uS u + takeU u) * uG v := by
 have t1 := hu.take
 have r2 := hu.w0; have r3 := hu.w1; have r4 := hu.s0; have r5 := hu.s1; have r6 := hv.g0; have r7 := hv.g1
 have h0 : 0 ≤ (uS u + takeU u) * uG v := Int.mul_nonneg (by omega) (by omega)
 have h1 : (uS u + takeU u) * uG v ≤ 2000000000 * 100 := Int.mul_le_mul (by omega) r7 (by omega) (by omega)
 rw [n9 (n := uS u + takeU u) (by omega), n9 (by omega)]
theorem next_eq {N : Nat} {b c p : Int} (hb : 0 ≤ b ∧ b ≤ 1000000) (hc : 0 ≤ c ∧ c ≤ 1000000) (hp : 0 ≤ p ∧ p ≤ 1000000) (t : List Int) (l0 l : List U) (hl : l.length ≤ 8) (hll : l.length = l0.length) (hN : 62 < N) (h : ∀ x ∈ l, OkU x) :
  p4 N b c p t l0 l = some (nextU b c p l) := by
 unfold p4
 rw [f5 hll, left_eq hb hc hp t l hl hN h, f6]
 simp only [jn]
 unfold nextU
 by_cases h0 : b - (j9 l).1 = 0
 · rw [if_pos h0, j4 (by rw [h0]; rfl)]
 rw [if_neg h0, j2 (by rw [beq_eq_false_iff_ne]; exact h0)]
 have hs := stepN_range l (c - (j9 l).2.1) (p - (j9 l).2.2)
 refine (rds_itR l.length (stepN l (c - (j9 l).2.1) (p - (j9 l).2.2)) (fun k s => -1 ≤ s ∧ s < (k : Int)) _ (fun best => some best) (s := -1) (by simp) (fun k s hk hI => ?_) (fun k s rec hk hI => ?_) (fun s rec hI => ?_) (show l.length < N by omega)).1
 · rw [stepN]; split <;> omega
 ·
  have hku : OkU (atU l (k : Int)) := h _ (atU_mem (by omega) (by omega))
  rw [b4_eq, j4 (by simp only [decide_eq_true_eq]; omega), f5 (by omega), tkN_eq N hku, grd_if, f6, f6, candZ_eq, stepN, k5 (by omega), Int.toNat_natCast]
  cases hq : candU (c - (j9 l).2.1) (p - (j9 l).2.2) (atU l (k : Int))
  ·
   simp only [Bool.false_and, grd_false, f6, w5, false_and, if_false]
   rw [f5 (by simp), f5 (by simp), f5 (by simp), f5 (by omega), if_neg (by simp)]
  ·
   by_cases hb : s < 0
   ·
    rw [show decide (s < 0) = true from by simpa using hb]
    simp only [Bool.not_true, Bool.and_false, grd_false, f6, Bool.true_or, Bool.and_true, br_true]
    rw [f5 (by simp), f5 (by simp), f5 (by simp), if_pos ⟨trivial, Or.inl hb⟩]
   ·
    have hbu : OkU (atU l s) := h _ (atU_mem (by omega) (by omega))
    rw [show decide (s < 0) = false from by simpa using hb, tkN_eq N hbu]
    simp only [Bool.not_false, Bool.and_true, grd_true, f6, Bool.false_or, Bool.true_and]
    rw [f5 (fun _ => by omega), f5 (fun _ => by omega), f5 (fun _ => by omega), before_bounds hku hbu, before_bounds hbu hku, f5 (by omega)]
    by_cases hf : beforeU (atU l (k : Int)) (atU l s) = true
    · rw [if_pos ⟨trivial, Or.inr hf⟩]; exact j4 hf _ _
    · rw [if_neg (fun h => h.2.elim hb hf)]; exact j2 (by rw [Bool.not_eq_true] at hf; exact hf) _ _
 ·
  rw [b4_eq, j2 (by simp only [decide_eq_false_iff_not]; omega), f5 (by omega)]
  exact f5 (by omega) _
end Go.Sh

/-
 A slot of a run: the blocks are given, and the rest of them is told.
-/
namespace Go.Sh
open Go.PW

structure FitsU (b c p : Int) (us : List U) : Prop where
 b : (j9 us).1 ≤ b
 c : (j9 us).2.1 ≤ c
 p : (j9 us).2.2 ≤ p
theorem uB_le_used : ∀ {us : List U}, (∀ u ∈ us, OkU u) → ∀ u ∈ us, uB u ≤ (j9 us).1
 | [], _, u, h => by simp at h
 | v :: l, h, u, hu => by
  have h2 := usedU_bounds (l := l) fun x hx => h x (by simp [hx])
  have hv := (h v (by simp)).b0
  simp only [j9]
  rcases List.mem_cons.1 hu with rfl | hu
  · omega
  · have := uB_le_used (us := l) (fun x hx => h x (by simp [hx])) u hu; omega
theorem used_set {us : List U} {k : Nat} (hk : k < us.length) (h0 : 0 ≤ uB (us.getD k default)) :
  j9 (us.set k (incU (us.getD k default))) = ((j9 us).1 + 1, (j9 us).2.1 + (if 0 < uB (us.getD k default) then 0 else 1), (j9 us).2.2 + uP (us.getD k default)) := by
 induction us generalizing k with
 | nil => simp at hk
 | cons v l ih =>
  cases k with
  | zero =>
   simp only [List.set_cons_zero, List.getD_cons_zero, j9] at h0 ⊢
   have e1 : uB (incU v) = uB v + 1 := rfl
   have e2 : uP (incU v) = uP v := rfl
   have e3 : (uB v + 1) * uP v = uB v * uP v + uP v := by rw [Int.add_mul, Int.one_mul]
   rw [e1, e2, e3, if_pos (by omega)]
   simp only [Prod.mk.injEq]
   refine ⟨by omega, ?_, by omega⟩
   split <;> omega
  | succ k =>
   simp only [List.set_cons_succ, List.getD_cons_succ, j9, List.length_cons] at h0 hk ⊢
   rw [ih (by omega) h0]
   simp only [Prod.mk.injEq]
   refine ⟨by omega, by omega, by omega⟩
theorem nextU_spec (b c p : Int) (us : List U) : (-1 ≤ nextU b c p us ∧ nextU b c p us < (us.length : Int)) ∧
  (nextU b c p us < 0 → b - (j9 us).1 = 0 ∨ ∀ j, j < us.length → candU (c - (j9 us).2.1) (p - (j9 us).2.2) (us.getD j default) = false) ∧
  (0 ≤ nextU b c p us → b - (j9 us).1 ≠ 0 ∧ candU (c - (j9 us).2.1) (p - (j9 us).2.2) (atU us (nextU b c p us)) = true) := by
 unfold nextU
 by_cases h0 : b - (j9 us).1 = 0
 ·
  rw [if_pos h0]
  exact ⟨⟨by omega, by omega⟩, fun _ => Or.inl h0, fun h => absurd h (by decide)⟩
 rw [if_neg h0]
 have h1 := stepN_range us (c - (j9 us).2.1) (p - (j9 us).2.2) us.length
 have h2 := stepN_cand us (c - (j9 us).2.1) (p - (j9 us).2.2) us.length
 exact ⟨h1, fun h => Or.inr fun j hj => h2.2 h j hj, fun h => ⟨h0, h2.1 h⟩⟩
def giveF (b c p : Int) : Nat → List U → List U
 | 0, us => us
 | m + 1, us => if nextU b c p us < 0 then us else giveF b c p m (us.set (nextU b c p us).toNat (incU (atU us (nextU b c p us))))
def moreU (u v : U) : Prop := v = mkU (uX u) (uN u) (uW u) (uS u) (uR u) (uB v) ∧ uB u ≤ uB v
theorem moreU_refl (u : U) : moreU u u := ⟨rfl, Int.le_refl _⟩
theorem moreU_trans {u v w : U} (h : moreU u v) (g : moreU v w) : moreU u w := by
 obtain ⟨h1, h2⟩ := h
 obtain ⟨g1, g2⟩ := g
 refine ⟨?_, by omega⟩
 rw [h1] at g1
 exact g1
theorem b5_eq (N : Nat) (b c p : Int) (t : List Int) (l0 us : List U) (K : List U → Option (List Int × List U)) (rec : Int × List U → Option (List Int × List U)) (u : Int) : D8 N b c p t l0 K rec (u, us) =
  br (!(decide (u < 0))) (chk (0 ≤ u) <| chk (u.toNat < l0.length) <| chk (u.toNat < us.length) <| bnd (some (us.set u.toNat (mkU (uX (atU us u)) (uN (atU us u)) (uW (atU us u)) (uS (atU us u)) (uR (atU us u)) (w64 (uB (atU us u) + 1))))) fun f2 =>
   bnd (p4 N b c p t l0 f2) fun r => chk (r < ((l0.length : Nat) : Int)) <| rec (r, f2)) (K us) := rfl
theorem OkU.inc {u : U} (h : OkU u) (hb : uB u + 1 ≤ 1000000) : OkU (incU u) :=
 ⟨by have := h.b0; show 0 ≤ uB u + 1; omega, hb, h.p0, h.p1, h.w0, h.w1, h.s0, h.s1, h.r0, h.r1, h.g0, h.g1⟩
theorem moreU_set {us : List U} {r : Nat} (hr : r < us.length) (k : Nat) : moreU (us.getD k default) ((us.set r (incU (us.getD r default))).getD k default) := by
 rw [getD_set' default hr]
 by_cases e : r = k
 ·
  subst e
  rw [if_pos rfl]
  exact ⟨rfl, by show uB (us.getD r default) ≤ uB (us.getD r default) + 1; omega⟩
 · rw [if_neg e]; exact moreU_refl _
theorem give_eq {N : Nat} {b c p : Int} (hb : 0 ≤ b ∧ b ≤ 1000000) (hc : 0 ≤ c ∧ c ≤ 1000000) (hp : 0 ≤ p ∧ p ≤ 1000000) (t : List Int) (l0 : List U) (hl : l0.length ≤ 8) (hN : 62 < N) (K : List U → Option (List Int × List U)) :
  ∀ (m M : Nat) (us : List U), us.length = l0.length → (∀ u ∈ us, OkU u) → FitsU b c p us → b - (j9 us).1 = (m : Int) → m < M →
   rds (D8 N b c p t l0 K) M (nextU b c p us, us) = K (giveF b c p m us) ∧ (giveF b c p m us).length = us.length ∧ (∀ k, k < us.length → moreU (us.getD k default) ((giveF b c p m us).getD k default)) ∧
    (∀ u ∈ giveF b c p m us, OkU u) ∧ FitsU b c p (giveF b c p m us) ∧
    (b - (j9 (giveF b c p m us)).1 = 0 ∨ ∀ j, j < us.length → candU (c - (j9 (giveF b c p m us)).2.1) (p - (j9 (giveF b c p m us)).2.2) ((giveF b c p m us).getD j default) = false)
 | m, 0, us, _, _, _, _, h => by omega
 | 0, M + 1, us, hul, hok, hf, hm, _ => by
  have hs := nextU_spec b c p us
  have hneg : nextU b c p us < 0 := by unfold nextU; rw [if_pos (by omega)]; decide
  rw [rds_succ, b5_eq, j2 (by simpa using hneg)]
  exact ⟨rfl, rfl, fun k _ => moreU_refl _, hok, hf, hs.2.1 hneg⟩
 | m + 1, M + 1, us, hul, hok, hf, hm, hM => by
  have hs := nextU_spec b c p us
  rw [rds_succ, b5_eq, giveF]
  by_cases hneg : nextU b c p us < 0
  ·
   rw [j2 (by simpa using hneg), if_pos hneg]
   exact ⟨rfl, rfl, fun k _ => moreU_refl _, hok, hf, hs.2.1 hneg⟩
  rw [j4 (by simpa using hneg), if_neg hneg]
  obtain ⟨hs1, hs2, hs3⟩ := hs
  obtain ⟨hb0, hcand⟩ := hs3 (by omega)
  generalize hr : nextU b c p us = r at *
  have hrl : r.toNat < us.length := by omega
  have hmem : atU us r ∈ us := atU_mem (by omega) (by omega)
  have hou := hok _ hmem
  have hub := uB_le_used hok _ hmem
  have hb0' := hou.b0
  have hfb := hf.b
  rw [f5 (by omega), f5 (by omega), f5 hrl, f6, n9 (by omega)]
  have hset := used_set hrl hb0'
  change bnd (p4 N b c p t l0 (us.set r.toNat (incU (atU us r)))) _ = _ ∧ _
  have hou' : ∀ u ∈ us.set r.toNat (incU (atU us r)), OkU u := fun u hu => by
   rcases List.mem_or_eq_of_mem_set hu with h | rfl
   · exact hok u h
   · exact hou.inc (by omega)
  have hf' : FitsU b c p (us.set r.toNat (incU (atU us r))) := by
   have hfc := hf.c; have hfp := hf.p
   unfold candU at hcand
   simp only [Bool.and_eq_true, Bool.or_eq_true, decide_eq_true_eq] at hcand
   refine ⟨?_, ?_, ?_⟩
   · unfold atU; rw [hset]; simp only; omega
   ·
    unfold atU; rw [hset]; simp only
    have := hcand.2
    unfold atU at this
    split <;> omega
   ·
    unfold atU; rw [hset]; simp only
    have := hcand.1.2
    unfold atU at this
    omega
  rw [next_eq hb hc hp t l0 _ (by rw [List.length_set]; omega) (by rw [List.length_set]; omega) hN hou', f6]
  have hs' := nextU_spec b c p (us.set r.toNat (incU (atU us r)))
  rw [List.length_set] at hs'
  rw [f5 (by omega)]
  have ih := give_eq hb hc hp t l0 hl hN K m M (us.set r.toNat (incU (atU us r))) (by rw [List.length_set]; omega) hou' hf' (by unfold atU; rw [hset]; simp only; omega) (by omega)
  rw [List.length_set] at ih
  obtain ⟨i1, i2, i3, i4⟩ := ih
  exact ⟨i1, i2, fun k hk => moreU_trans (moreU_set hrl k) (i3 k hk), i4⟩

structure GoodU (T : List Int) (B : Int) (u : U) : Prop where
 ok : k4 T (uX u) = 0
 n : uN u = (z9 T (uX u)).1
 w : 0 ≤ uW u
 s : 0 ≤ uS u
 ws : uW u + uS u ≤ B
structure SlotOK (T : List Int) (len : Nat) (x : List Int × List Int) : Prop where
 l1 : x.1.length = len
 l2 : x.2.length = len
 r : ∀ k, k < len → 0 ≤ x.1.getD k 0 ∧ x.1.getD k 0 < (T.length : Int)
 a : ∀ k, k < len → 0 ≤ x.2.getD k 0 ∧ x.2.getD k 0 ≤ 1000000
theorem bearErr_w {t : List Int} {x : j5} (h : k4 t x = 0) : 1 ≤ x.2.2.2.1 ∧ x.2.2.2.1 ≤ 100 := by
 obtain ⟨n, k, pr, w, po, le, bu, ra, de⟩ := x
 unfold k4 at h
 simp only at h ⊢
 cases h1 : nameOK n
 · rw [if_pos h1] at h; exact absurd h (by decide)
 cases h2 : inB k 0 2
 · rw [if_neg (by simp [h1]), if_pos h2] at h; exact absurd h (by decide)
 cases h3 : (inB pr 0 100 && inB w 1 100 && inB po 0 100000)
 · rw [if_neg (by simp [h1]), if_neg (by simp [h2]), if_pos h3] at h; exact absurd h (by decide)
 simp only [Bool.and_eq_true, A8] at h3
 exact h3.1.2
def rateU (T : List Int) (x : List Int × List Int) (k : Nat) : Int := T.getD (x.1.getD k 0).toNat 0
def arrU (x : List Int × List Int) (k : Nat) : Int := x.2.getD k 0
def startL (T : List Int) (x : List Int × List Int) (us : List U) : List U := eachL default (fun k u => startU (rateU T x k) (arrU x k) u) us
theorem rate_ok {T : List Int} (hT : E8 T) {len : Nat} {x : List Int × List Int} (hx : SlotOK T len x) {k : Nat} (hk : k < len) : 0 ≤ rateU T x k ∧ rateU T x k ≤ 1000 := by
 have := hx.r k hk
 exact tabGet hT (by omega)
theorem startU_ok {T : List Int} (hT : E8 T) {B : Int} (hB : B ≤ 100000000) {u : U} (g : GoodU T B u) {rate arr : Int} (hr : 0 ≤ rate ∧ rate ≤ 1000) (ha : 0 ≤ arr ∧ arr ≤ 1000000) :
  OkU (startU rate arr u) ∧ (uB (startU rate arr u) ≤ uN u) ∧ (0 < uB (startU rate arr u) → uK u ≠ 0) := by
 have hn := u2 hT g.ok
 have hw := bearErr_w g.ok
 have hz := r9 g.ok
 have g1 := g.n; have g2 := g.w; have g3 := g.s; have g4 := g.ws
 have hbl : 0 ≤ uB (startU rate arr u) ∧ uB (startU rate arr u) ≤ uN u ∧ (0 < uB (startU rate arr u) → uK u ≠ 0) := by
  show 0 ≤ (if uK u ≠ 0 ∧ 0 < rate then (if C2 (uW u + arr) rate < uN u then C2 (uW u + arr) rate else uN u) else 0) ∧ (if uK u ≠ 0 ∧ 0 < rate then (if C2 (uW u + arr) rate < uN u then C2 (uW u + arr) rate else uN u) else 0) ≤ _ ∧ (0 < (if uK u ≠ 0 ∧ 0 < rate then (if C2 (uW u + arr) rate < uN u then C2 (uW u + arr) rate else uN u) else 0) → _)
  by_cases h : uK u ≠ 0 ∧ 0 < rate
  ·
   have := B6 (n := uW u + arr) (b := rate) (by omega) (by omega)
   rw [if_pos h]
   refine ⟨by split <;> omega, by split <;> omega, fun _ => h.1⟩
  ·
   rw [if_neg h]
   exact ⟨by omega, by omega, fun h => absurd h (by omega)⟩
 refine ⟨⟨hbl.1, by omega, hz.2.2.1.1, hz.2.2.1.2, ?_, ?_, ?_, ?_, hr.1, hr.2, hw.1, hw.2⟩, hbl.2⟩
 · show 0 ≤ uW u + arr; omega
 · show uW u + arr ≤ _; omega
 · show 0 ≤ uS u; omega
 · show uS u ≤ _; omega
theorem used_le_needs {T : List Int} (hT : E8 T) : ∀ us : List U, (∀ u ∈ us, k4 T (uX u) = 0 ∧ 0 ≤ uB u ∧ uB u ≤ (z9 T (uX u)).1 ∧ (0 < uB u → uK u ≠ 0)) →
  (j9 us).1 ≤ (n5 T (us.map uX)).1 ∧ (j9 us).2.1 ≤ (n5 T (us.map uX)).2.1 ∧ (j9 us).2.2 ≤ (n5 T (us.map uX)).2.2
 | [], _ => by simp [j9, n5]
 | u :: l, h => by
  have ih := used_le_needs hT l fun x hx => h x (by simp [hx])
  obtain ⟨h1, h2, h3, h4⟩ := h u (by simp)
  have hp := (r9 h1).2.2.1.1
  have hnb := u2 hT h1
  simp only [j9, List.map_cons, n5]
  by_cases hk : uK u ≠ 0
  ·
   have hne : z9 T (uX u) = ((z9 T (uX u)).1, 1, (z9 T (uX u)).1 * uP u) := by
    unfold z9
    rw [if_neg (show ¬ (uX u).2.1 = 0 from hk)]; rfl
   have hm : uB u * uP u ≤ (z9 T (uX u)).1 * uP u := Int.mul_le_mul_of_nonneg_right h3 hp
   have e1 : (z9 T (uX u)).2.1 = 1 := by rw [hne]
   have e2 : (z9 T (uX u)).2.2 = (z9 T (uX u)).1 * uP u := by rw [hne]
   refine ⟨by omega, by split <;> omega, by omega⟩
  ·
   have hb : uB u = 0 := by
    by_cases h0 : 0 < uB u
    · exact absurd (h4 h0) hk
    · omega
   rw [hb, if_neg (by decide), Int.zero_mul]
   refine ⟨by omega, by omega, by omega⟩
theorem eachL_mem {α β : Type} {d : α} {f : Nat → α → β} {us : List α} {v : β} (h : v ∈ eachL d f us) : ∃ k, k < us.length ∧ v = f k (us.getD k d) ∧ us.getD k d ∈ us := by
 unfold eachL at h
 obtain ⟨k, hk, rfl⟩ := List.mem_map.1 h
 rw [List.mem_range] at hk
 exact ⟨k, hk, rfl, by rw [j6 hk]; exact List.getElem_mem _⟩
theorem eachL_map {α β γ : Type} {d : α} {f : Nat → α → β} {us : List α} (g : β → γ) (g' : α → γ) (h : ∀ k u, g (f k u) = g' u) : (eachL d f us).map g = us.map g' := by
 refine List.ext_getElem (by simp [eachL]) fun i h1 h2 => ?_
 simp only [eachL, List.getElem_map, List.getElem_range, h]
 rw [j6 (by simpa using h2)]
theorem startL_ok {T : List Int} (hT : E8 T) {b c p B : Int} (hB : B ≤ 100000000) {us : List U} (g : ∀ u ∈ us, GoodU T B u) (hf : fitB b c p T (us.map uX) = true) {x : List Int × List Int} (hx : SlotOK T us.length x) :
  (∀ u ∈ startL T x us, OkU u) ∧ FitsU b c p (startL T x us) := by
 have h0 : ∀ u ∈ startL T x us, OkU u ∧ k4 T (uX u) = 0 ∧ 0 ≤ uB u ∧ uB u ≤ (z9 T (uX u)).1 ∧ (0 < uB u → uK u ≠ 0) := fun u hu => by
  obtain ⟨k, hk, rfl, hm⟩ := eachL_mem hu
  have gu := g _ hm
  have := startU_ok hT hB gu (rate_ok hT hx hk) (hx.a k hk)
  refine ⟨this.1, gu.ok, this.1.b0, ?_, this.2.2⟩
  have e := gu.n
  show _ ≤ (z9 T (uX (us.getD k default))).1
  rw [← e]; exact this.2.1
 refine ⟨fun u hu => (h0 u hu).1, ?_⟩
 have h1 := used_le_needs hT (startL T x us) fun u hu => (h0 u hu).2
 have e : (startL T x us).map uX = us.map uX := eachL_map uX uX fun k u => rfl
 rw [e] at h1
 unfold fitB at hf
 simp only [Bool.and_eq_true, decide_eq_true_eq] at hf
 exact ⟨by omega, by omega, by omega⟩
theorem b3_eq (N : Nat) (slots : List (List Int × List Int)) (T : List Int) (l0 s : List U) (t28 k : Int) (K : List U → Option (List Int × List U)) (rec : Int × List U → Option (List Int × List U)) : D9 N slots T l0 t28 K rec (k, s) =
  br (decide (k < (l0.length : Int))) (chk (0 ≤ k ∧ k < (l0.length : Int)) <| chk (0 ≤ k ∧ k < (((slots.getD t28.toNat default).1).length : Int)) <|
   chk (0 ≤ (((slots.getD t28.toNat default).1).getD k.toNat 0) ∧ (((slots.getD t28.toNat default).1).getD k.toNat 0) < (T.length : Int)) <| chk (0 ≤ k ∧ k < (((slots.getD t28.toNat default).2).length : Int)) <| chk (k.toNat < s.length) <|
   bnd (some (s.set k.toNat (mkU (uX (atU s k)) (uN (atU s k)) (w64 (uW (atU s k) + arrU (slots.getD t28.toNat default) k.toNat)) (uS (atU s k)) (rateU T (slots.getD t28.toNat default) k.toNat) 0))) fun f =>
   bnd (some (uK (atU f k) != 0)) fun x6 => br (x6 && decide (uR (atU f k) > 0)) (bnd (A2 N (uW (atU f k)) (uR (atU f k))) fun x7 => chk (k.toNat < f.length) <|
    bnd (some (f.set k.toNat (mkU (uX (atU f k)) (uN (atU f k)) (uW (atU f k)) (uS (atU f k)) (uR (atU f k)) (if x7 < uN (atU f k) then x7 else uN (atU f k))))) fun f1 => rec (w64 (k + 1), f1)) (rec (w64 (k + 1), f))) (K s) := rfl
theorem b7_eq (N : Nat) (l0 s : List U) (k : Int) (a : List Int) (K : List U × List Int → Option (List Int × List U)) (rec : Int × List U × List Int → Option (List Int × List U)) : D7 N l0 K rec (k, s, a) =
  br (decide (k < (l0.length : Int))) (chk (0 ≤ k ∧ k < (l0.length : Int)) <| bnd (tkN N (atU s k)) fun z => chk (k.toNat < s.length) <|
   bnd (some (s.set k.toNat (mkU (uX (atU s k)) (uN (atU s k)) (w64 (uW (atU s k) - z)) (w64 (uS (atU s k) + z)) (uR (atU s k)) (uB (atU s k))))) fun f =>
   chk (a.length + ([uB (atU f k)] : List Int).length ≤ 1000000000) <| rec (w64 (k + 1), f, a ++ [uB (atU f k)])) (K (s, a)) := rfl
theorem atU_set {s : List U} {k : Nat} {v : U} (h : k < s.length) : atU (s.set k v) (k : Int) = v := by
 unfold atU
 rw [Int.toNat_natCast, getD_set' default h, if_pos rfl]
def C3 (b c p : Int) (T : List Int) (x : List Int × List Int) (us : List U) : List U := giveF b c p (b - (j9 (startL T x us)).1).toNat (startL T x us)
def slotF (b c p : Int) (T : List Int) (x : List Int × List Int) (us : List U) : List Int × List U :=
 (eachL default (fun _ u => uB u) (C3 b c p T x us), eachL default (fun _ u => endU u) (C3 b c p T x us))
theorem start_loop {N : Nat} (hN : 100 < N) {T : List Int} (hT : E8 T) {B : Int} (hB : B ≤ 100000000) (slots : List (List Int × List Int)) (t : Int) (l0 us : List U) (hl : us.length = l0.length) (h8 : l0.length ≤ 8) (g : ∀ u ∈ us, GoodU T B u)
  {x : List Int × List Int} (hxx : slots.getD t.toNat default = x) (hx : SlotOK T us.length x) (K : List U → Option (List Int × List U)) : rds (D9 N slots T l0 t K) N (0, us) = K (startL T x us) := by
 refine rds_each default (fun k u => startU (rateU T x k) (arrU x k) u) us _ K (fun k s rec hk hs hsk => ?_) (fun s rec hs => ?_) (by omega)
 ·
  have hr := hx.r k hk; have ha := hx.a k hk; have h1 := hx.l1; have h2 := hx.l2
  have hrate := rate_ok hT hx hk
  have hmem : us.getD k default ∈ us := by rw [j6 hk]; exact List.getElem_mem _
  have gu := g _ hmem
  have g2 := gu.w; have g3 := gu.s; have g4 := gu.ws
  rw [b3_eq, hxx]
  simp only [Int.toNat_natCast]
  rw [j4 (by simp only [decide_eq_true_eq]; omega), f5 (by omega), f5 (by omega), f5 hr, f5 (by omega), f5 (by omega), f6, show atU s (k : Int) = us.getD k default from by unfold atU; rw [Int.toNat_natCast]; exact hsk,
   f6, atU_set (by omega), k5 (by omega), n9 (n := uW (us.getD k default) + arrU x k) (by unfold arrU; omega)]
  generalize us.getD k default = v at *
  show br ((uK v != 0) && decide (rateU T x k > 0)) (bnd (A2 N (uW v + arrU x k) (rateU T x k)) _) _ = _
  by_cases h : uK v ≠ 0 ∧ 0 < rateU T x k
  ·
   rw [j4 (by simp only [Bool.and_eq_true, bne_iff_ne, decide_eq_true_eq]; exact h), ceil_eq N (by unfold arrU; omega) (by omega) (by unfold arrU; omega) (by omega), f6, f5 (by rw [List.length_set]; omega), f6, List.set_set]
   show rec (_, s.set k (mkU (uX v) (uN v) (uW v + arrU x k) (uS v) (rateU T x k) (if C2 (uW v + arrU x k) (rateU T x k) < uN v then C2 (uW v + arrU x k) (rateU T x k) else uN v))) = _
   unfold startU
   rw [if_pos h]
  ·
   rw [j2 (by
    simp only [Bool.and_eq_false_iff, bne_eq_false_iff_eq, decide_eq_false_iff_not]
    by_cases h0 : uK v = 0
    · exact Or.inl h0
    · exact Or.inr fun h1 => h ⟨h0, h1⟩)]
   unfold startU
   rw [if_neg h]
 · rw [b3_eq, j2 (by simp only [decide_eq_false_iff_not]; omega)]
theorem end_loop {N : Nat} (hN : 100 < N) (l0 us : List U) (hl : us.length = l0.length) (h8 : l0.length ≤ 8) (g : ∀ u ∈ us, OkU u) (K : List U × List Int → Option (List Int × List U)) :
  rds (D7 N l0 K) N (0, us, []) = K (eachL default (fun _ u => endU u) us, eachL default (fun _ u => uB u) us) := by
 refine rds_each2 default (fun _ u => endU u) (fun _ u => uB u) us _ K (fun k s a rec hk hs hak hsk => ?_) (fun s a rec hs => ?_) (by omega)
 ·
  have hmem : us.getD k default ∈ us := by rw [j6 hk]; exact List.getElem_mem _
  have gu := g _ hmem
  have tk := gu.take; have g2 := gu.w0; have g3 := gu.w1; have g4 := gu.s0; have g5 := gu.s1
  rw [b7_eq]
  simp only [Int.toNat_natCast]
  rw [j4 (by simp only [decide_eq_true_eq]; omega), f5 (by omega), show atU s (k : Int) = us.getD k default from by unfold atU; rw [Int.toNat_natCast]; exact hsk, tkN_eq N gu, f6, f5 (by omega), f6, atU_set (by omega),
   f5 (by simp only [List.length_cons, List.length_nil]; omega), k5 (by omega), n9 (n := uW (us.getD k default) - takeU (us.getD k default)) (by omega), n9 (n := uS (us.getD k default) + takeU (us.getD k default)) (by omega)]
  rfl
 · rw [b7_eq, j2 (by simp only [decide_eq_false_iff_not]; omega)]
theorem slot_eq {N : Nat} (hM : N ≤ 20000) (hN : 100 < N) {b c p : Int} (hb : 0 ≤ b ∧ b ≤ 20) (hc : 0 ≤ c ∧ c ≤ 1000000) (hp : 0 ≤ p ∧ p ≤ 1000000) {T : List Int} (hT : E8 T) {B : Int} (hB : B ≤ 100000000)
  (slots : List (List Int × List Int)) (t : Int) (l0 us : List U) (hl : us.length = l0.length) (h8 : l0.length ≤ 8) (g : ∀ u ∈ us, GoodU T B u) (hf : fitB b c p T (us.map uX) = true) {x : List Int × List Int} (hxx : slots.getD t.toNat default = x) (hx : SlotOK T us.length x) :
  r8 N slots b c p T l0 t us = some (slotF b c p T x us) ∧
   (C3 b c p T x us).length = us.length ∧ (∀ k, k < us.length → moreU ((startL T x us).getD k default) ((C3 b c p T x us).getD k default)) ∧
   (∀ u ∈ C3 b c p T x us, OkU u) ∧ FitsU b c p (C3 b c p T x us) ∧
   (b - (j9 (C3 b c p T x us)).1 = 0 ∨ ∀ j, j < us.length → candU (c - (j9 (C3 b c p T x us)).2.1) (p - (j9 (C3 b c p T x us)).2.2) ((C3 b c p T x us).getD j default) = false) := by
 have hs := startL_ok hT hB g hf hx
 have hsl : (startL T x us).length = us.length := eachL_length _ _ _
 have hub := usedU_bounds hs.1
 have hfb := hs.2.b
 have hg := fun K => give_eq (N := N) (b := b) ⟨hb.1, by omega⟩ hc hp T l0 h8 (by omega) K (b - (j9 (startL T x us)).1).toNat N (startL T x us) (by omega) hs.1 hs.2 (by omega) (by omega)
 rw [hsl] at hg
 refine ⟨?_, (hg fun _ => none).2⟩
 unfold r8
 simp only [jn]
 rw [start_loop hN hT hB slots t l0 us hl h8 g hxx hx]
 have hnx := nextU_spec b c p (startL T x us)
 rw [next_eq ⟨hb.1, by omega⟩ hc hp T l0 (startL T x us) (by omega) (by omega) (by omega) hs.1, f6, f5 (by omega), (hg _).1]
 have hgl := (hg fun _ => none).2
 rw [end_loop hN l0 _ (by show (C3 b c p T x us).length = _; unfold C3; omega) h8 hgl.2.2.1]
 rfl
end Go.Sh

/-
 Runs: their errors, the users at the beginning, and behind each slot.
-/
namespace Go.Sh
open Go.PW

def slotBad (T : List Int) (x : List Int × List Int) (k : Nat) : Bool := !(inB (x.1.getD k 0) 0 ((T.length : Int) - 1)) || !(inB (x.2.getD k 0) 0 1000000)
def slotsE (T : List Int) (n : Nat) : List (List Int × List Int) → Int
 | [] => 0
 | x :: l => if x.1.length ≠ n ∨ x.2.length ≠ n then 10 else if (List.range n).any (slotBad T x) = true then 2 else slotsE T n l
def slotsErr (T : List Int) (n : Nat) (l : List (List Int × List Int)) : Int := if 60 < l.length then 8 else slotsE T n l
theorem slotsE_zero {T : List Int} {n : Nat} : ∀ {l : List (List Int × List Int)}, slotsE T n l = 0 → ∀ x ∈ l, SlotOK T n x
 | [], _, x, hx => by simp at hx
 | y :: l, h, x, hx => by
  rw [slotsE] at h
  by_cases h1 : y.1.length ≠ n ∨ y.2.length ≠ n
  · rw [if_pos h1] at h; exact absurd h (by decide)
  rw [if_neg h1] at h
  by_cases h2 : (List.range n).any (slotBad T y) = true
  · rw [if_pos h2] at h; exact absurd h (by decide)
  rw [if_neg h2] at h
  rcases List.mem_cons.1 hx with rfl | hx
  ·
   rw [Bool.not_eq_true, List.any_eq_false] at h2
   have hb : ∀ k, k < n → inB (x.1.getD k 0) 0 ((T.length : Int) - 1) = true ∧ inB (x.2.getD k 0) 0 1000000 = true := fun k hk => by
    have := h2 k (List.mem_range.2 hk)
    unfold slotBad at this
    simpa using this
   refine ⟨by omega, by omega, fun k hk => ?_, fun k hk => A8.1 (hb k hk).2⟩
   have := A8.1 (hb k hk).1
   omega
  · exact slotsE_zero h x hx
theorem slotsErr_zero {T : List Int} {n : Nat} {l : List (List Int × List Int)} (h : slotsErr T n l = 0) : l.length ≤ 60 ∧ ∀ x ∈ l, SlotOK T n x := by
 unfold slotsErr at h
 by_cases h1 : 60 < l.length
 · rw [if_pos h1] at h; exact absurd h (by decide)
 · rw [if_neg h1] at h; exact ⟨by omega, slotsE_zero h⟩
theorem range_getD {n k : Nat} (h : k < n) : (List.range n).getD k 0 = k := by simp [List.getD_eq_getElem?_getD, h]
theorem isReport_eq (N : Nat) {b c p : Int} {T : List Int} (hT : T.length < 1000000) (n : Int) : l7 N b c p T n = some (inB n 0 ((T.length : Int) - 1)) := by
 unfold l7
 rw [n9 (by omega), within_eq]; rfl
theorem IsReport_eq (N : Nat) {b c p : Int} {T : List Int} (hT : T.length < 1000000) (n : Int) : v7 N b c p T n = some (inB n 0 ((T.length : Int) - 1)) := by
 unfold v7
 rw [n9 (by omega), Within_eq]; rfl
theorem slotsErr_eq {N : Nat} (hM : N ≤ 20000) (hN : 100 < N) (b c p : Int) {T : List Int} (hT : T.length < 1000000) {n : Nat} (hn : n ≤ 20) (l : List (List Int × List Int)) : sched_site_slotsErr N b c p T (n : Int) l = some (slotsErr T n l) := by
 unfold sched_site_slotsErr slotsErr
 by_cases h1 : 60 < l.length
 · rw [if_pos h1, j4 (by simp only [decide_eq_true_eq]; omega)]
 rw [if_neg h1, j2 (by simp only [decide_eq_false_iff_not]; omega)]
 simp only [jn]
 refine (rds_up1 l.length _ (fun k => some (slotsE T n (l.drop k))) (fun k rec hk hrec => ?_) (fun rec => ?_) (by omega)).trans (by simp)
 ·
  simp only [sched_site_slotsErr.b1, jn, Int.toNat_natCast]
  rw [j4 (by simpa using hk), f5 (by omega), List.drop_eq_getElem_cons hk, slotsE, k5 (by omega), hrec]
  by_cases h2 : l[k].1.length ≠ n ∨ l[k].2.length ≠ n
  · rw [if_pos h2, j4 (by simp only [j6 hk, Bool.or_eq_true, bne_iff_ne]; omega)]
  rw [if_neg h2, j2 (by simp only [j6 hk, Bool.or_eq_false_iff, bne_eq_false_iff_eq]; omega)]
  rw [rds_scan (List.range n) 0 (slotBad T l[k]) (some 2) (some (slotsE T n (l.drop (k + 1)))) _ (fun j rec hj => ?_) (fun rec => ?_) (by rw [List.length_range]; omega)]
  · split <;> rfl
  ·
   rw [List.length_range] at hj
   simp only [m8, isReport_eq N hT, within_eq, f6, Int.toNat_natCast, j6 hk, grd_and]
   rw [j4 (by simp only [decide_eq_true_eq]; omega), f5 (by omega), f5 (fun _ => by omega), k5 (by omega), range_getD hj]
   unfold slotBad
   cases inB (l[k].1.getD j 0) 0 ((T.length : Int) - 1) <;> cases inB (l[k].2.getD j 0) 0 1000000 <;> rfl
  ·
   rw [List.length_range]
   simp only [m8, Int.toNat_natCast, j6 hk]
   rw [j2 (by simp only [decide_eq_false_iff_not]; omega)]
 ·
  simp only [sched_site_slotsErr.b1]
  rw [j2 (by simp)]
  simp [slotsE]
theorem SlotsErr_eq {N : Nat} (hM : N ≤ 20000) (hN : 100 < N) (b c p : Int) {T : List Int} (hT : T.length < 1000000) {n : Nat} (hn : n ≤ 20) (l : List (List Int × List Int)) : ref06_SlotsErr N b c p T (n : Int) l = some (slotsErr T n l) := by
 unfold ref06_SlotsErr slotsErr
 by_cases h1 : 60 < l.length
 · rw [if_pos h1, j4 (by simp only [decide_eq_true_eq]; omega)]
 rw [if_neg h1, j2 (by simp only [decide_eq_false_iff_not]; omega)]
 simp only [jn]
 refine (rds_up1 l.length _ (fun k => some (slotsE T n (l.drop k))) (fun k rec hk hrec => ?_) (fun rec => ?_) (by omega)).trans (by simp)
 ·
  simp only [ref06_SlotsErr.b1, jn, Int.toNat_natCast]
  rw [j4 (by simpa using hk), f5 (by omega), f5 (fun _ => by omega), List.drop_eq_getElem_cons hk, slotsE, k5 (by omega), hrec]
  by_cases h2 : l[k].1.length ≠ n ∨ l[k].2.length ≠ n
  · rw [if_pos h2, j4 (by simp only [j6 hk, Bool.or_eq_true, bne_iff_ne]; omega)]
  rw [if_neg h2, j2 (by simp only [j6 hk, Bool.or_eq_false_iff, bne_eq_false_iff_eq]; omega)]
  rw [rds_scan (List.range n) 0 (slotBad T l[k]) (some 2) (some (slotsE T n (l.drop (k + 1)))) _ (fun j rec hj => ?_) (fun rec => ?_) (by rw [List.length_range]; omega)]
  · split <;> rfl
  ·
   rw [List.length_range] at hj
   simp only [w6, IsReport_eq N hT, Within_eq, f6, Int.toNat_natCast, j6 hk, grd_and]
   rw [j4 (by simp only [decide_eq_true_eq]; omega), f5 (by omega), f5 (by omega), f5 (fun _ => by omega), f5 (fun _ => by omega), k5 (by omega), range_getD hj]
   unfold slotBad
   cases inB (l[k].1.getD j 0) 0 ((T.length : Int) - 1) <;> cases inB (l[k].2.getD j 0) 0 1000000 <;> rfl
  ·
   rw [List.length_range]
   simp only [w6, Int.toNat_natCast]
   rw [j2 (by simp only [decide_eq_false_iff_not]; omega)]
 ·
  simp only [ref06_SlotsErr.b1]
  rw [j2 (by simp)]
  simp [slotsE]
theorem brief_some {N : Nat} (hN : 100 < N) (l : List (List Int × List Int)) : ∃ r, law06_brief N l = some r ∧ (r = true → l.length ≤ 62 ∧ ∀ x ∈ l, x.1.length ≤ 12 ∧ x.2.length ≤ 12) := by
 unfold law06_brief
 by_cases h1 : ((decide ((l.length : Int) > (12 : Int))) && (decide ((l.length : Int) ≤ (60 : Int))) || (decide ((l.length : Int) > (62 : Int)))) = true
 · rw [j4 h1]; exact ⟨_, rfl, fun h => absurd h (by decide)⟩
 rw [j2 (by rw [Bool.not_eq_true] at h1; exact h1)]
 simp only [Bool.or_eq_true, Bool.and_eq_true, decide_eq_true_eq] at h1
 simp only [jn]
 rw [rds_scan l default (fun x => decide (12 < x.1.length) || decide (12 < x.2.length)) (some false) (some true) _ (fun k rec hk => ?_) (fun rec => ?_) (by omega)]
 ·
  by_cases ha : (l.any fun x => decide (12 < x.1.length) || decide (12 < x.2.length)) = true
  · rw [if_pos ha]; exact ⟨_, rfl, fun h => absurd h (by decide)⟩
  ·
   rw [if_neg ha]
   refine ⟨_, rfl, fun _ => ⟨by omega, fun x hx => ?_⟩⟩
   rw [Bool.not_eq_true, List.any_eq_false] at ha
   have := ha x hx
   simp only [Bool.or_eq_true, decide_eq_true_eq] at this
   omega
 ·
  simp only [law06_brief.b1, Int.toNat_natCast]
  rw [j4 (by simpa using hk), f5 (by omega), f5 (fun _ => by omega), k5 (by omega)]
  have e : (decide ((((l.getD k default).1).length : Int) > (12 : Int)) || decide ((((l.getD k default).2).length : Int) > (12 : Int))) = (decide (12 < (l.getD k default).1.length) || decide (12 < (l.getD k default).2.length)) := by
   rw [Bool.eq_iff_iff]
   simp only [Bool.or_eq_true, decide_eq_true_eq]; omega
  rw [e]; rfl
 ·
  simp only [law06_brief.b1]
  rw [j2 (by simp)]
theorem CopySlots_eq {N : Nat} {l : List (List Int × List Int)} (hl : l.length ≤ 62) (hN : 100 < N) (h : ∀ x ∈ l, x.1.length ≤ 12 ∧ x.2.length ≤ 12) : ref06_CopySlots N l = some l := by
 unfold ref06_CopySlots
 simp only [jn]
 refine (rds_map l.length (fun k => l.getD k default) _ (fun b0 => some b0) (fun k s rec hk hs => ?_) (fun s rec hs => ?_) (by omega)).trans (by rw [map_getD])
 ·
  have h6 := h _ (List.getElem_mem hk)
  simp only [ref06_CopySlots.b1, Int.toNat_natCast]
  rw [j4 (by simpa using hk), f5 (by omega)]
  simp only [j6 hk]
  rw [CopyInts_eq N (by omega), f6, f5 (by omega), CopyInts_eq N (by omega), f6, f5 (by simp only [List.length_cons, List.length_nil]; omega), k5 (by omega)]
 ·
  simp only [ref06_CopySlots.b1]
  rw [j2 (by simp)]

def newU (T : List Int) (x : j5) : U := mkU x (z9 T x).1 0 0 0 0
def usN (b c p : Int) (T : List Int) (l : List j5) (slots : List (List Int × List Int)) : Nat → List U
 | 0 => l.map (newU T)
 | t + 1 => (slotF b c p T (slots.getD t default) (usN b c p T l slots t)).2
def gvN (b c p : Int) (T : List Int) (l : List j5) (slots : List (List Int × List Int)) (t : Nat) : List U := C3 b c p T (slots.getD t default) (usN b c p T l slots t)
structure RunOK (b c p : Int) (T : List Int) (l : List j5) (slots : List (List Int × List Int)) : Prop where
 site : v5 b c p T = 0
 len : l.length ≤ 8
 ok : ∀ x ∈ l, k4 T x = 0
 fit : fitB b c p T l = true
 n : slots.length ≤ 60
 sl : ∀ x ∈ slots, SlotOK T l.length x
theorem RunOK.slot {b c p : Int} {T : List Int} {l : List j5} {slots : List (List Int × List Int)} (h : RunOK b c p T l slots) {t : Nat} (ht : t < slots.length) : SlotOK T l.length (slots.getD t default) := by
 rw [j6 ht]; exact h.sl _ (List.getElem_mem ht)
structure UsOK (T : List Int) (l : List j5) (t : Nat) (us : List U) : Prop where
 len : us.length = l.length
 x : us.map uX = l
 g : ∀ u ∈ us, GoodU T (1000000 * (t : Int)) u
structure StepOK (b c p : Int) (T : List Int) (x : List Int × List Int) (us gv us' : List U) : Prop where
 len : gv.length = us.length
 len' : us'.length = us.length
 more : ∀ k, k < us.length → moreU (startU (rateU T x k) (arrU x k) (us.getD k default)) (gv.getD k default)
 fin : ∀ k, k < us.length → us'.getD k default = endU (gv.getD k default)
 ok : ∀ u ∈ gv, OkU u
 fits : FitsU b c p gv
 idle : b - (j9 gv).1 = 0 ∨ ∀ j, j < us.length → candU (c - (j9 gv).2.1) (p - (j9 gv).2.2) (gv.getD j default) = false
theorem step_ok {N : Nat} (hM : N ≤ 20000) (hN : 100 < N) {b c p : Int} {T : List Int} {l : List j5} {slots : List (List Int × List Int)} (h : RunOK b c p T l slots) (l0 : List U) (hl0 : l0.length = l.length) {t : Nat} (ht : t < slots.length) {us : List U} (hu : UsOK T l t us) :
  r8 N slots b c p T l0 (t : Int) us = some (slotF b c p T (slots.getD t default) us) ∧ StepOK b c p T (slots.getD t default) us (C3 b c p T (slots.getD t default) us) (slotF b c p T (slots.getD t default) us).2 ∧ UsOK T l (t + 1) (slotF b c p T (slots.getD t default) us).2 := by
 obtain ⟨h1, h2, h3, h4, h5, h6⟩ := B0 h.site
 have hn := h.n; have hlen := h.len; have hul := hu.len
 have hx := h.slot ht
 have hx' : SlotOK T us.length (slots.getD t default) := by rw [hul]; exact hx
 have hs := slot_eq hM hN (b := b) (c := c) (p := p) ⟨by omega, by omega⟩ ⟨by omega, by omega⟩ ⟨by omega, by omega⟩ h6 (B := 1000000 * (t : Int)) (by omega) slots (t : Int) l0 us (by omega) (by omega) hu.g (by rw [hu.x]; exact h.fit) (x := slots.getD t default) (by rw [Int.toNat_natCast]) hx'
 obtain ⟨s1, s2, s3, s4, s5, s6⟩ := hs
 have e2 : (slotF b c p T (slots.getD t default) us).2 = eachL default (fun _ u => endU u) (C3 b c p T (slots.getD t default) us) := rfl
 have hmore : ∀ k, k < us.length → moreU (startU (rateU T (slots.getD t default) k) (arrU (slots.getD t default) k) (us.getD k default)) ((C3 b c p T (slots.getD t default) us).getD k default) := fun k hk => by
  have := s3 k hk
  unfold startL at this
  rwa [eachL_getD default default _ us hk] at this
 have hfin : ∀ k, k < us.length → (slotF b c p T (slots.getD t default) us).2.getD k default = endU ((C3 b c p T (slots.getD t default) us).getD k default) := fun k hk => by
  rw [e2, eachL_getD default default _ _ (by omega)]
 have hlen2 : (slotF b c p T (slots.getD t default) us).2.length = us.length := by rw [e2, eachL_length]; exact s2
 refine ⟨s1, ⟨s2, hlen2, hmore, hfin, s4, s5, s6⟩, ?_, ?_, ?_⟩
 · omega
 ·
  rw [← hu.x]
  refine getD_ext default (by rw [List.length_map, List.length_map, hlen2]) fun k hk => ?_
  have hk' : k < us.length := by rw [List.length_map] at hk; omega
  have e : ∀ (vs : List U), k < vs.length → (vs.map uX).getD k default = uX (vs.getD k default) := fun vs hv => by
   simp [List.getD_eq_getElem?_getD, hv]
  rw [e _ (by omega), e _ hk', hfin k hk', (hmore k hk').1]
  rfl
 ·
  intro u hu'
  rw [e2] at hu'
  obtain ⟨k, hk, rfl, hm⟩ := eachL_mem hu'
  rw [s2] at hk
  have gk : GoodU T (1000000 * (t : Int)) (us.getD k default) := hu.g _ (by rw [j6 hk]; exact List.getElem_mem _)
  have om := s4 _ hm
  have tk := om.take
  have ha := hx'.a k hk
  have hw : uW ((C3 b c p T (slots.getD t default) us).getD k default) = uW (us.getD k default) + arrU (slots.getD t default) k := by rw [(hmore k hk).1]; rfl
  have hs' : uS ((C3 b c p T (slots.getD t default) us).getD k default) = uS (us.getD k default) := by rw [(hmore k hk).1]; rfl
  have hxk : uX ((C3 b c p T (slots.getD t default) us).getD k default) = uX (us.getD k default) := by rw [(hmore k hk).1]; rfl
  have hnk : uN ((C3 b c p T (slots.getD t default) us).getD k default) = uN (us.getD k default) := by rw [(hmore k hk).1]; rfl
  generalize (C3 b c p T (slots.getD t default) us).getD k default = v at *
  have g1 := gk.w; have g2 := gk.s; have g3 := gk.ws; have g4 := gk.ok; have g5 := gk.n
  unfold arrU at hw
  refine ⟨?_, ?_, ?_, ?_, ?_⟩
  · show k4 T (uX v) = 0; rw [hxk]; exact g4
  · show uN v = (z9 T (uX v)).1; rw [hxk, hnk]; exact g5
  · show 0 ≤ uW v - takeU v; omega
  · show 0 ≤ uS v + takeU v; omega
  · show (uW v - takeU v) + (uS v + takeU v) ≤ 1000000 * ((t + 1 : Nat) : Int); omega
theorem usN_ok {b c p : Int} {T : List Int} {l : List j5} {slots : List (List Int × List Int)} (h : RunOK b c p T l slots) : ∀ t, t ≤ slots.length → UsOK T l t (usN b c p T l slots t)
 | 0, _ => by
  refine ⟨by simp [usN], ?_, fun u hu => ?_⟩
  ·
   rw [usN, List.map_map]
   have : (uX ∘ newU T) = id := rfl
   rw [this, List.map_id]
  ·
   rw [usN] at hu
   obtain ⟨x, hx, rfl⟩ := List.mem_map.1 hu
   exact ⟨h.ok x hx, rfl, by show (0 : Int) ≤ 0; decide, by show (0 : Int) ≤ 0; decide, by show (0 : Int) + 0 ≤ 1000000 * ((0 : Nat) : Int); decide⟩
 | t + 1, ht => (step_ok (N := 20000) (Nat.le_refl _) (by decide) h (usN b c p T l slots t) (usN_ok h t (by omega)).len (show t < slots.length by omega) (usN_ok h t (by omega))).2.2
theorem stepN_ok {b c p : Int} {T : List Int} {l : List j5} {slots : List (List Int × List Int)} (h : RunOK b c p T l slots) {t : Nat} (ht : t < slots.length) :
  StepOK b c p T (slots.getD t default) (usN b c p T l slots t) (gvN b c p T l slots t) (usN b c p T l slots (t + 1)) :=
 (step_ok (N := 20000) (Nat.le_refl _) (by decide) h (usN b c p T l slots t) (usN_ok h t (by omega)).len ht (usN_ok h t (by omega))).2.1
theorem newRun_eq {N : Nat} (hN : 100 < N) {b c p : Int} {T : List Int} {l : List j5} {slots : List (List Int × List Int)} (h : v5 b c p T = 0) (hl : l.length ≤ 8) (hok : ∀ x ∈ l, k4 T x = 0) : B2 N l b c p T = some (usN b c p T l slots 0) := by
 obtain ⟨h1, h2, h3, h4, h5, h6⟩ := B0 h
 unfold B2
 simp only [jn]
 refine (rds_map l.length (fun k => newU T (l.getD k default)) _ (fun b0 => some b0) (fun k s rec hk hs => ?_) (fun s rec hs => ?_) (by omega)).trans ?_
 ·
  have hx := hok _ (List.getElem_mem hk)
  have hnb := u2 h6 hx
  simp only [sched_Run.b1, Int.toNat_natCast]
  rw [j4 (by simpa using hk), f5 (by omega)]
  simp only [j6 hk]
  rw [need_eq N h6 l[k] hx]
  rcases hn : z9 T l[k] with ⟨n1, n2, n3⟩
  simp only [f6]
  rw [f5 (by omega), k5 (by omega)]
  unfold newU mkU
  rw [hn]
 ·
  simp only [sched_Run.b1]
  rw [j2 (by simp)]
 ·
  congr 1
  show _ = l.map (newU T)
  refine List.ext_getElem (by simp) fun i h1 h2 => ?_
  simp only [List.getElem_map, List.getElem_range]
  rw [j6 (by simpa using h2)]
end Go.Sh

/-
 The bound of weights; no choice beyond a bound.
-/
namespace Go.Sh
open Go.PW

end Go.Sh

/-
 Nothing is lost, no block is idle.
-/
namespace Go.Sh
open Go.PW

def runErrV (b c p : Int) (T : List Int) (l : List j5) (slots : List (List Int × List Int)) : Int := if (bothErr b c p T l).2 ≠ 0 then (bothErr b c p T l).2 else slotsErr T l.length slots
theorem runErr_eq {N : Nat} (hM : N ≤ 20000) (hN : 100 < N) (b c p : Int) {T : List Int} (hT : T.length ≤ 18) {l : List j5} (hl : l.length ≤ 10) (slots : List (List Int × List Int)) : law06_runErr N b c p T l slots = some (runErrV b c p T l slots) := by
 unfold law06_runErr runErrV
 rw [BothErr_eq hM (by omega), f6]
 by_cases h : (bothErr b c p T l).2 ≠ 0
 · rw [if_pos h, j4 (by rw [bne_iff_ne]; exact h)]
 · rw [if_neg h, j2 (by rw [bne_eq_false_iff_eq]; exact Classical.not_not.1 h), SlotsErr_eq hM hN b c p (by omega) (by omega), f6]
theorem runOK_of {b c p : Int} {T : List Int} {l : List j5} {slots : List (List Int × List Int)} (h : runErrV b c p T l slots = 0) : RunOK b c p T l slots ∧ (bothErr b c p T l).2 = 0 ∧ slotsErr T l.length slots = 0 := by
 unfold runErrV at h
 by_cases h1 : (bothErr b c p T l).2 ≠ 0
 · rw [if_pos h1] at h; exact absurd h h1
 rw [if_neg h1] at h
 have h1 := Classical.not_not.1 h1
 have h2 := bothErr_zero h1
 have h3 := slotsErr_zero h
 exact ⟨⟨h2.1, h2.2.1, h2.2.2.1, h2.2.2.2, h3.1, h3.2⟩, h1, h⟩
section
variable {b c p : Int} {T : List Int} {l : List j5} {slots : List (List Int × List Int)}
def q8 (slots : List (List Int × List Int)) (k t : Nat) : Int := sumN (fun t => arrU (slots.getD t default) k) t
theorem arr_ok (h : RunOK b c p T l slots) {t k : Nat} (ht : t < slots.length) (hk : k < l.length) : 0 ≤ arrU (slots.getD t default) k ∧ arrU (slots.getD t default) k ≤ 1000000 := (h.slot ht).a k hk
theorem arrived_ok (h : RunOK b c p T l slots) {k : Nat} (hk : k < l.length) : ∀ t, t ≤ slots.length → 0 ≤ q8 slots k t ∧ q8 slots k t ≤ 1000000 * (t : Int)
 | 0, _ => by simp [q8, sumN]
 | t + 1, ht => by
  have ih := arrived_ok h hk t (by omega)
  have := arr_ok h (show t < slots.length by omega) hk
  show 0 ≤ q8 slots k t + arrU (slots.getD t default) k ∧ q8 slots k t + arrU (slots.getD t default) k ≤ _
  omega
theorem user_step (h : RunOK b c p T l slots) {t k : Nat} (ht : t < slots.length) (hk : k < l.length) :
  let u := (usN b c p T l slots t).getD k default; let v := (gvN b c p T l slots t).getD k default
  v = mkU (uX u) (uN u) (uW u + arrU (slots.getD t default) k) (uS u) (rateU T (slots.getD t default) k) (uB v) ∧ uB (startU (rateU T (slots.getD t default) k) (arrU (slots.getD t default) k) u) ≤ uB v ∧ OkU v ∧ (usN b c p T l slots (t + 1)).getD k default = endU v := by
 have hu := usN_ok h t (by omega)
 have st := stepN_ok h ht
 have hk' : k < (usN b c p T l slots t).length := by rw [hu.len]; exact hk
 have m := st.more k hk'
 refine ⟨m.1, m.2, st.ok _ ?_, st.fin k hk'⟩
 have hg : k < (gvN b c p T l slots t).length := by rw [st.len]; exact hk'
 rw [j6 hg]; exact List.getElem_mem _
theorem waits_sum (h : RunOK b c p T l slots) {k : Nat} (hk : k < l.length) : ∀ t, t ≤ slots.length → uW ((usN b c p T l slots t).getD k default) + uS ((usN b c p T l slots t).getD k default) = q8 slots k t
 | 0, _ => by
  have : (usN b c p T l slots 0).getD k default = newU T l[k] := by
   rw [usN, j6 (by simpa using hk)]; simp
  rw [this]; rfl
 | t + 1, ht => by
  have ih := waits_sum h hk t (by omega)
  obtain ⟨h1, h2, h3, h4⟩ := user_step h (show t < slots.length by omega) hk
  rw [h4]
  show (uW _ - takeU _) + (uS _ + takeU _) = q8 slots k t + arrU (slots.getD t default) k
  have e1 : uW ((gvN b c p T l slots t).getD k default) = uW ((usN b c p T l slots t).getD k default) + arrU (slots.getD t default) k := by rw [h1]; rfl
  have e2 : uS ((gvN b c p T l slots t).getD k default) = uS ((usN b c p T l slots t).getD k default) := by rw [h1]; rfl
  omega
theorem user_good (h : RunOK b c p T l slots) {t k : Nat} (ht : t ≤ slots.length) (hk : k < l.length) : GoodU T (1000000 * (t : Int)) ((usN b c p T l slots t).getD k default) := by
 have hu := usN_ok h t ht
 have hk' : k < (usN b c p T l slots t).length := by rw [hu.len]; exact hk
 refine hu.g _ ?_
 rw [j6 hk']; exact List.getElem_mem _
theorem user_x (h : RunOK b c p T l slots) {t k : Nat} (ht : t ≤ slots.length) (hk : k < l.length) : uX ((usN b c p T l slots t).getD k default) = l.getD k default := by
 have hu := usN_ok h t ht
 have hk' : k < (usN b c p T l slots t).length := by rw [hu.len]; exact hk
 have : ((usN b c p T l slots t).map uX).getD k default = uX ((usN b c p T l slots t).getD k default) := by simp [List.getD_eq_getElem?_getD, hk']
 rw [← this, hu.x]
end

end Go.Sh

/-
 The contract is kept: no bit is late.
-/
namespace Go.Sh
open Go.PW

theorem tableErr_mono : ∀ (l : List Int) (b : Int), D1 b l = 0 → (∀ i, i < l.length → b ≤ l.getD i 0) ∧ ∀ i j, i ≤ j → j < l.length → l.getD i 0 ≤ l.getD j 0
 | [], _, _ => ⟨fun i h => by simp at h, fun i j _ h => by simp at h⟩
 | y :: l, b, h => by
  rw [D1] at h
  by_cases h1 : inB y 0 1000 = false
  · rw [if_pos h1] at h; exact absurd h (by decide)
  rw [if_neg h1] at h
  by_cases h2 : y < b
  · rw [if_pos h2] at h; exact absurd h (by decide)
  rw [if_neg h2] at h
  obtain ⟨i1, i2⟩ := tableErr_mono l y h
  refine ⟨fun i hi => ?_, fun i j hij hj => ?_⟩
  ·
   cases i with
   | zero => simp only [List.getD_cons_zero]; omega
   | succ i => simp only [List.getD_cons_succ]; have := i1 i (by simpa using hi); omega
  ·
   cases j with
   | zero => have : i = 0 := (by omega); subst this; exact Int.le_refl _
   | succ j =>
    cases i with
    | zero => simp only [List.getD_cons_zero, List.getD_cons_succ]; exact i1 j (by simpa using hj)
    | succ i => simp only [List.getD_cons_succ]; exact i2 i j (by omega) (by simpa using hj)
theorem siteErr_mono {b c p : Int} {t : List Int} (h : v5 b c p t = 0) : ∀ i j, i ≤ j → j < t.length → t.getD i 0 ≤ t.getD j 0 := by
 unfold v5 at h
 split at h
 · exact absurd h (by decide)
 ·
  split at h
  · exact absurd h (by decide)
  ·
   split at h
   · exact absurd h (by decide)
   · exact (tableErr_mono t 0 h).2

theorem ceilI_mul {n b : Int} (hn : 0 ≤ n) (hb : 1 ≤ b) : n ≤ C2 n b * b := by
 unfold C2
 have h := Int.mul_ediv_add_emod (n + b - 1) b
 have h2 := Int.emod_lt_of_pos (n + b - 1) (show 0 < b by omega)
 rw [Int.mul_comm]
 omega
def leastG (T : List Int) (x : j5) : Int := (z9 T x).1 * T.getD x.2.2.2.2.2.1.toNat 0
theorem leastG_ok {T : List Int} {x : j5} (h : k4 T x = 0) (hk : x.2.1 ≠ 0) : 0 ≤ leastG T x ∧ x.2.2.2.2.2.2.2.1 ≤ leastG T x ∧ x.2.2.2.2.2.2.1 ≤ leastG T x * x.2.2.2.2.2.2.2.2 := by
 obtain ⟨_, h1, h2, h3⟩ := r9 h
 obtain ⟨h4, h5, h6, h7, h8⟩ := h3 hk
 have e : (z9 T x).1 = C2 (if x.2.2.2.2.2.2.2.1 < C2 x.2.2.2.2.2.2.1 x.2.2.2.2.2.2.2.2 then C2 x.2.2.2.2.2.2.1 x.2.2.2.2.2.2.2.2 else x.2.2.2.2.2.2.2.1) (T.getD x.2.2.2.2.2.1.toNat 0) := by
  unfold z9; rw [if_neg hk]
 have hc := B6 (n := x.2.2.2.2.2.2.1) (b := x.2.2.2.2.2.2.2.2) (by omega) (by omega)
 have hm := ceilI_mul (n := x.2.2.2.2.2.2.1) (b := x.2.2.2.2.2.2.2.2) (by omega) (by omega)
 unfold leastG
 rw [e]
 generalize C2 x.2.2.2.2.2.2.1 x.2.2.2.2.2.2.2.2 = q at *
 have hq : q ≤ (if x.2.2.2.2.2.2.2.1 < q then q else x.2.2.2.2.2.2.2.1) ∧ x.2.2.2.2.2.2.2.1 ≤ (if x.2.2.2.2.2.2.2.1 < q then q else x.2.2.2.2.2.2.2.1) := by split <;> omega
 generalize (if x.2.2.2.2.2.2.2.1 < q then q else x.2.2.2.2.2.2.2.1) = M at *
 have hM := ceilI_mul (n := M) (b := T.getD x.2.2.2.2.2.1.toNat 0) (by omega) h8
 refine ⟨by omega, by omega, ?_⟩
 have h9 : q * x.2.2.2.2.2.2.2.2 ≤ C2 M (T.getD x.2.2.2.2.2.1.toNat 0) * T.getD x.2.2.2.2.2.1.toNat 0 * x.2.2.2.2.2.2.2.2 := Int.mul_le_mul_of_nonneg_right (by omega) (by omega)
 omega

theorem sumN_cons (x : Int) (l : List Int) : ∀ j, sumN (fun t => (x :: l).getD t 0) (j + 1) = x + sumN (fun t => l.getD t 0) j
 | 0 => by simp [sumN]
 | j + 1 => by
  rw [sumN, sumN_cons x l j, sumN]
  simp only [List.getD_cons_succ]; omega
theorem innB_none {R : Int} : ∀ (l : List Int) (s m : Int), innB R s m l = none → ∀ j, j < l.length → s + sumN (fun t => l.getD t 0) (j + 1) ≤ m + (j : Int) * R
 | [], _, _, _, j, h => by simp at h
 | x :: l, s, m, h, j, hj => by
  rw [innB] at h
  by_cases h1 : s + x > m
  · rw [if_pos h1] at h; simp at h
  rw [if_neg h1] at h
  have h2 : innB R (s + x) (m + R) l = none := by simpa using h
  rw [sumN_cons]
  cases j with
  | zero => simp only [sumN]; omega
  | succ j =>
   have ih := innB_none l (s + x) (m + R) h2 j (by simpa using hj)
   have e : ((j + 1 : Nat) : Int) * R = (j : Int) * R + R := by rw [show ((j + 1 : Nat) : Int) = (j : Int) + 1 from rfl, Int.add_mul, Int.one_mul]
   rw [e]; omega
theorem outB_none {B R : Int} : ∀ (l : List Int) (i : Nat), outB B R i l = none → ∀ d, d < l.length → innB R 0 B (l.drop d) = none
 | [], _, _, d, h => by simp at h
 | x :: l, i, h, d, hd => by
  rw [outB] at h
  split at h
  · simp at h
  ·
   rename_i h1
   cases d with
   | zero => exact h1
   | succ d => exact outB_none l (i + 1) h d (by simpa using hd)
theorem sumN_shift (f : Nat → Int) (i : Nat) : ∀ d, sumN f (i + d) = sumN f i + sumN (fun t => f (i + t)) d
 | 0 => by simp [sumN]
 | d + 1 => by rw [← Nat.add_assoc, sumN, sumN_shift f i d, sumN]; omega
theorem kept_of_none {B R : Int} {n : Nat} {f : Nat → Int} (h : outB B R 0 ((List.range n).map f) = none) {i j : Nat} (hij : i ≤ j) (hj : j < n) : sumN f (j + 1) - sumN f i ≤ B + ((j - i : Nat) : Int) * R := by
 have h1 := outB_none _ _ h i (by simp; omega)
 have h2 := innB_none _ _ _ h1 (j - i) (by simp; omega)
 have h3 := sumN_shift f i (j - i + 1)
 rw [show i + (j - i + 1) = j + 1 from by omega] at h3
 have h4 : ∀ m, m ≤ n - i → sumN (fun t => (((List.range n).map f).drop i).getD t 0) m = sumN (fun t => f (i + t)) m := fun m => by
  induction m with
  | zero => exact fun _ => rfl
  | succ m ih =>
   intro hm
   rw [sumN, sumN, ih (by omega)]
   congr 1
   rw [j6 (by simp; omega)]
   simp
 rw [h4 _ (by omega)] at h2
 omega

section
variable {b c p : Int} {T : List Int} {l : List j5} {slots : List (List Int × List Int)}
theorem sends (h : RunOK b c p T l slots) {t k : Nat} (ht : t < slots.length) (hk : k < l.length) (hg : (l.getD k default).2.1 ≠ 0) (hrep : (l.getD k default).2.2.2.2.2.1 ≤ (slots.getD t default).1.getD k 0) :
  uW ((usN b c p T l slots (t + 1)).getD k default) = 0 ∨ uS ((usN b c p T l slots t).getD k default) + leastG T (l.getD k default) ≤ uS ((usN b c p T l slots (t + 1)).getD k default) := by
 obtain ⟨e1, e2, e3, e4⟩ := user_step h ht hk
 have hx := user_x h (show t ≤ slots.length by omega) hk
 have gu := user_good h (show t ≤ slots.length by omega) hk
 have ha := arr_ok h ht hk
 have hbe : k4 T (l.getD k default) = 0 := by rw [j6 hk]; exact h.ok _ (List.getElem_mem hk)
 obtain ⟨_, _, _, hz⟩ := r9 hbe
 obtain ⟨z1, _, _, _, z5⟩ := hz hg
 have hmono := siteErr_mono h.site
 have hsl := h.slot ht
 have hr := hsl.r k hk
 have hrate : T.getD (l.getD k default).2.2.2.2.2.1.toNat 0 ≤ rateU T (slots.getD t default) k := hmono _ _ (by omega) (by omega)
 rw [e4]
 have ew : uW ((gvN b c p T l slots t).getD k default) = uW ((usN b c p T l slots t).getD k default) + arrU (slots.getD t default) k := by rw [e1]; rfl
 have es : uS ((gvN b c p T l slots t).getD k default) = uS ((usN b c p T l slots t).getD k default) := by rw [e1]; rfl
 have er : uR ((gvN b c p T l slots t).getD k default) = rateU T (slots.getD t default) k := by rw [e1]; rfl
 have gn := gu.n; have gw := gu.w
 rw [hx] at gn
 have hst : uB (startU (rateU T (slots.getD t default) k) (arrU (slots.getD t default) k) ((usN b c p T l slots t).getD k default)) =
   (if C2 (uW ((usN b c p T l slots t).getD k default) + arrU (slots.getD t default) k) (rateU T (slots.getD t default) k) < uN ((usN b c p T l slots t).getD k default) then C2 (uW ((usN b c p T l slots t).getD k default) + arrU (slots.getD t default) k) (rateU T (slots.getD t default) k) else uN ((usN b c p T l slots t).getD k default)) := by
  have hkk : uK ((usN b c p T l slots t).getD k default) ≠ 0 ∧ 0 < rateU T (slots.getD t default) k := ⟨by
   have : uK ((usN b c p T l slots t).getD k default) = (uX ((usN b c p T l slots t).getD k default)).2.1 := rfl
   rw [this, hx]; exact hg, by omega⟩
  show (if _ then _ else _) = _
  rw [if_pos hkk]
 rw [hst] at e2
 generalize (gvN b c p T l slots t).getD k default = v at *
 generalize (usN b c p T l slots t).getD k default = u at *
 generalize rateU T (slots.getD t default) k = rate at *
 generalize arrU (slots.getD t default) k = arr at *
 have hcm := ceilI_mul (n := uW u + arr) (b := rate) (by omega) (by omega)
 show uW v - takeU v = 0 ∨ uS u + leastG T (l.getD k default) ≤ uS v + takeU v
 unfold takeU
 by_cases hlt : uB v * uR v < uW v
 ·
  rw [if_pos hlt]
  right
  rw [er] at hlt ⊢
  have hb : uN u ≤ uB v := by
   by_cases h1 : C2 (uW u + arr) rate < uN u
   ·
    rw [if_pos h1] at e2
    have : C2 (uW u + arr) rate * rate ≤ uB v * rate := Int.mul_le_mul_of_nonneg_right e2 (by omega)
    omega
   · rw [if_neg h1] at e2; exact e2
  have hn0 : 0 ≤ (z9 T (l.getD k default)).1 := by
   obtain ⟨_, _, _, _, s5, s6⟩ := B0 h.site
   exact (u2 s6 hbe).1.1
  unfold leastG
  rw [← gn]
  rw [← gn] at hn0
  have m1 : uN u * T.getD (l.getD k default).2.2.2.2.2.1.toNat 0 ≤ uN u * rate := Int.mul_le_mul_of_nonneg_left hrate hn0
  have m2 : uN u * rate ≤ uB v * rate := Int.mul_le_mul_of_nonneg_right hb (by omega)
  omega
 ·
  rw [if_neg hlt]
  left; omega
theorem sent_from (h : RunOK b c p T l slots) {k : Nat} (hk : k < l.length) (hg : (l.getD k default).2.1 ≠ 0) (hrep : ∀ t, t < slots.length → (l.getD k default).2.2.2.2.2.1 ≤ (slots.getD t default).1.getD k 0) :
  ∀ t, t ≤ slots.length → ∃ s, s ≤ t ∧ q8 slots k s + ((t - s : Nat) : Int) * leastG T (l.getD k default) ≤ uS ((usN b c p T l slots t).getD k default)
 | 0, _ => ⟨0, Nat.le_refl _, by
  have := waits_sum h hk 0 (by omega)
  have h1 : uW ((usN b c p T l slots 0).getD k default) = 0 := by
   rw [usN, j6 (by simpa using hk)]; simp; rfl
  rw [show ((0 - 0 : Nat) : Int) = 0 from rfl, Int.zero_mul]; omega⟩
 | t + 1, ht => by
  obtain ⟨s, hs, hS⟩ := sent_from h hk hg hrep t (by omega)
  rcases sends h (show t < slots.length by omega) hk hg (hrep t (by omega)) with h0 | h1
  ·
   refine ⟨t + 1, Nat.le_refl _, ?_⟩
   have := waits_sum h hk (t + 1) ht
   rw [Nat.sub_self, show ((0 : Nat) : Int) = 0 from rfl, Int.zero_mul]; omega
  ·
   refine ⟨s, by omega, ?_⟩
   rw [show ((t + 1 - s : Nat) : Int) = ((t - s : Nat) : Int) + 1 from by omega, Int.add_mul, Int.one_mul]; omega
theorem arrived_mono (h : RunOK b c p T l slots) {k : Nat} (hk : k < l.length) {i j : Nat} (hij : i ≤ j) (hj : j ≤ slots.length) : q8 slots k i ≤ q8 slots k j := by
 induction j with
 | zero => have : i = 0 := (by omega); subst this; exact Int.le_refl _
 | succ j ih =>
  by_cases e : i = j + 1
  · subst e; exact Int.le_refl _
  ·
   have := ih (by omega) (by omega)
   have ha := arr_ok h (show j < slots.length by omega) hk
   show _ ≤ q8 slots k j + arrU (slots.getD j default) k
   omega
theorem not_late (h : RunOK b c p T l slots) {k : Nat} (hk : k < l.length) (hg : (l.getD k default).2.1 ≠ 0) (hrep : ∀ t, t < slots.length → (l.getD k default).2.2.2.2.2.1 ≤ (slots.getD t default).1.getD k 0)
  (hc : outB (l.getD k default).2.2.2.2.2.2.1 (l.getD k default).2.2.2.2.2.2.2.1 0 ((List.range slots.length).map fun t => arrU (slots.getD t default) k) = none) {t : Nat} (ht : t < slots.length) :
  q8 slots k ((t : Int) + 2 - (l.getD k default).2.2.2.2.2.2.2.2).toNat ≤ uS ((usN b c p T l slots (t + 1)).getD k default) := by
 have hbe : k4 T (l.getD k default) = 0 := by rw [j6 hk]; exact h.ok _ (List.getElem_mem hk)
 obtain ⟨_, _, _, hz⟩ := r9 hbe
 obtain ⟨_, z2, z3, z4, _⟩ := hz hg
 obtain ⟨g1, g2, g3⟩ := leastG_ok hbe hg
 obtain ⟨s, hs, hS⟩ := sent_from h hk hg hrep (t + 1) ht
 generalize leastG T (l.getD k default) = G at *
 refine Int.le_trans ?_ hS
 generalize hm : ((t : Int) + 2 - (l.getD k default).2.2.2.2.2.2.2.2).toNat = m
 have hG0 : 0 ≤ ((t + 1 - s : Nat) : Int) * G := Int.mul_nonneg (by omega) g1
 by_cases hms : m ≤ s
 ·
  have := arrived_mono h hk hms (by omega)
  omega
 ·
  have hkp := kept_of_none hc (i := s) (j := m - 1) (by omega) (by omega)
  rw [show m - 1 + 1 = m from by omega] at hkp
  change q8 slots k m - q8 slots k s ≤ _ at hkp
  have e1 : ((m - 1 - s : Nat) : Int) * (l.getD k default).2.2.2.2.2.2.2.1 ≤ ((m - 1 - s : Nat) : Int) * G := Int.mul_le_mul_of_nonneg_left g2 (by omega)
  have e2 : ((t + 1 - s : Nat) : Int) * G = G * (l.getD k default).2.2.2.2.2.2.2.2 + ((m - 1 - s : Nat) : Int) * G := by
   rw [Int.mul_comm G, ← Int.add_mul]
   congr 1; omega
  omega
end

theorem due_loop {N : Nat} (hN : 100 < N) {b c p : Int} {T : List Int} {l : List j5} {slots : List (List Int × List Int)} (h : RunOK b c p T l slots) {k t : Nat} (hk : k < l.length) (ht : t < slots.length) (l0 us : List U) (hl0 : l0.length = l.length)
  (hx : uX (us.getD k default) = l.getD k default) (hg : (l.getD k default).2.1 ≠ 0) (K : Int → Option (Int × Int × Int)) :
  rds (t2 N slots l0 (t : Int) us (k : Int) K) N (0, 0) = K (q8 slots k ((t : Int) + 2 - (l.getD k default).2.2.2.2.2.2.2.2).toNat) := by
 have hn := h.n
 have hbe : k4 T (l.getD k default) = 0 := by rw [j6 hk]; exact h.ok _ (List.getElem_mem hk)
 obtain ⟨_, _, _, hz⟩ := r9 hbe
 obtain ⟨_, _, _, z4, _⟩ := hz hg
 have hd : (us.getD k default).2.2.2.2.2.2.2.2.1 = (l.getD k default).2.2.2.2.2.2.2.2 := by rw [← hx]; rfl
 generalize hm : ((t : Int) + 2 - (l.getD k default).2.2.2.2.2.2.2.2).toNat = m
 refine u1 (fun s : Int × Int => ∃ j : Nat, j ≤ m ∧ s = (q8 slots k j, (j : Int))) (fun s => m - s.2.toNat) (fun _ => K (q8 slots k m)) (fun rec s hI hrec => ?_) N (0, 0) ⟨0, Nat.zero_le _, rfl⟩ (by simp; omega)
 obtain ⟨j, hj, rfl⟩ := hI
 have ha := arrived_ok h hk j (by omega)
 simp only [t2, Int.toNat_natCast, hd]
 rw [f5 (by omega), n9 (n := (t : Int) + 1) (by omega), n9 (n := (t : Int) + 1 - _) (by omega)]
 by_cases hjm : j < m
 ·
  have hr := arr_ok h (show j < slots.length by omega) hk
  have hl2 := (h.slot (show j < slots.length by omega)).l2
  rw [j4 (by simp only [decide_eq_true_eq]; omega), f5 (by omega), f5 (by omega), k5 (by omega)]
  show rec (w64 (q8 slots k j + arrU (slots.getD j default) k), _) = _
  rw [n9 (by omega)]
  exact hrec _ ⟨j + 1, hjm, rfl⟩ (by simp only [Int.toNat_natCast]; omega)
 ·
  have : j = m := by omega
  subst this
  rw [j2 (by simp only [decide_eq_false_iff_not]; omega)]
theorem FirstLate_eq {N : Nat} (hM : N ≤ 20000) (hN : 100 < N) {b c p : Int} {T : List Int} {l : List j5} {slots : List (List Int × List Int)} (h : RunOK b c p T l slots) (hb : (bothErr b c p T l).2 = 0) (hs0 : slotsErr T l.length slots = 0) (hn : ∀ x ∈ l, x.1.size < N)
  (hnl : ∀ k, k < l.length → (l.getD k default).2.1 ≠ 0 → ∀ t, t < slots.length → q8 slots k ((t : Int) + 2 - (l.getD k default).2.2.2.2.2.2.2.2).toNat ≤ uS ((usN b c p T l slots (t + 1)).getD k default)) :
  sched_FirstLate N b c p T l slots = some (0, 0, 12) := by
 obtain ⟨h1, h2, h3, h4, h5, h6⟩ := B0 h.site
 have h60 := h.n; have hlen := h.len
 unfold sched_FirstLate
 rw [openAll_eq hM (by omega) b c p T l hn, f6]
 simp only [hb]
 rw [j2 (by rfl), newRun_eq hN (slots := slots) h.site h.len h.ok, f6, slotsErr_eq hM hN b c p (by omega) (by omega) slots, f6, hs0, j2 (by rfl)]
 simp only [jn]
 have hl0 : (usN b c p T l slots 0).length = l.length := (usN_ok h 0 (by omega)).len
 refine u1 (fun s : Int × List U => ∃ t : Nat, t ≤ slots.length ∧ s = ((t : Int), usN b c p T l slots t)) (fun s => slots.length - s.1.toNat) (fun _ => some (0, 0, 12)) (fun rec s hI hrec => ?_) N _ ⟨0, Nat.zero_le _, rfl⟩ (by simp; omega)
 obtain ⟨t, ht, rfl⟩ := hI
 by_cases htl : t < slots.length
 ·
  simp only [t6, jn]
  rw [j4 (by simpa using htl), f5 (by omega), (step_ok hM hN h (usN b c p T l slots 0) hl0 htl (usN_ok h t ht)).1, f6]
  have hr := hrec (((t + 1 : Nat) : Int), usN b c p T l slots (t + 1)) ⟨t + 1, htl, rfl⟩ (by simp only [Int.toNat_natCast]; omega)
  have hu1 := usN_ok h (t + 1) htl
  change rds (p9 N slots (usN b c p T l slots 0) t _ (usN b c p T l slots (t + 1))) N 0 = _
  have hnt := fun k hk hg => hnl k hk hg t htl
  have hx := fun k (hk : k < l.length) => user_x h (show t + 1 ≤ slots.length from htl) hk
  have hgd := fun k (hk : k < l.length) => user_good h (show t + 1 ≤ slots.length from htl) hk
  generalize usN b c p T l slots (t + 1) = us at *
  refine rds_up1 l.length _ (fun _ => some (0, 0, 12)) (fun k rec1 hk hrec1 => ?_) (fun rec1 => ?_) (by omega)
  ·
   simp only [p9, jn, Int.toNat_natCast]
   rw [j4 (by simp only [decide_eq_true_eq]; omega), f5 (by omega)]
   have hkind : (us.getD k default).2.1 = (l.getD k default).2.1 := by rw [← hx k hk]; rfl
   unfold l9
   rw [f6, hkind]
   by_cases hg : (l.getD k default).2.1 = 0
   · rw [j4 (by rw [hg]; rfl), k5 (by omega), hrec1]
   ·
    rw [j2 (by simpa using hg), due_loop hN h hk htl _ us hl0 (hx k hk) hg, f5 (by omega), j2 (by
     simp only [decide_eq_false_iff_not]
     have := hnt k hk hg
     show ¬ uS (us.getD k default) < _
     omega), k5 (by omega), hrec1]
  ·
   simp only [p9]
   rw [j2 (by simp only [decide_eq_false_iff_not]; omega), k5 (by omega)]
   exact hr
 ·
  have : t = slots.length := by omega
  subst this
  simp only [t6]
  rw [j2 (by simp)]

theorem law_SchedKept {N : Nat} (hM : N ≤ 20000) (hN : 100 < N) (hA : law06_awake N = some true) (b c p : Int) (T : List Int) (l : List j5) (slots : List (List Int × List Int)) : law06_SchedKept N b c p T l slots = some true := by
 unfold law06_SchedKept
 rw [hA]
 simp only [f6, Bool.not_true, w5]
 obtain ⟨r, hr⟩ := Few_some hM (by omega) b c p T l
 have hF := Few_true hM (by omega) hr
 obtain ⟨r', hr', hB⟩ := brief_some hN slots
 rw [hr, hr']
 simp only [f6]
 cases r
 · rfl
 obtain ⟨f1, f2, f3⟩ := hF rfl
 by_cases h12 : (slots.length : Int) > 12
 · rw [show decide ((slots.length : Int) > 12) = true from by simpa using h12]; rfl
 rw [show decide ((slots.length : Int) > 12) = false from by simpa using h12]
 simp only [Bool.not_true, Bool.or_false, Bool.not_false, grd_true, f6, Bool.false_or]
 cases r'
 · rfl
 obtain ⟨g1, g2⟩ := hB rfl
 simp only [Bool.not_true, Bool.not_false, grd_true, Bool.false_or]
 rw [runErr_eq hM hN b c p (by omega) (by omega), f6]
 by_cases he : ¬ runErrV b c p T l slots = 0
 · rw [j4 (by rw [bne_iff_ne]; exact he)]
 have he := Classical.not_not.1 he
 rw [j2 (by rw [he]; rfl)]
 obtain ⟨hR, hb0, hs0⟩ := runOK_of he
 rw [Copy_eq N b c p (by omega), f6]
 simp only
 rw [CopyBearers_eq N (by omega), f6, CopySlots_eq g1 hN g2, f6]
 simp only [jn]
 have hl8 := hR.len
 have hn60 := hR.n
 refine u1 (fun s : Int => ∃ k : Nat, k ≤ l.length ∧ s = (k : Int) ∧ ∀ j, j < k → (l.getD j default).2.1 ≠ 0 → (∀ t, t < slots.length → (l.getD j default).2.2.2.2.2.1 ≤ (slots.getD t default).1.getD j 0) ∧
   outB (l.getD j default).2.2.2.2.2.2.1 (l.getD j default).2.2.2.2.2.2.2.1 0 ((List.range slots.length).map fun t => arrU (slots.getD t default) j) = none) (fun s => l.length - s.toNat) (fun _ => some true) (fun rec s hI hrec => ?_) N 0 ⟨0, Nat.zero_le _, rfl, fun j h => by omega⟩ (by simp; omega)
 obtain ⟨k, hk, rfl, hall⟩ := hI
 by_cases hkl : k < l.length
 ·
  have hnext : ((l.getD k default).2.1 ≠ 0 → (∀ t, t < slots.length → (l.getD k default).2.2.2.2.2.1 ≤ (slots.getD t default).1.getD k 0) ∧
    outB (l.getD k default).2.2.2.2.2.2.1 (l.getD k default).2.2.2.2.2.2.2.1 0 ((List.range slots.length).map fun t => arrU (slots.getD t default) k) = none) → rec (w64 ((k : Int) + 1)) = some true := fun hgk => by
   rw [k5 (by omega)]
   refine hrec _ ⟨k + 1, hkl, rfl, fun j hj => ?_⟩ (by simp only [Int.toNat_natCast]; omega)
   rcases Nat.lt_succ_iff_lt_or_eq.1 hj with h | rfl
   · exact hall j h
   · exact hgk
  simp only [law06_SchedKept.b1, jn, Int.toNat_natCast]
  rw [j4 (by simpa using hkl), f5 (by omega)]
  by_cases hg : (l.getD k default).2.1 = 0
  ·
   rw [j4 (by rw [hg]; rfl)]
   exact hnext fun h => absurd hg h
  rw [j2 (by rw [beq_eq_false_iff_ne]; exact hg)]
  refine u1 (fun s : Int × List Int => ∃ t : Nat, t ≤ slots.length ∧ s = ((t : Int), (List.range t).map fun t => arrU (slots.getD t default) k) ∧ ∀ j, j < t → (l.getD k default).2.2.2.2.2.1 ≤ (slots.getD j default).1.getD k 0) (fun s => slots.length - s.1.toNat) (fun _ => some true)
   (fun rec1 s hI hrec1 => ?_) N _ ⟨0, Nat.zero_le _, rfl, fun j h => by omega⟩ (by simp; omega)
  obtain ⟨t, ht, rfl, hrep⟩ := hI
  by_cases htl : t < slots.length
  ·
   have hsl := hR.slot htl
   have hl1 := hsl.l1; have hl2 := hsl.l2
   simp only [u5, Int.toNat_natCast]
   rw [j4 (by simpa using htl), f5 (by omega), f5 (by omega), f5 (by omega)]
   by_cases hlt : (slots.getD t default).1.getD k 0 < (l.getD k default).2.2.2.2.2.1
   · rw [j4 (by simpa using hlt)]
   rw [j2 (by simpa using hlt), f5 (by omega), f5 (by omega), f5 (by simp only [List.length_map, List.length_range, List.length_cons, List.length_nil]; omega), k5 (by omega)]
   refine hrec1 _ ⟨t + 1, htl, ?_, fun j hj => ?_⟩ (by simp only [Int.toNat_natCast]; omega)
   · rw [List.range_succ, List.map_append]; rfl
   ·
    rcases Nat.lt_succ_iff_lt_or_eq.1 hj with h | rfl
    · exact hrep j h
    · omega
  ·
   have : t = slots.length := by omega
   subst this
   simp only [u5]
   rw [j2 (by simp), Copy_eq N b c p (by omega), f6]
   have hbe : k4 T (l.getD k default) = 0 := by rw [j6 hkl]; exact hR.ok _ (List.getElem_mem hkl)
   have hsz : (l.getD k default).1.size < N := by
    have := f3 _ (show l.getD k default ∈ l by rw [j6 hkl]; exact List.getElem_mem hkl); omega
   have hbr : breakErr b c p T (l.getD k default) ((List.range slots.length).map fun t => arrU (slots.getD t default) k) = 0 := by
    have ho : oneErr b c p T (l.getD k default) = 0 := by unfold oneErr; rw [if_neg (fun h => h hR.site)]; exact hbe
    unfold breakErr
    rw [if_neg (fun h => h ho), if_neg hg]
    unfold arrErr
    rw [if_neg (by simp; omega), if_neg]
    rw [Bool.not_eq_true, List.any_eq_false]
    intro x hx
    obtain ⟨t, ht, rfl⟩ := List.mem_map.1 hx
    rw [A8.2 (arr_ok hR (List.mem_range.1 ht) hkl)]; decide
   simp only [f5 (show 0 ≤ (k : Int) ∧ (k : Int) < (l.length : Int) by omega)]
   rw [Breaks_eq hM (by omega) b c p T (l.getD k default) hsz _ (by simp; omega), hbr, if_neg (by decide)]
   cases ho : outB (l.getD k default).2.2.2.2.2.2.1 (l.getD k default).2.2.2.2.2.2.2.1 0 ((List.range slots.length).map fun t => arrU (slots.getD t default) k) with
   | some r => rfl
   | none =>
    simp only [f6]
    rw [j2 (by rfl)]
    exact hnext fun _ => ⟨hrep, ho⟩
 ·
  have : k = l.length := by omega
  subst this
  simp only [law06_SchedKept.b1]
  rw [j2 (by simp), FirstLate_eq hM hN hR hb0 hs0 (fun x hx => by have := f3 x hx; omega) (fun k hk hg t ht => not_late hR hk hg (hall k hk hg).1 (hall k hk hg).2 ht), f6]
  rfl
end Go.Sh

/-
 The first test of each law of the scheduling chapter: fixed calls come to what they should.
-/
namespace Go.Sh
open Go.PW
set_option maxRecDepth 100000
theorem awake_true : law06_awake 5000 = some true := by
 repeat delta law06_awake D3 E9 base_Lists base_Lists.b1 base_Ints base_Ints.b1 ref06_SameAdmission ref06_SameAdmission.b1 base_Texts base_Texts.b1 sched_BestTurns sched_BestTurns.b1 A3 A4 sched_least sched_least.b1 slices_Min_ii slices_Min_ii.b1 sched_choices sched_caseErr sched_caseErr.b1 B1 l3 slices_IndexFunc_ii slices_IndexFunc_ii.b1 sched_SharesOf sched_fair sched_fair.b5 sched_fair.b4 E7 sched_fair.b3 sched_fair.b1 sched_divisor sched_divisor.b1 D2 sched_demandErr sched_demandErr.b1 sched_Run sched_Run.b8 sched_Run.b2 r8 D7 D8 p4 sched_Run.b4 D9 B2 sched_Run.b1 l8 sched_run_left sched_run_left.b1 sched_site_slotsErr sched_site_slotsErr.b1 m8 law06_Best sched_Admit sched_Admit.b1 sched_last sched_last.b1 t5 q0 sched_site_bearersErr sched_site_bearersErr.b1 o9 sched_site_room sched_site_room.b1 D5 f9 slices_IndexFunc_api_SchedBearer_api_SchedBearer slices_IndexFunc_api_SchedBearer_api_SchedBearer.b1 z6 law06_Alarm sched_NeedOf p5 A2 l9 q3 k9 l7 sched_isName sched_isName.b1 sched_open sched_CheckSite sched_CheckSite.b1 sched_first sched_first.b1 i5 j3 law06_Voice law06_Site A9 E5
 simp only [w64_eq, ByteArray.toList_eq]
 decide +kernel
end Go.Sh
