/-
  Plain words: loops that count up. For every program.
-/
import Derived.Test.YtikelkndldaejaaPlA
import Derived.Test.YtikelkndldaejaaCsS
set_option linter.all false
namespace Go.PW
theorem w64_nat {n : Nat} (h : n < 4611686018427387904) : w64 (n : Int) = n := w64_id (by omega)
theorem w64_succ {k : Nat} (h : k < 4611686018427387904) : w64 ((k : Int) + 1) = ((k + 1 : Nat) : Int) := by rw [w64_id (by omega)]; rfl

theorem rds_up1 {R : Type} (len : Nat) (b : (Int → Option R) → Int → Option R) (F : Nat → Option R)
    (hstep : ∀ k rec, k < len → rec ((k + 1 : Nat) : Int) = F (k + 1) → b rec (k : Int) = F k) (hend : ∀ rec, b rec (len : Int) = F len)
    {N : Nat} (hN : len < N) : rds b N 0 = F 0 := by
  have h := rds_spec (b := b) (fun x => ∃ k : Nat, k ≤ len ∧ x = k) (fun x => len - x.toNat) (fun x => F x.toNat) (fun rec x hI hrec => ?_) N 0 ⟨0, Nat.zero_le _, rfl⟩ (by simp; omega)
  · simpa using h
  · obtain ⟨k, hk, hx⟩ := hI
    subst hx
    by_cases hkl : k < len
    · rw [hstep k rec hkl ?_]
      · simp
      · have := hrec ((k + 1 : Nat) : Int) ⟨k + 1, hkl, rfl⟩ (by simp only [Int.toNat_natCast]; omega)
        simpa using this
    · have : k = len := by omega
      subst this
      rw [hend rec]; simp
end Go.PW

/-
  What the shallow functions of the code chapter come to: lists and their errors.
-/
namespace Go.Sh
open Go.PW

theorem within_eq (N : Nat) (n lo hi : Int) : code_within N n lo hi = some (decide (lo ≤ n) && decide (n ≤ hi)) := rfl
theorem unless_eq (N : Nat) (b : Bool) (e : Int) : code_unless N b e = some (if b then 0 else e) := by cases b <;> rfl

def firstOf : List Int → Int
  | [] => 0
  | x :: l => if x = 0 then firstOf l else x
theorem firstOf_drop (l : List Int) (k : Nat) (h : k < l.length) : firstOf (l.drop k) = if l.getD k 0 = 0 then firstOf (l.drop (k + 1)) else l.getD k 0 := by
  rw [List.drop_eq_getElem_cons h, firstOf]; simp [List.getD_eq_getElem?_getD, h]
theorem first_eq {N : Nat} (l : List Int) (hl : l.length < 4611686018427387904) (hN : l.length < N) : code_first N l = some (firstOf l) := by
  unfold code_first jn
  refine (rds_up1 l.length _ (fun k => some (firstOf (l.drop k))) (fun k rec hk hr => ?_) (fun rec => ?_) hN).trans (by simp)
  · unfold code_first.b1
    rw [br_pos (by simpa using hk), chk_pos (by omega), w64_succ (by omega), hr, Int.toNat_natCast, firstOf_drop l k hk]
    by_cases h : l.getD k 0 = 0
    · rw [if_pos h, br_neg (by rw [h]; rfl)]
    · rw [if_neg h, br_pos (by simpa only [bne_iff_ne] using h)]
  · unfold code_first.b1
    rw [br_neg (by simp)]; simp [firstOf]

def indexOf (f : Int → Bool) : List Int → Nat → Int
  | [], _ => -1
  | x :: l, k => if f x then k else indexOf f l (k + 1)
theorem indexOf_drop (f : Int → Bool) (l : List Int) (k : Nat) (h : k < l.length) : indexOf f (l.drop k) k = if f (l.getD k 0) then (k : Int) else indexOf f (l.drop (k + 1)) (k + 1) := by
  rw [List.drop_eq_getElem_cons h, indexOf]; simp [List.getD_eq_getElem?_getD, h]
theorem IndexFunc_eq {N : Nat} (l : List Int) (g : Int → Option Bool) (f : Int → Bool) (hg : ∀ x ∈ l, g x = some (f x)) (hl : l.length < 4611686018427387904) (hN : l.length < N) : slices_IndexFunc_ii N l g = some (indexOf f l 0) := by
  unfold slices_IndexFunc_ii jn
  refine (rds_up1 l.length _ (fun k => some (indexOf f (l.drop k) k)) (fun k rec hk hr => ?_) (fun rec => ?_) hN).trans (by simp)
  · unfold slices_IndexFunc_ii.b1
    have hm : l.getD k 0 ∈ l := by simp [List.getD_eq_getElem?_getD, hk]
    rw [br_pos (by simpa using hk), chk_pos (by omega), w64_succ (by omega), hr, Int.toNat_natCast, hg _ hm, bnd_val, indexOf_drop f l k hk]
    cases h : f (l.getD k 0) <;> simp
  · unfold slices_IndexFunc_ii.b1
    rw [br_neg (by simp)]; simp [indexOf]
theorem indexOf_ge (f : Int → Bool) (l : List Int) (k : Nat) : indexOf f l k ≥ 0 ↔ l.any f = true := by
  induction l generalizing k with
  | nil => simp [indexOf]
  | cons x l ih =>
    rw [indexOf, List.any_cons]
    by_cases h : f x = true
    · simp [h]
    · rw [if_neg h, ih]; simp [h]
theorem indexOf_any (f : Int → Bool) (l : List Int) (k : Nat) : decide (indexOf f l k ≥ 0) = l.any f := by
  rw [Bool.eq_iff_iff, decide_eq_true_iff]; exact indexOf_ge f l k
theorem ContainsFunc_eq {N : Nat} (l : List Int) (g : Int → Option Bool) (f : Int → Bool) (hg : ∀ x ∈ l, g x = some (f x)) (hl : l.length < 4611686018427387904) (hN : l.length < N) : slices_ContainsFunc_ii N l g = some (l.any f) := by
  unfold slices_ContainsFunc_ii
  rw [IndexFunc_eq l g f hg hl hN, bnd_val, indexOf_any]
theorem listErr_eq {N : Nat} (l : List Int) (most e : Int) (g : Int → Option Bool) (f : Int → Bool) (hg : ∀ x ∈ l, g x = some (f x)) (hl : l.length < 4611686018427387904) (hN : l.length < N) (hN3 : 3 < N) :
    code_listErr N l most g e = some (if l.length = 0 then 10 else if (l.length : Int) > most then 8 else if l.all f then 0 else e) := by
  unfold code_listErr
  rw [ContainsFunc_eq l _ (fun x => !f x) (fun x hx => by simp [code_listErr_1, hg x hx]) hl hN, bnd_val]
  simp only [unless_eq, bnd_val]
  rw [first_eq _ (by simp) (by simpa using hN3), bnd_val]
  congr 1
  have ha : (!(l.any fun x => !f x)) = l.all f := by simp [List.all_eq_not_any_not]
  rw [ha]
  by_cases h0 : l.length = 0
  · simp [firstOf, h0]
  · by_cases h1 : (l.length : Int) > most
    · have : ¬ (l.length : Int) ≤ most := by omega
      simp [firstOf, h0, h1, this]
    · have : (l.length : Int) ≤ most := by omega
      have h2 : 0 < l.length := by omega
      rw [if_neg h0, if_neg h1, decide_eq_true (show (l.length : Int) > 0 by omega), decide_eq_true this]
      by_cases hf : l.all f = true
      · rw [if_pos hf]; rfl
      · rw [if_neg hf]
        simp only [firstOf, if_true]
        by_cases he : e = 0 <;> simp [he]
end Go.Sh

/-
  What the shallow functions of the code chapter come to: polar codes that are right.
-/
namespace Go.Sh
open Go.PW

def isBitB (x : Int) : Bool := x == 0 || x == 1
def listErr (most : Int) (f : Int → Bool) (e : Int) (l : List Int) : Int := if l.length = 0 then 10 else if (l.length : Int) > most then 8 else if l.all f then 0 else e
theorem bitsErr_eq {N : Nat} (l : List Int) (hl : l.length < 4611686018427387904) (hN : l.length < N) (hN3 : 3 < N) : code_bitsErr N l = some (listErr 200 isBitB 15 l) := by
  unfold code_bitsErr
  rw [listErr_eq l _ _ (fun y0 => code_isBit N y0) isBitB (fun x _ => rfl) hl hN hN3, bnd_val]; rfl
def isSoftB (x : Int) : Bool := decide (-1000000 ≤ x) && decide (x ≤ 1000000)
theorem softErr_eq {N : Nat} (l : List Int) (hl : l.length < 4611686018427387904) (hN : l.length < N) (hN3 : 3 < N) : code_softErr N l = some (listErr 400 isSoftB 2 l) := by
  unfold code_softErr
  rw [listErr_eq l _ _ (fun y0 => code_upTo_1 N y0 1000000) isSoftB (fun x _ => by rw [code_upTo_1, w64_id (by omega), within_eq]; rfl) hl hN hN3, bnd_val]; rfl

theorem shl1_pow {p : Nat} (h : p ≤ 40) : shlI 1 (p : Int) = ((2 ^ p : Nat) : Int) := by
  have := shlI_nat (a := 1) (b := p) (by have := Nat.pow_le_pow_right (n := 2) (by omega) h; omega) (by omega)
  simpa using this
def placesErr (m : Int) : Int → List Int → Int
  | _, [] => 0
  | b, x :: l => if ¬(0 ≤ x ∧ x ≤ m) then 2 else if x ≤ b then 9 else placesErr m x l
def polarErr (p : Int) (l : List Int) : Int := if ¬(0 ≤ p ∧ p ≤ 6) then 2 else if l.length = 0 then 10 else placesErr (2 ^ p.toNat - 1) (-1) l
theorem placesErr_drop (m b : Int) (l : List Int) (k : Nat) (h : k < l.length) : placesErr m b (l.drop k) = if ¬(0 ≤ l.getD k 0 ∧ l.getD k 0 ≤ m) then 2 else if l.getD k 0 ≤ b then 9 else placesErr m (l.getD k 0) (l.drop (k + 1)) := by
  rw [List.drop_eq_getElem_cons h, placesErr]; simp [List.getD_eq_getElem?_getD, h]
theorem rds_upR {σ R : Type} (len : Nat) (b : (σ × Int → Option R) → σ × Int → Option R) (F : Nat → σ → Option R)
    (hstep : ∀ k s rec, k < len → (∀ s', rec (s', ((k + 1 : Nat) : Int)) = F (k + 1) s') → b rec (s, (k : Int)) = F k s) (hend : ∀ s rec, b rec (s, (len : Int)) = F len s)
    {N : Nat} (hN : len < N) (s : σ) : rds b N (s, 0) = F 0 s := by
  have h := rds_spec (b := b) (fun x => ∃ k : Nat, k ≤ len ∧ x.2 = k) (fun x => len - x.2.toNat) (fun x => F x.2.toNat x.1) (fun rec x hI hrec => ?_) N (s, 0) ⟨0, Nat.zero_le _, rfl⟩ (by simp; omega)
  · simpa using h
  · obtain ⟨k, hk, hx⟩ := hI
    obtain ⟨t, i⟩ := x
    simp only at hx
    subst hx
    by_cases hkl : k < len
    · rw [hstep k t rec hkl (fun s' => ?_)]
      · simp
      · have := hrec (s', ((k + 1 : Nat) : Int)) ⟨k + 1, hkl, rfl⟩ (by simp only [Int.toNat_natCast]; omega)
        simpa using this
    · have : k = len := by omega
      subst this
      rw [hend t rec]; simp
theorem pow_le6 {p : Nat} (h : p ≤ 6) : 2 ^ p ≤ 64 := Nat.pow_le_pow_right (n := 2) (by omega) h
theorem CheckPolar_eq {N : Nat} (p : Int) (l : List Int) (hl : l.length < 4611686018427387904) (hN : l.length < N) (hN3 : 3 < N) : code_CheckPolar N p l = some (polarErr p l) := by
  unfold code_CheckPolar
  simp only [code_isPower, within_eq, bnd_val, unless_eq]
  rw [first_eq _ (by simp) (by simp; omega), bnd_val]
  by_cases hp : 0 ≤ p ∧ p ≤ 6
  · obtain ⟨q, rfl⟩ := Int.eq_ofNat_of_zero_le hp.1
    have hq : q ≤ 6 := by omega
    have h64 := pow_le6 hq
    have hb : (decide (0 ≤ (q : Int)) && decide ((q : Int) ≤ 6)) = true := by simp; omega
    rw [hb]
    by_cases h0 : l.length = 0
    · have : decide ((l.length : Int) > 0) = false := by simp [h0]
      rw [this, br_pos (by decide)]
      rw [polarErr, if_neg (show ¬¬(0 ≤ (q : Int) ∧ (q : Int) ≤ 6) from fun h => h hp), if_pos h0]; rfl
    · have : decide ((l.length : Int) > 0) = true := by simp; omega
      rw [this, br_neg (by decide), jn]
      refine (rds_upR l.length _ (fun k b => some (placesErr (2 ^ q - 1) b (l.drop k))) (fun k b rec hk hr => ?_) (fun b rec => ?_) hN (-1)).trans ?_
      · unfold code_CheckPolar.b1
        simp only [within_eq, unless_eq, bnd_val, Int.toNat_natCast]
        have hw : w64 (shlI 1 (q : Int) - 1) = 2 ^ q - 1 := by
          rw [shl1_pow (by omega)]
          have : ((2 ^ q : Nat) : Int) ≤ 64 := by exact_mod_cast h64
          have h0 : (0 : Int) ≤ ((2 ^ q : Nat) : Int) := Int.natCast_nonneg _
          have e : ((2 ^ q : Nat) : Int) = 2 ^ q := by push_cast; rfl
          rw [e] at this h0 ⊢
          exact w64_id (by omega)
        rw [br_pos (by simpa using hk), chk_pos (by omega), chk_pos (by omega), first_eq _ (by simp) (by simp; omega), bnd_val, hw, w64_succ (by omega), hr, placesErr_drop _ _ _ _ hk]
        by_cases h1 : 0 ≤ l.getD k 0 ∧ l.getD k 0 ≤ 2 ^ q - 1
        · have h1b : (decide (0 ≤ l.getD k 0) && decide (l.getD k 0 ≤ 2 ^ q - 1)) = true := by rw [Bool.and_eq_true, decide_eq_true_iff, decide_eq_true_iff]; exact h1
          rw [h1b, if_neg (show ¬¬(0 ≤ l.getD k 0 ∧ l.getD k 0 ≤ 2 ^ q - 1) from fun h => h h1)]
          by_cases h2 : l.getD k 0 ≤ b
          · rw [if_pos h2, decide_eq_false (show ¬ l.getD k 0 > b by omega)]; rfl
          · rw [if_neg h2, decide_eq_true (show l.getD k 0 > b by omega)]; rfl
        · have h1b : (decide (0 ≤ l.getD k 0) && decide (l.getD k 0 ≤ 2 ^ q - 1)) = false := by rw [← Bool.not_eq_true, Bool.and_eq_true, decide_eq_true_iff, decide_eq_true_iff]; exact h1
          rw [h1b, if_pos h1]; rfl
      · show br (decide ((l.length : Int) < l.length)) _ _ = _
        rw [br_neg (by simp)]; simp [placesErr]
      · simp only [polarErr, List.drop_zero, Int.toNat_natCast]
        rw [if_neg (by omega), if_neg h0]
  · have hb : (decide (0 ≤ p) && decide (p ≤ 6)) = false := by rw [← Bool.not_eq_true, Bool.and_eq_true, decide_eq_true_iff, decide_eq_true_iff]; exact hp
    rw [hb, polarErr, if_pos hp]; rfl
end Go.Sh

/-
  What the shallow functions of the code chapter come to: the reference's checks.
-/
namespace Go.Sh
open Go.PW

end Go.Sh

/-
  What the shallow functions of the code chapter come to: bits, copies, comparisons.
-/
namespace Go.Sh
open Go.PW

theorem AreBits_eq {N : Nat} (l : List Int) (hl : l.length < 4611686018427387904) (hN : l.length < N) : base_AreBits N l = some (l.all isBitB) := by
  unfold base_AreBits jn
  refine (rds_up1 l.length _ (fun k => some ((l.drop k).all isBitB)) (fun k rec hk hr => ?_) (fun rec => ?_) hN).trans (by simp)
  · unfold base_AreBits.b1
    rw [br_pos (by simpa using hk), chk_pos (by omega), chk_pos (by intro _; omega), w64_succ (by omega), hr, Int.toNat_natCast, List.drop_eq_getElem_cons hk, List.all_cons]
    have e : l.getD k 0 = l[k] := by simp [List.getD_eq_getElem?_getD, hk]
    rw [e]
    by_cases h0 : l[k] = 0
    · rw [br_neg (by simp [h0])]; simp [isBitB, h0]
    · by_cases h1 : l[k] = 1
      · rw [br_neg (by simp [h1])]; simp [isBitB, h1]
      · rw [br_pos (by simp [h0, h1])]; simp [isBitB, h0, h1]
  · show br (decide ((l.length : Int) < l.length)) _ _ = _
    rw [br_neg (by simp)]; simp
theorem CopyInts_eq (N : Nat) (l : List Int) (hl : l.length ≤ 1000000000) : base_CopyInts N l = some l := by
  unfold base_CopyInts
  rw [chk_pos (by simpa using hl)]; rfl
theorem Ints_eq {N : Nat} (a b : List Int) (hl : a.length < 4611686018427387904) (hN : a.length < N) : base_Ints N a b = some (decide (a = b)) := by
  unfold base_Ints
  by_cases hlen : a.length = b.length
  · rw [br_neg (by simp [hlen]), jn]
    refine (rds_up1 a.length _ (fun k => some (decide (a.drop k = b.drop k))) (fun k rec hk hr => ?_) (fun rec => ?_) hN).trans (by simp)
    · unfold base_Ints.b1
      rw [br_pos (by simpa using hk), chk_pos (by omega), chk_pos (by omega), w64_succ (by omega), hr, Int.toNat_natCast]
      have hkb : k < b.length := by omega
      have ea : a.getD k 0 = a[k] := by simp [List.getD_eq_getElem?_getD, hk]
      have eb : b.getD k 0 = b[k] := by simp [List.getD_eq_getElem?_getD, hkb]
      have hd : (a.drop k = b.drop k) = (a[k] = b[k] ∧ a.drop (k + 1) = b.drop (k + 1)) := by
        rw [List.drop_eq_getElem_cons hk, List.drop_eq_getElem_cons hkb, List.cons.injEq]
      rw [ea, eb]; simp only [hd]
      by_cases h : a[k] = b[k]
      · rw [br_neg (by rw [h]; simp)]; simp [h]
      · rw [br_pos (by simpa using h)]; simp [h]
    · show br (decide ((a.length : Int) < a.length)) _ _ = _
      rw [br_neg (by simp)]; simp [hlen]
  · rw [br_pos (by rw [bne_iff_ne]; omega)]
    have : a ≠ b := fun e => hlen (by rw [e])
    simp [this]
end Go.Sh

/-
  What the shallow functions of the code chapter come to: the word of a polar code.
-/
namespace Go.Sh
open Go.PW

noncomputable def wordAt (s : Nat) (l : List Int) (i : Nat) : Int := if i.testBit s then l.getD i 0 else xorI (l.getD i 0) (l.getD (i + 2 ^ s) 0)
noncomputable def stepL (s : Nat) (l : List Int) : List Int := (List.range l.length).map (wordAt s l)
theorem stepL_length (s : Nat) (l : List Int) : (stepL s l).length = l.length := by simp [stepL]
noncomputable def wordIn {R : Type} (step : Int) (b13 : List Int) (K_2 : List Int → Option R) (rec2 : Int × List Int → Option R) : Int × List Int → Option R := fun (t13, b15) =>
  br (decide (t13 < (b13.length : Int))) (
  br ((andI t13 step == (0 : Int))) (
  chk (0 ≤ t13 ∧ t13 < (b15.length : Int)) <|
  chk (0 ≤ w64 (t13 + step) ∧ w64 (t13 + step) < (b15.length : Int)) <|
  chk (0 ≤ t13 ∧ t13 < (b15.length : Int)) <|
  rec2 (w64 (t13 + (1 : Int)), (b15.set t13.toNat (xorI (b15.getD t13.toNat 0) (b15.getD ((w64 (t13 + step)).toNat) 0))))) (
  rec2 (w64 (t13 + (1 : Int)), b15))) (
  K_2 b15)
theorem and_bit (n i : Nat) : n &&& 2 ^ i = if n.testBit i then 2 ^ i else 0 := by
  refine Nat.eq_of_testBit_eq fun j => ?_
  rw [Nat.testBit_and, Nat.testBit_two_pow]
  by_cases h : i = j
  · subst h
    cases ht : n.testBit i <;> simp [Nat.testBit_two_pow]
  · cases ht : n.testBit i <;> simp [Nat.testBit_two_pow, h]
theorem clear_lt {m s i : Nat} (hs : s < m) (hi : i < 2 ^ m) (hb : i.testBit s = false) : i + 2 ^ s < 2 ^ m := by
  obtain ⟨d, rfl⟩ : ∃ d, m = s + 1 + d := ⟨m - (s + 1), by omega⟩
  have h0 : i / 2 ^ s % 2 ≠ 1 := by simpa [Nat.testBit_eq_decide_div_mod_eq] using hb
  have hp : 0 < 2 ^ s := Nat.two_pow_pos s
  have e : 2 ^ (s + 1 + d) = 2 ^ s * (2 * 2 ^ d) := by rw [Nat.pow_add, Nat.pow_succ, Nat.mul_assoc]
  rw [e] at hi ⊢
  have h1 : i / 2 ^ s < 2 * 2 ^ d := Nat.div_lt_of_lt_mul hi
  have h2 := Nat.div_add_mod i (2 ^ s)
  have h3 := Nat.mod_lt i hp
  have h4 : i / 2 ^ s + 2 ≤ 2 * 2 ^ d := by omega
  have h5 : 2 ^ s * (i / 2 ^ s + 2) ≤ 2 ^ s * (2 * 2 ^ d) := Nat.mul_le_mul_left _ h4
  rw [Nat.mul_add] at h5
  omega
theorem ext_getD {a b : List Int} (h : a.length = b.length) (he : ∀ j, j < a.length → a.getD j 0 = b.getD j 0) : a = b := by
  refine List.ext_getElem h fun j h1 h2 => ?_
  have := he j h1
  simpa [List.getD_eq_getElem?_getD, h1, h2] using this
theorem stepL_getD (s : Nat) (l : List Int) (j : Nat) (h : j < l.length) : (stepL s l).getD j 0 = wordAt s l j := by
  simp [stepL, List.getD_eq_getElem?_getD, h]
theorem wordIn_eq {R : Type} (m s : Nat) (hs : s < m) (hm : m ≤ 30) (l : List Int) (hl : l.length = 2 ^ m) (K : List Int → Option R) {N : Nat} (hN : 2 ^ m < N) :
    rds (wordIn ((2 ^ s : Nat) : Int) l K) N (0, l) = K (stepL s l) := by
  have hbig : 2 ^ m ≤ 2 ^ 30 := Nat.pow_le_pow_right (by omega) hm
  have hsm : 2 ^ s < 2 ^ m := Nat.pow_lt_pow_right (by omega) hs
  have hps : (0 : Int) < 2 ^ s := Int.pow_pos (by omega)
  refine rds_spec (fun x : Int × List Int => ∃ k : Nat, k ≤ l.length ∧ x.1 = k ∧ x.2.length = l.length ∧ ∀ j, j < l.length → x.2.getD j 0 = if j < k then wordAt s l j else l.getD j 0) (fun x => l.length - x.1.toNat) (fun _ => K (stepL s l)) (fun rec x hI hrec => ?_) N (0, l) ⟨0, Nat.zero_le _, rfl, rfl, fun j hj => by simp⟩ (by simp; omega)
  obtain ⟨k, hk, hx, hbl, hb⟩ := hI
  obtain ⟨i, b⟩ := x
  simp only at hx hbl hb
  subst hx
  show br (decide ((k : Int) < (l.length : Int))) _ _ = _
  by_cases hkl : k < l.length
  · rw [br_pos (by simpa using hkl), w64_succ (by omega), andI_nat (by omega) (by omega)]
    have hand : (((k &&& 2 ^ s : Nat) : Int) == 0) = !k.testBit s := by
      rw [and_bit]
      cases k.testBit s
      · rfl
      · have := Nat.two_pow_pos s
        simp only [if_true, Bool.not_true, beq_eq_false_iff_ne]
        omega
    rw [hand]
    cases ht : k.testBit s with
    | false =>
      have hlt := clear_lt hs (by omega) ht
      rw [br_pos (by rfl), chk_pos (by omega)]
      have e : w64 ((k : Int) + ((2 ^ s : Nat) : Int)) = ((k + 2 ^ s : Nat) : Int) := by
        have : ((k : Int) + ((2 ^ s : Nat) : Int)) = ((k + 2 ^ s : Nat) : Int) := by push_cast; rfl
        rw [this]; exact w64_nat (by omega)
      have hlb : k + 2 ^ s < b.length := by rw [hbl, hl]; exact hlt
      rw [e, chk_pos ⟨Int.natCast_nonneg _, Int.ofNat_lt.2 hlb⟩, chk_pos (by omega), Int.toNat_natCast, Int.toNat_natCast]
      refine hrec _ ⟨k + 1, hkl, rfl, by simpa using hbl, fun j hj => ?_⟩ (by simp only [Int.toNat_natCast]; omega)
      simp only
      by_cases hjk : j = k
      · subst hjk
        rw [if_pos (Nat.lt_succ_self _)]
        simp only [List.getD_eq_getElem?_getD, List.getElem?_set_self (show j < b.length by omega), Option.getD_some]
        have h1 := hb j hj
        have h2 := hb (j + 2 ^ s) (by omega)
        rw [if_neg (by omega)] at h1
        rw [if_neg (show ¬ j + 2 ^ s < j from by have := Nat.two_pow_pos s; omega)] at h2
        rw [← List.getD_eq_getElem?_getD, ← List.getD_eq_getElem?_getD, h1, h2, wordAt, ht]; rfl
      · have h1 := hb j hj
        rw [List.getD_eq_getElem?_getD, List.getElem?_set_ne (Ne.symm hjk), ← List.getD_eq_getElem?_getD, h1]
        by_cases hlt2 : j < k
        · rw [if_pos hlt2, if_pos (show j < k + 1 by omega)]
        · rw [if_neg hlt2, if_neg (show ¬ j < k + 1 by omega)]
    | true =>
      rw [br_neg (by rfl)]
      refine hrec _ ⟨k + 1, hkl, rfl, hbl, fun j hj => ?_⟩ (by simp only [Int.toNat_natCast]; omega)
      have h1 := hb j hj
      simp only
      rw [h1]
      by_cases hjk : j = k
      · subst hjk
        rw [if_neg (by omega), if_pos (by omega), wordAt, ht]; rfl
      · by_cases hlt2 : j < k
        · rw [if_pos hlt2, if_pos (show j < k + 1 by omega)]
        · rw [if_neg hlt2, if_neg (show ¬ j < k + 1 by omega)]
  · rw [br_neg (by simpa using hkl)]
    have : b = stepL s l := ext_getD (by rw [hbl, stepL_length]) fun j hj => by
      rw [hbl] at hj
      rw [hb j hj, if_pos (by omega), stepL_getD s l j hj]
    rw [this]

noncomputable def wordOut {R : Type} (N : Nat) (K_1 : List Int → Option R) (rec1 : Int × List Int → Option R) : Int × List Int → Option R := fun (step, b13) =>
  br (decide (step < (b13.length : Int))) (
  jn (τ := List Int) (fun (b14 : List Int) =>
    rec1 (w64 (step * (2 : Int)), b14)) fun K_2 =>
  rds (wordIn step b13 K_2) N ((0 : Int), b13)) (
  K_1 b13)
theorem encode_b2 (N : Nat) : code_encode.b2 N = wordOut N := rfl
theorem cancel_b2 (N : Nat) : code_cancel.b2 N = wordOut N := rfl
noncomputable def wordL : Nat → List Int → List Int
  | 0, l => l
  | m + 1, l => stepL m (wordL m l)
theorem wordL_length : ∀ (m : Nat) (l : List Int), (wordL m l).length = l.length
  | 0, _ => rfl
  | m + 1, l => by rw [wordL, stepL_length, wordL_length m l]
theorem wordOut_eq {R : Type} (m : Nat) (hm : m ≤ 30) (l : List Int) (hl : l.length = 2 ^ m) (K : List Int → Option R) {N : Nat} (hN : 2 ^ m < N) :
    rds (wordOut N K) N (1, l) = K (wordL m l) := by
  have hbig : 2 ^ m ≤ 2 ^ 30 := Nat.pow_le_pow_right (by omega) hm
  refine rds_spec (fun x : Int × List Int => ∃ s : Nat, s ≤ m ∧ x = (((2 ^ s : Nat) : Int), wordL s l)) (fun x => 2 ^ m - x.1.toNat) (fun _ => K (wordL m l)) (fun rec x hI hrec => ?_) N (1, l) ⟨0, Nat.zero_le _, rfl⟩ (by simp; omega)
  obtain ⟨s, hs, rfl⟩ := hI
  show br (decide (((2 ^ s : Nat) : Int) < ((wordL s l).length : Int))) _ _ = _
  rw [wordL_length, hl]
  by_cases h : s < m
  · have hsm : 2 ^ s < 2 ^ m := Nat.pow_lt_pow_right (by omega) h
    rw [br_pos (by rw [decide_eq_true_iff]; exact Int.ofNat_lt.2 hsm), jn, wordIn_eq m s h hm _ (by rw [wordL_length, hl]) _ hN]
    have e : w64 (((2 ^ s : Nat) : Int) * 2) = ((2 ^ (s + 1) : Nat) : Int) := by
      have h1 : (((2 ^ s : Nat) : Int) * 2) = ((2 ^ (s + 1) : Nat) : Int) := by rw [Nat.pow_succ]; push_cast; rfl
      have h2 : 2 ^ (s + 1) ≤ 2 ^ m := Nat.pow_le_pow_right (by omega) h
      rw [h1]; exact w64_nat (by omega)
    rw [e]
    refine hrec _ ⟨s + 1, h, rfl⟩ ?_
    have h1 : 2 ^ s < 2 ^ (s + 1) := Nat.pow_lt_pow_right (by omega) (by omega)
    simp only [Int.toNat_natCast]
    omega
  · have : s = m := by omega
    subst this
    rw [br_neg (by simp)]
end Go.Sh

/-
  What the shallow functions of the code chapter come to: encoding.
-/
namespace Go.Sh
open Go.PW

def place : List Int → List Int → List Int → List Int
  | x :: is, y :: ys, b => place is ys (b.set x.toNat y)
  | _, _, b => b
theorem getD_eq {l : List Int} {k : Nat} (h : k < l.length) : l.getD k 0 = l[k] := by simp [List.getD_eq_getElem?_getD, h]
theorem encode_eq {N q : Nat} (hq : q ≤ 6) (info bits : List Int) (hlen : bits.length = info.length) (hin : ∀ x ∈ info, 0 ≤ x ∧ x < ((2 ^ q : Nat) : Int)) (hl : info.length < 4611686018427387904) (hN : info.length < N) (hN2 : 64 < N) :
    code_encode N q info bits = some (wordL q (place info bits (List.replicate (2 ^ q) 0))) := by
  have h64 := pow_le6 hq
  unfold code_encode
  rw [chk_pos (by omega), shl1_pow (by omega), chk_pos ⟨Int.natCast_nonneg _, by have : ((2 ^ q : Nat) : Int) ≤ ((64 : Nat) : Int) := Int.ofNat_le.2 h64; omega⟩, jn, Int.toNat_natCast]
  refine rds_spec (fun x : Int × List Int => ∃ k : Nat, k ≤ info.length ∧ x.1 = k ∧ x.2.length = 2 ^ q ∧ place (info.drop k) (bits.drop k) x.2 = place info bits (List.replicate (2 ^ q) 0)) (fun x => info.length - x.1.toNat) (fun _ => some (wordL q (place info bits (List.replicate (2 ^ q) 0)))) (fun rec x hI hrec => ?_) N (0, List.replicate (2 ^ q) 0) ⟨0, Nat.zero_le _, rfl, by simp, rfl⟩ (by simp; omega)
  obtain ⟨k, hk, hx, hbl, hp⟩ := hI
  obtain ⟨i, b⟩ := x
  simp only at hx hbl hp
  subst hx
  show br (decide ((k : Int) < (info.length : Int))) _ _ = _
  by_cases hkl : k < info.length
  · have hm := hin info[k] (List.getElem_mem hkl)
    have hkb : k < bits.length := by omega
    rw [br_pos (by simpa using hkl), chk_pos (by omega), chk_pos (by omega), Int.toNat_natCast, getD_eq hkl, getD_eq hkb, chk_pos ⟨hm.1, by rw [hbl]; exact hm.2⟩, w64_succ (by omega)]
    refine hrec _ ⟨k + 1, hkl, rfl, by simpa using hbl, ?_⟩ (by simp only [Int.toNat_natCast]; omega)
    rw [← hp, List.drop_eq_getElem_cons hkl, List.drop_eq_getElem_cons hkb, place]
  · have hke : k = info.length := by omega
    have hb : b = place info bits (List.replicate (2 ^ q) 0) := by
      rw [← hp, hke, List.drop_length]
      simp [place]
    rw [br_neg (by simpa using hkl)]
    show rds (code_encode.b2 N fun b12 => some b12) N (1, b) = _
    rw [encode_b2, wordOut_eq q (by omega) b hbl _ (by omega), hb]
end Go.Sh

/-
  The word of a polar code, by halves.
-/
namespace Go.Sh
open Go.PW

theorem getD_left (a b : List Int) {j : Nat} (h : j < a.length) : (a ++ b).getD j 0 = a.getD j 0 := by
  rw [List.getD_eq_getElem?_getD, List.getElem?_append_left h, ← List.getD_eq_getElem?_getD]
theorem getD_right (a b : List Int) (i : Nat) : (a ++ b).getD (a.length + i) 0 = b.getD i 0 := by
  rw [List.getD_eq_getElem?_getD, List.getElem?_append_right (by omega), Nat.add_sub_cancel_left, ← List.getD_eq_getElem?_getD]
noncomputable def zipX (a b : List Int) : List Int := (List.range a.length).map fun i => xorI (a.getD i 0) (b.getD i 0)
theorem zipX_length (a b : List Int) : (zipX a b).length = a.length := by simp [zipX]
theorem zipX_getD (a b : List Int) {i : Nat} (h : i < a.length) : (zipX a b).getD i 0 = xorI (a.getD i 0) (b.getD i 0) := by
  simp [zipX, List.getD_eq_getElem?_getD, h]
theorem stepL_append {m s : Nat} (hs : s < m) (a b : List Int) (ha : a.length = 2 ^ m) (hb : b.length = 2 ^ m) : stepL s (a ++ b) = stepL s a ++ stepL s b := by
  refine ext_getD (by simp [stepL_length]) fun j hj => ?_
  rw [stepL_length, List.length_append] at hj
  rw [stepL_getD s _ j (by simpa using hj)]
  by_cases h : j < a.length
  · rw [getD_left _ _ (by rw [stepL_length]; exact h), stepL_getD s a j h, wordAt, wordAt, getD_left a b h]
    cases ht : j.testBit s with
    | true => rfl
    | false =>
      have := clear_lt hs (by omega) ht
      rw [getD_left a b (by omega)]
  · obtain ⟨i, rfl⟩ : ∃ i, j = a.length + i := ⟨j - a.length, by omega⟩
    have hi : i < b.length := by omega
    have e : (stepL s a ++ stepL s b).getD (a.length + i) 0 = (stepL s b).getD i 0 := by
      have := getD_right (stepL s a) (stepL s b) i
      rwa [stepL_length] at this
    rw [e, stepL_getD s b i hi, wordAt, wordAt, getD_right, Nat.add_assoc, getD_right]
    have ht : (a.length + i).testBit s = i.testBit s := by rw [ha]; exact Nat.testBit_two_pow_add_gt hs i
    rw [ht]
theorem stepL_last {m : Nat} (a b : List Int) (ha : a.length = 2 ^ m) (hb : b.length = 2 ^ m) : stepL m (a ++ b) = zipX a b ++ b := by
  refine ext_getD (by simp [stepL_length, zipX_length]) fun j hj => ?_
  rw [stepL_length, List.length_append] at hj
  rw [stepL_getD m _ j (by simpa using hj)]
  by_cases h : j < a.length
  · have ht : j.testBit m = false := Nat.testBit_lt_two_pow (by omega)
    rw [getD_left _ _ (by rw [zipX_length]; exact h), zipX_getD a b h, wordAt, ht, getD_left a b h]
    have : j + 2 ^ m = a.length + j := by omega
    rw [this, getD_right]; rfl
  · obtain ⟨i, rfl⟩ : ∃ i, j = a.length + i := ⟨j - a.length, by omega⟩
    have hi : i < b.length := by omega
    have e : (zipX a b ++ b).getD (a.length + i) 0 = b.getD i 0 := by
      have := getD_right (zipX a b) b i
      rwa [zipX_length] at this
    have ht : (a.length + i).testBit m = true := by
      rw [ha, Nat.testBit_two_pow_add_eq, Nat.testBit_lt_two_pow (by omega)]; rfl
    rw [e, wordAt, ht, getD_right]; rfl
theorem wordL_append (m : Nat) : ∀ (s : Nat), s ≤ m → ∀ (a b : List Int), a.length = 2 ^ m → b.length = 2 ^ m → wordL s (a ++ b) = wordL s a ++ wordL s b
  | 0, _, _, _, _, _ => rfl
  | s + 1, hs, a, b, ha, hb => by
    rw [wordL, wordL_append m s (by omega) a b ha hb, stepL_append (m := m) (s := s) (by omega) _ _ (by rw [wordL_length, ha]) (by rw [wordL_length, hb])]
    rfl
theorem wordL_halves (m : Nat) (a b : List Int) (ha : a.length = 2 ^ m) (hb : b.length = 2 ^ m) : wordL (m + 1) (a ++ b) = zipX (wordL m a) (wordL m b) ++ wordL m b := by
  rw [wordL, wordL_append m m (Nat.le_refl _) a b ha hb, stepL_last _ _ (by rw [wordL_length, ha]) (by rw [wordL_length, hb])]
end Go.Sh

/-
  What the shallow functions of the code chapter come to: soft bits of a half.
-/
namespace Go.Sh
open Go.PW

def sgn (n : Int) : Int := if n < 0 then -1 else if n > 0 then 1 else 0
theorem size_eq (N : Nat) (n : Int) (h : -4611686018427387904 < n ∧ n < 4611686018427387904) : code_size N n = some (n.natAbs : Int) := by
  unfold code_size
  rw [w64_id (by omega)]
  congr 1
  split <;> omega
theorem sign_eq (N : Nat) (n : Int) : code_sign N n = some (sgn n) := by
  have hn : ∀ x : Int, (x != x) = false := fun x => by simp
  unfold code_sign cmp_Compare_int cmp_isNaN_int
  simp only [hn, bnd_val]
  rw [br_neg rfl, br_neg rfl]
  unfold sgn
  by_cases h : n < 0
  · rw [br_pos (by simpa using h), if_pos h]; rfl
  · rw [br_neg (by simpa using h), if_neg h]
    by_cases h1 : n > 0
    · rw [br_pos (by simpa using h1), if_pos h1]; rfl
    · rw [br_neg (by simpa using h1), if_neg h1]; rfl
def leftAt (x y : Int) : Int := (if (y.natAbs : Int) < (x.natAbs : Int) then (y.natAbs : Int) else (x.natAbs : Int)) * sgn x * sgn y
def leftL (a b : List Int) : List Int := (List.range a.length).map fun i => leftAt (a.getD i 0) (b.getD i 0)
theorem leftL_length (a b : List Int) : (leftL a b).length = a.length := by simp [leftL]
theorem leftL_getD (a b : List Int) {i : Nat} (h : i < a.length) : (leftL a b).getD i 0 = leftAt (a.getD i 0) (b.getD i 0) := by
  simp [leftL, List.getD_eq_getElem?_getD, h]
def rightAt (w x y : Int) : Int := if w = 1 then y - x else y + x
def rightL (w a b : List Int) : List Int := (List.range a.length).map fun i => rightAt (w.getD i 0) (a.getD i 0) (b.getD i 0)
theorem rightL_length (w a b : List Int) : (rightL w a b).length = a.length := by simp [rightL]
theorem rightL_getD (w a b : List Int) {i : Nat} (h : i < a.length) : (rightL w a b).getD i 0 = rightAt (w.getD i 0) (a.getD i 0) (b.getD i 0) := by
  simp [rightL, List.getD_eq_getElem?_getD, h]
theorem sgn_cases (n : Int) : sgn n = -1 ∨ sgn n = 0 ∨ sgn n = 1 := by
  unfold sgn
  by_cases h : n < 0
  · rw [if_pos h]; exact .inl rfl
  · rw [if_neg h]
    by_cases h1 : n > 0
    · rw [if_pos h1]; exact .inr (.inr rfl)
    · rw [if_neg h1]; exact .inr (.inl rfl)
theorem leftAt_w64 (x y : Int) (hx : -4611686018427387904 < x ∧ x < 4611686018427387904) (hy : -4611686018427387904 < y ∧ y < 4611686018427387904) :
    w64 (w64 ((if (y.natAbs : Int) < (x.natAbs : Int) then (y.natAbs : Int) else (x.natAbs : Int)) * sgn x) * sgn y) = leftAt x y := by
  unfold leftAt
  generalize hm : (if (y.natAbs : Int) < (x.natAbs : Int) then (y.natAbs : Int) else (x.natAbs : Int)) = M
  have h1 : 0 ≤ M ∧ M < 4611686018427387904 := by rw [← hm]; split <;> omega
  rcases sgn_cases x with h | h | h <;> rcases sgn_cases y with h' | h' | h' <;> rw [h, h'] <;> rw [w64_id (n := M * _) (by omega), w64_id (by omega)]
end Go.Sh

/-
  What the shallow functions of the code chapter come to: the loops of cancelling.
-/
namespace Go.Sh
open Go.PW

theorem half_eq {a b : List Int} (hab : b.length = a.length) (hl : a.length < 1000000) : w64 (((a ++ b).length : Int).tdiv 2) = (a.length : Int) := by
  have e : (((a ++ b).length : Int).tdiv 2) = (a.length : Int) := by
    rw [List.length_append, hab, Int.tdiv_eq_ediv_of_nonneg (Int.natCast_nonneg _)]; omega
  rw [e]; exact w64_nat (by omega)
theorem take_half (a b : List Int) : (a ++ b).take a.length = a := by simp
theorem drop_half {a b : List Int} (hab : b.length = a.length) : ((a ++ b).drop a.length).take ((a ++ b).length - a.length) = b := by
  rw [List.drop_left, List.length_append, hab, Nat.add_sub_cancel, ← hab, List.take_length]
def inR (l : List Int) : Prop := ∀ i, i < l.length → -2305843009213693952 < l.getD i 0 ∧ l.getD i 0 < 2305843009213693952
theorem cancel_b1_eq {N : Nat} (a b : List Int) (hab : b.length = a.length) (hl : a.length < 1000000) (hN : a.length < N) (ha : inR a) (hb : inR b) (K : List Int → Option (List Int)) :
    rds (code_cancel.b1 N (a ++ b) K) N (0, List.replicate a.length 0) = K (leftL a b) := by
  refine rds_spec (fun x : Int × List Int => ∃ k : Nat, k ≤ a.length ∧ x.1 = k ∧ x.2.length = a.length ∧ ∀ j, j < k → x.2.getD j 0 = leftAt (a.getD j 0) (b.getD j 0)) (fun x => a.length - x.1.toNat) (fun _ => K (leftL a b)) (fun rec x hI hrec => ?_) N (0, List.replicate a.length 0) ⟨0, Nat.zero_le _, rfl, by simp, fun j hj => absurd hj (Nat.not_lt_zero _)⟩ (by simp; omega)
  obtain ⟨k, hk, hx, hcl, hc⟩ := hI
  obtain ⟨i, c⟩ := x
  simp only at hx hcl hc
  subst hx
  unfold code_cancel.b1
  simp only [half_eq hab hl, Int.toNat_natCast, take_half, drop_half hab]
  by_cases hkl : k < a.length
  · have h1 := ha k hkl
    have h2 := hb k (by omega)
    rw [br_pos (by simpa using hkl), chk_pos (by omega), size_eq N _ (by omega), bnd_val, chk_pos (by omega), size_eq N _ (by omega), bnd_val, chk_pos (by omega), sign_eq, bnd_val, chk_pos (by omega), sign_eq, bnd_val, chk_pos (by omega), w64_succ (by omega), leftAt_w64 _ _ (by omega) (by omega)]
    refine hrec _ ⟨k + 1, hkl, rfl, by simpa using hcl, fun j hj => ?_⟩ (by simp only [Int.toNat_natCast]; omega)
    simp only
    by_cases hjk : j = k
    · subst hjk
      rw [List.getD_eq_getElem?_getD, List.getElem?_set_self (by omega)]; rfl
    · rw [List.getD_eq_getElem?_getD, List.getElem?_set_ne (Ne.symm hjk), ← List.getD_eq_getElem?_getD]
      exact hc j (by omega)
  · rw [br_neg (by simpa using hkl)]
    have : c = leftL a b := ext_getD (by rw [hcl, leftL_length]) fun j hj => by rw [hc j (by omega), leftL_getD a b (by omega)]
    rw [this]
theorem cancel_b4_eq {N : Nat} (w c a b : List Int) (hab : b.length = a.length) (hw : w.length = a.length) (hcl0 : c.length = a.length) (hl : a.length < 1000000) (hN : a.length < N) (ha : inR a) (hb : inR b) (K : List Int → Option (List Int)) :
    rds (code_cancel.b4 N (a ++ b) K w) N (0, c) = K (rightL w a b) := by
  refine rds_spec (fun x : Int × List Int => ∃ k : Nat, k ≤ a.length ∧ x.1 = k ∧ x.2.length = a.length ∧ ∀ j, j < k → x.2.getD j 0 = rightAt (w.getD j 0) (a.getD j 0) (b.getD j 0)) (fun x => a.length - x.1.toNat) (fun _ => K (rightL w a b)) (fun rec x hI hrec => ?_) N (0, c) ⟨0, Nat.zero_le _, rfl, hcl0, fun j hj => absurd hj (Nat.not_lt_zero _)⟩ (by simp; omega)
  obtain ⟨k, hk, hx, hcl, hc⟩ := hI
  obtain ⟨i, c⟩ := x
  simp only at hx hcl hc
  subst hx
  unfold code_cancel.b4
  simp only [half_eq hab hl, Int.toNat_natCast, take_half, drop_half hab]
  by_cases hkl : k < a.length
  · have h1 := ha k hkl
    have h2 := hb k (by omega)
    rw [br_pos (by simp only [decide_eq_true_iff]; omega), chk_pos (by omega), chk_pos (by omega), chk_pos (by omega), chk_pos (by omega), w64_id (n := b.getD k 0 + a.getD k 0) (by omega), w64_id (n := b.getD k 0 - a.getD k 0) (by omega), w64_succ (by omega)]
    by_cases hw1 : w.getD k 0 = 1
    · rw [br_pos (by rw [hw1]; rfl), chk_pos (by omega), chk_pos (by omega), chk_pos (by rw [List.length_set]; omega), List.set_set]
      refine hrec _ ⟨k + 1, hkl, rfl, by simpa using hcl, fun j hj => ?_⟩ (by simp only [Int.toNat_natCast]; omega)
      simp only
      by_cases hjk : j = k
      · subst hjk
        rw [List.getD_eq_getElem?_getD, List.getElem?_set_self (by omega), rightAt, if_pos hw1]; rfl
      · rw [List.getD_eq_getElem?_getD, List.getElem?_set_ne (Ne.symm hjk), ← List.getD_eq_getElem?_getD]
        exact hc j (by omega)
    · rw [br_neg (by simpa using hw1)]
      refine hrec _ ⟨k + 1, hkl, rfl, by simpa using hcl, fun j hj => ?_⟩ (by simp only [Int.toNat_natCast]; omega)
      simp only
      by_cases hjk : j = k
      · subst hjk
        rw [List.getD_eq_getElem?_getD, List.getElem?_set_self (by omega), rightAt, if_neg hw1]; rfl
      · rw [List.getD_eq_getElem?_getD, List.getElem?_set_ne (Ne.symm hjk), ← List.getD_eq_getElem?_getD]
        exact hc j (by omega)
  · rw [br_neg (by simp only [decide_eq_false_iff_not]; omega)]
    have : c = rightL w a b := ext_getD (by rw [hcl, rightL_length]) fun j hj => by rw [hc j (by omega), rightL_getD w a b (by omega)]
    rw [this]
end Go.Sh

/-
  What the shallow functions of the code chapter come to: cancelling undoes the word, where the signs are right.
-/
namespace Go.Sh
open Go.PW

def signed (x w : Int) : Prop := (w = 0 ∧ 0 < x) ∨ (w = 1 ∧ x < 0)
theorem xorI_bits {a b : Int} (ha : a = 0 ∨ a = 1) (hb : b = 0 ∨ b = 1) : xorI a b = if a = b then 0 else 1 := by
  rcases ha with rfl | rfl <;> rcases hb with rfl | rfl
  · exact xorI_nat (a := 0) (b := 0) (by omega) (by omega)
  · exact xorI_nat (a := 0) (b := 1) (by omega) (by omega)
  · exact xorI_nat (a := 1) (b := 0) (by omega) (by omega)
  · exact xorI_nat (a := 1) (b := 1) (by omega) (by omega)
theorem signed_sgn {x w : Int} (h : signed x w) : sgn x = 1 - 2 * w := by
  rcases h with ⟨rfl, h⟩ | ⟨rfl, h⟩ <;> unfold sgn
  · rw [if_neg (by omega), if_pos h]; rfl
  · rw [if_pos h]; rfl
theorem left_signed {x y v w : Int} (hv : v = 0 ∨ v = 1) (hw : w = 0 ∨ w = 1) (hx : signed x (xorI v w)) (hy : signed y w) : signed (leftAt x y) v := by
  have hx0 : x ≠ 0 := by rcases hx with ⟨_, h⟩ | ⟨_, h⟩ <;> omega
  have hy0 : y ≠ 0 := by rcases hy with ⟨_, h⟩ | ⟨_, h⟩ <;> omega
  unfold leftAt
  rw [signed_sgn hx, signed_sgn hy, xorI_bits hv hw]
  generalize hm : (if (y.natAbs : Int) < (x.natAbs : Int) then (y.natAbs : Int) else (x.natAbs : Int)) = M
  have h1 : 0 < M := by rw [← hm]; split <;> omega
  rcases hv with rfl | rfl <;> rcases hw with rfl | rfl <;> simp [signed] <;> omega
theorem right_signed {x y v w : Int} (hv : v = 0 ∨ v = 1) (hw : w = 0 ∨ w = 1) (hx : signed x (xorI v w)) (hy : signed y w) : signed (rightAt v x y) w := by
  rw [xorI_bits hv hw] at hx
  unfold rightAt
  rcases hv with rfl | rfl <;> rcases hw with rfl | rfl <;> simp [signed] at hx hy ⊢ <;> omega
theorem left_size {x y B : Int} (hx : (x.natAbs : Int) ≤ B) (hy : (y.natAbs : Int) ≤ B) : ((leftAt x y).natAbs : Int) ≤ B := by
  unfold leftAt
  generalize hm : (if (y.natAbs : Int) < (x.natAbs : Int) then (y.natAbs : Int) else (x.natAbs : Int)) = M
  have h1 : 0 ≤ M ∧ M ≤ B := by rw [← hm]; split <;> omega
  rcases sgn_cases x with h | h | h <;> rcases sgn_cases y with h' | h' | h' <;> rw [h, h'] <;> omega
theorem right_size {v x y B : Int} (hx : (x.natAbs : Int) ≤ B) (hy : (y.natAbs : Int) ≤ B) : ((rightAt v x y).natAbs : Int) ≤ 2 * B := by
  unfold rightAt; split <;> omega
end Go.Sh

/-
  What the shallow functions of the code chapter come to: cancelling.
-/
namespace Go.Sh
open Go.PW

def bits (l : List Int) : Prop := ∀ i, i < l.length → l.getD i 0 = 0 ∨ l.getD i 0 = 1
theorem bits_getD {l : List Int} (h : bits l) (i : Nat) : l.getD i 0 = 0 ∨ l.getD i 0 = 1 := by
  by_cases hi : i < l.length
  · exact h i hi
  · exact .inl (by simp [List.getD_eq_getElem?_getD, List.getElem?_eq_none (Nat.le_of_not_lt hi)])
theorem xorI_bit {a b : Int} (ha : a = 0 ∨ a = 1) (hb : b = 0 ∨ b = 1) : xorI a b = 0 ∨ xorI a b = 1 := by
  rw [xorI_bits ha hb]; split <;> simp
theorem stepL_bits (s : Nat) {l : List Int} (h : bits l) : bits (stepL s l) := fun i hi => by
  rw [stepL_length] at hi
  rw [stepL_getD s l i hi, wordAt]
  split
  · exact h i hi
  · exact xorI_bit (bits_getD h _) (bits_getD h _)
theorem wordL_bits : ∀ (m : Nat) {l : List Int}, bits l → bits (wordL m l)
  | 0, _, h => h
  | m + 1, _, h => stepL_bits m (wordL_bits m h)

theorem cancel_eq {N : Nat} (isInfo : Int → Option Bool) (info : Nat → Bool) : ∀ (m : Nat), m ≤ 6 → 2 ^ m < N → ∀ (n : Nat), m < n → ∀ (soft u : List Int) (f : Nat) (B : Nat), soft.length = 2 ^ m → u.length = 2 ^ m → bits u →
    (∀ i, i < 2 ^ m → signed (soft.getD i 0) ((wordL m u).getD i 0)) → (∀ i, i < 2 ^ m → ((soft.getD i 0).natAbs : Int) ≤ B) → B * 2 ^ m ≤ 2 ^ 40 → (∀ i, i < 2 ^ m → isInfo ((f + i : Nat) : Int) = some (info (f + i))) →
    (∀ i, i < 2 ^ m → info (f + i) = false → u.getD i 0 = 0) → f + 2 ^ m ≤ 1000000 → rds (code_cancel.b N isInfo) n (soft, (f : Int)) = some u := by
  intro m
  induction m with
  | zero =>
    intro _ _ n hn soft u f B hs hu hb hsg _ _ hinfo h0 _
    obtain ⟨n, rfl⟩ : ∃ k, n = k + 1 := ⟨n - 1, by omega⟩
    obtain ⟨x, rfl⟩ := List.length_eq_one_iff.1 hs
    obtain ⟨y, rfl⟩ := List.length_eq_one_iff.1 hu
    have hx := hsg 0 (by simp)
    have hy := h0 0 (by simp)
    have hi := hinfo 0 (by simp)
    simp only [Nat.add_zero] at hi hy
    rw [rds_succ]
    show br (w64 ((([x] : List Int).length : Int).tdiv 2) == 0) _ _ = _
    have hz : w64 ((([x] : List Int).length : Int).tdiv 2) = 0 := by rw [show ((([x] : List Int).length : Int).tdiv 2) = 0 by rw [List.length_singleton]; decide]; exact w64_id (by decide)
    rw [hz, br_pos (by rfl), hi, bnd_val, chk_pos (by intro _; simp)]
    simp only [wordL, List.getD_cons_zero] at hx hy ⊢
    rcases hx with ⟨rfl, h⟩ | ⟨rfl, h⟩
    · rw [br_neg (by simp; intro _; omega)]
    · cases hf : info f with
      | true => rw [br_pos (by simpa using h)]
      | false => exact absurd (hy hf) (by decide)
  | succ m ih =>
    intro hm hN n hn soft u f B hs hu hb hsg hB hBm hinfo h0 hf
    obtain ⟨n, rfl⟩ : ∃ k, n = k + 1 := ⟨n - 1, by omega⟩
    have hp : 2 ^ (m + 1) = 2 ^ m + 2 ^ m := by rw [Nat.pow_succ]; omega
    have hpos := Nat.two_pow_pos m
    have h64 := pow_le6 hm
    obtain ⟨a, b, rfl, ha, hb'⟩ : ∃ a b, soft = a ++ b ∧ a.length = 2 ^ m ∧ b.length = 2 ^ m := ⟨soft.take (2 ^ m), soft.drop (2 ^ m), (List.take_append_drop _ _).symm, by rw [List.length_take]; omega, by rw [List.length_drop]; omega⟩
    obtain ⟨u1, u2, rfl, hu1, hu2⟩ : ∃ u1 u2, u = u1 ++ u2 ∧ u1.length = 2 ^ m ∧ u2.length = 2 ^ m := ⟨u.take (2 ^ m), u.drop (2 ^ m), (List.take_append_drop _ _).symm, by rw [List.length_take]; omega, by rw [List.length_drop]; omega⟩
    rw [wordL_halves m u1 u2 hu1 hu2] at hsg
    have hab : b.length = a.length := by omega
    have hal : a.length < 1000000 := by omega
    have hBB : B ≤ 2 ^ 40 := Nat.le_trans (Nat.le_mul_of_pos_right B (Nat.two_pow_pos _)) hBm
    have hra : inR a := fun i hi => by
      have := hB i (by omega)
      rw [getD_left a b hi] at this
      omega
    have hrb : inR b := fun i hi => by
      have := hB (a.length + i) (by omega)
      rw [getD_right] at this
      omega
    generalize hself : rds (code_cancel.b N isInfo) n = self at *
    rw [rds_succ, hself]
    show br (w64 (((a ++ b).length : Int).tdiv 2) == 0) _ _ = _
    simp only [half_eq hab hal, Int.toNat_natCast]
    rw [br_neg (by rw [beq_eq_false_iff_ne]; omega), chk_pos (by rw [List.length_append]; omega), chk_pos (by rw [List.length_append]; omega), chk_pos (by omega), jn, cancel_b1_eq a b hab hal (by omega) hra hrb]
    have hbu1 : bits u1 := fun i hi => by have := hb i (by rw [List.length_append]; omega); rwa [getD_left u1 u2 hi] at this
    have hbu2 : bits u2 := fun i hi => by have := hb (u1.length + i) (by rw [List.length_append]; omega); rwa [getD_right] at this
    have hw1 := wordL_bits m hbu1
    have hw2 := wordL_bits m hbu2
    have hsa : ∀ i, i < 2 ^ m → signed (a.getD i 0) (xorI ((wordL m u1).getD i 0) ((wordL m u2).getD i 0)) := fun i hi => by
      have := hsg i (by omega)
      rwa [getD_left a b (by omega), getD_left _ _ (by rw [zipX_length, wordL_length]; omega), zipX_getD _ _ (by rw [wordL_length]; omega)] at this
    have hsb : ∀ i, i < 2 ^ m → signed (b.getD i 0) ((wordL m u2).getD i 0) := fun i hi => by
      have := hsg (a.length + i) (by omega)
      have e : a.length + i = (zipX (wordL m u1) (wordL m u2)).length + i := by rw [zipX_length, wordL_length]; omega
      rw [getD_right] at this
      rwa [e, getD_right] at this
    have key1 : self (leftL a b, (f : Int)) = some u1 := by
      rw [← hself]
      refine ih (by omega) (by omega) n (by omega) (leftL a b) u1 f B (by rw [leftL_length, ha]) hu1 hbu1 (fun i hi => ?_) (fun i hi => ?_) ?_ (fun i hi => hinfo i (by omega)) (fun i hi h => ?_) (by omega)
      · rw [leftL_getD a b (by omega)]; exact left_signed (bits_getD hw1 i) (bits_getD hw2 i) (hsa i hi) (hsb i hi)
      · rw [leftL_getD a b (by omega)]
        have h1 := hB i (by omega)
        have h2 := hB (a.length + i) (by omega)
        rw [getD_left a b (by omega)] at h1
        rw [getD_right] at h2
        exact left_size h1 h2
      · rw [hp, Nat.mul_add] at hBm; omega
      · have := h0 i (by omega) h
        rwa [getD_left u1 u2 (by omega)] at this
    show bnd (self (leftL a b, (f : Int))) _ = _
    rw [key1, bnd_val]
    have key2 : self (rightL (wordL m u1) a b, ((f + a.length : Nat) : Int)) = some u2 := by
      rw [← hself]
      refine ih (by omega) (by omega) n (by omega) (rightL (wordL m u1) a b) u2 (f + a.length) (2 * B) (by rw [rightL_length, ha]) hu2 hbu2 (fun i hi => ?_) (fun i hi => ?_) ?_ (fun i hi => ?_) (fun i hi h => ?_) ?_
      · rw [rightL_getD _ a b (by omega)]; exact right_signed (bits_getD hw1 i) (bits_getD hw2 i) (hsa i hi) (hsb i hi)
      · rw [rightL_getD _ a b (by omega)]
        have h1 := hB i (by omega)
        have h2 := hB (a.length + i) (by omega)
        rw [getD_left a b (by omega)] at h1
        rw [getD_right] at h2
        exact right_size h1 h2
      · rw [hp, Nat.mul_add] at hBm; rw [Nat.mul_assoc]; omega
      · have := hinfo (a.length + i) (by omega)
        rwa [← Nat.add_assoc] at this
      · have := h0 (a.length + i) (by omega) (by rwa [← Nat.add_assoc])
        rw [ha, ← hu1] at this
        rwa [getD_right] at this
      · omega
    rw [jn, slices_Clone_ii, chk_pos (by omega), bnd_val, jn, cancel_b2, wordOut_eq m (by omega) u1 hu1 _ (by omega)]
    show rds (code_cancel.b4 N (a ++ b) _ (wordL m u1)) N (0, leftL a b) = _
    rw [cancel_b4_eq (wordL m u1) (leftL a b) a b hab (by rw [wordL_length]; omega) (leftL_length a b) hal (by omega) hra hrb]
    have e : w64 ((f : Int) + (a.length : Int)) = ((f + a.length : Nat) : Int) := by
      rw [w64_id (by omega)]; rfl
    show bnd (self (rightL (wordL m u1) a b, w64 ((f : Int) + (a.length : Int)))) _ = _
    rw [e, key2, bnd_val, chk_pos (by omega)]
end Go.Sh

/-
  What the shallow functions of the code chapter come to: looking up places, decoding.
-/
namespace Go.Sh
open Go.PW

def rising (l : List Int) : Prop := ∀ i j, i < j → j < l.length → l.getD i 0 < l.getD j 0
theorem mid_eq {i j : Nat} (h : i < j) (hj : j < 1000000) : w64 (shrI (wu64 (w64 ((i : Int) + (j : Int)))) 1) = (((i + j) / 2 : Nat) : Int) := by
  have e1 : w64 ((i : Int) + (j : Int)) = ((i + j : Nat) : Int) := by rw [w64_id (by omega)]; rfl
  rw [e1, wu64_id (by omega)]
  have e2 := shrI_nat (a := i + j) (b := 1) (by omega)
  rw [show ((1 : Nat) : Int) = 1 from rfl, show 2 ^ 1 = 2 from rfl] at e2
  rw [e2]; exact w64_nat (by omega)
theorem Less_eq (N : Nat) (x y : Int) : cmp_Less_int N x y = some (decide (x < y)) := by
  have hn : ∀ x : Int, (x != x) = false := fun x => by simp
  unfold cmp_Less_int cmp_isNaN_int
  simp only [hn, bnd_val, grd_false, Bool.false_and, Bool.false_or]
theorem BinarySearch_b1_eq {N : Nat} (l : List Int) (t : Int) (hl : l.length < 1000000) (hN : l.length < N) (p : Nat) (hp : p ≤ l.length) (hlo : ∀ k, k < p → l.getD k 0 < t) (hhi : ∀ k, p ≤ k → k < l.length → ¬ l.getD k 0 < t) (K : Int → Option (Int × Bool)) :
    rds (slices_BinarySearch_ii.b1 N l t K) N (0, (l.length : Int)) = K (p : Int) := by
  refine rds_spec (fun x : Int × Int => ∃ i j : Nat, x = ((i : Int), (j : Int)) ∧ i ≤ p ∧ p ≤ j ∧ j ≤ l.length) (fun x => x.2.toNat - x.1.toNat) (fun _ => K (p : Int)) (fun rec x hI hrec => ?_) N (0, (l.length : Int)) ⟨0, l.length, rfl, Nat.zero_le _, hp, Nat.le_refl _⟩ (by simp; omega)
  obtain ⟨i, j, rfl, hi, hj, hjl⟩ := hI
  show br (decide ((i : Int) < (j : Int))) _ _ = _
  by_cases h : i < j
  · rw [br_pos (by simpa using h), mid_eq h (by omega), chk_pos (by omega), Less_eq, bnd_val, Int.toNat_natCast, w64_succ (by omega)]
    by_cases hc : l.getD ((i + j) / 2) 0 < t
    · rw [br_pos (by simpa using hc)]
      refine hrec _ ⟨(i + j) / 2 + 1, j, rfl, ?_, hj, hjl⟩ (by simp only [Int.toNat_natCast]; omega)
      by_cases hm : (i + j) / 2 < p
      · exact hm
      · exact absurd hc (hhi _ (by omega) (by omega))
    · rw [br_neg (by simpa using hc)]
      refine hrec _ ⟨i, (i + j) / 2, rfl, hi, ?_, by omega⟩ (by simp only [Int.toNat_natCast]; omega)
      by_cases hm : (i + j) / 2 < p
      · exact absurd (hlo _ hm) hc
      · omega
  · have : i = p := by omega
    subst this
    rw [br_neg (by simpa using h)]
theorem BinarySearch_eq {N : Nat} (l : List Int) (t : Int) (hr : rising l) (hl : l.length < 1000000) (hN : l.length < N) : ∃ i, slices_BinarySearch_ii N l t = some (i, decide (t ∈ l)) := by
  obtain ⟨p, hp, hlo, hhi⟩ : ∃ p, p ≤ l.length ∧ (∀ k, k < p → l.getD k 0 < t) ∧ (∀ k, p ≤ k → k < l.length → ¬ l.getD k 0 < t) := by
    have key : ∀ d, d ≤ l.length → ∃ p, p ≤ d ∧ (∀ k, k < p → l.getD k 0 < t) ∧ (∀ k, p ≤ k → k < d → ¬ l.getD k 0 < t) := by
      intro d
      induction d with
      | zero => intro _; exact ⟨0, Nat.le_refl _, fun k h => absurd h (Nat.not_lt_zero _), fun k _ h => absurd h (Nat.not_lt_zero _)⟩
      | succ d ih =>
        intro hd
        obtain ⟨p, h1, h2, h3⟩ := ih (by omega)
        by_cases hc : l.getD d 0 < t
        · refine ⟨d + 1, Nat.le_refl _, fun k hk => ?_, fun k h4 h5 => by omega⟩
          by_cases hkd : k = d
          · subst hkd; exact hc
          · exact Int.lt_trans (hr k d (by omega) (by omega)) hc
        · refine ⟨p, by omega, h2, fun k h4 h5 => ?_⟩
          by_cases hkd : k = d
          · subst hkd; exact hc
          · exact h3 k h4 (by omega)
    exact key l.length (Nat.le_refl _)
  refine ⟨p, ?_⟩
  unfold slices_BinarySearch_ii slices_isNaN_int
  rw [jn, BinarySearch_b1_eq l t hl hN p hp hlo hhi]
  have hn : ∀ x : Int, (x != x) = false := fun x => by simp
  simp only [hn, Int.toNat_natCast]
  rw [chk_pos (by simp only [decide_eq_true_iff]; omega), chk_pos (by simp only [Bool.and_eq_true, decide_eq_true_iff]; omega)]
  have g1 : ∀ g : Bool, grd g false (some false) = some false := fun g => by cases g <;> rfl
  rw [g1, bnd_val, g1, bnd_val]
  congr 2
  rw [Bool.eq_iff_iff]
  simp only [Bool.or_false, Bool.and_eq_true, decide_eq_true_iff, beq_iff_eq, Bool.and_false]
  constructor
  · rintro ⟨h1, h2⟩
    have h3 : p < l.length := by omega
    rw [← h2, getD_eq h3]; exact List.getElem_mem h3
  · intro h
    obtain ⟨k, hk, rfl⟩ := List.getElem_of_mem h
    have hk1 : ¬ k < p := fun h => by have := hlo k h; rw [getD_eq hk] at this; omega
    have hpk : p = k := by
      by_cases h : p < k
      · have h1 := hr p k h hk
        have h2 := hhi p (Nat.le_refl _) (by omega)
        rw [getD_eq hk] at h1
        exact absurd h1 h2
      · omega
    subst hpk
    exact ⟨by omega, getD_eq hk⟩
theorem decode_1_eq {N : Nat} (l : List Int) (p t : Int) (hr : rising l) (hl : l.length < 1000000) (hN : l.length < N) : code_decode_1 N t p l = some (decide (t ∈ l)) := by
  obtain ⟨i, h⟩ := BinarySearch_eq l t hr hl hN
  unfold code_decode_1
  rw [h]; rfl
theorem decode_b1_eq {N : Nat} (info x : List Int) (hin : ∀ k ∈ info, 0 ≤ k ∧ k < (x.length : Int)) (hl : info.length < 1000000) (hN : info.length < N) (K : List Int → Option (List Int)) :
    rds (code_decode.b1 N info x K) N (0, []) = K (info.map fun k => x.getD k.toNat 0) := by
  refine rds_spec (fun s : Int × List Int => ∃ k : Nat, k ≤ info.length ∧ s = ((k : Int), (info.take k).map fun k => x.getD k.toNat 0)) (fun s => info.length - s.1.toNat) (fun _ => K (info.map fun k => x.getD k.toNat 0)) (fun rec s hI hrec => ?_) N (0, []) ⟨0, Nat.zero_le _, by simp⟩ (by simp; omega)
  obtain ⟨k, hk, rfl⟩ := hI
  show br (decide ((k : Int) < (info.length : Int))) _ _ = _
  by_cases hkl : k < info.length
  · have hm := hin info[k] (List.getElem_mem hkl)
    rw [br_pos (by simpa using hkl), chk_pos (by omega), Int.toNat_natCast, getD_eq hkl, chk_pos hm, chk_pos (by simp; omega), w64_succ (by omega)]
    refine hrec _ ⟨k + 1, hkl, ?_⟩ (by simp only [Int.toNat_natCast]; omega)
    rw [List.take_succ_eq_append_getElem hkl, List.map_append]; rfl
  · have : k = info.length := by omega
    subst this
    rw [br_neg (by simp), List.take_length]
end Go.Sh

/-
  What the shallow functions of the code chapter come to: decoding.
-/
namespace Go.Sh
open Go.PW
theorem decode_eq {N q : Nat} (hq : q ≤ 6) (info soft u : List Int) (p : Int) (hr : rising info) (hin : ∀ x ∈ info, 0 ≤ x ∧ x < ((2 ^ q : Nat) : Int)) (hl : info.length < 1000000) (hN : info.length < N) (hN2 : 64 < N)
    (hs : soft.length = 2 ^ q) (hu : u.length = 2 ^ q) (hb : bits u) (hz : ∀ i, i < 2 ^ q → ((i : Nat) : Int) ∉ info → u.getD i 0 = 0)
    (hsg : ∀ i, i < 2 ^ q → signed (soft.getD i 0) ((wordL q u).getD i 0)) (hB : ∀ i, i < 2 ^ q → ((soft.getD i 0).natAbs : Int) ≤ 1000000) :
    code_decode N p info soft = some (info.map fun k => u.getD k.toNat 0) := by
  have h64 := pow_le6 hq
  unfold code_decode code_cancel
  have hc := cancel_eq (N := N) (fun y0 => code_decode_1 N y0 p info) (fun k => decide ((k : Int) ∈ info)) q hq (by omega) N (by omega) soft u 0 1000000 hs hu hb hsg hB (by have := Nat.mul_le_mul_left 1000000 h64; omega)
    (fun i hi => by rw [decode_1_eq info p _ hr hl hN]) (fun i hi h => hz i hi (by simpa using h)) (by omega)
  rw [show ((0 : Nat) : Int) = 0 from rfl] at hc
  rw [hc, bnd_val, jn, decode_b1_eq info u (fun k hk => by rw [hu]; exact hin k hk) hl hN]
end Go.Sh

/-
  What the exported functions of the code chapter come to: Encode, Decode.
-/
namespace Go.Sh
open Go.PW
theorem Encode_eq {N : Nat} (p : Int) (info l : List Int) (hi : info.length < 1000000) (hl : l.length < 1000000) (hN : info.length < N) (hN1 : l.length < N) (hN2 : 64 < N) :
    code_Encode N p info l = (let e := firstOf [polarErr p info, listErr 200 isBitB 15 l, if l.length = info.length then 0 else 10]; if e ≠ 0 then some ([], e) else bnd (code_encode N p info l) fun x => some (x, 0)) := by
  unfold code_Encode
  rw [CheckPolar_eq p info (by omega) hN (by omega), bnd_val, bitsErr_eq l (by omega) hN1 (by omega), bnd_val, unless_eq, bnd_val, first_eq _ (by simp) (by simp; omega), bnd_val]
  have e : (if ((l.length : Int) == (info.length : Int)) = true then (0 : Int) else 10) = if l.length = info.length then 0 else 10 := by
    by_cases h : l.length = info.length
    · rw [if_pos h, if_pos (by rw [h]; exact beq_self_eq_true _)]
    · rw [if_neg h, if_neg (by rw [beq_iff_eq]; omega)]
  rw [e]
  by_cases h : firstOf [polarErr p info, listErr 200 isBitB 15 l, if l.length = info.length then 0 else 10] = 0
  · simp only [h]; rfl
  · rw [br_pos (by rw [bne_iff_ne]; exact h)]; simp only [h, ne_eq, not_false_iff, if_true]
theorem Decode_eq {N q : Nat} (hq : q ≤ 6) (info l : List Int) (hi : info.length < 1000000) (hl : l.length < 1000000) (hN : info.length < N) (hN1 : l.length < N) (hN2 : 64 < N) (h1 : polarErr q info = 0) (h2 : listErr 400 isSoftB 2 l = 0) (h3 : l.length = 2 ^ q) :
    code_Decode N q info l = bnd (code_decode N q info l) fun x => some (x, 0) := by
  unfold code_Decode
  rw [CheckPolar_eq _ info (by omega) hN (by omega), bnd_val, softErr_eq l (by omega) hN1 (by omega), bnd_val, h1, h2, first_eq _ (by simp) (by simp; omega), bnd_val, br_neg (by rfl), chk_pos (by omega), shl1_pow (by omega), h3, br_neg (by simp)]
end Go.Sh

/-
  What the shallow functions of the code chapter come to: places and soft bits with the signs of a word.
-/
namespace Go.Sh
open Go.PW

theorem rising_of {l : List Int} (h : l.Pairwise (· < ·)) : rising l := fun i j hij hj => by
  rw [getD_eq hj, getD_eq (Nat.lt_trans hij hj)]
  exact List.pairwise_iff_getElem.1 h i j (Nat.lt_trans hij hj) hj hij
theorem bits_of_all {l : List Int} (h : l.all isBitB = true) : bits l := fun i hi => by
  have hm : l.getD i 0 ∈ l := by rw [getD_eq hi]; exact List.getElem_mem hi
  have := List.all_eq_true.1 h _ hm
  simpa [isBitB] using this
end Go.Sh

/-
  Four examples of the code chapter.
-/
namespace Go.Sh
open Go.PW
theorem ex_Remainder {N : Nat} (hN : 100 < N) : code_Remainder N 3 3 [1] = some ([0, 1, 1], 0) := by
  have s3 : shlI 1 3 = 8 := by simpa using shl1_pow (p := 3) (by decide)
  have s2 : shlI 1 2 = 4 := by simpa using shl1_pow (p := 2) (by decide)
  have s0 : shlI 0 1 = 0 := by simpa using shlI_nat (a := 0) (b := 1) (by decide) (by decide)
  have a0 : andI 0 4 = 0 := by simpa using andI_nat (a := 0) (b := 4) (by decide) (by decide)
  have a1 : andI 0 7 = 0 := by simpa using andI_nat (a := 0) (b := 7) (by decide) (by decide)
  have x1 : xorI 0 3 = 3 := by simpa using xorI_nat (a := 0) (b := 3) (by decide) (by decide)
  have a2 : andI 3 4 = 0 := by simpa using andI_nat (a := 3) (b := 4) (by decide) (by decide)
  have a3 : andI 3 2 = 2 := by simpa using andI_nat (a := 3) (b := 2) (by decide) (by decide)
  have a4 : andI 3 1 = 1 := by simpa using andI_nat (a := 3) (b := 1) (by decide) (by decide)
  have r4 : shrI 4 1 = 2 := by simpa using shrI_nat (a := 4) (b := 1) (by decide)
  have r2 : shrI 2 1 = 1 := by simpa using shrI_nat (a := 2) (b := 1) (by decide)
  have r1 : shrI 1 1 = 0 := by simpa using shrI_nat (a := 1) (b := 1) (by decide)
  have w2 : w64 2 = 2 := w64_id (by decide)
  have w7 : w64 7 = 7 := w64_id (by decide)
  have w8 : w64 8 = 8 := w64_id (by decide)
  have w1 : w64 1 = 1 := w64_id (by decide)
  obtain ⟨n, rfl⟩ : ∃ n, N = n + 20 := ⟨N - 20, by omega⟩
  have c : code_CheckPoly (n + 20) 3 3 = some 0 := by
    simp [code_CheckPoly, within_eq, unless_eq, s3, w7, chk, first_eq, firstOf]
  have m : code_remainder (n + 20) 3 3 [1] = some [0, 1, 1] := by
    simp only [code_remainder, jn]
    rw [chk_pos (by simp [w2]), rds_succ, code_remainder.b1]
    simp [chk, w2, w7, w8, w1, s2, s0, a0, a1, x1]
    rw [rds_succ, code_remainder.b1]
    simp [chk, w2, s2]
    rw [rds_succ, code_remainder.b2]
    simp [chk, a2, r4]
    rw [rds_succ, code_remainder.b2]
    simp [chk, a3, r2]
    rw [rds_succ, code_remainder.b2]
    simp [chk, a4, r1]
    rw [rds_succ, code_remainder.b2]
    simp [chk, w2, s2, a2, a3, a4, r4, r2, r1]
  unfold code_Remainder
  rw [c, bnd_val, bitsErr_eq _ (by decide) (by simp) (by omega), bnd_val, first_eq _ (by simp) (by simp), bnd_val, m]
  rfl
theorem ex_word : wordL 2 (place [1, 2, 3] [1, 0, 1] (List.replicate (2 ^ 2) 0)) = [0, 0, 1, 1] := by
  have x00 : xorI 0 0 = 0 := by simpa using xorI_bits (a := 0) (b := 0) (by simp) (by simp)
  have x01 : xorI 0 1 = 1 := by simpa using xorI_bits (a := 0) (b := 1) (by simp) (by simp)
  have x10 : xorI 1 0 = 1 := by simpa using xorI_bits (a := 1) (b := 0) (by simp) (by simp)
  have x11 : xorI 1 1 = 0 := by simpa using xorI_bits (a := 1) (b := 1) (by simp) (by simp)
  have e : place [1, 2, 3] [1, 0, 1] (List.replicate (2 ^ 2) 0) = [0, 1, 0, 1] := by decide
  rw [e]
  simp [wordL, stepL, wordAt, List.range_succ, x00, x01, x10, x11, Nat.testBit]
theorem ex_polar : polarErr 2 [1, 2, 3] = 0 := by decide
theorem ex_in : ∀ x ∈ ([1, 2, 3] : List Int), 0 ≤ x ∧ x < ((2 ^ 2 : Nat) : Int) := by decide
theorem ex_Encode {N : Nat} (hN : 100 < N) : code_Encode N 2 [1, 2, 3] [1, 0, 1] = some ([0, 0, 1, 1], 0) := by
  rw [Encode_eq _ _ _ (by decide) (by decide) (by simp; omega) (by simp; omega) (by omega)]
  have h := encode_eq (N := N) (q := 2) (by decide) [1, 2, 3] [1, 0, 1] rfl ex_in (by decide) (by simp; omega) (by omega)
  rw [ex_word] at h
  rw [ex_polar, show listErr 200 isBitB 15 [1, 0, 1] = 0 by decide]
  rw [show ((2 : Nat) : Int) = 2 from rfl] at h
  rw [h]; rfl
theorem ex_Decode {N : Nat} (hN : 100 < N) : code_Decode N 2 [1, 2, 3] [4, 3, -2, -5] = some ([1, 0, 1], 0) := by
  have h := Decode_eq (N := N) (q := 2) (by decide) [1, 2, 3] [4, 3, -2, -5] (by decide) (by decide) (by simp; omega) (by simp; omega) (by omega) ex_polar (by decide) rfl
  rw [show ((2 : Nat) : Int) = 2 from rfl] at h
  rw [h, decode_eq (q := 2) (by decide) [1, 2, 3] [4, 3, -2, -5] (place [1, 2, 3] [1, 0, 1] (List.replicate (2 ^ 2) 0)) 2 (rising_of (by decide)) ex_in (by decide) (by simp; omega) (by omega) rfl rfl (by unfold bits; decide) ?_ ?_ ?_]
  · rfl
  · decide
  · rw [ex_word]; unfold signed; decide
  · decide
theorem ex_Match {N : Nat} (hN : 100 < N) : code_Match N [0, 0, 1, 1, 1] 1 7 = some ([0, 1, 1, 1, 0, 0, 1], 0) := by
  obtain ⟨n, rfl⟩ : ∃ n, N = n + 20 := ⟨N - 20, by omega⟩
  have m : code_match (n + 20) [0, 0, 1, 1, 1] 1 7 = some [0, 1, 1, 1, 0, 0, 1] := by
    simp only [code_match, jn]
    rw [rds_succ, code_match.b1]
    simp [chk, w64_eq]
    rw [rds_succ, code_match.b1]
    simp [chk, w64_eq]
    rw [rds_succ, code_match.b1]
    simp [chk, w64_eq]
    rw [rds_succ, code_match.b1]
    simp [chk, w64_eq]
    rw [rds_succ, code_match.b1]
    simp [chk, w64_eq]
    rw [rds_succ, code_match.b1]
    simp [chk, w64_eq]
    rw [rds_succ, code_match.b1]
    simp [chk, w64_eq]
    rw [rds_succ, code_match.b1]
    simp [chk, w64_eq]
  unfold code_Match
  rw [bitsErr_eq _ (by decide) (by simp) (by omega), bnd_val]
  simp only [code_isVersion, code_isCount, within_eq, unless_eq, bnd_val]
  rw [first_eq _ (by simp) (by simp), bnd_val, m]
  rfl
theorem awake_eq {N : Nat} (hN : 100 < N) : law02_awake N = some true := by
  unfold law02_awake law02_Poly law02_Polar
  simp only [bnd_val]
  rw [ex_Remainder hN, ex_Encode hN, ex_Decode hN, ex_Match hN]
  simp only [bnd_val]
  rw [Ints_eq _ _ (by decide) (by simp; omega), Ints_eq _ _ (by decide) (by simp; omega), Ints_eq _ _ (by decide) (by simp; omega), Ints_eq _ _ (by decide) (by simp; omega)]
  simp
end Go.Sh

/-
  RIGHT SIGNS ARE ENOUGH: the law's shallow function tells true.
-/
namespace Go.Sh
open Go.PW

theorem br_nt {α : Type} (a b : Option α) : br (!true) a b = b := rfl
end Go.Sh

/-
  Plain words: loops that build a list, that fold, that look for a wrong element. For every program.
-/
namespace Go.PW

theorem rds_map {α R : Type} (len : Nat) (f : Nat → α) (b : (Int × List α → Option R) → Int × List α → Option R) (K : List α → Option R)
    (hstep : ∀ k acc rec, k < len → acc.length = k → b rec ((k : Int), acc) = rec (((k + 1 : Nat) : Int), acc ++ [f k])) (hend : ∀ acc rec, acc.length = len → b rec ((len : Int), acc) = K acc)
    {N : Nat} (hN : len < N) : rds b N (0, []) = K ((List.range len).map f) := by
  refine rds_spec (fun s : Int × List α => ∃ k : Nat, k ≤ len ∧ s = ((k : Int), (List.range k).map f)) (fun s => len - s.1.toNat) (fun _ => K ((List.range len).map f)) (fun rec s hI hrec => ?_) N (0, []) ⟨0, Nat.zero_le _, by simp⟩ (by simp; omega)
  obtain ⟨k, hk, rfl⟩ := hI
  by_cases hkl : k < len
  · rw [hstep k _ rec hkl (by simp)]
    refine hrec _ ⟨k + 1, hkl, ?_⟩ (by simp only [Int.toNat_natCast]; omega)
    rw [List.range_succ, List.map_append]; rfl
  · have : k = len := by omega
    subst this
    exact hend _ rec (by simp)
def itN {σ : Type} (g : Nat → σ → σ) : Nat → σ → σ
  | 0, s => s
  | n + 1, s => g n (itN g n s)
theorem rds_itR {σ R : Type} (len : Nat) (g : Nat → σ → σ) (I : Nat → σ → Prop) (b : (σ × Int → Option R) → σ × Int → Option R) (K : σ → Option R) {s : σ} (h0 : I 0 s)
    (hI : ∀ k s, k < len → I k s → I (k + 1) (g k s)) (hstep : ∀ k s rec, k < len → I k s → b rec (s, (k : Int)) = rec (g k s, ((k + 1 : Nat) : Int))) (hend : ∀ s rec, I len s → b rec (s, (len : Int)) = K s)
    {N : Nat} (hN : len < N) : rds b N (s, 0) = K (itN g len s) ∧ I len (itN g len s) := by
  have hIk : ∀ k, k ≤ len → I k (itN g k s) := fun k => by
    induction k with
    | zero => exact fun _ => h0
    | succ k ih => exact fun hk => hI k _ hk (ih (by omega))
  refine ⟨?_, hIk len (Nat.le_refl _)⟩
  refine rds_spec (fun x : σ × Int => ∃ k : Nat, k ≤ len ∧ x = (itN g k s, (k : Int))) (fun x => len - x.2.toNat) (fun _ => K (itN g len s)) (fun rec x hx hrec => ?_) N (s, 0) ⟨0, Nat.zero_le _, rfl⟩ (by simp; omega)
  obtain ⟨k, hk, rfl⟩ := hx
  by_cases hkl : k < len
  · rw [hstep k _ rec hkl (hIk k hk)]
    exact hrec _ ⟨k + 1, hkl, rfl⟩ (by simp only [Int.toNat_natCast]; omega)
  · have : k = len := by omega
    subst this
    exact hend _ rec (hIk k hk)
end Go.PW

/-
  The bits of a version, gathered soft bits, sums of both.
-/
namespace Go.Sh
open Go.PW

end Go.Sh

/-
  The bits of a version, gathered soft bits, sums of both: the law's shallow function tells true.
-/
namespace Go.Sh
open Go.PW

end Go.Sh

/-
  The law 'CodeTexts': its shallow function tells true.
-/
namespace Go.Sh
open Go.PW

theorem rds_upI {σ R : Type} (len : Nat) (b : (Int × σ → Option R) → Int × σ → Option R) (F : Nat → σ → Option R) (I : Nat → σ → Prop) {s : σ} (h0 : I 0 s)
    (hstep : ∀ k s rec, k < len → I k s → (∀ s', I (k + 1) s' → rec (((k + 1 : Nat) : Int), s') = F (k + 1) s') → b rec ((k : Int), s) = F k s) (hend : ∀ s rec, I len s → b rec ((len : Int), s) = F len s)
    {N : Nat} (hN : len < N) : rds b N (0, s) = F 0 s := by
  have h := rds_spec (b := b) (fun x => ∃ k : Nat, k ≤ len ∧ x.1 = k ∧ I k x.2) (fun x => len - x.1.toNat) (fun x => F x.1.toNat x.2) (fun rec x hI hrec => ?_) N (0, s) ⟨0, Nat.zero_le _, rfl, h0⟩ (by simp; omega)
  · simpa using h
  · obtain ⟨k, hk, hx, hi⟩ := hI
    obtain ⟨i, t⟩ := x
    simp only at hx hi
    subst hx
    by_cases hkl : k < len
    · rw [hstep k t rec hkl hi (fun s' hs' => ?_)]
      · simp
      · have := hrec (((k + 1 : Nat) : Int), s') ⟨k + 1, hkl, rfl, hs'⟩ (by simp only [Int.toNat_natCast]; omega)
        simpa using this
    · have : k = len := by omega
      subst this
      rw [hend t rec hi]; simp
def charB (b : Int) : Int := if b = 0 then 48 else if b = 1 then 49 else 63
def fmtL (bits : List Int) : List Int := (List.range bits.length).map fun k => charB (bits.getD k 0)
theorem fmtL_length (l : List Int) : (fmtL l).length = l.length := by simp [fmtL]
theorem charB_ok (b : Int) : 0 ≤ charB b ∧ charB b < 256 := by
  unfold charB
  by_cases h0 : b = 0
  · rw [if_pos h0]; decide
  · by_cases h1 : b = 1
    · rw [if_neg h0, if_pos h1]; decide
    · rw [if_neg h0, if_neg h1]; decide
theorem fmtL_ok (l : List Int) : okByte (fmtL l) := fun x hx => by
  obtain ⟨k, _, rfl⟩ := List.mem_map.1 hx
  exact charB_ok _
theorem FormatBits_eq {N : Nat} (l : List Int) (hl : l.length ≤ 1000) (hN : 1000 < N) : code_FormatBits N l = some (bytesB (fmtL l)) := by
  unfold code_FormatBits jn
  refine (rds_map l.length (fun k => charB (l.getD k 0)) _ (fun b1 => chk (okByte b1) (some (bytesB b1))) (fun k acc rec hk ha => ?_) (fun acc rec _ => ?_) (by omega)).trans (chk_pos (fmtL_ok l) _)
  · show br (decide ((k : Int) < (l.length : Int))) _ _ = _
    rw [br_pos (by simpa using hk), chk_pos (by omega), Int.toNat_natCast, w64_succ (by omega)]
    unfold charB
    by_cases h0 : l.getD k 0 = 0
    · rw [br_pos (by rw [h0]; rfl), chk_pos (by simp; omega), if_pos h0]
    · rw [br_neg (by rw [beq_eq_false_iff_ne]; exact h0), if_neg h0]
      by_cases h1 : l.getD k 0 = 1
      · rw [br_pos (by rw [h1]; rfl), chk_pos (by simp; omega), if_pos h1]
      · rw [br_neg (by rw [beq_eq_false_iff_ne]; exact h1), if_neg h1, chk_pos (by simp; omega)]
  · show br (decide ((l.length : Int) < (l.length : Int))) _ _ = _
    rw [br_neg (by simp)]
theorem bytesB_48 : bytesB [48] = (⟨#[48]⟩ : ByteArray) := rfl
theorem bytesB_49 : bytesB [49] = (⟨#[49]⟩ : ByteArray) := rfl
theorem bytesB_63 : bytesB [63] = (⟨#[63]⟩ : ByteArray) := rfl
theorem fmt_it (l : List Int) (n : Nat) : itN (fun k t => t ++ bytesB [charB (l.getD k 0)]) n (bytesB []) = bytesB ((List.range n).map fun k => charB (l.getD k 0)) := by
  induction n with
  | zero => rfl
  | succ n ih => rw [itN, ih, List.range_succ, List.map_append, bytesB_append]; rfl
theorem refFormatBits_eq {N : Nat} (l : List Int) (hl : l.length ≤ 1000) (hN : 1000 < N) : ref02_FormatBits N l = some (bytesB (fmtL l)) := by
  unfold ref02_FormatBits jn
  have h := (rds_itR l.length (fun k t => t ++ bytesB [charB (l.getD k 0)]) (fun k t => t.size = k) (ref02_FormatBits.b1 N l some) some (s := bytesB []) rfl
    (fun k s _ hs => by rw [ByteArray.size_append, hs, bytesB_size]; rfl) (fun k s rec hk hI => ?_) (fun s rec _ => ?_) (N := N) (by omega)).1
  · rw [fmt_it] at h
    exact h
  · show br (decide ((k : Int) < (l.length : Int))) _ _ = _
    have e48 : (⟨#[48]⟩ : ByteArray).size = 1 := rfl
    have e49 : (⟨#[49]⟩ : ByteArray).size = 1 := rfl
    have e63 : (⟨#[63]⟩ : ByteArray).size = 1 := rfl
    rw [br_pos (by simpa using hk), chk_pos (by omega), Int.toNat_natCast, w64_succ (by omega)]
    unfold charB
    by_cases h0 : l.getD k 0 = 0
    · rw [br_pos (by rw [h0]; rfl), chk_pos (by omega), if_pos h0, bytesB_48]
    · rw [br_neg (by rw [beq_eq_false_iff_ne]; exact h0), if_neg h0]
      by_cases h1 : l.getD k 0 = 1
      · rw [br_pos (by rw [h1]; rfl), chk_pos (by omega), if_pos h1, bytesB_49]
      · rw [br_neg (by rw [beq_eq_false_iff_ne]; exact h1), if_neg h1, chk_pos (by omega), bytesB_63]
  · show br (decide ((l.length : Int) < (l.length : Int))) _ _ = _
    rw [br_neg (by simp)]
def badC (x : Int) : Bool := x != 48 && x != 49
def parseL (l : List Int) : List Int × Int := if l.any badC = true then ([], 7) else (l.map fun x => x - 48, 0)
theorem badC_w {x : Int} (h : badC x = false) : w64 (wu8 (x - 48)) = x - 48 := by
  unfold badC at h
  have : x = 48 ∨ x = 49 := by
    by_cases h0 : x = 48
    · exact .inl h0
    · by_cases h1 : x = 49
      · exact .inr h1
      · rw [bne_iff_ne.2 h0, bne_iff_ne.2 h1] at h; cases h
  rw [wu8_id (by omega), w64_id (by omega)]
theorem parse_rounds {N : Nat} (l : List Int) (hl : l.length ≤ 1000) (hN : 1000 < N) (b : (Int × List Int → Option (List Int × Int)) → Int × List Int → Option (List Int × Int))
    (hstep : ∀ k acc rec, k < l.length → acc.length = k → b rec ((k : Int), acc) = if badC (l.getD k 0) = true then some ([], 7) else rec (((k + 1 : Nat) : Int), acc ++ [w64 (wu8 (l.getD k 0 - 48))]))
    (hend : ∀ acc rec, b rec ((l.length : Int), acc) = some (acc, 0)) : rds b N ((0 : Int), ([] : List Int)) = some (parseL l) := by
  refine (rds_upI l.length b (fun k acc => some (if (l.drop k).any badC = true then ([], 7) else (acc ++ (l.drop k).map fun x => x - 48, 0))) (fun k acc => acc.length = k) rfl (fun k acc rec hk hI hr => ?_) (fun acc rec _ => ?_) (by omega)).trans (by simp [parseL])
  · have hd : l.drop k = l.getD k 0 :: l.drop (k + 1) := by
      rw [List.drop_eq_getElem_cons hk]; simp [List.getD_eq_getElem?_getD, hk]
    rw [hstep k acc rec hk hI, hd, List.any_cons]
    cases hb : badC (l.getD k 0)
    · rw [hr _ (by simp [hI]), badC_w hb]
      simp
    · simp
  · rw [hend]; simp
theorem ParseBits_eq {N : Nat} (s : ByteArray) (hN : 1000 < N) : code_ParseBits N s = some (if (s.size : Int) > 200 then ([], 8) else parseL (bytesL s)) := by
  unfold code_ParseBits
  by_cases h : (s.size : Int) > 200
  · rw [br_pos (decide_eq_true h), if_pos h]
  rw [br_neg (decide_eq_false h), if_neg h]
  have hlen := bytesL_length s
  refine parse_rounds (bytesL s) (by omega) hN _ (fun k acc rec hk ha => ?_) (fun acc rec => ?_)
  · show br (decide ((k : Int) < ((bytesL s).length : Int))) _ _ = _
    rw [br_pos (by simpa using hk), chk_pos (by omega), Int.toNat_natCast, w64_succ (by omega)]
    show br (badC ((bytesL s).getD k 0)) _ _ = _
    cases badC ((bytesL s).getD k 0)
    · rw [br_neg rfl, chk_pos (by simp; omega)]; rfl
    · rfl
  · show br (decide (((bytesL s).length : Int) < ((bytesL s).length : Int))) _ _ = _
    rw [br_neg (by simp)]
theorem refParseBits_eq {N : Nat} (s : ByteArray) (hN : 1000 < N) : ref02_ParseBits N s = some (if (s.size : Int) > 200 then ([], 8) else parseL (bytesL s)) := by
  unfold ref02_ParseBits
  by_cases h : (s.size : Int) > 200
  · rw [br_pos (decide_eq_true h), if_pos h]
  rw [br_neg (decide_eq_false h), if_neg h]
  have hlen := bytesL_length s
  refine parse_rounds (bytesL s) (by omega) hN _ (fun k acc rec hk ha => ?_) (fun acc rec => ?_)
  · rw [hlen] at hk
    show br (decide ((k : Int) < (s.size : Int))) _ _ = _
    rw [br_pos (by simpa using hk), chk_pos (by omega), chk_pos (fun _ => by omega), Int.toNat_natCast, w64_succ (by omega), ← bytesL_getD s hk]
    show br (badC ((bytesL s).getD k 0)) _ _ = _
    cases badC ((bytesL s).getD k 0)
    · rw [br_neg rfl, chk_pos (by omega), chk_pos (by simp; omega)]; rfl
    · rfl
  · rw [hlen]
    show br (decide ((s.size : Int) < (s.size : Int))) _ _ = _
    rw [br_neg (by simp)]
theorem parseL_fmtL {l : List Int} (h : bits l) : parseL (fmtL l) = (l, 0) := by
  have hc : ∀ k, k < l.length → charB (l.getD k 0) = 48 + l.getD k 0 ∧ badC (charB (l.getD k 0)) = false := fun k hk => by
    rcases h k hk with e | e <;> rw [e] <;> decide
  unfold parseL
  have hany : (fmtL l).any badC = false := by
    rw [List.any_eq_false]
    intro x hx
    obtain ⟨k, hk, rfl⟩ := List.mem_map.1 hx
    rw [(hc k (by simpa using hk)).2]; decide
  rw [hany, if_neg (by decide)]
  congr 1
  refine ext_getD (by simp [fmtL]) fun j hj => ?_
  have hj' : j < l.length := by simpa [fmtL] using hj
  have := (hc j hj').1
  simp [fmtL, List.getD_eq_getElem?_getD, hj'] at this ⊢
  omega
theorem law_CodeTexts {N : Nat} (l : List Int) (s : ByteArray) (hN : 2000 < N) : law02_CodeTexts N l s = some true := by
  unfold law02_CodeTexts
  rw [awake_eq (by omega), bnd_val, br_nt]
  by_cases h1 : (l.length : Int) > 210
  · rw [br_pos (by rw [decide_eq_true h1]; rfl)]
  by_cases h2 : (s.size : Int) > 210
  · rw [br_pos (by rw [decide_eq_true h2, Bool.or_true])]
  rw [br_neg (by rw [decide_eq_false h1, decide_eq_false h2]; rfl), CopyInts_eq _ _ (by omega), bnd_val, FormatBits_eq l (by omega) (by omega), bnd_val, ParseBits_eq s (by omega), bnd_val, refParseBits_eq s (by omega), refFormatBits_eq l (by omega) (by omega)]
  have hp : (if (s.size : Int) > 200 then ([], 8) else parseL (bytesL s)).1.length ≤ 1000 := by
    split
    · simp
    · unfold parseL
      split
      · simp
      · simp [bytesL_length]; omega
  generalize (if (s.size : Int) > 200 then ([], 8) else parseL (bytesL s)) = R at *
  obtain ⟨x4, x41⟩ := R
  dsimp only at hp ⊢
  rw [bnd_val]
  dsimp only
  rw [bnd_val]
  simp only [beq_self_eq_true, bne_self_eq_false, Bool.not_true, Bool.or_self, Bool.not_false, grd_true]
  rw [Ints_eq _ _ (by omega) (by omega), bnd_val, decide_eq_true rfl, Bool.not_true, Bool.or_false, br_false, AreBits_eq l (by omega) (by omega), bnd_val]
  cases hb : l.all isBitB
  · rfl
  by_cases h3 : (l.length : Int) > 200
  · rw [br_pos (by rw [decide_eq_true h3, Bool.or_true])]
  rw [br_neg (by rw [decide_eq_false h3]; rfl), ParseBits_eq _ (by omega), bnd_val]
  rw [if_neg (by rw [bytesB_size, fmtL_length]; exact h3), bytesL_bytesB (fmtL_ok l), parseL_fmtL (bits_of_all hb)]
  dsimp only
  rw [beq_self_eq_true, grd_true, Ints_eq _ _ (by omega) (by omega), bnd_val, decide_eq_true rfl]; rfl
end Go.Sh
