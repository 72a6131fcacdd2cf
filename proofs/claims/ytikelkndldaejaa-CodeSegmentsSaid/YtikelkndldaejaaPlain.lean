/-
  Plain words: loops that count up. For every program.
-/
import Derived.Test.YtikelkndldaejaaPlA
import Derived.Test.YtikelkndldaejaaCsS
set_option linter.all false
namespace Go.PW
theorem w64_nat {n : Nat} (h : n < 4611686018427387904) : w64 (n : Int) = n := w64_id (by omega)
theorem w64_succ {k : Nat} (h : k < 4611686018427387904) : w64 ((k : Int) + 1) = ((k + 1 : Nat) : Int) := by rw [w64_id (by omega)]; rfl

theorem rds_up1 {R : Type} (len : Nat) (b : (Int → Option R) → Int → Option R) (F : Nat → Option R)
    (hstep : ∀ k rec, k < len → rec ((k + 1 : Nat) : Int) = F (k + 1) → b rec (k : Int) = F k) (hend : ∀ rec, b rec (len : Int) = F len)
    {N : Nat} (hN : len < N) : rds b N 0 = F 0 := by
  have h := rds_spec (b := b) (fun x => ∃ k : Nat, k ≤ len ∧ x = k) (fun x => len - x.toNat) (fun x => F x.toNat) (fun rec x hI hrec => ?_) N 0 ⟨0, Nat.zero_le _, rfl⟩ (by simp; omega)
  · simpa using h
  · obtain ⟨k, hk, hx⟩ := hI
    subst hx
    by_cases hkl : k < len
    · rw [hstep k rec hkl ?_]
      · simp
      · have := hrec ((k + 1 : Nat) : Int) ⟨k + 1, hkl, rfl⟩ (by simp only [Int.toNat_natCast]; omega)
        simpa using this
    · have : k = len := by omega
      subst this
      rw [hend rec]; simp
end Go.PW

/-
  What the shallow functions of the code chapter come to: lists and their errors.
-/
namespace Go.Sh
open Go.PW

theorem within_eq (N : Nat) (n lo hi : Int) : code_within N n lo hi = some (decide (lo ≤ n) && decide (n ≤ hi)) := rfl
theorem unless_eq (N : Nat) (b : Bool) (e : Int) : code_unless N b e = some (if b then 0 else e) := by cases b <;> rfl

def firstOf : List Int → Int
  | [] => 0
  | x :: l => if x = 0 then firstOf l else x
theorem firstOf_drop (l : List Int) (k : Nat) (h : k < l.length) : firstOf (l.drop k) = if l.getD k 0 = 0 then firstOf (l.drop (k + 1)) else l.getD k 0 := by
  rw [List.drop_eq_getElem_cons h, firstOf]; simp [List.getD_eq_getElem?_getD, h]
theorem first_eq {N : Nat} (l : List Int) (hl : l.length < 4611686018427387904) (hN : l.length < N) : code_first N l = some (firstOf l) := by
  unfold code_first jn
  refine (rds_up1 l.length _ (fun k => some (firstOf (l.drop k))) (fun k rec hk hr => ?_) (fun rec => ?_) hN).trans (by simp)
  · unfold code_first.b1
    rw [br_pos (by simpa using hk), chk_pos (by omega), w64_succ (by omega), hr, Int.toNat_natCast, firstOf_drop l k hk]
    by_cases h : l.getD k 0 = 0
    · rw [if_pos h, br_neg (by rw [h]; rfl)]
    · rw [if_neg h, br_pos (by simpa only [bne_iff_ne] using h)]
  · unfold code_first.b1
    rw [br_neg (by simp)]; simp [firstOf]

def indexOf (f : Int → Bool) : List Int → Nat → Int
  | [], _ => -1
  | x :: l, k => if f x then k else indexOf f l (k + 1)
theorem indexOf_drop (f : Int → Bool) (l : List Int) (k : Nat) (h : k < l.length) : indexOf f (l.drop k) k = if f (l.getD k 0) then (k : Int) else indexOf f (l.drop (k + 1)) (k + 1) := by
  rw [List.drop_eq_getElem_cons h, indexOf]; simp [List.getD_eq_getElem?_getD, h]
theorem IndexFunc_eq {N : Nat} (l : List Int) (g : Int → Option Bool) (f : Int → Bool) (hg : ∀ x ∈ l, g x = some (f x)) (hl : l.length < 4611686018427387904) (hN : l.length < N) : slices_IndexFunc_ii N l g = some (indexOf f l 0) := by
  unfold slices_IndexFunc_ii jn
  refine (rds_up1 l.length _ (fun k => some (indexOf f (l.drop k) k)) (fun k rec hk hr => ?_) (fun rec => ?_) hN).trans (by simp)
  · unfold slices_IndexFunc_ii.b1
    have hm : l.getD k 0 ∈ l := by simp [List.getD_eq_getElem?_getD, hk]
    rw [br_pos (by simpa using hk), chk_pos (by omega), w64_succ (by omega), hr, Int.toNat_natCast, hg _ hm, bnd_val, indexOf_drop f l k hk]
    cases h : f (l.getD k 0) <;> simp
  · unfold slices_IndexFunc_ii.b1
    rw [br_neg (by simp)]; simp [indexOf]
theorem indexOf_ge (f : Int → Bool) (l : List Int) (k : Nat) : indexOf f l k ≥ 0 ↔ l.any f = true := by
  induction l generalizing k with
  | nil => simp [indexOf]
  | cons x l ih =>
    rw [indexOf, List.any_cons]
    by_cases h : f x = true
    · simp [h]
    · rw [if_neg h, ih]; simp [h]
theorem indexOf_any (f : Int → Bool) (l : List Int) (k : Nat) : decide (indexOf f l k ≥ 0) = l.any f := by
  rw [Bool.eq_iff_iff, decide_eq_true_iff]; exact indexOf_ge f l k
theorem ContainsFunc_eq {N : Nat} (l : List Int) (g : Int → Option Bool) (f : Int → Bool) (hg : ∀ x ∈ l, g x = some (f x)) (hl : l.length < 4611686018427387904) (hN : l.length < N) : slices_ContainsFunc_ii N l g = some (l.any f) := by
  unfold slices_ContainsFunc_ii
  rw [IndexFunc_eq l g f hg hl hN, bnd_val, indexOf_any]
theorem listErr_eq {N : Nat} (l : List Int) (most e : Int) (g : Int → Option Bool) (f : Int → Bool) (hg : ∀ x ∈ l, g x = some (f x)) (hl : l.length < 4611686018427387904) (hN : l.length < N) (hN3 : 3 < N) :
    code_listErr N l most g e = some (if l.length = 0 then 10 else if (l.length : Int) > most then 8 else if l.all f then 0 else e) := by
  unfold code_listErr
  rw [ContainsFunc_eq l _ (fun x => !f x) (fun x hx => by simp [code_listErr_1, hg x hx]) hl hN, bnd_val]
  simp only [unless_eq, bnd_val]
  rw [first_eq _ (by simp) (by simpa using hN3), bnd_val]
  congr 1
  have ha : (!(l.any fun x => !f x)) = l.all f := by simp [List.all_eq_not_any_not]
  rw [ha]
  by_cases h0 : l.length = 0
  · simp [firstOf, h0]
  · by_cases h1 : (l.length : Int) > most
    · have : ¬ (l.length : Int) ≤ most := by omega
      simp [firstOf, h0, h1, this]
    · have : (l.length : Int) ≤ most := by omega
      have h2 : 0 < l.length := by omega
      rw [if_neg h0, if_neg h1, decide_eq_true (show (l.length : Int) > 0 by omega), decide_eq_true this]
      by_cases hf : l.all f = true
      · rw [if_pos hf]; rfl
      · rw [if_neg hf]
        simp only [firstOf, if_true]
        by_cases he : e = 0 <;> simp [he]
end Go.Sh

/-
  What the shallow functions of the code chapter come to: polar codes that are right.
-/
namespace Go.Sh
open Go.PW

def isBitB (x : Int) : Bool := x == 0 || x == 1
def listErr (most : Int) (f : Int → Bool) (e : Int) (l : List Int) : Int := if l.length = 0 then 10 else if (l.length : Int) > most then 8 else if l.all f then 0 else e
theorem bitsErr_eq {N : Nat} (l : List Int) (hl : l.length < 4611686018427387904) (hN : l.length < N) (hN3 : 3 < N) : code_bitsErr N l = some (listErr 200 isBitB 15 l) := by
  unfold code_bitsErr
  rw [listErr_eq l _ _ (fun y0 => code_isBit N y0) isBitB (fun x _ => rfl) hl hN hN3, bnd_val]; rfl
def isSoftB (x : Int) : Bool := decide (-1000000 ≤ x) && decide (x ≤ 1000000)
theorem softErr_eq {N : Nat} (l : List Int) (hl : l.length < 4611686018427387904) (hN : l.length < N) (hN3 : 3 < N) : code_softErr N l = some (listErr 400 isSoftB 2 l) := by
  unfold code_softErr
  rw [listErr_eq l _ _ (fun y0 => code_upTo_1 N y0 1000000) isSoftB (fun x _ => by rw [code_upTo_1, w64_id (by omega), within_eq]; rfl) hl hN hN3, bnd_val]; rfl

theorem shl1_pow {p : Nat} (h : p ≤ 40) : shlI 1 (p : Int) = ((2 ^ p : Nat) : Int) := by
  have := shlI_nat (a := 1) (b := p) (by have := Nat.pow_le_pow_right (n := 2) (by omega) h; omega) (by omega)
  simpa using this
def placesErr (m : Int) : Int → List Int → Int
  | _, [] => 0
  | b, x :: l => if ¬(0 ≤ x ∧ x ≤ m) then 2 else if x ≤ b then 9 else placesErr m x l
def polarErr (p : Int) (l : List Int) : Int := if ¬(0 ≤ p ∧ p ≤ 6) then 2 else if l.length = 0 then 10 else placesErr (2 ^ p.toNat - 1) (-1) l
theorem placesErr_drop (m b : Int) (l : List Int) (k : Nat) (h : k < l.length) : placesErr m b (l.drop k) = if ¬(0 ≤ l.getD k 0 ∧ l.getD k 0 ≤ m) then 2 else if l.getD k 0 ≤ b then 9 else placesErr m (l.getD k 0) (l.drop (k + 1)) := by
  rw [List.drop_eq_getElem_cons h, placesErr]; simp [List.getD_eq_getElem?_getD, h]
theorem rds_upR {σ R : Type} (len : Nat) (b : (σ × Int → Option R) → σ × Int → Option R) (F : Nat → σ → Option R)
    (hstep : ∀ k s rec, k < len → (∀ s', rec (s', ((k + 1 : Nat) : Int)) = F (k + 1) s') → b rec (s, (k : Int)) = F k s) (hend : ∀ s rec, b rec (s, (len : Int)) = F len s)
    {N : Nat} (hN : len < N) (s : σ) : rds b N (s, 0) = F 0 s := by
  have h := rds_spec (b := b) (fun x => ∃ k : Nat, k ≤ len ∧ x.2 = k) (fun x => len - x.2.toNat) (fun x => F x.2.toNat x.1) (fun rec x hI hrec => ?_) N (s, 0) ⟨0, Nat.zero_le _, rfl⟩ (by simp; omega)
  · simpa using h
  · obtain ⟨k, hk, hx⟩ := hI
    obtain ⟨t, i⟩ := x
    simp only at hx
    subst hx
    by_cases hkl : k < len
    · rw [hstep k t rec hkl (fun s' => ?_)]
      · simp
      · have := hrec (s', ((k + 1 : Nat) : Int)) ⟨k + 1, hkl, rfl⟩ (by simp only [Int.toNat_natCast]; omega)
        simpa using this
    · have : k = len := by omega
      subst this
      rw [hend t rec]; simp
theorem pow_le6 {p : Nat} (h : p ≤ 6) : 2 ^ p ≤ 64 := Nat.pow_le_pow_right (n := 2) (by omega) h
theorem CheckPolar_eq {N : Nat} (p : Int) (l : List Int) (hl : l.length < 4611686018427387904) (hN : l.length < N) (hN3 : 3 < N) : code_CheckPolar N p l = some (polarErr p l) := by
  unfold code_CheckPolar
  simp only [code_isPower, within_eq, bnd_val, unless_eq]
  rw [first_eq _ (by simp) (by simp; omega), bnd_val]
  by_cases hp : 0 ≤ p ∧ p ≤ 6
  · obtain ⟨q, rfl⟩ := Int.eq_ofNat_of_zero_le hp.1
    have hq : q ≤ 6 := by omega
    have h64 := pow_le6 hq
    have hb : (decide (0 ≤ (q : Int)) && decide ((q : Int) ≤ 6)) = true := by simp; omega
    rw [hb]
    by_cases h0 : l.length = 0
    · have : decide ((l.length : Int) > 0) = false := by simp [h0]
      rw [this, br_pos (by decide)]
      rw [polarErr, if_neg (show ¬¬(0 ≤ (q : Int) ∧ (q : Int) ≤ 6) from fun h => h hp), if_pos h0]; rfl
    · have : decide ((l.length : Int) > 0) = true := by simp; omega
      rw [this, br_neg (by decide), jn]
      refine (rds_upR l.length _ (fun k b => some (placesErr (2 ^ q - 1) b (l.drop k))) (fun k b rec hk hr => ?_) (fun b rec => ?_) hN (-1)).trans ?_
      · unfold code_CheckPolar.b1
        simp only [within_eq, unless_eq, bnd_val, Int.toNat_natCast]
        have hw : w64 (shlI 1 (q : Int) - 1) = 2 ^ q - 1 := by
          rw [shl1_pow (by omega)]
          have : ((2 ^ q : Nat) : Int) ≤ 64 := by exact_mod_cast h64
          have h0 : (0 : Int) ≤ ((2 ^ q : Nat) : Int) := Int.natCast_nonneg _
          have e : ((2 ^ q : Nat) : Int) = 2 ^ q := by push_cast; rfl
          rw [e] at this h0 ⊢
          exact w64_id (by omega)
        rw [br_pos (by simpa using hk), chk_pos (by omega), chk_pos (by omega), first_eq _ (by simp) (by simp; omega), bnd_val, hw, w64_succ (by omega), hr, placesErr_drop _ _ _ _ hk]
        by_cases h1 : 0 ≤ l.getD k 0 ∧ l.getD k 0 ≤ 2 ^ q - 1
        · have h1b : (decide (0 ≤ l.getD k 0) && decide (l.getD k 0 ≤ 2 ^ q - 1)) = true := by rw [Bool.and_eq_true, decide_eq_true_iff, decide_eq_true_iff]; exact h1
          rw [h1b, if_neg (show ¬¬(0 ≤ l.getD k 0 ∧ l.getD k 0 ≤ 2 ^ q - 1) from fun h => h h1)]
          by_cases h2 : l.getD k 0 ≤ b
          · rw [if_pos h2, decide_eq_false (show ¬ l.getD k 0 > b by omega)]; rfl
          · rw [if_neg h2, decide_eq_true (show l.getD k 0 > b by omega)]; rfl
        · have h1b : (decide (0 ≤ l.getD k 0) && decide (l.getD k 0 ≤ 2 ^ q - 1)) = false := by rw [← Bool.not_eq_true, Bool.and_eq_true, decide_eq_true_iff, decide_eq_true_iff]; exact h1
          rw [h1b, if_pos h1]; rfl
      · show br (decide ((l.length : Int) < l.length)) _ _ = _
        rw [br_neg (by simp)]; simp [placesErr]
      · simp only [polarErr, List.drop_zero, Int.toNat_natCast]
        rw [if_neg (by omega), if_neg h0]
  · have hb : (decide (0 ≤ p) && decide (p ≤ 6)) = false := by rw [← Bool.not_eq_true, Bool.and_eq_true, decide_eq_true_iff, decide_eq_true_iff]; exact hp
    rw [hb, polarErr, if_pos hp]; rfl
end Go.Sh

/-
  What the shallow functions of the code chapter come to: the reference's checks.
-/
namespace Go.Sh
open Go.PW

theorem Within_eq (N : Nat) (n lo hi : Int) : base_Within N n lo hi = some (decide (lo ≤ n) && decide (n ≤ hi)) := rfl
theorem power_eq {N n : Nat} (hn : n ≤ 40) (hN : n < N) : ref02_power N n = some ((2 ^ n : Nat) : Int) := by
  have hp : ∀ k, k ≤ 40 → 2 ^ k ≤ 2 ^ 40 := fun k hk => Nat.pow_le_pow_right (by omega) hk
  unfold ref02_power jn
  refine (rds_spec (b := ref02_power.b1 N n fun out => some out) (fun x : Int × Int => ∃ k : Nat, k ≤ n ∧ x = (((2 ^ k : Nat) : Int), (k : Int))) (fun x => n - x.2.toNat) (fun _ => some ((2 ^ n : Nat) : Int)) (fun rec x hI hrec => ?_) N (1, 0) ⟨0, by simp, by simp⟩ (by simp; omega))
  obtain ⟨k, hk, rfl⟩ := hI
  show br (decide ((k : Int) < n)) _ _ = _
  by_cases h : k < n
  · have h1 := hp k (by omega)
    have e : w64 (2 * ((2 ^ k : Nat) : Int)) = ((2 ^ (k + 1) : Nat) : Int) := by
      have : (2 * ((2 ^ k : Nat) : Int)) = ((2 ^ (k + 1) : Nat) : Int) := by rw [Nat.pow_succ]; push_cast; omega
      rw [this]; exact w64_nat (by have := hp (k + 1) (by omega); omega)
    rw [br_pos (by simpa using h), w64_succ (by omega), e]
    exact hrec _ ⟨k + 1, h, rfl⟩ (by simp only [Int.toNat_natCast]; omega)
  · have : k = n := by omega
    subst this
    rw [br_neg (by simp)]
end Go.Sh

/-
  What the shallow functions of the code chapter come to: bits, copies, comparisons.
-/
namespace Go.Sh
open Go.PW

theorem AreBits_eq {N : Nat} (l : List Int) (hl : l.length < 4611686018427387904) (hN : l.length < N) : base_AreBits N l = some (l.all isBitB) := by
  unfold base_AreBits jn
  refine (rds_up1 l.length _ (fun k => some ((l.drop k).all isBitB)) (fun k rec hk hr => ?_) (fun rec => ?_) hN).trans (by simp)
  · unfold base_AreBits.b1
    rw [br_pos (by simpa using hk), chk_pos (by omega), chk_pos (by intro _; omega), w64_succ (by omega), hr, Int.toNat_natCast, List.drop_eq_getElem_cons hk, List.all_cons]
    have e : l.getD k 0 = l[k] := by simp [List.getD_eq_getElem?_getD, hk]
    rw [e]
    by_cases h0 : l[k] = 0
    · rw [br_neg (by simp [h0])]; simp [isBitB, h0]
    · by_cases h1 : l[k] = 1
      · rw [br_neg (by simp [h1])]; simp [isBitB, h1]
      · rw [br_pos (by simp [h0, h1])]; simp [isBitB, h0, h1]
  · show br (decide ((l.length : Int) < l.length)) _ _ = _
    rw [br_neg (by simp)]; simp
theorem refBitsErr_eq {N : Nat} (l : List Int) (hl : l.length < 4611686018427387904) (hN : l.length < N) : ref02_BitsErr N l = some (listErr 200 isBitB 15 l) := by
  unfold ref02_BitsErr ref02_kindErr listErr
  rw [AreBits_eq l hl hN]
  by_cases h0 : l.length = 0
  · rw [br_pos (by simp [h0]), if_pos h0]
  · rw [br_neg (by simpa using h0), if_neg h0]
    by_cases h1 : (l.length : Int) > 200
    · rw [br_pos (by simpa using h1), if_pos h1]
    · rw [br_neg (by simpa using h1), if_neg h1]
      simp only [bnd_val]
      cases h : l.all isBitB <;> rfl
theorem CopyInts_eq (N : Nat) (l : List Int) (hl : l.length ≤ 1000000000) : base_CopyInts N l = some l := by
  unfold base_CopyInts
  rw [chk_pos (by simpa using hl)]; rfl
theorem Ints_eq {N : Nat} (a b : List Int) (hl : a.length < 4611686018427387904) (hN : a.length < N) : base_Ints N a b = some (decide (a = b)) := by
  unfold base_Ints
  by_cases hlen : a.length = b.length
  · rw [br_neg (by simp [hlen]), jn]
    refine (rds_up1 a.length _ (fun k => some (decide (a.drop k = b.drop k))) (fun k rec hk hr => ?_) (fun rec => ?_) hN).trans (by simp)
    · unfold base_Ints.b1
      rw [br_pos (by simpa using hk), chk_pos (by omega), chk_pos (by omega), w64_succ (by omega), hr, Int.toNat_natCast]
      have hkb : k < b.length := by omega
      have ea : a.getD k 0 = a[k] := by simp [List.getD_eq_getElem?_getD, hk]
      have eb : b.getD k 0 = b[k] := by simp [List.getD_eq_getElem?_getD, hkb]
      have hd : (a.drop k = b.drop k) = (a[k] = b[k] ∧ a.drop (k + 1) = b.drop (k + 1)) := by
        rw [List.drop_eq_getElem_cons hk, List.drop_eq_getElem_cons hkb, List.cons.injEq]
      rw [ea, eb]; simp only [hd]
      by_cases h : a[k] = b[k]
      · rw [br_neg (by rw [h]; simp)]; simp [h]
      · rw [br_pos (by simpa using h)]; simp [h]
    · show br (decide ((a.length : Int) < a.length)) _ _ = _
      rw [br_neg (by simp)]; simp [hlen]
  · rw [br_pos (by rw [bne_iff_ne]; omega)]
    have : a ≠ b := fun e => hlen (by rw [e])
    simp [this]
end Go.Sh

/-
  What the shallow functions of the code chapter come to: the word of a polar code.
-/
namespace Go.Sh
open Go.PW

noncomputable def wordAt (s : Nat) (l : List Int) (i : Nat) : Int := if i.testBit s then l.getD i 0 else xorI (l.getD i 0) (l.getD (i + 2 ^ s) 0)
noncomputable def stepL (s : Nat) (l : List Int) : List Int := (List.range l.length).map (wordAt s l)
theorem stepL_length (s : Nat) (l : List Int) : (stepL s l).length = l.length := by simp [stepL]
noncomputable def wordIn {R : Type} (step : Int) (b13 : List Int) (K_2 : List Int → Option R) (rec2 : Int × List Int → Option R) : Int × List Int → Option R := fun (t13, b15) =>
  br (decide (t13 < (b13.length : Int))) (
  br ((andI t13 step == (0 : Int))) (
  chk (0 ≤ t13 ∧ t13 < (b15.length : Int)) <|
  chk (0 ≤ w64 (t13 + step) ∧ w64 (t13 + step) < (b15.length : Int)) <|
  chk (0 ≤ t13 ∧ t13 < (b15.length : Int)) <|
  rec2 (w64 (t13 + (1 : Int)), (b15.set t13.toNat (xorI (b15.getD t13.toNat 0) (b15.getD ((w64 (t13 + step)).toNat) 0))))) (
  rec2 (w64 (t13 + (1 : Int)), b15))) (
  K_2 b15)
theorem and_bit (n i : Nat) : n &&& 2 ^ i = if n.testBit i then 2 ^ i else 0 := by
  refine Nat.eq_of_testBit_eq fun j => ?_
  rw [Nat.testBit_and, Nat.testBit_two_pow]
  by_cases h : i = j
  · subst h
    cases ht : n.testBit i <;> simp [Nat.testBit_two_pow]
  · cases ht : n.testBit i <;> simp [Nat.testBit_two_pow, h]
theorem clear_lt {m s i : Nat} (hs : s < m) (hi : i < 2 ^ m) (hb : i.testBit s = false) : i + 2 ^ s < 2 ^ m := by
  obtain ⟨d, rfl⟩ : ∃ d, m = s + 1 + d := ⟨m - (s + 1), by omega⟩
  have h0 : i / 2 ^ s % 2 ≠ 1 := by simpa [Nat.testBit_eq_decide_div_mod_eq] using hb
  have hp : 0 < 2 ^ s := Nat.two_pow_pos s
  have e : 2 ^ (s + 1 + d) = 2 ^ s * (2 * 2 ^ d) := by rw [Nat.pow_add, Nat.pow_succ, Nat.mul_assoc]
  rw [e] at hi ⊢
  have h1 : i / 2 ^ s < 2 * 2 ^ d := Nat.div_lt_of_lt_mul hi
  have h2 := Nat.div_add_mod i (2 ^ s)
  have h3 := Nat.mod_lt i hp
  have h4 : i / 2 ^ s + 2 ≤ 2 * 2 ^ d := by omega
  have h5 : 2 ^ s * (i / 2 ^ s + 2) ≤ 2 ^ s * (2 * 2 ^ d) := Nat.mul_le_mul_left _ h4
  rw [Nat.mul_add] at h5
  omega
theorem ext_getD {a b : List Int} (h : a.length = b.length) (he : ∀ j, j < a.length → a.getD j 0 = b.getD j 0) : a = b := by
  refine List.ext_getElem h fun j h1 h2 => ?_
  have := he j h1
  simpa [List.getD_eq_getElem?_getD, h1, h2] using this
theorem stepL_getD (s : Nat) (l : List Int) (j : Nat) (h : j < l.length) : (stepL s l).getD j 0 = wordAt s l j := by
  simp [stepL, List.getD_eq_getElem?_getD, h]
theorem wordIn_eq {R : Type} (m s : Nat) (hs : s < m) (hm : m ≤ 30) (l : List Int) (hl : l.length = 2 ^ m) (K : List Int → Option R) {N : Nat} (hN : 2 ^ m < N) :
    rds (wordIn ((2 ^ s : Nat) : Int) l K) N (0, l) = K (stepL s l) := by
  have hbig : 2 ^ m ≤ 2 ^ 30 := Nat.pow_le_pow_right (by omega) hm
  have hsm : 2 ^ s < 2 ^ m := Nat.pow_lt_pow_right (by omega) hs
  have hps : (0 : Int) < 2 ^ s := Int.pow_pos (by omega)
  refine rds_spec (fun x : Int × List Int => ∃ k : Nat, k ≤ l.length ∧ x.1 = k ∧ x.2.length = l.length ∧ ∀ j, j < l.length → x.2.getD j 0 = if j < k then wordAt s l j else l.getD j 0) (fun x => l.length - x.1.toNat) (fun _ => K (stepL s l)) (fun rec x hI hrec => ?_) N (0, l) ⟨0, Nat.zero_le _, rfl, rfl, fun j hj => by simp⟩ (by simp; omega)
  obtain ⟨k, hk, hx, hbl, hb⟩ := hI
  obtain ⟨i, b⟩ := x
  simp only at hx hbl hb
  subst hx
  show br (decide ((k : Int) < (l.length : Int))) _ _ = _
  by_cases hkl : k < l.length
  · rw [br_pos (by simpa using hkl), w64_succ (by omega), andI_nat (by omega) (by omega)]
    have hand : (((k &&& 2 ^ s : Nat) : Int) == 0) = !k.testBit s := by
      rw [and_bit]
      cases k.testBit s
      · rfl
      · have := Nat.two_pow_pos s
        simp only [if_true, Bool.not_true, beq_eq_false_iff_ne]
        omega
    rw [hand]
    cases ht : k.testBit s with
    | false =>
      have hlt := clear_lt hs (by omega) ht
      rw [br_pos (by rfl), chk_pos (by omega)]
      have e : w64 ((k : Int) + ((2 ^ s : Nat) : Int)) = ((k + 2 ^ s : Nat) : Int) := by
        have : ((k : Int) + ((2 ^ s : Nat) : Int)) = ((k + 2 ^ s : Nat) : Int) := by push_cast; rfl
        rw [this]; exact w64_nat (by omega)
      have hlb : k + 2 ^ s < b.length := by rw [hbl, hl]; exact hlt
      rw [e, chk_pos ⟨Int.natCast_nonneg _, Int.ofNat_lt.2 hlb⟩, chk_pos (by omega), Int.toNat_natCast, Int.toNat_natCast]
      refine hrec _ ⟨k + 1, hkl, rfl, by simpa using hbl, fun j hj => ?_⟩ (by simp only [Int.toNat_natCast]; omega)
      simp only
      by_cases hjk : j = k
      · subst hjk
        rw [if_pos (Nat.lt_succ_self _)]
        simp only [List.getD_eq_getElem?_getD, List.getElem?_set_self (show j < b.length by omega), Option.getD_some]
        have h1 := hb j hj
        have h2 := hb (j + 2 ^ s) (by omega)
        rw [if_neg (by omega)] at h1
        rw [if_neg (show ¬ j + 2 ^ s < j from by have := Nat.two_pow_pos s; omega)] at h2
        rw [← List.getD_eq_getElem?_getD, ← List.getD_eq_getElem?_getD, h1, h2, wordAt, ht]; rfl
      · have h1 := hb j hj
        rw [List.getD_eq_getElem?_getD, List.getElem?_set_ne (Ne.symm hjk), ← List.getD_eq_getElem?_getD, h1]
        by_cases hlt2 : j < k
        · rw [if_pos hlt2, if_pos (show j < k + 1 by omega)]
        · rw [if_neg hlt2, if_neg (show ¬ j < k + 1 by omega)]
    | true =>
      rw [br_neg (by rfl)]
      refine hrec _ ⟨k + 1, hkl, rfl, hbl, fun j hj => ?_⟩ (by simp only [Int.toNat_natCast]; omega)
      have h1 := hb j hj
      simp only
      rw [h1]
      by_cases hjk : j = k
      · subst hjk
        rw [if_neg (by omega), if_pos (by omega), wordAt, ht]; rfl
      · by_cases hlt2 : j < k
        · rw [if_pos hlt2, if_pos (show j < k + 1 by omega)]
        · rw [if_neg hlt2, if_neg (show ¬ j < k + 1 by omega)]
  · rw [br_neg (by simpa using hkl)]
    have : b = stepL s l := ext_getD (by rw [hbl, stepL_length]) fun j hj => by
      rw [hbl] at hj
      rw [hb j hj, if_pos (by omega), stepL_getD s l j hj]
    rw [this]

noncomputable def wordOut {R : Type} (N : Nat) (K_1 : List Int → Option R) (rec1 : Int × List Int → Option R) : Int × List Int → Option R := fun (step, b13) =>
  br (decide (step < (b13.length : Int))) (
  jn (τ := List Int) (fun (b14 : List Int) =>
    rec1 (w64 (step * (2 : Int)), b14)) fun K_2 =>
  rds (wordIn step b13 K_2) N ((0 : Int), b13)) (
  K_1 b13)
theorem encode_b2 (N : Nat) : code_encode.b2 N = wordOut N := rfl
theorem cancel_b2 (N : Nat) : code_cancel.b2 N = wordOut N := rfl
noncomputable def wordL : Nat → List Int → List Int
  | 0, l => l
  | m + 1, l => stepL m (wordL m l)
theorem wordL_length : ∀ (m : Nat) (l : List Int), (wordL m l).length = l.length
  | 0, _ => rfl
  | m + 1, l => by rw [wordL, stepL_length, wordL_length m l]
theorem wordOut_eq {R : Type} (m : Nat) (hm : m ≤ 30) (l : List Int) (hl : l.length = 2 ^ m) (K : List Int → Option R) {N : Nat} (hN : 2 ^ m < N) :
    rds (wordOut N K) N (1, l) = K (wordL m l) := by
  have hbig : 2 ^ m ≤ 2 ^ 30 := Nat.pow_le_pow_right (by omega) hm
  refine rds_spec (fun x : Int × List Int => ∃ s : Nat, s ≤ m ∧ x = (((2 ^ s : Nat) : Int), wordL s l)) (fun x => 2 ^ m - x.1.toNat) (fun _ => K (wordL m l)) (fun rec x hI hrec => ?_) N (1, l) ⟨0, Nat.zero_le _, rfl⟩ (by simp; omega)
  obtain ⟨s, hs, rfl⟩ := hI
  show br (decide (((2 ^ s : Nat) : Int) < ((wordL s l).length : Int))) _ _ = _
  rw [wordL_length, hl]
  by_cases h : s < m
  · have hsm : 2 ^ s < 2 ^ m := Nat.pow_lt_pow_right (by omega) h
    rw [br_pos (by rw [decide_eq_true_iff]; exact Int.ofNat_lt.2 hsm), jn, wordIn_eq m s h hm _ (by rw [wordL_length, hl]) _ hN]
    have e : w64 (((2 ^ s : Nat) : Int) * 2) = ((2 ^ (s + 1) : Nat) : Int) := by
      have h1 : (((2 ^ s : Nat) : Int) * 2) = ((2 ^ (s + 1) : Nat) : Int) := by rw [Nat.pow_succ]; push_cast; rfl
      have h2 : 2 ^ (s + 1) ≤ 2 ^ m := Nat.pow_le_pow_right (by omega) h
      rw [h1]; exact w64_nat (by omega)
    rw [e]
    refine hrec _ ⟨s + 1, h, rfl⟩ ?_
    have h1 : 2 ^ s < 2 ^ (s + 1) := Nat.pow_lt_pow_right (by omega) (by omega)
    simp only [Int.toNat_natCast]
    omega
  · have : s = m := by omega
    subst this
    rw [br_neg (by simp)]
end Go.Sh

/-
  What the shallow functions of the code chapter come to: encoding.
-/
namespace Go.Sh
open Go.PW

def place : List Int → List Int → List Int → List Int
  | x :: is, y :: ys, b => place is ys (b.set x.toNat y)
  | _, _, b => b
theorem getD_eq {l : List Int} {k : Nat} (h : k < l.length) : l.getD k 0 = l[k] := by simp [List.getD_eq_getElem?_getD, h]
theorem encode_eq {N q : Nat} (hq : q ≤ 6) (info bits : List Int) (hlen : bits.length = info.length) (hin : ∀ x ∈ info, 0 ≤ x ∧ x < ((2 ^ q : Nat) : Int)) (hl : info.length < 4611686018427387904) (hN : info.length < N) (hN2 : 64 < N) :
    code_encode N q info bits = some (wordL q (place info bits (List.replicate (2 ^ q) 0))) := by
  have h64 := pow_le6 hq
  unfold code_encode
  rw [chk_pos (by omega), shl1_pow (by omega), chk_pos ⟨Int.natCast_nonneg _, by have : ((2 ^ q : Nat) : Int) ≤ ((64 : Nat) : Int) := Int.ofNat_le.2 h64; omega⟩, jn, Int.toNat_natCast]
  refine rds_spec (fun x : Int × List Int => ∃ k : Nat, k ≤ info.length ∧ x.1 = k ∧ x.2.length = 2 ^ q ∧ place (info.drop k) (bits.drop k) x.2 = place info bits (List.replicate (2 ^ q) 0)) (fun x => info.length - x.1.toNat) (fun _ => some (wordL q (place info bits (List.replicate (2 ^ q) 0)))) (fun rec x hI hrec => ?_) N (0, List.replicate (2 ^ q) 0) ⟨0, Nat.zero_le _, rfl, by simp, rfl⟩ (by simp; omega)
  obtain ⟨k, hk, hx, hbl, hp⟩ := hI
  obtain ⟨i, b⟩ := x
  simp only at hx hbl hp
  subst hx
  show br (decide ((k : Int) < (info.length : Int))) _ _ = _
  by_cases hkl : k < info.length
  · have hm := hin info[k] (List.getElem_mem hkl)
    have hkb : k < bits.length := by omega
    rw [br_pos (by simpa using hkl), chk_pos (by omega), chk_pos (by omega), Int.toNat_natCast, getD_eq hkl, getD_eq hkb, chk_pos ⟨hm.1, by rw [hbl]; exact hm.2⟩, w64_succ (by omega)]
    refine hrec _ ⟨k + 1, hkl, rfl, by simpa using hbl, ?_⟩ (by simp only [Int.toNat_natCast]; omega)
    rw [← hp, List.drop_eq_getElem_cons hkl, List.drop_eq_getElem_cons hkb, place]
  · have hke : k = info.length := by omega
    have hb : b = place info bits (List.replicate (2 ^ q) 0) := by
      rw [← hp, hke, List.drop_length]
      simp [place]
    rw [br_neg (by simpa using hkl)]
    show rds (code_encode.b2 N fun b12 => some b12) N (1, b) = _
    rw [encode_b2, wordOut_eq q (by omega) b hbl _ (by omega), hb]
end Go.Sh

/-
  The word of a polar code, by halves.
-/
namespace Go.Sh
open Go.PW

theorem getD_left (a b : List Int) {j : Nat} (h : j < a.length) : (a ++ b).getD j 0 = a.getD j 0 := by
  rw [List.getD_eq_getElem?_getD, List.getElem?_append_left h, ← List.getD_eq_getElem?_getD]
theorem getD_right (a b : List Int) (i : Nat) : (a ++ b).getD (a.length + i) 0 = b.getD i 0 := by
  rw [List.getD_eq_getElem?_getD, List.getElem?_append_right (by omega), Nat.add_sub_cancel_left, ← List.getD_eq_getElem?_getD]
noncomputable def zipX (a b : List Int) : List Int := (List.range a.length).map fun i => xorI (a.getD i 0) (b.getD i 0)
theorem zipX_length (a b : List Int) : (zipX a b).length = a.length := by simp [zipX]
theorem zipX_getD (a b : List Int) {i : Nat} (h : i < a.length) : (zipX a b).getD i 0 = xorI (a.getD i 0) (b.getD i 0) := by
  simp [zipX, List.getD_eq_getElem?_getD, h]
theorem stepL_append {m s : Nat} (hs : s < m) (a b : List Int) (ha : a.length = 2 ^ m) (hb : b.length = 2 ^ m) : stepL s (a ++ b) = stepL s a ++ stepL s b := by
  refine ext_getD (by simp [stepL_length]) fun j hj => ?_
  rw [stepL_length, List.length_append] at hj
  rw [stepL_getD s _ j (by simpa using hj)]
  by_cases h : j < a.length
  · rw [getD_left _ _ (by rw [stepL_length]; exact h), stepL_getD s a j h, wordAt, wordAt, getD_left a b h]
    cases ht : j.testBit s with
    | true => rfl
    | false =>
      have := clear_lt hs (by omega) ht
      rw [getD_left a b (by omega)]
  · obtain ⟨i, rfl⟩ : ∃ i, j = a.length + i := ⟨j - a.length, by omega⟩
    have hi : i < b.length := by omega
    have e : (stepL s a ++ stepL s b).getD (a.length + i) 0 = (stepL s b).getD i 0 := by
      have := getD_right (stepL s a) (stepL s b) i
      rwa [stepL_length] at this
    rw [e, stepL_getD s b i hi, wordAt, wordAt, getD_right, Nat.add_assoc, getD_right]
    have ht : (a.length + i).testBit s = i.testBit s := by rw [ha]; exact Nat.testBit_two_pow_add_gt hs i
    rw [ht]
theorem stepL_last {m : Nat} (a b : List Int) (ha : a.length = 2 ^ m) (hb : b.length = 2 ^ m) : stepL m (a ++ b) = zipX a b ++ b := by
  refine ext_getD (by simp [stepL_length, zipX_length]) fun j hj => ?_
  rw [stepL_length, List.length_append] at hj
  rw [stepL_getD m _ j (by simpa using hj)]
  by_cases h : j < a.length
  · have ht : j.testBit m = false := Nat.testBit_lt_two_pow (by omega)
    rw [getD_left _ _ (by rw [zipX_length]; exact h), zipX_getD a b h, wordAt, ht, getD_left a b h]
    have : j + 2 ^ m = a.length + j := by omega
    rw [this, getD_right]; rfl
  · obtain ⟨i, rfl⟩ : ∃ i, j = a.length + i := ⟨j - a.length, by omega⟩
    have hi : i < b.length := by omega
    have e : (zipX a b ++ b).getD (a.length + i) 0 = b.getD i 0 := by
      have := getD_right (zipX a b) b i
      rwa [zipX_length] at this
    have ht : (a.length + i).testBit m = true := by
      rw [ha, Nat.testBit_two_pow_add_eq, Nat.testBit_lt_two_pow (by omega)]; rfl
    rw [e, wordAt, ht, getD_right]; rfl
theorem wordL_append (m : Nat) : ∀ (s : Nat), s ≤ m → ∀ (a b : List Int), a.length = 2 ^ m → b.length = 2 ^ m → wordL s (a ++ b) = wordL s a ++ wordL s b
  | 0, _, _, _, _, _ => rfl
  | s + 1, hs, a, b, ha, hb => by
    rw [wordL, wordL_append m s (by omega) a b ha hb, stepL_append (m := m) (s := s) (by omega) _ _ (by rw [wordL_length, ha]) (by rw [wordL_length, hb])]
    rfl
theorem wordL_halves (m : Nat) (a b : List Int) (ha : a.length = 2 ^ m) (hb : b.length = 2 ^ m) : wordL (m + 1) (a ++ b) = zipX (wordL m a) (wordL m b) ++ wordL m b := by
  rw [wordL, wordL_append m m (Nat.le_refl _) a b ha hb, stepL_last _ _ (by rw [wordL_length, ha]) (by rw [wordL_length, hb])]
end Go.Sh

/-
  What the shallow functions of the code chapter come to: soft bits of a half.
-/
namespace Go.Sh
open Go.PW

def sgn (n : Int) : Int := if n < 0 then -1 else if n > 0 then 1 else 0
theorem size_eq (N : Nat) (n : Int) (h : -4611686018427387904 < n ∧ n < 4611686018427387904) : code_size N n = some (n.natAbs : Int) := by
  unfold code_size
  rw [w64_id (by omega)]
  congr 1
  split <;> omega
theorem sign_eq (N : Nat) (n : Int) : code_sign N n = some (sgn n) := by
  have hn : ∀ x : Int, (x != x) = false := fun x => by simp
  unfold code_sign cmp_Compare_int cmp_isNaN_int
  simp only [hn, bnd_val]
  rw [br_neg rfl, br_neg rfl]
  unfold sgn
  by_cases h : n < 0
  · rw [br_pos (by simpa using h), if_pos h]; rfl
  · rw [br_neg (by simpa using h), if_neg h]
    by_cases h1 : n > 0
    · rw [br_pos (by simpa using h1), if_pos h1]; rfl
    · rw [br_neg (by simpa using h1), if_neg h1]; rfl
def leftAt (x y : Int) : Int := (if (y.natAbs : Int) < (x.natAbs : Int) then (y.natAbs : Int) else (x.natAbs : Int)) * sgn x * sgn y
def leftL (a b : List Int) : List Int := (List.range a.length).map fun i => leftAt (a.getD i 0) (b.getD i 0)
theorem leftL_length (a b : List Int) : (leftL a b).length = a.length := by simp [leftL]
theorem leftL_getD (a b : List Int) {i : Nat} (h : i < a.length) : (leftL a b).getD i 0 = leftAt (a.getD i 0) (b.getD i 0) := by
  simp [leftL, List.getD_eq_getElem?_getD, h]
def rightAt (w x y : Int) : Int := if w = 1 then y - x else y + x
def rightL (w a b : List Int) : List Int := (List.range a.length).map fun i => rightAt (w.getD i 0) (a.getD i 0) (b.getD i 0)
theorem rightL_length (w a b : List Int) : (rightL w a b).length = a.length := by simp [rightL]
theorem rightL_getD (w a b : List Int) {i : Nat} (h : i < a.length) : (rightL w a b).getD i 0 = rightAt (w.getD i 0) (a.getD i 0) (b.getD i 0) := by
  simp [rightL, List.getD_eq_getElem?_getD, h]
theorem sgn_cases (n : Int) : sgn n = -1 ∨ sgn n = 0 ∨ sgn n = 1 := by
  unfold sgn
  by_cases h : n < 0
  · rw [if_pos h]; exact .inl rfl
  · rw [if_neg h]
    by_cases h1 : n > 0
    · rw [if_pos h1]; exact .inr (.inr rfl)
    · rw [if_neg h1]; exact .inr (.inl rfl)
theorem leftAt_w64 (x y : Int) (hx : -4611686018427387904 < x ∧ x < 4611686018427387904) (hy : -4611686018427387904 < y ∧ y < 4611686018427387904) :
    w64 (w64 ((if (y.natAbs : Int) < (x.natAbs : Int) then (y.natAbs : Int) else (x.natAbs : Int)) * sgn x) * sgn y) = leftAt x y := by
  unfold leftAt
  generalize hm : (if (y.natAbs : Int) < (x.natAbs : Int) then (y.natAbs : Int) else (x.natAbs : Int)) = M
  have h1 : 0 ≤ M ∧ M < 4611686018427387904 := by rw [← hm]; split <;> omega
  rcases sgn_cases x with h | h | h <;> rcases sgn_cases y with h' | h' | h' <;> rw [h, h'] <;> rw [w64_id (n := M * _) (by omega), w64_id (by omega)]
end Go.Sh

/-
  What the shallow functions of the code chapter come to: the loops of cancelling.
-/
namespace Go.Sh
open Go.PW

theorem half_eq {a b : List Int} (hab : b.length = a.length) (hl : a.length < 1000000) : w64 (((a ++ b).length : Int).tdiv 2) = (a.length : Int) := by
  have e : (((a ++ b).length : Int).tdiv 2) = (a.length : Int) := by
    rw [List.length_append, hab, Int.tdiv_eq_ediv_of_nonneg (Int.natCast_nonneg _)]; omega
  rw [e]; exact w64_nat (by omega)
theorem take_half (a b : List Int) : (a ++ b).take a.length = a := by simp
theorem drop_half {a b : List Int} (hab : b.length = a.length) : ((a ++ b).drop a.length).take ((a ++ b).length - a.length) = b := by
  rw [List.drop_left, List.length_append, hab, Nat.add_sub_cancel, ← hab, List.take_length]
def inR (l : List Int) : Prop := ∀ i, i < l.length → -2305843009213693952 < l.getD i 0 ∧ l.getD i 0 < 2305843009213693952
theorem cancel_b1_eq {N : Nat} (a b : List Int) (hab : b.length = a.length) (hl : a.length < 1000000) (hN : a.length < N) (ha : inR a) (hb : inR b) (K : List Int → Option (List Int)) :
    rds (code_cancel.b1 N (a ++ b) K) N (0, List.replicate a.length 0) = K (leftL a b) := by
  refine rds_spec (fun x : Int × List Int => ∃ k : Nat, k ≤ a.length ∧ x.1 = k ∧ x.2.length = a.length ∧ ∀ j, j < k → x.2.getD j 0 = leftAt (a.getD j 0) (b.getD j 0)) (fun x => a.length - x.1.toNat) (fun _ => K (leftL a b)) (fun rec x hI hrec => ?_) N (0, List.replicate a.length 0) ⟨0, Nat.zero_le _, rfl, by simp, fun j hj => absurd hj (Nat.not_lt_zero _)⟩ (by simp; omega)
  obtain ⟨k, hk, hx, hcl, hc⟩ := hI
  obtain ⟨i, c⟩ := x
  simp only at hx hcl hc
  subst hx
  unfold code_cancel.b1
  simp only [half_eq hab hl, Int.toNat_natCast, take_half, drop_half hab]
  by_cases hkl : k < a.length
  · have h1 := ha k hkl
    have h2 := hb k (by omega)
    rw [br_pos (by simpa using hkl), chk_pos (by omega), size_eq N _ (by omega), bnd_val, chk_pos (by omega), size_eq N _ (by omega), bnd_val, chk_pos (by omega), sign_eq, bnd_val, chk_pos (by omega), sign_eq, bnd_val, chk_pos (by omega), w64_succ (by omega), leftAt_w64 _ _ (by omega) (by omega)]
    refine hrec _ ⟨k + 1, hkl, rfl, by simpa using hcl, fun j hj => ?_⟩ (by simp only [Int.toNat_natCast]; omega)
    simp only
    by_cases hjk : j = k
    · subst hjk
      rw [List.getD_eq_getElem?_getD, List.getElem?_set_self (by omega)]; rfl
    · rw [List.getD_eq_getElem?_getD, List.getElem?_set_ne (Ne.symm hjk), ← List.getD_eq_getElem?_getD]
      exact hc j (by omega)
  · rw [br_neg (by simpa using hkl)]
    have : c = leftL a b := ext_getD (by rw [hcl, leftL_length]) fun j hj => by rw [hc j (by omega), leftL_getD a b (by omega)]
    rw [this]
theorem cancel_b4_eq {N : Nat} (w c a b : List Int) (hab : b.length = a.length) (hw : w.length = a.length) (hcl0 : c.length = a.length) (hl : a.length < 1000000) (hN : a.length < N) (ha : inR a) (hb : inR b) (K : List Int → Option (List Int)) :
    rds (code_cancel.b4 N (a ++ b) K w) N (0, c) = K (rightL w a b) := by
  refine rds_spec (fun x : Int × List Int => ∃ k : Nat, k ≤ a.length ∧ x.1 = k ∧ x.2.length = a.length ∧ ∀ j, j < k → x.2.getD j 0 = rightAt (w.getD j 0) (a.getD j 0) (b.getD j 0)) (fun x => a.length - x.1.toNat) (fun _ => K (rightL w a b)) (fun rec x hI hrec => ?_) N (0, c) ⟨0, Nat.zero_le _, rfl, hcl0, fun j hj => absurd hj (Nat.not_lt_zero _)⟩ (by simp; omega)
  obtain ⟨k, hk, hx, hcl, hc⟩ := hI
  obtain ⟨i, c⟩ := x
  simp only at hx hcl hc
  subst hx
  unfold code_cancel.b4
  simp only [half_eq hab hl, Int.toNat_natCast, take_half, drop_half hab]
  by_cases hkl : k < a.length
  · have h1 := ha k hkl
    have h2 := hb k (by omega)
    rw [br_pos (by simp only [decide_eq_true_iff]; omega), chk_pos (by omega), chk_pos (by omega), chk_pos (by omega), chk_pos (by omega), w64_id (n := b.getD k 0 + a.getD k 0) (by omega), w64_id (n := b.getD k 0 - a.getD k 0) (by omega), w64_succ (by omega)]
    by_cases hw1 : w.getD k 0 = 1
    · rw [br_pos (by rw [hw1]; rfl), chk_pos (by omega), chk_pos (by omega), chk_pos (by rw [List.length_set]; omega), List.set_set]
      refine hrec _ ⟨k + 1, hkl, rfl, by simpa using hcl, fun j hj => ?_⟩ (by simp only [Int.toNat_natCast]; omega)
      simp only
      by_cases hjk : j = k
      · subst hjk
        rw [List.getD_eq_getElem?_getD, List.getElem?_set_self (by omega), rightAt, if_pos hw1]; rfl
      · rw [List.getD_eq_getElem?_getD, List.getElem?_set_ne (Ne.symm hjk), ← List.getD_eq_getElem?_getD]
        exact hc j (by omega)
    · rw [br_neg (by simpa using hw1)]
      refine hrec _ ⟨k + 1, hkl, rfl, by simpa using hcl, fun j hj => ?_⟩ (by simp only [Int.toNat_natCast]; omega)
      simp only
      by_cases hjk : j = k
      · subst hjk
        rw [List.getD_eq_getElem?_getD, List.getElem?_set_self (by omega), rightAt, if_neg hw1]; rfl
      · rw [List.getD_eq_getElem?_getD, List.getElem?_set_ne (Ne.symm hjk), ← List.getD_eq_getElem?_getD]
        exact hc j (by omega)
  · rw [br_neg (by simp only [decide_eq_false_iff_not]; omega)]
    have : c = rightL w a b := ext_getD (by rw [hcl, rightL_length]) fun j hj => by rw [hc j (by omega), rightL_getD w a b (by omega)]
    rw [this]
end Go.Sh

/-
  What the shallow functions of the code chapter come to: cancelling undoes the word, where the signs are right.
-/
namespace Go.Sh
open Go.PW

def signed (x w : Int) : Prop := (w = 0 ∧ 0 < x) ∨ (w = 1 ∧ x < 0)
theorem xorI_bits {a b : Int} (ha : a = 0 ∨ a = 1) (hb : b = 0 ∨ b = 1) : xorI a b = if a = b then 0 else 1 := by
  rcases ha with rfl | rfl <;> rcases hb with rfl | rfl
  · exact xorI_nat (a := 0) (b := 0) (by omega) (by omega)
  · exact xorI_nat (a := 0) (b := 1) (by omega) (by omega)
  · exact xorI_nat (a := 1) (b := 0) (by omega) (by omega)
  · exact xorI_nat (a := 1) (b := 1) (by omega) (by omega)
theorem signed_sgn {x w : Int} (h : signed x w) : sgn x = 1 - 2 * w := by
  rcases h with ⟨rfl, h⟩ | ⟨rfl, h⟩ <;> unfold sgn
  · rw [if_neg (by omega), if_pos h]; rfl
  · rw [if_pos h]; rfl
theorem left_signed {x y v w : Int} (hv : v = 0 ∨ v = 1) (hw : w = 0 ∨ w = 1) (hx : signed x (xorI v w)) (hy : signed y w) : signed (leftAt x y) v := by
  have hx0 : x ≠ 0 := by rcases hx with ⟨_, h⟩ | ⟨_, h⟩ <;> omega
  have hy0 : y ≠ 0 := by rcases hy with ⟨_, h⟩ | ⟨_, h⟩ <;> omega
  unfold leftAt
  rw [signed_sgn hx, signed_sgn hy, xorI_bits hv hw]
  generalize hm : (if (y.natAbs : Int) < (x.natAbs : Int) then (y.natAbs : Int) else (x.natAbs : Int)) = M
  have h1 : 0 < M := by rw [← hm]; split <;> omega
  rcases hv with rfl | rfl <;> rcases hw with rfl | rfl <;> simp [signed] <;> omega
theorem right_signed {x y v w : Int} (hv : v = 0 ∨ v = 1) (hw : w = 0 ∨ w = 1) (hx : signed x (xorI v w)) (hy : signed y w) : signed (rightAt v x y) w := by
  rw [xorI_bits hv hw] at hx
  unfold rightAt
  rcases hv with rfl | rfl <;> rcases hw with rfl | rfl <;> simp [signed] at hx hy ⊢ <;> omega
theorem left_size {x y B : Int} (hx : (x.natAbs : Int) ≤ B) (hy : (y.natAbs : Int) ≤ B) : ((leftAt x y).natAbs : Int) ≤ B := by
  unfold leftAt
  generalize hm : (if (y.natAbs : Int) < (x.natAbs : Int) then (y.natAbs : Int) else (x.natAbs : Int)) = M
  have h1 : 0 ≤ M ∧ M ≤ B := by rw [← hm]; split <;> omega
  rcases sgn_cases x with h | h | h <;> rcases sgn_cases y with h' | h' | h' <;> rw [h, h'] <;> omega
theorem right_size {v x y B : Int} (hx : (x.natAbs : Int) ≤ B) (hy : (y.natAbs : Int) ≤ B) : ((rightAt v x y).natAbs : Int) ≤ 2 * B := by
  unfold rightAt; split <;> omega
end Go.Sh

/-
  What the shallow functions of the code chapter come to: cancelling.
-/
namespace Go.Sh
open Go.PW

def bits (l : List Int) : Prop := ∀ i, i < l.length → l.getD i 0 = 0 ∨ l.getD i 0 = 1
theorem bits_getD {l : List Int} (h : bits l) (i : Nat) : l.getD i 0 = 0 ∨ l.getD i 0 = 1 := by
  by_cases hi : i < l.length
  · exact h i hi
  · exact .inl (by simp [List.getD_eq_getElem?_getD, List.getElem?_eq_none (Nat.le_of_not_lt hi)])
theorem xorI_bit {a b : Int} (ha : a = 0 ∨ a = 1) (hb : b = 0 ∨ b = 1) : xorI a b = 0 ∨ xorI a b = 1 := by
  rw [xorI_bits ha hb]; split <;> simp
theorem stepL_bits (s : Nat) {l : List Int} (h : bits l) : bits (stepL s l) := fun i hi => by
  rw [stepL_length] at hi
  rw [stepL_getD s l i hi, wordAt]
  split
  · exact h i hi
  · exact xorI_bit (bits_getD h _) (bits_getD h _)
theorem wordL_bits : ∀ (m : Nat) {l : List Int}, bits l → bits (wordL m l)
  | 0, _, h => h
  | m + 1, _, h => stepL_bits m (wordL_bits m h)

theorem cancel_eq {N : Nat} (isInfo : Int → Option Bool) (info : Nat → Bool) : ∀ (m : Nat), m ≤ 6 → 2 ^ m < N → ∀ (n : Nat), m < n → ∀ (soft u : List Int) (f : Nat) (B : Nat), soft.length = 2 ^ m → u.length = 2 ^ m → bits u →
    (∀ i, i < 2 ^ m → signed (soft.getD i 0) ((wordL m u).getD i 0)) → (∀ i, i < 2 ^ m → ((soft.getD i 0).natAbs : Int) ≤ B) → B * 2 ^ m ≤ 2 ^ 40 → (∀ i, i < 2 ^ m → isInfo ((f + i : Nat) : Int) = some (info (f + i))) →
    (∀ i, i < 2 ^ m → info (f + i) = false → u.getD i 0 = 0) → f + 2 ^ m ≤ 1000000 → rds (code_cancel.b N isInfo) n (soft, (f : Int)) = some u := by
  intro m
  induction m with
  | zero =>
    intro _ _ n hn soft u f B hs hu hb hsg _ _ hinfo h0 _
    obtain ⟨n, rfl⟩ : ∃ k, n = k + 1 := ⟨n - 1, by omega⟩
    obtain ⟨x, rfl⟩ := List.length_eq_one_iff.1 hs
    obtain ⟨y, rfl⟩ := List.length_eq_one_iff.1 hu
    have hx := hsg 0 (by simp)
    have hy := h0 0 (by simp)
    have hi := hinfo 0 (by simp)
    simp only [Nat.add_zero] at hi hy
    rw [rds_succ]
    show br (w64 ((([x] : List Int).length : Int).tdiv 2) == 0) _ _ = _
    have hz : w64 ((([x] : List Int).length : Int).tdiv 2) = 0 := by rw [show ((([x] : List Int).length : Int).tdiv 2) = 0 by rw [List.length_singleton]; decide]; exact w64_id (by decide)
    rw [hz, br_pos (by rfl), hi, bnd_val, chk_pos (by intro _; simp)]
    simp only [wordL, List.getD_cons_zero] at hx hy ⊢
    rcases hx with ⟨rfl, h⟩ | ⟨rfl, h⟩
    · rw [br_neg (by simp; intro _; omega)]
    · cases hf : info f with
      | true => rw [br_pos (by simpa using h)]
      | false => exact absurd (hy hf) (by decide)
  | succ m ih =>
    intro hm hN n hn soft u f B hs hu hb hsg hB hBm hinfo h0 hf
    obtain ⟨n, rfl⟩ : ∃ k, n = k + 1 := ⟨n - 1, by omega⟩
    have hp : 2 ^ (m + 1) = 2 ^ m + 2 ^ m := by rw [Nat.pow_succ]; omega
    have hpos := Nat.two_pow_pos m
    have h64 := pow_le6 hm
    obtain ⟨a, b, rfl, ha, hb'⟩ : ∃ a b, soft = a ++ b ∧ a.length = 2 ^ m ∧ b.length = 2 ^ m := ⟨soft.take (2 ^ m), soft.drop (2 ^ m), (List.take_append_drop _ _).symm, by rw [List.length_take]; omega, by rw [List.length_drop]; omega⟩
    obtain ⟨u1, u2, rfl, hu1, hu2⟩ : ∃ u1 u2, u = u1 ++ u2 ∧ u1.length = 2 ^ m ∧ u2.length = 2 ^ m := ⟨u.take (2 ^ m), u.drop (2 ^ m), (List.take_append_drop _ _).symm, by rw [List.length_take]; omega, by rw [List.length_drop]; omega⟩
    rw [wordL_halves m u1 u2 hu1 hu2] at hsg
    have hab : b.length = a.length := by omega
    have hal : a.length < 1000000 := by omega
    have hBB : B ≤ 2 ^ 40 := Nat.le_trans (Nat.le_mul_of_pos_right B (Nat.two_pow_pos _)) hBm
    have hra : inR a := fun i hi => by
      have := hB i (by omega)
      rw [getD_left a b hi] at this
      omega
    have hrb : inR b := fun i hi => by
      have := hB (a.length + i) (by omega)
      rw [getD_right] at this
      omega
    generalize hself : rds (code_cancel.b N isInfo) n = self at *
    rw [rds_succ, hself]
    show br (w64 (((a ++ b).length : Int).tdiv 2) == 0) _ _ = _
    simp only [half_eq hab hal, Int.toNat_natCast]
    rw [br_neg (by rw [beq_eq_false_iff_ne]; omega), chk_pos (by rw [List.length_append]; omega), chk_pos (by rw [List.length_append]; omega), chk_pos (by omega), jn, cancel_b1_eq a b hab hal (by omega) hra hrb]
    have hbu1 : bits u1 := fun i hi => by have := hb i (by rw [List.length_append]; omega); rwa [getD_left u1 u2 hi] at this
    have hbu2 : bits u2 := fun i hi => by have := hb (u1.length + i) (by rw [List.length_append]; omega); rwa [getD_right] at this
    have hw1 := wordL_bits m hbu1
    have hw2 := wordL_bits m hbu2
    have hsa : ∀ i, i < 2 ^ m → signed (a.getD i 0) (xorI ((wordL m u1).getD i 0) ((wordL m u2).getD i 0)) := fun i hi => by
      have := hsg i (by omega)
      rwa [getD_left a b (by omega), getD_left _ _ (by rw [zipX_length, wordL_length]; omega), zipX_getD _ _ (by rw [wordL_length]; omega)] at this
    have hsb : ∀ i, i < 2 ^ m → signed (b.getD i 0) ((wordL m u2).getD i 0) := fun i hi => by
      have := hsg (a.length + i) (by omega)
      have e : a.length + i = (zipX (wordL m u1) (wordL m u2)).length + i := by rw [zipX_length, wordL_length]; omega
      rw [getD_right] at this
      rwa [e, getD_right] at this
    have key1 : self (leftL a b, (f : Int)) = some u1 := by
      rw [← hself]
      refine ih (by omega) (by omega) n (by omega) (leftL a b) u1 f B (by rw [leftL_length, ha]) hu1 hbu1 (fun i hi => ?_) (fun i hi => ?_) ?_ (fun i hi => hinfo i (by omega)) (fun i hi h => ?_) (by omega)
      · rw [leftL_getD a b (by omega)]; exact left_signed (bits_getD hw1 i) (bits_getD hw2 i) (hsa i hi) (hsb i hi)
      · rw [leftL_getD a b (by omega)]
        have h1 := hB i (by omega)
        have h2 := hB (a.length + i) (by omega)
        rw [getD_left a b (by omega)] at h1
        rw [getD_right] at h2
        exact left_size h1 h2
      · rw [hp, Nat.mul_add] at hBm; omega
      · have := h0 i (by omega) h
        rwa [getD_left u1 u2 (by omega)] at this
    show bnd (self (leftL a b, (f : Int))) _ = _
    rw [key1, bnd_val]
    have key2 : self (rightL (wordL m u1) a b, ((f + a.length : Nat) : Int)) = some u2 := by
      rw [← hself]
      refine ih (by omega) (by omega) n (by omega) (rightL (wordL m u1) a b) u2 (f + a.length) (2 * B) (by rw [rightL_length, ha]) hu2 hbu2 (fun i hi => ?_) (fun i hi => ?_) ?_ (fun i hi => ?_) (fun i hi h => ?_) ?_
      · rw [rightL_getD _ a b (by omega)]; exact right_signed (bits_getD hw1 i) (bits_getD hw2 i) (hsa i hi) (hsb i hi)
      · rw [rightL_getD _ a b (by omega)]
        have h1 := hB i (by omega)
        have h2 := hB (a.length + i) (by omega)
        rw [getD_left a b (by omega)] at h1
        rw [getD_right] at h2
        exact right_size h1 h2
      · rw [hp, Nat.mul_add] at hBm; rw [Nat.mul_assoc]; omega
      · have := hinfo (a.length + i) (by omega)
        rwa [← Nat.add_assoc] at this
      · have := h0 (a.length + i) (by omega) (by rwa [← Nat.add_assoc])
        rw [ha, ← hu1] at this
        rwa [getD_right] at this
      · omega
    rw [jn, slices_Clone_ii, chk_pos (by omega), bnd_val, jn, cancel_b2, wordOut_eq m (by omega) u1 hu1 _ (by omega)]
    show rds (code_cancel.b4 N (a ++ b) _ (wordL m u1)) N (0, leftL a b) = _
    rw [cancel_b4_eq (wordL m u1) (leftL a b) a b hab (by rw [wordL_length]; omega) (leftL_length a b) hal (by omega) hra hrb]
    have e : w64 ((f : Int) + (a.length : Int)) = ((f + a.length : Nat) : Int) := by
      rw [w64_id (by omega)]; rfl
    show bnd (self (rightL (wordL m u1) a b, w64 ((f : Int) + (a.length : Int)))) _ = _
    rw [e, key2, bnd_val, chk_pos (by omega)]
end Go.Sh

/-
  What the shallow functions of the code chapter come to: looking up places, decoding.
-/
namespace Go.Sh
open Go.PW

def rising (l : List Int) : Prop := ∀ i j, i < j → j < l.length → l.getD i 0 < l.getD j 0
theorem mid_eq {i j : Nat} (h : i < j) (hj : j < 1000000) : w64 (shrI (wu64 (w64 ((i : Int) + (j : Int)))) 1) = (((i + j) / 2 : Nat) : Int) := by
  have e1 : w64 ((i : Int) + (j : Int)) = ((i + j : Nat) : Int) := by rw [w64_id (by omega)]; rfl
  rw [e1, wu64_id (by omega)]
  have e2 := shrI_nat (a := i + j) (b := 1) (by omega)
  rw [show ((1 : Nat) : Int) = 1 from rfl, show 2 ^ 1 = 2 from rfl] at e2
  rw [e2]; exact w64_nat (by omega)
theorem Less_eq (N : Nat) (x y : Int) : cmp_Less_int N x y = some (decide (x < y)) := by
  have hn : ∀ x : Int, (x != x) = false := fun x => by simp
  unfold cmp_Less_int cmp_isNaN_int
  simp only [hn, bnd_val, grd_false, Bool.false_and, Bool.false_or]
theorem BinarySearch_b1_eq {N : Nat} (l : List Int) (t : Int) (hl : l.length < 1000000) (hN : l.length < N) (p : Nat) (hp : p ≤ l.length) (hlo : ∀ k, k < p → l.getD k 0 < t) (hhi : ∀ k, p ≤ k → k < l.length → ¬ l.getD k 0 < t) (K : Int → Option (Int × Bool)) :
    rds (slices_BinarySearch_ii.b1 N l t K) N (0, (l.length : Int)) = K (p : Int) := by
  refine rds_spec (fun x : Int × Int => ∃ i j : Nat, x = ((i : Int), (j : Int)) ∧ i ≤ p ∧ p ≤ j ∧ j ≤ l.length) (fun x => x.2.toNat - x.1.toNat) (fun _ => K (p : Int)) (fun rec x hI hrec => ?_) N (0, (l.length : Int)) ⟨0, l.length, rfl, Nat.zero_le _, hp, Nat.le_refl _⟩ (by simp; omega)
  obtain ⟨i, j, rfl, hi, hj, hjl⟩ := hI
  show br (decide ((i : Int) < (j : Int))) _ _ = _
  by_cases h : i < j
  · rw [br_pos (by simpa using h), mid_eq h (by omega), chk_pos (by omega), Less_eq, bnd_val, Int.toNat_natCast, w64_succ (by omega)]
    by_cases hc : l.getD ((i + j) / 2) 0 < t
    · rw [br_pos (by simpa using hc)]
      refine hrec _ ⟨(i + j) / 2 + 1, j, rfl, ?_, hj, hjl⟩ (by simp only [Int.toNat_natCast]; omega)
      by_cases hm : (i + j) / 2 < p
      · exact hm
      · exact absurd hc (hhi _ (by omega) (by omega))
    · rw [br_neg (by simpa using hc)]
      refine hrec _ ⟨i, (i + j) / 2, rfl, hi, ?_, by omega⟩ (by simp only [Int.toNat_natCast]; omega)
      by_cases hm : (i + j) / 2 < p
      · exact absurd (hlo _ hm) hc
      · omega
  · have : i = p := by omega
    subst this
    rw [br_neg (by simpa using h)]
theorem BinarySearch_eq {N : Nat} (l : List Int) (t : Int) (hr : rising l) (hl : l.length < 1000000) (hN : l.length < N) : ∃ i, slices_BinarySearch_ii N l t = some (i, decide (t ∈ l)) := by
  obtain ⟨p, hp, hlo, hhi⟩ : ∃ p, p ≤ l.length ∧ (∀ k, k < p → l.getD k 0 < t) ∧ (∀ k, p ≤ k → k < l.length → ¬ l.getD k 0 < t) := by
    have key : ∀ d, d ≤ l.length → ∃ p, p ≤ d ∧ (∀ k, k < p → l.getD k 0 < t) ∧ (∀ k, p ≤ k → k < d → ¬ l.getD k 0 < t) := by
      intro d
      induction d with
      | zero => intro _; exact ⟨0, Nat.le_refl _, fun k h => absurd h (Nat.not_lt_zero _), fun k _ h => absurd h (Nat.not_lt_zero _)⟩
      | succ d ih =>
        intro hd
        obtain ⟨p, h1, h2, h3⟩ := ih (by omega)
        by_cases hc : l.getD d 0 < t
        · refine ⟨d + 1, Nat.le_refl _, fun k hk => ?_, fun k h4 h5 => by omega⟩
          by_cases hkd : k = d
          · subst hkd; exact hc
          · exact Int.lt_trans (hr k d (by omega) (by omega)) hc
        · refine ⟨p, by omega, h2, fun k h4 h5 => ?_⟩
          by_cases hkd : k = d
          · subst hkd; exact hc
          · exact h3 k h4 (by omega)
    exact key l.length (Nat.le_refl _)
  refine ⟨p, ?_⟩
  unfold slices_BinarySearch_ii slices_isNaN_int
  rw [jn, BinarySearch_b1_eq l t hl hN p hp hlo hhi]
  have hn : ∀ x : Int, (x != x) = false := fun x => by simp
  simp only [hn, Int.toNat_natCast]
  rw [chk_pos (by simp only [decide_eq_true_iff]; omega), chk_pos (by simp only [Bool.and_eq_true, decide_eq_true_iff]; omega)]
  have g1 : ∀ g : Bool, grd g false (some false) = some false := fun g => by cases g <;> rfl
  rw [g1, bnd_val, g1, bnd_val]
  congr 2
  rw [Bool.eq_iff_iff]
  simp only [Bool.or_false, Bool.and_eq_true, decide_eq_true_iff, beq_iff_eq, Bool.and_false]
  constructor
  · rintro ⟨h1, h2⟩
    have h3 : p < l.length := by omega
    rw [← h2, getD_eq h3]; exact List.getElem_mem h3
  · intro h
    obtain ⟨k, hk, rfl⟩ := List.getElem_of_mem h
    have hk1 : ¬ k < p := fun h => by have := hlo k h; rw [getD_eq hk] at this; omega
    have hpk : p = k := by
      by_cases h : p < k
      · have h1 := hr p k h hk
        have h2 := hhi p (Nat.le_refl _) (by omega)
        rw [getD_eq hk] at h1
        exact absurd h1 h2
      · omega
    subst hpk
    exact ⟨by omega, getD_eq hk⟩
theorem decode_1_eq {N : Nat} (l : List Int) (p t : Int) (hr : rising l) (hl : l.length < 1000000) (hN : l.length < N) : code_decode_1 N t p l = some (decide (t ∈ l)) := by
  obtain ⟨i, h⟩ := BinarySearch_eq l t hr hl hN
  unfold code_decode_1
  rw [h]; rfl
theorem decode_b1_eq {N : Nat} (info x : List Int) (hin : ∀ k ∈ info, 0 ≤ k ∧ k < (x.length : Int)) (hl : info.length < 1000000) (hN : info.length < N) (K : List Int → Option (List Int)) :
    rds (code_decode.b1 N info x K) N (0, []) = K (info.map fun k => x.getD k.toNat 0) := by
  refine rds_spec (fun s : Int × List Int => ∃ k : Nat, k ≤ info.length ∧ s = ((k : Int), (info.take k).map fun k => x.getD k.toNat 0)) (fun s => info.length - s.1.toNat) (fun _ => K (info.map fun k => x.getD k.toNat 0)) (fun rec s hI hrec => ?_) N (0, []) ⟨0, Nat.zero_le _, by simp⟩ (by simp; omega)
  obtain ⟨k, hk, rfl⟩ := hI
  show br (decide ((k : Int) < (info.length : Int))) _ _ = _
  by_cases hkl : k < info.length
  · have hm := hin info[k] (List.getElem_mem hkl)
    rw [br_pos (by simpa using hkl), chk_pos (by omega), Int.toNat_natCast, getD_eq hkl, chk_pos hm, chk_pos (by simp; omega), w64_succ (by omega)]
    refine hrec _ ⟨k + 1, hkl, ?_⟩ (by simp only [Int.toNat_natCast]; omega)
    rw [List.take_succ_eq_append_getElem hkl, List.map_append]; rfl
  · have : k = info.length := by omega
    subst this
    rw [br_neg (by simp), List.take_length]
end Go.Sh

/-
  What the shallow functions of the code chapter come to: decoding.
-/
namespace Go.Sh
open Go.PW
theorem decode_eq {N q : Nat} (hq : q ≤ 6) (info soft u : List Int) (p : Int) (hr : rising info) (hin : ∀ x ∈ info, 0 ≤ x ∧ x < ((2 ^ q : Nat) : Int)) (hl : info.length < 1000000) (hN : info.length < N) (hN2 : 64 < N)
    (hs : soft.length = 2 ^ q) (hu : u.length = 2 ^ q) (hb : bits u) (hz : ∀ i, i < 2 ^ q → ((i : Nat) : Int) ∉ info → u.getD i 0 = 0)
    (hsg : ∀ i, i < 2 ^ q → signed (soft.getD i 0) ((wordL q u).getD i 0)) (hB : ∀ i, i < 2 ^ q → ((soft.getD i 0).natAbs : Int) ≤ 1000000) :
    code_decode N p info soft = some (info.map fun k => u.getD k.toNat 0) := by
  have h64 := pow_le6 hq
  unfold code_decode code_cancel
  have hc := cancel_eq (N := N) (fun y0 => code_decode_1 N y0 p info) (fun k => decide ((k : Int) ∈ info)) q hq (by omega) N (by omega) soft u 0 1000000 hs hu hb hsg hB (by have := Nat.mul_le_mul_left 1000000 h64; omega)
    (fun i hi => by rw [decode_1_eq info p _ hr hl hN]) (fun i hi h => hz i hi (by simpa using h)) (by omega)
  rw [show ((0 : Nat) : Int) = 0 from rfl] at hc
  rw [hc, bnd_val, jn, decode_b1_eq info u (fun k hk => by rw [hu]; exact hin k hk) hl hN]
end Go.Sh

/-
  What the exported functions of the code chapter come to: Encode, Decode.
-/
namespace Go.Sh
open Go.PW
theorem Encode_eq {N : Nat} (p : Int) (info l : List Int) (hi : info.length < 1000000) (hl : l.length < 1000000) (hN : info.length < N) (hN1 : l.length < N) (hN2 : 64 < N) :
    code_Encode N p info l = (let e := firstOf [polarErr p info, listErr 200 isBitB 15 l, if l.length = info.length then 0 else 10]; if e ≠ 0 then some ([], e) else bnd (code_encode N p info l) fun x => some (x, 0)) := by
  unfold code_Encode
  rw [CheckPolar_eq p info (by omega) hN (by omega), bnd_val, bitsErr_eq l (by omega) hN1 (by omega), bnd_val, unless_eq, bnd_val, first_eq _ (by simp) (by simp; omega), bnd_val]
  have e : (if ((l.length : Int) == (info.length : Int)) = true then (0 : Int) else 10) = if l.length = info.length then 0 else 10 := by
    by_cases h : l.length = info.length
    · rw [if_pos h, if_pos (by rw [h]; exact beq_self_eq_true _)]
    · rw [if_neg h, if_neg (by rw [beq_iff_eq]; omega)]
  rw [e]
  by_cases h : firstOf [polarErr p info, listErr 200 isBitB 15 l, if l.length = info.length then 0 else 10] = 0
  · simp only [h]; rfl
  · rw [br_pos (by rw [bne_iff_ne]; exact h)]; simp only [h, ne_eq, not_false_iff, if_true]
theorem Decode_eq {N q : Nat} (hq : q ≤ 6) (info l : List Int) (hi : info.length < 1000000) (hl : l.length < 1000000) (hN : info.length < N) (hN1 : l.length < N) (hN2 : 64 < N) (h1 : polarErr q info = 0) (h2 : listErr 400 isSoftB 2 l = 0) (h3 : l.length = 2 ^ q) :
    code_Decode N q info l = bnd (code_decode N q info l) fun x => some (x, 0) := by
  unfold code_Decode
  rw [CheckPolar_eq _ info (by omega) hN (by omega), bnd_val, softErr_eq l (by omega) hN1 (by omega), bnd_val, h1, h2, first_eq _ (by simp) (by simp; omega), bnd_val, br_neg (by rfl), chk_pos (by omega), shl1_pow (by omega), h3, br_neg (by simp)]
end Go.Sh

/-
  What the shallow functions of the code chapter come to: places and soft bits with the signs of a word.
-/
namespace Go.Sh
open Go.PW

theorem rising_of {l : List Int} (h : l.Pairwise (· < ·)) : rising l := fun i j hij hj => by
  rw [getD_eq hj, getD_eq (Nat.lt_trans hij hj)]
  exact List.pairwise_iff_getElem.1 h i j (Nat.lt_trans hij hj) hj hij
theorem bits_of_all {l : List Int} (h : l.all isBitB = true) : bits l := fun i hi => by
  have hm : l.getD i 0 ∈ l := by rw [getD_eq hi]; exact List.getElem_mem hi
  have := List.all_eq_true.1 h _ hm
  simpa [isBitB] using this
theorem all_of_bits {l : List Int} (h : bits l) : l.all isBitB = true := by
  rw [List.all_eq_true]
  intro x hx
  obtain ⟨i, hi, rfl⟩ := List.mem_iff_getElem.1 hx
  have := h i hi
  rw [getD_eq hi] at this
  simpa [isBitB] using this
theorem listErr_zero {most e : Int} {f : Int → Bool} {l : List Int} (he : e ≠ 0) (h : listErr most f e l = 0) : l.length ≠ 0 ∧ (l.length : Int) ≤ most ∧ l.all f = true := by
  unfold listErr at h
  by_cases h1 : l.length = 0
  · rw [if_pos h1] at h; exact absurd h (by decide)
  · rw [if_neg h1] at h
    by_cases h2 : (l.length : Int) > most
    · rw [if_pos h2] at h; exact absurd h (by decide)
    · rw [if_neg h2] at h
      cases h3 : l.all f
      · rw [h3] at h; exact absurd h he
      · exact ⟨h1, by omega, rfl⟩
end Go.Sh

/-
  Four examples of the code chapter.
-/
namespace Go.Sh
open Go.PW
theorem ex_Remainder {N : Nat} (hN : 100 < N) : code_Remainder N 3 3 [1] = some ([0, 1, 1], 0) := by
  have s3 : shlI 1 3 = 8 := by simpa using shl1_pow (p := 3) (by decide)
  have s2 : shlI 1 2 = 4 := by simpa using shl1_pow (p := 2) (by decide)
  have s0 : shlI 0 1 = 0 := by simpa using shlI_nat (a := 0) (b := 1) (by decide) (by decide)
  have a0 : andI 0 4 = 0 := by simpa using andI_nat (a := 0) (b := 4) (by decide) (by decide)
  have a1 : andI 0 7 = 0 := by simpa using andI_nat (a := 0) (b := 7) (by decide) (by decide)
  have x1 : xorI 0 3 = 3 := by simpa using xorI_nat (a := 0) (b := 3) (by decide) (by decide)
  have a2 : andI 3 4 = 0 := by simpa using andI_nat (a := 3) (b := 4) (by decide) (by decide)
  have a3 : andI 3 2 = 2 := by simpa using andI_nat (a := 3) (b := 2) (by decide) (by decide)
  have a4 : andI 3 1 = 1 := by simpa using andI_nat (a := 3) (b := 1) (by decide) (by decide)
  have r4 : shrI 4 1 = 2 := by simpa using shrI_nat (a := 4) (b := 1) (by decide)
  have r2 : shrI 2 1 = 1 := by simpa using shrI_nat (a := 2) (b := 1) (by decide)
  have r1 : shrI 1 1 = 0 := by simpa using shrI_nat (a := 1) (b := 1) (by decide)
  have w2 : w64 2 = 2 := w64_id (by decide)
  have w7 : w64 7 = 7 := w64_id (by decide)
  have w8 : w64 8 = 8 := w64_id (by decide)
  have w1 : w64 1 = 1 := w64_id (by decide)
  obtain ⟨n, rfl⟩ : ∃ n, N = n + 20 := ⟨N - 20, by omega⟩
  have c : code_CheckPoly (n + 20) 3 3 = some 0 := by
    simp [code_CheckPoly, within_eq, unless_eq, s3, w7, chk, first_eq, firstOf]
  have m : code_remainder (n + 20) 3 3 [1] = some [0, 1, 1] := by
    simp only [code_remainder, jn]
    rw [chk_pos (by simp [w2]), rds_succ, code_remainder.b1]
    simp [chk, w2, w7, w8, w1, s2, s0, a0, a1, x1]
    rw [rds_succ, code_remainder.b1]
    simp [chk, w2, s2]
    rw [rds_succ, code_remainder.b2]
    simp [chk, a2, r4]
    rw [rds_succ, code_remainder.b2]
    simp [chk, a3, r2]
    rw [rds_succ, code_remainder.b2]
    simp [chk, a4, r1]
    rw [rds_succ, code_remainder.b2]
    simp [chk, w2, s2, a2, a3, a4, r4, r2, r1]
  unfold code_Remainder
  rw [c, bnd_val, bitsErr_eq _ (by decide) (by simp) (by omega), bnd_val, first_eq _ (by simp) (by simp), bnd_val, m]
  rfl
theorem ex_word : wordL 2 (place [1, 2, 3] [1, 0, 1] (List.replicate (2 ^ 2) 0)) = [0, 0, 1, 1] := by
  have x00 : xorI 0 0 = 0 := by simpa using xorI_bits (a := 0) (b := 0) (by simp) (by simp)
  have x01 : xorI 0 1 = 1 := by simpa using xorI_bits (a := 0) (b := 1) (by simp) (by simp)
  have x10 : xorI 1 0 = 1 := by simpa using xorI_bits (a := 1) (b := 0) (by simp) (by simp)
  have x11 : xorI 1 1 = 0 := by simpa using xorI_bits (a := 1) (b := 1) (by simp) (by simp)
  have e : place [1, 2, 3] [1, 0, 1] (List.replicate (2 ^ 2) 0) = [0, 1, 0, 1] := by decide
  rw [e]
  simp [wordL, stepL, wordAt, List.range_succ, x00, x01, x10, x11, Nat.testBit]
theorem ex_polar : polarErr 2 [1, 2, 3] = 0 := by decide
theorem ex_in : ∀ x ∈ ([1, 2, 3] : List Int), 0 ≤ x ∧ x < ((2 ^ 2 : Nat) : Int) := by decide
theorem ex_Encode {N : Nat} (hN : 100 < N) : code_Encode N 2 [1, 2, 3] [1, 0, 1] = some ([0, 0, 1, 1], 0) := by
  rw [Encode_eq _ _ _ (by decide) (by decide) (by simp; omega) (by simp; omega) (by omega)]
  have h := encode_eq (N := N) (q := 2) (by decide) [1, 2, 3] [1, 0, 1] rfl ex_in (by decide) (by simp; omega) (by omega)
  rw [ex_word] at h
  rw [ex_polar, show listErr 200 isBitB 15 [1, 0, 1] = 0 by decide]
  rw [show ((2 : Nat) : Int) = 2 from rfl] at h
  rw [h]; rfl
theorem ex_Decode {N : Nat} (hN : 100 < N) : code_Decode N 2 [1, 2, 3] [4, 3, -2, -5] = some ([1, 0, 1], 0) := by
  have h := Decode_eq (N := N) (q := 2) (by decide) [1, 2, 3] [4, 3, -2, -5] (by decide) (by decide) (by simp; omega) (by simp; omega) (by omega) ex_polar (by decide) rfl
  rw [show ((2 : Nat) : Int) = 2 from rfl] at h
  rw [h, decode_eq (q := 2) (by decide) [1, 2, 3] [4, 3, -2, -5] (place [1, 2, 3] [1, 0, 1] (List.replicate (2 ^ 2) 0)) 2 (rising_of (by decide)) ex_in (by decide) (by simp; omega) (by omega) rfl rfl (by unfold bits; decide) ?_ ?_ ?_]
  · rfl
  · decide
  · rw [ex_word]; unfold signed; decide
  · decide
theorem ex_Match {N : Nat} (hN : 100 < N) : code_Match N [0, 0, 1, 1, 1] 1 7 = some ([0, 1, 1, 1, 0, 0, 1], 0) := by
  obtain ⟨n, rfl⟩ : ∃ n, N = n + 20 := ⟨N - 20, by omega⟩
  have m : code_match (n + 20) [0, 0, 1, 1, 1] 1 7 = some [0, 1, 1, 1, 0, 0, 1] := by
    simp only [code_match, jn]
    rw [rds_succ, code_match.b1]
    simp [chk, w64_eq]
    rw [rds_succ, code_match.b1]
    simp [chk, w64_eq]
    rw [rds_succ, code_match.b1]
    simp [chk, w64_eq]
    rw [rds_succ, code_match.b1]
    simp [chk, w64_eq]
    rw [rds_succ, code_match.b1]
    simp [chk, w64_eq]
    rw [rds_succ, code_match.b1]
    simp [chk, w64_eq]
    rw [rds_succ, code_match.b1]
    simp [chk, w64_eq]
    rw [rds_succ, code_match.b1]
    simp [chk, w64_eq]
  unfold code_Match
  rw [bitsErr_eq _ (by decide) (by simp) (by omega), bnd_val]
  simp only [code_isVersion, code_isCount, within_eq, unless_eq, bnd_val]
  rw [first_eq _ (by simp) (by simp), bnd_val, m]
  rfl
theorem awake_eq {N : Nat} (hN : 100 < N) : law02_awake N = some true := by
  unfold law02_awake law02_Poly law02_Polar
  simp only [bnd_val]
  rw [ex_Remainder hN, ex_Encode hN, ex_Decode hN, ex_Match hN]
  simp only [bnd_val]
  rw [Ints_eq _ _ (by decide) (by simp; omega), Ints_eq _ _ (by decide) (by simp; omega), Ints_eq _ _ (by decide) (by simp; omega), Ints_eq _ _ (by decide) (by simp; omega)]
  simp
end Go.Sh

/-
  RIGHT SIGNS ARE ENOUGH: the law's shallow function tells true.
-/
namespace Go.Sh
open Go.PW

theorem br_nt {α : Type} (a b : Option α) : br (!true) a b = b := rfl
end Go.Sh

/-
  Plain words: loops that build a list, that fold, that look for a wrong element. For every program.
-/
namespace Go.PW

theorem rds_map {α R : Type} (len : Nat) (f : Nat → α) (b : (Int × List α → Option R) → Int × List α → Option R) (K : List α → Option R)
    (hstep : ∀ k acc rec, k < len → acc.length = k → b rec ((k : Int), acc) = rec (((k + 1 : Nat) : Int), acc ++ [f k])) (hend : ∀ acc rec, acc.length = len → b rec ((len : Int), acc) = K acc)
    {N : Nat} (hN : len < N) : rds b N (0, []) = K ((List.range len).map f) := by
  refine rds_spec (fun s : Int × List α => ∃ k : Nat, k ≤ len ∧ s = ((k : Int), (List.range k).map f)) (fun s => len - s.1.toNat) (fun _ => K ((List.range len).map f)) (fun rec s hI hrec => ?_) N (0, []) ⟨0, Nat.zero_le _, by simp⟩ (by simp; omega)
  obtain ⟨k, hk, rfl⟩ := hI
  by_cases hkl : k < len
  · rw [hstep k _ rec hkl (by simp)]
    refine hrec _ ⟨k + 1, hkl, ?_⟩ (by simp only [Int.toNat_natCast]; omega)
    rw [List.range_succ, List.map_append]; rfl
  · have : k = len := by omega
    subst this
    exact hend _ rec (by simp)
def itN {σ : Type} (g : Nat → σ → σ) : Nat → σ → σ
  | 0, s => s
  | n + 1, s => g n (itN g n s)
theorem rds_it {σ R : Type} (len : Nat) (g : Nat → σ → σ) (I : Nat → σ → Prop) (b : (Int × σ → Option R) → Int × σ → Option R) (K : σ → Option R) {s : σ} (h0 : I 0 s)
    (hI : ∀ k s, k < len → I k s → I (k + 1) (g k s)) (hstep : ∀ k s rec, k < len → I k s → b rec ((k : Int), s) = rec (((k + 1 : Nat) : Int), g k s)) (hend : ∀ s rec, I len s → b rec ((len : Int), s) = K s)
    {N : Nat} (hN : len < N) : rds b N (0, s) = K (itN g len s) ∧ I len (itN g len s) := by
  have hIk : ∀ k, k ≤ len → I k (itN g k s) := fun k => by
    induction k with
    | zero => exact fun _ => h0
    | succ k ih => exact fun hk => hI k _ hk (ih (by omega))
  refine ⟨?_, hIk len (Nat.le_refl _)⟩
  refine rds_spec (fun x : Int × σ => ∃ k : Nat, k ≤ len ∧ x = ((k : Int), itN g k s)) (fun x => len - x.1.toNat) (fun _ => K (itN g len s)) (fun rec x hx hrec => ?_) N (0, s) ⟨0, Nat.zero_le _, rfl⟩ (by simp; omega)
  obtain ⟨k, hk, rfl⟩ := hx
  by_cases hkl : k < len
  · rw [hstep k _ rec hkl (hIk k hk)]
    exact hrec _ ⟨k + 1, hkl, rfl⟩ (by simp only [Int.toNat_natCast]; omega)
  · have : k = len := by omega
    subst this
    exact hend _ rec (hIk k hk)
theorem any_drop {α : Type} (bad : α → Bool) (l : List α) (d : α) (k : Nat) (h : k < l.length) : (l.drop k).any bad = (bad (l.getD k d) || (l.drop (k + 1)).any bad) := by
  rw [List.drop_eq_getElem_cons h, List.any_cons]; simp [List.getD_eq_getElem?_getD, h]
theorem rds_scan {α R : Type} (l : List α) (d : α) (bad : α → Bool) (e K : Option R) (b : (Int → Option R) → Int → Option R)
    (hstep : ∀ k rec, k < l.length → b rec (k : Int) = if bad (l.getD k d) = true then e else rec ((k + 1 : Nat) : Int)) (hend : ∀ rec, b rec (l.length : Int) = K)
    {N : Nat} (hN : l.length < N) : rds b N 0 = if l.any bad = true then e else K := by
  refine (rds_up1 l.length _ (fun k => if (l.drop k).any bad = true then e else K) (fun k rec hk hr => ?_) (fun rec => ?_) hN).trans (by simp)
  · rw [hstep k rec hk, hr, any_drop bad l d k hk]
    cases bad (l.getD k d) <;> simp
  · rw [hend]; simp
end Go.PW

/-
  The bits of a version, gathered soft bits, sums of both.
-/
namespace Go.Sh
open Go.PW

def rangeErr (lo hi e n : Int) : Int := if lo ≤ n ∧ n ≤ hi then 0 else e
theorem unless_range (N : Nat) (lo hi e n : Int) : code_unless N (decide (lo ≤ n) && decide (n ≤ hi)) e = some (rangeErr lo hi e n) := by
  rw [unless_eq]; unfold rangeErr
  by_cases h1 : lo ≤ n <;> by_cases h2 : n ≤ hi <;> simp [h1, h2]
end Go.Sh

/-
  The bits of a version, gathered soft bits, sums of both: the law's shallow function tells true.
-/
namespace Go.Sh
open Go.PW

end Go.Sh

/-
  Words of polar codes: weights.
-/
namespace Go.Sh
open Go.PW

theorem bits_cons {x : Int} {l : List Int} : bits (x :: l) ↔ (x = 0 ∨ x = 1) ∧ bits l := by
  constructor
  · intro h
    exact ⟨by simpa using h 0 (by simp), fun i hi => by simpa using h (i + 1) (by simpa using hi)⟩
  · rintro ⟨h1, h2⟩ i hi
    cases i with
    | zero => simpa using h1
    | succ i => simpa using h2 i (by simpa using hi)
theorem bits_append {a b : List Int} : bits (a ++ b) ↔ bits a ∧ bits b := by
  induction a with
  | nil => simp [bits]
  | cons x a ih => rw [List.cons_append, bits_cons, bits_cons, ih, and_assoc]
theorem halves {l : List Int} {m : Nat} (h : l.length = 2 ^ (m + 1)) : ∃ a b, l = a ++ b ∧ a.length = 2 ^ m ∧ b.length = 2 ^ m := by
  have hp : 2 ^ (m + 1) = 2 ^ m + 2 ^ m := by rw [Nat.pow_succ]; omega
  exact ⟨l.take (2 ^ m), l.drop (2 ^ m), (List.take_append_drop _ _).symm, by rw [List.length_take]; omega, by rw [List.length_drop]; omega⟩
end Go.Sh

/-
  Checks of bits: the register, its steps, what it shows. Plain Lean.
-/
namespace Go.Sh
open Go.PW

def stepR (d t r : Nat) (b : Bool) : Nat := ((r <<< 1) % 2 ^ d) ^^^ (if (r.testBit (d - 1) ^^ b) = true then t else 0)
def isOne (x : Int) : Bool := x == 1
def runR (d t : Nat) : Nat → List Int → Nat
  | r, [] => r
  | r, x :: l => runR d t (stepR d t r (isOne x)) l
theorem runR_append (d t : Nat) : ∀ (r : Nat) (a b : List Int), runR d t r (a ++ b) = runR d t (runR d t r a) b
  | _, [], _ => rfl
  | r, x :: a, b => by rw [List.cons_append, runR, runR, runR_append d t _ a b]
theorem stepR_lt {d t r : Nat} {b : Bool} (ht : t < 2 ^ d) : stepR d t r b < 2 ^ d := by
  unfold stepR
  refine Nat.xor_lt_two_pow (Nat.mod_lt _ (Nat.two_pow_pos d)) ?_
  split
  · exact ht
  · exact Nat.two_pow_pos d
theorem runR_lt {d t : Nat} (ht : t < 2 ^ d) : ∀ (r : Nat) (l : List Int), r < 2 ^ d → runR d t r l < 2 ^ d
  | _, [], h => h
  | r, x :: l, _ => by rw [runR]; exact runR_lt ht _ l (stepR_lt ht)
theorem step_back {d t r V : Nat} {b : Bool} (hd : 1 ≤ d) (ht : t % 2 = 1) (hr : r < 2 ^ d) (h : stepR d t r b = 2 * V) : r = (if b = true then 2 ^ (d - 1) else 0) + V := by
  obtain ⟨e, rfl⟩ : ∃ e, d = e + 1 := ⟨d - 1, by omega⟩
  unfold stepR at h
  rw [Nat.add_sub_cancel] at h ⊢
  have hp : 2 ^ (e + 1) = 2 * 2 ^ e := by rw [Nat.pow_succ]; omega
  have hsh : r <<< 1 = 2 * r := by rw [Nat.shiftLeft_eq]; omega
  have hev : ((r <<< 1) % 2 ^ (e + 1)).testBit 0 = false := by
    rw [Nat.testBit_mod_two_pow, Nat.testBit_shiftLeft]; simp
  have hno : ¬ (r.testBit e ^^ b) = true := fun hf => by
    rw [if_pos hf] at h
    have h0 := congrArg (fun n => Nat.testBit n 0) h
    have ht0 : t.testBit 0 = true := by simp [Nat.testBit_zero, ht]
    have hv0 : (2 * V).testBit 0 = false := by simp [Nat.testBit_zero]
    simp only [Nat.testBit_xor, hev, ht0, hv0] at h0
    exact absurd h0 (by decide)
  rw [if_neg hno, Nat.xor_zero, hsh, hp] at h
  have hb : r.testBit e = b := by
    cases h1 : r.testBit e <;> cases b <;> simp_all
  have hm : 2 * r % (2 * 2 ^ e) = 2 * (r % 2 ^ e) := Nat.mul_mod_mul_left 2 r (2 ^ e)
  rw [hm] at h
  have hV : r % 2 ^ e = V := by omega
  have hdiv := Nat.div_add_mod r (2 ^ e)
  rw [Nat.testBit_eq_decide_div_mod_eq] at hb
  have hq : r / 2 ^ e < 2 := Nat.div_lt_of_lt_mul (by omega)
  generalize r / 2 ^ e = Q at *
  cases b
  · have : ¬ Q % 2 = 1 := by simpa using hb
    have h0 : Q = 0 := by omega
    rw [h0, Nat.mul_zero, hV] at hdiv
    simp; omega
  · have : Q % 2 = 1 := by simpa using hb
    have h1 : Q = 1 := by omega
    rw [h1, Nat.mul_one, hV] at hdiv
    simp; omega
def valB : List Int → Nat
  | [] => 0
  | x :: l => (if isOne x = true then 2 ^ l.length else 0) + valB l
theorem valB_lt : ∀ l : List Int, valB l < 2 ^ l.length
  | [] => by simp [valB]
  | x :: l => by
    have := valB_lt l
    rw [valB, List.length_cons, Nat.pow_succ]
    split <;> omega
theorem run_back {d t : Nat} (hd : 1 ≤ d) (ht : t % 2 = 1) (ht2 : t < 2 ^ d) : ∀ (D : List Int) (r : Nat), r < 2 ^ d → D.length ≤ d → runR d t r D = 0 → r = valB D * 2 ^ (d - D.length)
  | [], r, _, _, h => by
    rw [runR] at h; rw [h]; simp [valB]
  | x :: D, r, hr, hl, h => by
    rw [runR] at h
    rw [List.length_cons] at hl
    have ih := run_back hd ht ht2 D _ (stepR_lt ht2) (by omega) h
    obtain ⟨e, he⟩ : ∃ e, d - D.length = e + 1 := ⟨d - D.length - 1, by omega⟩
    rw [he] at ih
    have hpow : 2 ^ (e + 1) = 2 * 2 ^ e := by rw [Nat.pow_succ]; omega
    rw [hpow, show valB D * (2 * 2 ^ e) = 2 * (valB D * 2 ^ e) by rw [Nat.mul_left_comm]] at ih
    have hb := step_back hd ht hr ih
    have he2 : d - (x :: D).length = e := by rw [List.length_cons]; omega
    rw [he2, hb, valB, Nat.add_mul]
    congr 1
    by_cases hx : isOne x = true
    · rw [if_pos hx, if_pos hx, ← Nat.pow_add]; congr 1; omega
    · rw [if_neg hx, if_neg hx, Nat.zero_mul]
theorem step_fore {d t V : Nat} {b : Bool} (hd : 1 ≤ d) (hV : V < 2 ^ (d - 1)) : stepR d t ((if b = true then 2 ^ (d - 1) else 0) + V) b = 2 * V := by
  obtain ⟨e, rfl⟩ : ∃ e, d = e + 1 := ⟨d - 1, by omega⟩
  rw [Nat.add_sub_cancel] at hV ⊢
  have hp : 2 ^ (e + 1) = 2 * 2 ^ e := by rw [Nat.pow_succ]; omega
  have hbit : ((if b = true then 2 ^ e else 0) + V).testBit e = b := by
    cases b
    · simp [Nat.testBit_lt_two_pow hV]
    · simp only [if_true]
      rw [Nat.testBit_eq_decide_div_mod_eq, Nat.add_div_left _ (Nat.two_pow_pos e), Nat.div_eq_of_lt hV]; rfl
  have hx : ¬((b ^^ b) = true) := by simp
  unfold stepR
  rw [Nat.add_sub_cancel, hbit, if_neg hx, Nat.xor_zero, Nat.shiftLeft_eq, hp]
  cases b
  · simp only [Bool.false_eq_true, if_false]
    rw [Nat.mod_eq_of_lt (by omega)]; omega
  · simp only [if_true]
    rw [show (2 ^ e + V) * 2 ^ 1 = 2 * V + 2 * 2 ^ e by omega, Nat.add_mod_right, Nat.mod_eq_of_lt (by omega)]
theorem run_fore {d t : Nat} (hd : 1 ≤ d) : ∀ (D : List Int), D.length ≤ d → runR d t (valB D * 2 ^ (d - D.length)) D = 0
  | [], _ => by simp [valB, runR]
  | x :: D, hl => by
    rw [List.length_cons] at hl
    obtain ⟨e, he⟩ : ∃ e, d - D.length = e + 1 := ⟨d - D.length - 1, by omega⟩
    have he2 : d - (x :: D).length = e := by rw [List.length_cons]; omega
    have hv := valB_lt D
    have hlt : valB D * 2 ^ e < 2 ^ (d - 1) := by
      have : 2 ^ (d - 1) = 2 ^ D.length * 2 ^ e := by rw [← Nat.pow_add]; congr 1; omega
      rw [this]
      exact Nat.mul_lt_mul_of_pos_right hv (Nat.two_pow_pos e)
    have e1 : valB (x :: D) * 2 ^ (d - (x :: D).length) = (if isOne x = true then 2 ^ (d - 1) else 0) + valB D * 2 ^ e := by
      rw [he2, valB, Nat.add_mul]
      congr 1
      by_cases hx : isOne x = true
      · rw [if_pos hx, if_pos hx, ← Nat.pow_add]; congr 1; omega
      · rw [if_neg hx, if_neg hx, Nat.zero_mul]
    rw [runR, e1, step_fore hd hlt]
    have ih := run_fore (t := t) hd D (by omega)
    rw [he] at ih
    have hpow : 2 ^ (e + 1) = 2 * 2 ^ e := by rw [Nat.pow_succ]; omega
    rw [hpow, show valB D * (2 * 2 ^ e) = 2 * (valB D * 2 ^ e) by rw [Nat.mul_left_comm]] at ih
    exact ih
theorem run_zero_iff {d t : Nat} (hd : 1 ≤ d) (ht : t % 2 = 1) (ht2 : t < 2 ^ d) (D : List Int) (hD : D.length = d) (r : Nat) (hr : r < 2 ^ d) : runR d t r D = 0 ↔ r = valB D := by
  constructor
  · intro h
    have := run_back hd ht ht2 D r hr (by omega) h
    rw [hD, Nat.sub_self] at this
    simpa using this
  · intro h
    have := run_fore (t := t) hd D (by omega)
    rw [hD, Nat.sub_self, Nat.pow_zero, Nat.mul_one] at this
    rw [h]; exact this
end Go.Sh

/-
  How many ones a number has; the distance of a polar code.
-/
namespace Go.Sh
open Go.PW

end Go.Sh

/-
  Checks of bits: what the shallow functions come to.
-/
namespace Go.Sh
open Go.PW

def polyErr (d t : Int) : Int := if ¬(1 ≤ d ∧ d ≤ 16) then 2 else if ¬(1 ≤ t ∧ t ≤ ((2 ^ d.toNat : Nat) : Int) - 1) then 2 else if t % 2 = 0 then 3 else 0
structure PolyOK (d t : Int) (D T : Nat) : Prop where
  hd : d = D
  ht : t = T
  lo : 1 ≤ D
  hi : D ≤ 16
  lt : T < 2 ^ D
  odd : T % 2 = 1
theorem polyOK_of {d t : Int} (h : polyErr d t = 0) : ∃ D T : Nat, PolyOK d t D T := by
  unfold polyErr at h
  by_cases h1 : 1 ≤ d ∧ d ≤ 16
  · rw [if_neg (show ¬¬(1 ≤ d ∧ d ≤ 16) from fun h => h h1)] at h
    by_cases h2 : 1 ≤ t ∧ t ≤ ((2 ^ d.toNat : Nat) : Int) - 1
    · rw [if_neg (show ¬¬(1 ≤ t ∧ t ≤ ((2 ^ d.toNat : Nat) : Int) - 1) from fun h => h h2)] at h
      by_cases h3 : t % 2 = 0
      · rw [if_pos h3] at h; exact absurd h (by decide)
      · exact ⟨d.toNat, t.toNat, by omega, by omega, by omega, by omega, by omega, by omega⟩
    · rw [if_pos h2] at h; exact absurd h (by decide)
  · rw [if_pos h1] at h; exact absurd h (by decide)
theorem pow_le16 {p : Nat} (h : p ≤ 16) : 2 ^ p ≤ 65536 := Nat.pow_le_pow_right (n := 2) (by omega) h
theorem dec2 {a b : Prop} [Decidable a] [Decidable b] (h : a ∧ b) : (decide a && decide b) = true := by simp [h.1, h.2]
theorem dec2f {a b : Prop} [Decidable a] [Decidable b] (h : ¬(a ∧ b)) : (decide a && decide b) = false := by
  by_cases ha : a <;> by_cases hb : b <;> simp_all
theorem CheckPoly_eq {N : Nat} (d t : Int) (hN : 100 < N) : code_CheckPoly N d t = some (polyErr d t) := by
  unfold code_CheckPoly polyErr
  simp only [within_eq, bnd_val, unless_eq]
  by_cases h1 : 1 ≤ d ∧ d ≤ 16
  case neg => rw [dec2f h1, if_pos h1]; rfl
  rw [dec2 h1, if_neg (show ¬¬(1 ≤ d ∧ d ≤ 16) from fun h => h h1), br_nt, chk_pos (by omega)]
  obtain ⟨D, rfl⟩ : ∃ D : Nat, d = D := ⟨d.toNat, by omega⟩
  have hp := pow_le16 (p := D) (by omega)
  have hpos := Nat.two_pow_pos D
  rw [shl1_pow (by omega), w64_id (by omega), first_eq _ (by simp) (by simp; omega), bnd_val, Int.toNat_natCast]
  by_cases h2 : 1 ≤ t ∧ t ≤ ((2 ^ D : Nat) : Int) - 1
  · rw [dec2 h2, if_neg (show ¬¬(1 ≤ t ∧ t ≤ ((2 ^ D : Nat) : Int) - 1) from fun h => h h2), Int.tmod_eq_emod_of_nonneg (by omega)]
    by_cases h3 : t % 2 = 0
    · rw [if_pos h3, h3]; rfl
    · have : t % 2 = 1 := by omega
      rw [if_neg h3, this]; rfl
  · rw [dec2f h2, if_pos h2]; rfl
theorem refCheckPoly_eq {N : Nat} (d t : Int) (hN : 100 < N) : ref02_CheckPoly N d t = some (polyErr d t) := by
  unfold ref02_CheckPoly polyErr
  rw [Within_eq, bnd_val]
  by_cases h1 : 1 ≤ d ∧ d ≤ 16
  case neg => rw [dec2f h1, if_pos h1]; rfl
  rw [dec2 h1, if_neg (show ¬¬(1 ≤ d ∧ d ≤ 16) from fun h => h h1)]
  obtain ⟨D, rfl⟩ : ∃ D : Nat, d = D := ⟨d.toNat, by omega⟩
  have hp := pow_le16 (p := D) (by omega)
  have hpos := Nat.two_pow_pos D
  simp only [Bool.not_true, Bool.not_false, grd_true]
  rw [power_eq (by omega) (by omega)]
  simp only [bnd_val]
  rw [w64_id (by omega), Within_eq, bnd_val, Int.toNat_natCast]
  by_cases h2 : 1 ≤ t ∧ t ≤ ((2 ^ D : Nat) : Int) - 1
  · rw [dec2 h2, if_neg (show ¬¬(1 ≤ t ∧ t ≤ ((2 ^ D : Nat) : Int) - 1) from fun h => h h2), Int.tmod_eq_emod_of_nonneg (by omega)]
    by_cases h3 : t % 2 = 0
    · rw [if_pos h3, h3]; rfl
    · have : t % 2 = 1 := by omega
      rw [if_neg h3, this]; rfl
  · rw [dec2f h2, if_pos h2]; rfl

def regL : Nat → Nat → List Int
  | 0, _ => []
  | n + 1, x => (if x.testBit n = true then 1 else 0) :: regL n (x % 2 ^ n)
theorem regL_length : ∀ (n x : Nat), (regL n x).length = n
  | 0, _ => rfl
  | n + 1, x => by rw [regL, List.length_cons, regL_length n]
theorem regL_bits : ∀ (n x : Nat), bits (regL n x)
  | 0, _ => fun i hi => by simp [regL] at hi
  | n + 1, x => by
    rw [regL, bits_cons]
    exact ⟨by split <;> simp, regL_bits n _⟩
theorem valB_regL : ∀ (n x : Nat), x < 2 ^ n → valB (regL n x) = x
  | 0, x, h => by
    have : x = 0 := by simpa using h
    subst this; rfl
  | n + 1, x, h => by
    have hp : 2 ^ (n + 1) = 2 * 2 ^ n := by rw [Nat.pow_succ]; omega
    have hd := Nat.div_add_mod x (2 ^ n)
    have hq : x / 2 ^ n < 2 := Nat.div_lt_of_lt_mul (by omega)
    rw [regL, valB, regL_length, valB_regL n _ (Nat.mod_lt _ (Nat.two_pow_pos n)), Nat.testBit_eq_decide_div_mod_eq]
    generalize x / 2 ^ n = Q at *
    by_cases h1 : Q % 2 = 1
    · have : Q = 1 := by omega
      rw [this] at hd ⊢
      simp [isOne]; omega
    · have : Q = 0 := by omega
      rw [this] at hd ⊢
      simp [isOne]; omega
theorem regL_valB : ∀ {C : List Int}, bits C → regL C.length (valB C) = C
  | [], _ => rfl
  | x :: C, h => by
    have hv := valB_lt C
    rw [List.length_cons, regL, valB]
    have h1 : ((if isOne x = true then 2 ^ C.length else 0) + valB C).testBit C.length = isOne x := by
      cases hx : isOne x
      · simp [Nat.testBit_lt_two_pow hv]
      · simp only [if_true]
        rw [Nat.testBit_eq_decide_div_mod_eq, Nat.add_div_left _ (Nat.two_pow_pos _), Nat.div_eq_of_lt hv]; rfl
    have h2 : ((if isOne x = true then 2 ^ C.length else 0) + valB C) % 2 ^ C.length = valB C := by
      cases isOne x
      · simp [Nat.mod_eq_of_lt hv]
      · simp only [if_true]; rw [Nat.add_mod_left, Nat.mod_eq_of_lt hv]
    rw [h1, h2, regL_valB (bits_cons.1 h).2]
    congr 1
    rcases (bits_cons.1 h).1 with rfl | rfl <;> rfl
theorem reg_split (x k : Nat) : regL (k + 1) (x % 2 ^ (k + 1)) = (if x.testBit k = true then 1 else 0) :: regL k (x % 2 ^ k) := by
  rw [regL, Nat.testBit_mod_two_pow]
  have : x % 2 ^ (k + 1) % 2 ^ k = x % 2 ^ k := Nat.mod_mod_of_dvd _ ⟨2, by rw [Nat.pow_succ]⟩
  rw [this]; simp

theorem step_eq {D T r : Nat} (b : Int) (h16 : D ≤ 16) (h1 : 1 ≤ D) (hT : T < 2 ^ D) (hr : r < 2 ^ D) {α : Type} (f : Int → Option α) :
    br (((andI (r : Int) (shlI 1 (w64 ((D : Int) - 1))) != 0) != (b == 1))) (f (xorI (andI (shlI (r : Int) 1) (w64 ((w64 (2 * shlI 1 (w64 ((D : Int) - 1)))) - 1))) (T : Int))) (f (andI (shlI (r : Int) 1) (w64 ((w64 (2 * shlI 1 (w64 ((D : Int) - 1)))) - 1)))) = f (stepR D T r (isOne b) : Int) := by
  obtain ⟨e, rfl⟩ : ∃ e, D = e + 1 := ⟨D - 1, by omega⟩
  have hp : 2 ^ (e + 1) = 2 * 2 ^ e := by rw [Nat.pow_succ]; omega
  have hb := pow_le16 h16
  have hpos := Nat.two_pow_pos e
  have e0 : w64 (((e + 1 : Nat) : Int) - 1) = (e : Int) := by rw [w64_id (by omega)]; omega
  have e1 : w64 (2 * ((2 ^ e : Nat) : Int)) = ((2 ^ (e + 1) : Nat) : Int) := by rw [w64_id (by omega)]; omega
  have e2 : w64 (((2 ^ (e + 1) : Nat) : Int) - 1) = ((2 ^ (e + 1) - 1 : Nat) : Int) := by rw [w64_id (by omega)]; omega
  have e3 : shlI (r : Int) 1 = ((r * 2 : Nat) : Int) := by
    have := shlI_nat (a := r) (b := 1) (by omega) (by decide)
    simpa using this
  have hmod : (r * 2) % 2 ^ (e + 1) < 2 ^ (e + 1) := Nat.mod_lt _ (by omega)
  rw [e0, shl1_pow (by omega), e1, e2, e3, andI_nat (by omega) (by omega), andI_nat (by omega) (by omega), Nat.and_two_pow_sub_one_eq_mod, and_bit, xorI_nat (by omega) (by omega)]
  unfold stepR
  rw [Nat.add_sub_cancel, show r <<< 1 = r * 2 by rw [Nat.shiftLeft_eq]]
  have hx : ((((if r.testBit e = true then 2 ^ e else 0 : Nat) : Int) != 0) != (b == 1)) = (r.testBit e ^^ isOne b) := by
    have hne : (((2 ^ e : Nat) : Int) != 0) = true := by rw [bne_iff_ne]; omega
    unfold isOne
    cases r.testBit e
    · cases (b == 1) <;> rfl
    · rw [if_pos rfl, hne]
  rw [hx]
  cases (r.testBit e ^^ isOne b)
  · rw [br_false, if_neg (by decide), Nat.xor_zero]
  · rw [br_true, if_pos rfl]
theorem remainder_b1_eq {N D T : Nat} (h16 : D ≤ 16) (h1 : 1 ≤ D) (hT : T < 2 ^ D) (l : List Int) (hl : l.length < 1000000) (hN : l.length < N) (K : Int → Option (List Int)) :
    rds (code_remainder.b1 N D T l K) N (0, 0) = K (runR D T 0 l : Int) := by
  refine rds_spec (fun s : Int × Int => ∃ k : Nat, k ≤ l.length ∧ s = ((runR D T 0 (l.take k) : Int), (k : Int))) (fun s => l.length - s.2.toNat) (fun _ => K (runR D T 0 l : Int)) (fun rec s hI hrec => ?_) N (0, 0) ⟨0, Nat.zero_le _, by simp [runR]⟩ (by simp; omega)
  obtain ⟨k, hk, rfl⟩ := hI
  show br (decide ((k : Int) < (l.length : Int))) _ _ = _
  by_cases hkl : k < l.length
  · rw [br_pos (by simpa using hkl), chk_pos (by omega), w64_succ (by omega), Int.toNat_natCast]
    have hlt := runR_lt (d := D) hT 0 (l.take k) (Nat.two_pow_pos D)
    rw [step_eq (l.getD k 0) h16 h1 hT hlt (fun x => rec (x, ((k + 1 : Nat) : Int)))]
    refine hrec _ ⟨k + 1, hkl, ?_⟩ (by simp only [Int.toNat_natCast]; omega)
    rw [List.take_succ_eq_append_getElem hkl, runR_append, ← getD_eq hkl]; rfl
  · have : k = l.length := by omega
    subst this
    rw [br_neg (by simp), List.take_length]
theorem remainder_b2_eq {N D : Nat} (h16 : D ≤ 16) (h1 : 1 ≤ D) (r : Nat) (hr : r < 2 ^ D) (hN : 100 < N) (K : List Int → Option (List Int)) :
    rds (code_remainder.b2 N r K) N (((2 ^ (D - 1) : Nat) : Int), []) = K (regL D r) := by
  refine rds_spec (fun s : Int × List Int => ∃ j : Nat, j ≤ D ∧ s.1 = (if j = 0 then 0 else ((2 ^ (j - 1) : Nat) : Int)) ∧ s.2.length = D - j ∧ s.2 ++ regL j (r % 2 ^ j) = regL D r) (fun s => if s.1 = 0 then 0 else s.1.toNat.log2 + 1) (fun _ => K (regL D r)) (fun rec s hI hrec => ?_) N _ ⟨D, Nat.le_refl _, by rw [if_neg (by omega)], by simp, by rw [Nat.mod_eq_of_lt hr]; rfl⟩ ?_
  · obtain ⟨j, hj, h2, h3, h4⟩ := hI
    obtain ⟨top, acc⟩ := s
    simp only at h2 h3 h4
    subst h2
    by_cases hj0 : j = 0
    · subst hj0
      show br (decide ((if 0 = 0 then (0 : Int) else _) > 0)) _ _ = _
      rw [if_pos rfl, br_neg (by decide)]
      simp [regL] at h4
      rw [h4]
    · obtain ⟨i, rfl⟩ : ∃ i, j = i + 1 := ⟨j - 1, by omega⟩
      have hp16 := pow_le16 (p := i) (by omega)
      have hpos := Nat.two_pow_pos i
      have hD := pow_le16 h16
      rw [if_neg hj0, Nat.add_sub_cancel]
      show br (decide (((2 ^ i : Nat) : Int) > 0)) _ _ = _
      rw [br_pos (decide_eq_true (by omega)), andI_nat (by omega) (by omega), and_bit]
      have hsh : shrI ((2 ^ i : Nat) : Int) 1 = (if i = 0 then 0 else ((2 ^ (i - 1) : Nat) : Int)) := by
        have := shrI_nat (a := 2 ^ i) (b := 1) (by decide)
        rw [show ((1 : Nat) : Int) = 1 from rfl] at this
        rw [this]
        by_cases hi : i = 0
        · subst hi; rfl
        · obtain ⟨m, rfl⟩ : ∃ m, i = m + 1 := ⟨i - 1, by omega⟩
          rw [if_neg hi, Nat.add_sub_cancel, Nat.pow_succ]
          congr 1; omega
      have hμ : ∀ acc', (fun s : Int × List Int => if s.1 = 0 then 0 else s.1.toNat.log2 + 1) ((if i = 0 then 0 else ((2 ^ (i - 1) : Nat) : Int)), acc') < (fun s : Int × List Int => if s.1 = 0 then 0 else s.1.toNat.log2 + 1) (((2 ^ i : Nat) : Int), acc) := fun acc' => by
        simp only
        rw [if_neg (show ¬ ((2 ^ i : Nat) : Int) = 0 by omega), Int.toNat_natCast, Nat.log2_two_pow]
        by_cases hi : i = 0
        · rw [if_pos hi]; simp
        · rw [if_neg hi, if_neg (by have := Nat.two_pow_pos (i - 1); omega), Int.toNat_natCast, Nat.log2_two_pow]; omega
      rw [hsh]
      rw [reg_split] at h4
      cases hb : r.testBit i
      · rw [br_neg (by simp), chk_pos (by simp; omega)]
        rw [hb] at h4
        exact hrec _ ⟨i, by omega, rfl, by simp; omega, by simpa using h4⟩ (hμ _)
      · have hne : ((((if true = true then 2 ^ i else 0 : Nat)) : Int) != 0) = true := by rw [bne_iff_ne, if_pos rfl]; omega
        rw [br_pos hne, chk_pos (by simp; omega)]
        rw [hb] at h4
        exact hrec _ ⟨i, by omega, rfl, by simp; omega, by simpa using h4⟩ (hμ _)
  · have := Nat.two_pow_pos (D - 1)
    simp only
    rw [if_neg (by omega), Int.toNat_natCast, Nat.log2_two_pow]; omega
theorem remainder_eq {N D T : Nat} (h16 : D ≤ 16) (h1 : 1 ≤ D) (hT : T < 2 ^ D) (l : List Int) (hl : l.length < 1000000) (hN : l.length < N) (hN2 : 100 < N) : code_remainder N D T l = some (regL D (runR D T 0 l)) := by
  have e0 : w64 ((D : Int) - 1) = ((D - 1 : Nat) : Int) := by rw [w64_id (by omega)]; omega
  unfold code_remainder
  rw [chk_pos (by rw [e0]; omega), jn, remainder_b1_eq h16 h1 hT l hl hN, e0, shl1_pow (by omega), jn, remainder_b2_eq h16 h1 _ (runR_lt hT 0 l (Nat.two_pow_pos D)) hN2]

theorem Concat_eq {N : Nat} (a b : List Int) (ha : a.length ≤ 1000) (hb : b.length ≤ 1000) (hN : 10 < N) : slices_Concat_ii N [a, b] = some (a ++ b) := by
  obtain ⟨n, rfl⟩ : ∃ n, N = n + 10 := ⟨N - 10, by omega⟩
  have w1 : w64 (0 + (a.length : Int)) = (a.length : Int) := by rw [w64_id (by omega)]; omega
  have w2 : w64 ((a.length : Int) + (b.length : Int)) = ((a.length + b.length : Nat) : Int) := by rw [w64_id (by omega)]; omega
  have w3 : w64 ((0 : Int) + 1) = 1 := by rw [w64_id (by omega)]; rfl
  have w4 : w64 ((1 : Int) + 1) = 2 := by rw [w64_id (by omega)]; rfl
  have w5 : w64 ((0 : Int) - 0) = 0 := by rw [w64_id (by omega)]; rfl
  have w6 : w64 (((a.length + b.length : Nat) : Int) - 0) = ((a.length + b.length : Nat) : Int) := by rw [w64_id (by omega)]; omega
  have b2 : ∀ K, rds (slices_Concat_ii.b2 (n + 10) [a, b] K) (n + 10) (0, []) = K (a ++ b) := fun K => by
    rw [rds_succ, slices_Concat_ii.b2, br_pos (by simp), chk_pos (by simp), chk_pos (by simp; omega), w3, rds_succ, slices_Concat_ii.b2, br_pos (by simp), chk_pos (by simp), chk_pos (by simp; omega), w4, rds_succ, slices_Concat_ii.b2, br_neg (by simp)]
    simp
  have b3 : ∀ K, rds (slices_Concat_ii.b3 (n + 10) [a, b] K) (n + 10) (0, []) = K (a ++ b) := fun K => by
    rw [rds_succ, slices_Concat_ii.b3, br_pos (by simp), chk_pos (by simp), chk_pos (by simp; omega), w3, rds_succ, slices_Concat_ii.b3, br_pos (by simp), chk_pos (by simp), chk_pos (by simp; omega), w4, rds_succ, slices_Concat_ii.b3, br_neg (by simp)]
    simp
  have b1 : ∀ K, rds (slices_Concat_ii.b1 (n + 10) [a, b] K) (n + 10) (0, 0) = K ((a.length + b.length : Nat) : Int) := fun K => by
    rw [rds_succ, slices_Concat_ii.b1, br_pos (by simp), chk_pos (by simp)]
    show br (decide (w64 (0 + (a.length : Int)) < 0)) none (rds _ _ (w64 (0 + (a.length : Int)), w64 (0 + 1))) = _
    rw [w1, br_neg (decide_eq_false (by omega)), w3, rds_succ, slices_Concat_ii.b1, br_pos (by simp), chk_pos (by simp)]
    show br (decide (w64 ((a.length : Int) + (b.length : Int)) < 0)) none (rds _ _ (w64 ((a.length : Int) + (b.length : Int)), w64 (1 + 1))) = _
    rw [w2, br_neg (decide_eq_false (by omega)), w4, rds_succ, slices_Concat_ii.b1, br_neg (by simp)]
  unfold slices_Concat_ii
  simp only [jn, b1, b2, b3, w5, w6]
  rw [br_neg (decide_eq_false (by omega))]
  by_cases h : (((a.length + b.length : Nat) : Int)) > 0
  · rw [br_pos (decide_eq_true h), chk_pos (by omega), chk_pos (by simp; omega), chk_pos (by simp; omega)]
  · rw [br_neg (decide_eq_false h)]
theorem Equal_eq {N : Nat} (a b : List Int) (hl : a.length < 4611686018427387904) (hN : a.length < N) : slices_Equal_ii N a b = some (decide (a = b)) := Ints_eq a b hl hN
def checkedL (D T : Nat) (l : List Int) : List Int := l ++ regL D (runR D T 0 l)
end Go.Sh

/-
  A BURST IS CAUGHT: the law's shallow function tells true.
-/
namespace Go.Sh
open Go.PW

theorem BitsOf_eq {N D : Nat} (h1 : 1 ≤ D) (h16 : D ≤ 16) (p : Nat) (hp : p < 2 ^ D) (hN : 100 < N) : base_BitsOf N (p : Int) (D : Int) = some (regL D p) := by
  have hD := pow_le16 h16
  unfold base_BitsOf
  rw [chk_pos (by omega), jn, Int.toNat_natCast]
  refine rds_spec (fun s : Int × Int × List Int => ∃ j : Nat, j ≤ D ∧ s = (((p / 2 ^ (D - j) : Nat) : Int), ((j : Int) - 1), List.replicate j 0 ++ regL (D - j) (p % 2 ^ (D - j)))) (fun s => (s.2.1 + 1).toNat) (fun _ => some (regL D p)) (fun rec s hI hrec => ?_) N _ ⟨D, Nat.le_refl _, ?_⟩ ?_
  · obtain ⟨j, hj, rfl⟩ := hI
    by_cases hj0 : j = 0
    · subst hj0
      show br (decide ((((0 : Nat) : Int) - 1) ≥ 0)) _ _ = _
      rw [br_neg (by decide), Nat.sub_zero, Nat.mod_eq_of_lt hp]; rfl
    · obtain ⟨i, rfl⟩ : ∃ i, j = i + 1 := ⟨j - 1, by omega⟩
      have e1 : (((i + 1 : Nat) : Int) - 1) = (i : Int) := by omega
      rw [e1]
      show br (decide ((i : Int) ≥ 0)) _ _ = _
      obtain ⟨k, hk⟩ : ∃ k, D - i = k + 1 := ⟨D - i - 1, by omega⟩
      have hk' : D - (i + 1) = k := by omega
      have hlt : p / 2 ^ k ≤ p := Nat.div_le_self _ _
      have hR : p / 2 ^ (k + 1) = p / 2 ^ k / 2 := by rw [Nat.pow_succ, ← Nat.div_div_eq_div_mul]
      have hpb : p < 65536 := by omega
      rw [hk', br_pos (decide_eq_true (by omega)), chk_pos (by rw [List.length_append, List.length_replicate]; omega)]
      have ed : w64 (((p / 2 ^ k : Nat) : Int).tdiv 2) = ((p / 2 ^ (k + 1) : Nat) : Int) := by
        rw [hR]
        generalize p / 2 ^ k = Q at *
        rw [Int.tdiv_eq_ediv_of_nonneg (by omega), w64_id (by omega)]; omega
      have em : (((p / 2 ^ k : Nat) : Int).tmod 2) = if p.testBit k = true then 1 else 0 := by
        rw [Nat.testBit_eq_decide_div_mod_eq]
        generalize p / 2 ^ k = Q at *
        rw [Int.tmod_eq_emod_of_nonneg (by omega)]
        by_cases h : Q % 2 = 1
        · rw [decide_eq_true h, if_pos rfl]; omega
        · rw [decide_eq_false h, if_neg (by decide)]; omega
      rw [ed, em, w64_id (n := (i : Int) - 1) (by omega), Int.toNat_natCast]
      refine hrec _ ⟨i, by omega, ?_⟩ (by simp only; omega)
      rw [hk, reg_split]
      congr 2
      refine ext_getD (by simp [regL_length]; omega) fun m hm => ?_
      rw [List.length_set, List.length_append, List.length_replicate, regL_length] at hm
      by_cases hmi : i = m
      · subst hmi
        simp [List.getD_eq_getElem?_getD, List.getElem?_append]
      · simp only [List.getD_eq_getElem?_getD, List.getElem?_set, if_neg hmi, List.getElem?_append, List.length_replicate]
        by_cases h2 : m < i
        · rw [if_pos (by omega), if_pos h2]; simp [List.getElem?_replicate, h2, show m < i + 1 by omega]
        · obtain ⟨z, rfl⟩ : ∃ z, m = i + 1 + z := ⟨m - (i + 1), by omega⟩
          rw [if_neg (by omega), if_neg (by omega), show i + 1 + z - (i + 1) = z by omega, show i + 1 + z - i = z + 1 by omega, List.getElem?_cons_succ]
  · rw [w64_id (by omega), Nat.sub_self, Nat.pow_zero, Nat.div_one]; simp [regL]
  · rw [w64_id (by omega)]; simp only; omega
end Go.Sh

/-
  Checks of bits: the division of the document, and the law's shallow function tells true.
-/
namespace Go.Sh
open Go.PW

def b01 (b : Bool) : Int := if b = true then 1 else 0
theorem b01_isOne {x : Int} (h : x = 0 ∨ x = 1) : b01 (isOne x) = x := by rcases h with rfl | rfl <;> rfl
theorem add_b01 (a b : Bool) : (w64 (b01 a + b01 b)).tmod 2 = b01 (a ^^ b) := by
  rw [w64_id (by cases a <;> cases b <;> decide)]
  cases a <;> cases b <;> rfl
theorem regL_getD : ∀ (n x k : Nat), k < n → (regL n x).getD k 0 = b01 (x.testBit (n - 1 - k))
  | n + 1, x, 0, _ => by rw [regL, List.getD_cons_zero]; rfl
  | n + 1, x, k + 1, h => by
    rw [regL, List.getD_cons_succ, regL_getD n _ k (by omega), Nat.testBit_mod_two_pow]
    rw [decide_eq_true (show n - 1 - k < n by omega), Bool.true_and, show n + 1 - 1 - (k + 1) = n - 1 - k by omega]

def cellR (D T : Nat) (l : List Int) (i j : Nat) : Bool := isOne ((l ++ List.replicate D 0).getD j 0) ^^ (decide (j < i + D) && (runR D T 0 (l.take i)).testBit (D - 1 - (j - i)))

theorem stepR_bit {D T r m : Nat} {b : Bool} (hm : m < D) : (stepR D T r b).testBit m = ((decide (1 ≤ m) && r.testBit (m - 1)) ^^ ((r.testBit (D - 1) ^^ b) && T.testBit m)) := by
  unfold stepR
  rw [Nat.testBit_xor, Nat.testBit_mod_two_pow, Nat.testBit_shiftLeft, decide_eq_true hm, Bool.true_and]
  congr 1
  cases (r.testBit (D - 1) ^^ b) <;> simp

theorem take_succ_run {D T : Nat} (l : List Int) {i : Nat} (hi : i < l.length) : runR D T 0 (l.take (i + 1)) = stepR D T (runR D T 0 (l.take i)) (isOne (l.getD i 0)) := by
  rw [List.take_add_one, List.getElem?_eq_getElem hi, runR_append, getD_eq hi]; rfl

theorem orig_getD {D : Nat} (l : List Int) {i : Nat} (hi : i < l.length) : (l ++ List.replicate D 0).getD i 0 = l.getD i 0 := by
  rw [List.getD_eq_getElem?_getD, List.getD_eq_getElem?_getD, List.getElem?_append_left hi]

theorem cell_step {D T : Nat} (h1 : 1 ≤ D) (l : List Int) {i j : Nat} (hi : i < l.length) (hj : i + 1 ≤ j) :
    cellR D T l (i + 1) j = (cellR D T l i j ^^ (cellR D T l i i && (decide (j < i + 1 + D) && T.testBit (D - 1 - (j - (i + 1)))))) := by
  unfold cellR
  rw [take_succ_run l hi, orig_getD l hi, Nat.sub_self, Nat.sub_zero, decide_eq_true (show i < i + D by omega), Bool.true_and]
  by_cases h : j < i + 1 + D
  · rw [decide_eq_true h, Bool.true_and, Bool.true_and, stepR_bit (by omega)]
    by_cases h2 : j < i + D
    · rw [decide_eq_true h2, Bool.true_and, decide_eq_true (show 1 ≤ D - 1 - (j - (i + 1)) by omega), Bool.true_and, show D - 1 - (j - (i + 1)) - 1 = D - 1 - (j - i) by omega]
      cases isOne ((l ++ List.replicate D 0).getD j 0) <;> cases (runR D T 0 (l.take i)).testBit (D - 1 - (j - i)) <;> cases (runR D T 0 (l.take i)).testBit (D - 1) <;> cases isOne (l.getD i 0) <;> cases T.testBit (D - 1 - (j - (i + 1))) <;> rfl
    · rw [decide_eq_false h2, Bool.false_and, decide_eq_false (show ¬ 1 ≤ D - 1 - (j - (i + 1)) by omega), Bool.false_and]
      cases isOne ((l ++ List.replicate D 0).getD j 0) <;> cases (runR D T 0 (l.take i)).testBit (D - 1) <;> cases isOne (l.getD i 0) <;> cases T.testBit (D - 1 - (j - (i + 1))) <;> rfl
  · rw [decide_eq_false h, decide_eq_false (show ¬ j < i + D by omega)]
    simp

theorem refRem_b2 {N D : Nat} (taps : List Int) (htaps : taps.length = D) (hD : D ≤ 16) (i : Nat) (b : List Int) (len : Nat) (hb : b.length = len + D) (hi : i < len) (hlen : len ≤ 1000) (hN : 100 < N) (K : List Int → Option (List Int)) :
    ∃ c : List Int, rds (ref02_Remainder.b2 N (D : Int) taps (i : Int) K) N (0, b) = K c ∧ c.length = len + D ∧
      ∀ j, c.getD j 0 = if i + 1 ≤ j ∧ j < i + 1 + D then (w64 (b.getD j 0 + taps.getD (j - (i + 1)) 0)).tmod 2 else b.getD j 0 := by
  have H : rds (ref02_Remainder.b2 N (D : Int) taps (i : Int) K) N (0, b) = K (itN (fun k s => s.set (i + 1 + k) ((w64 (s.getD (i + 1 + k) 0 + taps.getD k 0)).tmod 2)) D b) ∧
      ((itN (fun k s => s.set (i + 1 + k) ((w64 (s.getD (i + 1 + k) 0 + taps.getD k 0)).tmod 2)) D b).length = len + D ∧ ∀ j, (itN (fun k s => s.set (i + 1 + k) ((w64 (s.getD (i + 1 + k) 0 + taps.getD k 0)).tmod 2)) D b).getD j 0 = if i + 1 ≤ j ∧ j < i + 1 + D then (w64 (b.getD j 0 + taps.getD (j - (i + 1)) 0)).tmod 2 else b.getD j 0) := by
    refine rds_it D (fun k s => s.set (i + 1 + k) ((w64 (s.getD (i + 1 + k) 0 + taps.getD k 0)).tmod 2))
      (fun k s => s.length = len + D ∧ ∀ j, s.getD j 0 = if i + 1 ≤ j ∧ j < i + 1 + k then (w64 (b.getD j 0 + taps.getD (j - (i + 1)) 0)).tmod 2 else b.getD j 0)
      (ref02_Remainder.b2 N (D : Int) taps (i : Int) K) K (s := b) ⟨hb, fun j => by rw [if_neg (by omega)]⟩ (fun k s hk hs => ?_) (fun k s rec hk hs => ?_) (fun s rec hs => ?_) (N := N) (by omega)
    · refine ⟨(List.length_set ..).trans hs.1, fun j => ?_⟩
      have hk2 : i + 1 + k < s.length := by rw [hs.1]; omega
      by_cases hj : j = i + 1 + k
      · subst hj
        rw [if_pos (by omega), List.getD_eq_getElem?_getD, List.getElem?_set_self hk2, hs.2 (i + 1 + k), if_neg (by omega), Nat.add_sub_cancel_left]; rfl
      · have h := hs.2 j
        rw [List.getD_eq_getElem?_getD, List.getElem?_set_ne (fun e => hj e.symm), ← List.getD_eq_getElem?_getD, h]
        by_cases hc : i + 1 ≤ j ∧ j < i + 1 + k
        · rw [if_pos hc, if_pos (by omega)]
        · rw [if_neg hc, if_neg (by omega)]
    · have hk2 : i + 1 + k < s.length := by rw [hs.1]; omega
      have e1 : w64 ((w64 ((i : Int) + 1)) + (k : Int)) = ((i + 1 + k : Nat) : Int) := by rw [w64_id (show _ ≤ (i : Int) + 1 ∧ _ by omega), w64_id (by omega)]; omega
      have e2 : w64 ((k : Int) + 1) = ((k + 1 : Nat) : Int) := by rw [w64_id (by omega)]; omega
      show br (decide ((k : Int) < (D : Int))) _ _ = _
      rw [br_pos (decide_eq_true (by omega)), e1, e2, chk_pos (by omega), chk_pos (by omega), chk_pos (by omega)]
      simp only [Int.toNat_natCast]
    · show br (decide ((D : Int) < (D : Int))) _ _ = _
      rw [br_neg (by simp)]
  exact ⟨_, H.1, H.2.1, H.2.2⟩

theorem refRemainder_eq {N D T : Nat} (h16 : D ≤ 16) (h1 : 1 ≤ D) (hT : T < 2 ^ D) (l : List Int) (hl : l.length ≤ 500) (hb : bits l) (hN : 1000 < N) : ref02_Remainder N D T l = some (regL D (runR D T 0 l)) := by
  unfold ref02_Remainder
  rw [CopyInts_eq _ l (by omega), bnd_val, chk_pos (by omega), Int.toNat_natCast, chk_pos (by rw [List.length_replicate]; omega), BitsOf_eq h1 h16 T hT (by omega), bnd_val, jn]
  have hol : (l ++ List.replicate D (0 : Int)).length = l.length + D := by simp
  have hbits : bits (l ++ List.replicate D 0) := by rw [bits_append]; exact ⟨hb, fun i hi => by simp at hi; simp [hi]⟩
  refine rds_spec (fun s : Int × List Int => ∃ i : Nat, i ≤ l.length ∧ s.1 = i ∧ s.2.length = l.length + D ∧ ∀ j, i ≤ j → j < l.length + D → s.2.getD j 0 = b01 (cellR D T l i j)) (fun s => l.length - s.1.toNat) (fun _ => some (regL D (runR D T 0 l))) (fun rec s hI hrec => ?_) N _ ⟨0, Nat.zero_le _, rfl, hol, fun j _ hj => ?_⟩ (by simp; omega)
  · obtain ⟨i, hi, hs1, hs2, hs3⟩ := hI
    obtain ⟨x, b⟩ := s
    simp only at hs1 hs2 hs3
    subst hs1
    show br (decide ((i : Int) < (l.length : Int))) _ _ = _
    rcases Nat.lt_or_ge i l.length with h | h
    · have e2 : w64 ((i : Int) + 1) = ((i + 1 : Nat) : Int) := by rw [w64_id (by omega)]; omega
      rw [br_pos (decide_eq_true (by omega)), jn, chk_pos (by omega), Int.toNat_natCast, e2, hs3 i (Nat.le_refl _) (by omega)]
      by_cases hc : cellR D T l i i = true
      · obtain ⟨c, hc1, hc2, hc3⟩ := refRem_b2 (N := N) (regL D T) (regL_length D T) h16 i b l.length hs2 h (by omega) (by omega) (fun b12 => rec (((i + 1 : Nat) : Int), b12))
        rw [hc, br_neg (by rfl), hc1]
        refine hrec _ ⟨i + 1, h, rfl, hc2, fun j hj hj2 => ?_⟩ (by simp; omega)
        show c.getD j 0 = _
        rw [hc3, cell_step h1 l h hj, hc, Bool.true_and]
        by_cases hjD : j < i + 1 + D
        · rw [if_pos ⟨hj, hjD⟩, hs3 j (by omega) hj2, regL_getD _ _ _ (by omega), add_b01, decide_eq_true hjD, Bool.true_and]
        · rw [if_neg (by omega), hs3 j (by omega) hj2, decide_eq_false hjD, Bool.false_and, Bool.xor_false]
      · have hc' : cellR D T l i i = false := by simpa using hc
        rw [hc', br_pos (by rfl)]
        refine hrec _ ⟨i + 1, h, rfl, hs2, fun j hj hj2 => ?_⟩ (by simp; omega)
        show b.getD j 0 = _
        rw [cell_step h1 l h hj, hc', Bool.false_and, Bool.xor_false]
        exact hs3 j (by omega) hj2
    · have : i = l.length := by omega
      subst this
      rw [br_neg (by simp)]
      show chk _ _ = _
      rw [chk_pos (by omega), Int.toNat_natCast]
      congr 1
      refine List.ext_getElem (by rw [List.length_take, List.length_drop, regL_length, hs2]; omega) fun k h2 h3 => ?_
      rw [regL_length] at h3
      have hk := hs3 (l.length + k) (by omega) (by omega)
      rw [List.getElem_take, List.getElem_drop, ← getD_eq (l := b) (show l.length + k < b.length by omega), hk, ← getD_eq (l := regL D (runR D T 0 l)) (by rw [regL_length]; exact h3), regL_getD _ _ _ h3]
      congr 1
      unfold cellR
      rw [List.take_length, decide_eq_true (by omega), Bool.true_and, Nat.add_sub_cancel_left]
      have : (l ++ List.replicate D (0 : Int)).getD (l.length + k) 0 = 0 := by
        rw [List.getD_eq_getElem?_getD, List.getElem?_append_right (by omega), Nat.add_sub_cancel_left, List.getElem?_replicate]
        split <;> rfl
      rw [this]; simp [isOne]
  · show (l ++ List.replicate D 0).getD j 0 = _
    unfold cellR
    rw [List.take_zero, runR, Nat.zero_testBit, Bool.and_false, Bool.xor_false, b01_isOne (hbits j (by omega))]

theorem refChecked_eq {N D T : Nat} (h16 : D ≤ 16) (h1 : 1 ≤ D) (hT : T < 2 ^ D) (l : List Int) (hl : l.length ≤ 500) (hb : bits l) (hN : 1000 < N) : ref02_Checked N D T l = some (checkedL D T l) := by
  unfold ref02_Checked
  rw [CopyInts_eq _ l (by omega), bnd_val, refRemainder_eq h16 h1 hT l hl hb hN, bnd_val, chk_pos (by rw [regL_length]; omega)]; rfl

theorem refIsRight_eq {N D T : Nat} (h16 : D ≤ 16) (h1 : 1 ≤ D) (hT : T < 2 ^ D) (hodd : T % 2 = 1) (l : List Int) (hl : l.length ≤ 500) (hb : bits l) (hD : D < l.length) (hN : 1000 < N) : ref02_IsRight N D T l = some (decide (runR D T 0 l = 0)) := by
  unfold ref02_IsRight
  have e : w64 ((l.length : Int) - (D : Int)) = ((l.length - D : Nat) : Int) := by rw [w64_id (by omega)]; omega
  have hsp : l = l.take (l.length - D) ++ l.drop (l.length - D) := (List.take_append_drop _ _).symm
  have hb' : bits (l.take (l.length - D)) ∧ bits (l.drop (l.length - D)) := by rw [← bits_append, ← hsp]; exact hb
  have hdl : (l.drop (l.length - D)).length = D := by rw [List.length_drop]; omega
  rw [e, chk_pos (by omega), chk_pos (by omega), Int.toNat_natCast, refRemainder_eq h16 h1 hT _ (by rw [List.length_take]; omega) hb'.1 hN, bnd_val, List.take_of_length_le (by rw [List.length_drop]; omega), Ints_eq _ _ (by omega) (by omega), bnd_val]
  congr 1
  have hlt := runR_lt hT 0 (l.take (l.length - D)) (Nat.two_pow_pos D)
  have hz := run_zero_iff h1 hodd hT (l.drop (l.length - D)) hdl _ hlt
  have hrun : runR D T 0 l = runR D T (runR D T 0 (l.take (l.length - D))) (l.drop (l.length - D)) := by rw [← runR_append, ← hsp]
  rw [hrun]
  refine decide_eq_decide.2 ⟨fun h => hz.2 ?_, fun h => ?_⟩
  · have h2 := valB_regL D _ hlt
    rw [← h2, ← h]
  · rw [hz.1 h]
    have h2 := regL_valB hb'.2
    rw [hdl] at h2; exact h2.symm
end Go.Sh

/-
  The law 'CodeChecks': its shallow function tells true.
-/
namespace Go.Sh
open Go.PW

theorem few200 {N : Nat} (l : List Int) : law02_few N l 200 = some (decide ((l.length : Int) ≤ 40 ∨ 200 < (l.length : Int) ∧ (l.length : Int) ≤ 202)) := by
  unfold law02_few
  have e : w64 ((200 : Int) + 2) = 202 := by rw [w64_id (by decide)]; rfl
  rw [e]
  congr 1
  by_cases h1 : (l.length : Int) ≤ 40 <;> by_cases h2 : (l.length : Int) > 200 <;> by_cases h3 : (l.length : Int) ≤ 202 <;> simp [h1, h2, h3] <;> omega

theorem firstOf_cons0 (l : List Int) : firstOf (0 :: l) = firstOf l := by simp [firstOf]
theorem firstOf_cons {x : Int} (h : x ≠ 0) (l : List Int) : firstOf (x :: l) = x := by simp [firstOf, h]

end Go.Sh

/-
  The document's word of bits is the word by rounds.
-/
namespace Go.Sh
open Go.PW

end Go.Sh

/-
  Successive cancellation: the program's and the document's come to the same bits, for any soft bits.
-/
namespace Go.Sh
open Go.PW

end Go.Sh

/-
  The law 'CodeChains': its shallow function tells true.
-/
namespace Go.Sh
open Go.PW

theorem checked_eq {N D T : Nat} (h16 : D ≤ 16) (h1 : 1 ≤ D) (hT : T < 2 ^ D) (l : List Int) (hl : l.length ≤ 500) (hN : 1000 < N) : code_checked N D T l = some (checkedL D T l) := by
  unfold code_checked
  rw [remainder_eq h16 h1 hT l (by omega) (by omega) (by omega), bnd_val, Concat_eq _ _ (by omega) (by rw [regL_length]; omega) (by omega)]; rfl
theorem right_eq {N D T : Nat} (h16 : D ≤ 16) (h1 : 1 ≤ D) (hT : T < 2 ^ D) (hodd : T % 2 = 1) (c : List Int) (hl : c.length ≤ 500) (hbits : bits c) (hc : D < c.length) (hN : 1000 < N) : code_right N D T c = some (decide (runR D T 0 c = 0)) := by
  unfold code_right
  have hw : w64 ((c.length : Int) - (D : Int)) = ((c.length - D : Nat) : Int) := by rw [w64_id (by omega)]; omega
  rw [hw, chk_pos (by omega), Int.toNat_natCast, remainder_eq h16 h1 hT _ (by simp; omega) (by simp; omega) (by omega), bnd_val, chk_pos (by omega), Equal_eq _ _ (by rw [regL_length]; omega) (by rw [regL_length]; omega), bnd_val]
  have hr := refIsRight_eq (N := N) h16 h1 hT hodd c hl hbits hc hN
  unfold ref02_IsRight at hr
  rw [hw, chk_pos (by omega), chk_pos (by omega), Int.toNat_natCast, refRemainder_eq h16 h1 hT _ (by simp; omega) (fun i hi => by have := hbits i (by simp at hi; omega); rw [List.getD_eq_getElem?_getD, List.getElem?_take_of_lt (by simp at hi; omega), ← List.getD_eq_getElem?_getD]; exact this) hN, bnd_val, Ints_eq _ _ (by simp; omega) (by simp; omega), bnd_val] at hr
  rw [← hr]
  congr 1
  exact decide_eq_decide.2 ⟨fun h => h.symm, fun h => h.symm⟩

theorem checkedL_bits {D T : Nat} {l : List Int} (h : bits l) : bits (checkedL D T l) := by unfold checkedL; rw [bits_append]; exact ⟨h, regL_bits _ _⟩
theorem checkedL_length {D T : Nat} (l : List Int) : (checkedL D T l).length = l.length + D := by unfold checkedL; rw [List.length_append, regL_length]

theorem br_eq0 {R : Type} (x y : Int) (K : Int → Option R) : br (x == 0) (K y) (K x) = K (firstOf [x, y]) := by
  by_cases h : x = 0
  · subst h
    rw [firstOf_cons0]
    by_cases hy : y = 0
    · subst hy; rfl
    · rw [firstOf_cons hy]; rfl
  · rw [firstOf_cons h, br_neg (by rw [beq_eq_false_iff_ne]; exact h)]
theorem firstOf_one (x : Int) : firstOf [x] = x := by
  by_cases h : x = 0
  · subst h; rfl
  · exact firstOf_cons h _
theorem firstOf2_zero {x y : Int} (h : firstOf [x, y] = 0) : x = 0 ∧ y = 0 := by
  by_cases hx : x = 0
  · subst hx; rw [firstOf_cons0, firstOf_one] at h; exact ⟨rfl, h⟩
  · rw [firstOf_cons hx] at h; exact absurd h hx

end Go.Sh

/-
  The law 'CodeChains': its shallow function tells true, continued.
-/
namespace Go.Sh
open Go.PW

theorem jn_eq0 {R : Type} (K : Int → Option R) (x : Int) {y : Int} {B : Option Int} (hB : B = some y) : jn (τ := Int) K (fun K_1 => br (x == 0) (bnd B fun z => K_1 z) (K_1 x)) = K (firstOf [x, y]) := by
  subst hB; exact br_eq0 x y K
end Go.Sh

/-
  The law 'CodeChains': its shallow function tells true, the end.
-/
namespace Go.Sh
open Go.PW

end Go.Sh

/-
  Cutting a block: how many segments, and how long they are.
-/
namespace Go.Sh
open Go.PW

theorem ceil_eq {N n m : Nat} (hm : 1 ≤ m) (hm2 : m ≤ 1000) (hn : n ≤ 1000) : base_Ceil N (n : Int) (m : Int) = some (((n + m - 1) / m : Nat) : Int) := by
  unfold base_Ceil base_Floor
  have hdm := Nat.div_add_mod n m
  have hlt := Nat.mod_lt n (show m > 0 by omega)
  have hdle : n / m ≤ n := Nat.div_le_self _ _
  have e0 : w64 (0 - (n : Int)) = -(n : Int) := by rw [w64_id (by omega)]; omega
  have e1 : (-(n : Int)).tmod (m : Int) = -((n % m : Nat) : Int) := by rw [Int.neg_tmod, Int.tmod_eq_emod_of_nonneg (by omega)]; omega
  have e2 : (-(n : Int)).tdiv (m : Int) = -((n / m : Nat) : Int) := by rw [Int.neg_tdiv, Int.tdiv_eq_ediv_of_nonneg (by omega)]; omega
  have hq : (n + m - 1) / m = if n % m = 0 then n / m else n / m + 1 := by
    split
    · rename_i hr
      rw [Nat.div_eq_iff (by omega)]
      rw [hr] at hdm
      rw [Nat.mul_comm]
      omega
    · rw [Nat.div_eq_iff (by omega), Nat.add_mul, Nat.mul_comm]
      omega
  rw [e0, chk_pos (by omega), chk_pos (by omega), e1, e2, hq]
  have hk : n / m ≤ 1000 := by omega
  generalize n / m = k at hk
  generalize n % m = r
  by_cases hr : r = 0
  · subst hr
    rw [br_neg (by simp), bnd_val, if_pos rfl, w64_id (n := -(k : Int)) (by omega), w64_id (by omega)]
    congr 1; omega
  · rw [br_pos (decide_eq_true (by omega)), bnd_val, if_neg hr, w64_id (n := -(k : Int)) (by omega), w64_id (n := -(k : Int) - 1) (by omega), w64_id (by omega)]
    congr 1; omega

def cutC (m n : Nat) : Nat := (n + m - 1) / m
def cutE (m n : Nat) : Nat := (n + cutC m n - 1) / cutC m n
structure CutOK (m n C E : Nat) : Prop where
  hC : cutC m n = C
  hE : cutE m n = E
  c1 : 1 ≤ C
  c2 : C ≤ n
  e1 : 1 ≤ E
  e2 : E ≤ m
  lo : n ≤ C * E
  hi : C * E + 1 ≤ n + C
theorem cut_ok {m n : Nat} (hm : 1 ≤ m) (hn : 1 ≤ n) : ∃ C E, CutOK m n C E := by
  obtain ⟨C, hC⟩ : ∃ C, C = cutC m n := ⟨_, rfl⟩
  have hC' := hC
  unfold cutC at hC'
  have h1 := Nat.div_add_mod (n + m - 1) m
  have h2 := Nat.mod_lt (n + m - 1) (show m > 0 by omega)
  rw [← hC'] at h1
  have hC1 : 1 ≤ C := by
    rcases Nat.eq_zero_or_pos C with h | h
    · subst h; rw [Nat.mul_zero] at h1; omega
    · exact h
  have hmC : n ≤ m * C := by omega
  have h3 := Nat.div_add_mod (n + C - 1) C
  have h4 := Nat.mod_lt (n + C - 1) (show C > 0 by omega)
  obtain ⟨E, hE⟩ : ∃ E, E = (n + C - 1) / C := ⟨_, rfl⟩
  rw [← hE] at h3
  refine ⟨C, E, hC.symm, by unfold cutE; rw [← hC]; exact hE.symm, hC1, ?_, ?_, ?_, by omega, by omega⟩
  · rw [hC', ← Nat.lt_succ_iff, Nat.div_lt_iff_lt_mul (by omega), Nat.succ_mul]
    have : n ≤ n * m := Nat.le_mul_of_pos_right n (by omega)
    omega
  · rcases Nat.eq_zero_or_pos E with h | h
    · subst h; rw [Nat.mul_zero] at h3; omega
    · exact h
  · rw [hE, ← Nat.lt_succ_iff, Nat.div_lt_iff_lt_mul (by omega), Nat.succ_mul]
    omega

theorem refCut_eq {N m n C E : Nat} {d t M : Int} (h : CutOK m n C E) (hM : w64 (M - d) = (m : Int)) (hm : 1 ≤ m) (hm2 : m ≤ 200) (hn2 : n ≤ 200) : ref02_Cut N d t M (n : Int) = some ((C : Int), (E : Int)) := by
  unfold ref02_Cut
  have h1 : ((n + m - 1) / m) = C := h.hC
  have h2 : ((n + C - 1) / C) = E := by rw [← h.hE]; unfold cutE; rw [h.hC]
  have c1 := h.c1
  have c2 := h.c2
  rw [hM, ceil_eq hm (by omega) (by omega), bnd_val, h1, ceil_eq c1 (by omega) (by omega), bnd_val, h2]

theorem cutOf_eq {N m n C E : Nat} {d t M : Int} (h : CutOK m n C E) (hd : 0 ≤ d ∧ d ≤ 16) (hM1 : M ≤ 100) (hM : M - d = (m : Int)) (hm : 1 ≤ m) (hm2 : m ≤ 200) (hn : 1 ≤ n) (hn2 : n ≤ 200) :
    code_cutOf N d t M (n : Int) = some ((C : Int), (E : Int), ((C * E - n : Nat) : Int)) := by
  unfold code_cutOf
  have h1 : ((n + m - 1) / m) = C := h.hC
  have h2 : ((n + C - 1) / C) = E := by rw [← h.hE]; unfold cutE; rw [h.hC]
  have c1 := h.c1
  have c2 := h.c2
  have hhi := h.hi
  have hlo := h.lo
  have e1 : w64 ((n : Int) + d) = (n : Int) + d := w64_id (by omega)
  have e2 : w64 (M - d) = (m : Int) := by rw [hM]; exact w64_id (by omega)
  rw [e1, e2]
  by_cases hs : (n : Int) + d ≤ M
  · have hC1 : C = 1 := by
      rw [← h1, Nat.div_eq_iff (by omega)]; omega
    have hE1 : E = n := by rw [← h2, hC1, Nat.div_one]; omega
    rw [br_pos (decide_eq_true hs), hC1, hE1]
    congr 3; omega
  · have e3 : w64 ((n : Int) + (m : Int)) = ((n + m : Nat) : Int) := by rw [w64_id (by omega)]; omega
    have e4 : w64 (((n + m : Nat) : Int) - 1) = ((n + m - 1 : Nat) : Int) := by rw [w64_id (by omega)]; omega
    have e5 : w64 (((n + m - 1 : Nat) : Int).tdiv (m : Int)) = (C : Int) := by
      rw [Int.tdiv_eq_ediv_of_nonneg (by omega), ← Int.natCast_ediv, h1]; exact w64_id (by omega)
    have e6 : w64 ((n : Int) + (C : Int)) = ((n + C : Nat) : Int) := by rw [w64_id (by omega)]; omega
    have e7 : w64 (((n + C : Nat) : Int) - 1) = ((n + C - 1 : Nat) : Int) := by rw [w64_id (by omega)]; omega
    have hEn : E ≤ 400 := by rw [← h2]; exact Nat.le_trans (Nat.div_le_self _ _) (by omega)
    have e8 : w64 (((n + C - 1 : Nat) : Int).tdiv (C : Int)) = (E : Int) := by
      rw [Int.tdiv_eq_ediv_of_nonneg (by omega), ← Int.natCast_ediv, h2]; exact w64_id (by omega)
    have e9 : w64 ((C : Int) * (E : Int)) = ((C * E : Nat) : Int) := by
      have : (C : Int) * (E : Int) = ((C * E : Nat) : Int) := by rw [Int.natCast_mul]
      rw [this]; exact w64_id (by omega)
    have e10 : w64 (((C * E : Nat) : Int) - (n : Int)) = ((C * E - n : Nat) : Int) := by rw [w64_id (by omega)]; omega
    rw [br_neg (decide_eq_false hs), e3, e4, e5, e6, e7, e8, e9, e10, chk_pos (by omega), chk_pos (by omega)]

noncomputable def ruleE (d t M : Int) : Int := firstOf [polyErr d t, rangeErr (w64 (d + 1)) 100 2 M]
theorem ruleErr_eq {N : Nat} (d t M : Int) (hN : 1000 < N) : code_ruleErr N d t M = some (ruleE d t M) := by
  unfold code_ruleErr ruleE
  rw [CheckPoly_eq d t (by omega), bnd_val, within_eq, bnd_val, unless_range, bnd_val, first_eq _ (by simp) (by simp; omega), bnd_val]
theorem refRuleErr_eq {N : Nat} (d t M : Int) (hN : 1000 < N) : ref02_RuleErr N d t M = some (ruleE d t M) := by
  unfold ref02_RuleErr ruleE
  rw [refCheckPoly_eq d t (by omega), bnd_val]
  by_cases h : polyErr d t = 0
  · rw [h, bne_self_eq_false, br_false, firstOf_cons0, firstOf_one, Within_eq, bnd_val]
    unfold rangeErr
    by_cases h2 : w64 (d + 1) ≤ M ∧ M ≤ 100
    · rw [dec2 h2, if_pos h2]; rfl
    · rw [dec2f h2, if_neg h2]; rfl
  · rw [br_pos (bne_iff_ne.2 h), firstOf_cons h]
theorem refLengthErr_eq (N : Nat) (n : Int) : ref02_LengthErr N n = some (rangeErr 1 200 2 n) := by
  unfold ref02_LengthErr rangeErr
  rw [Within_eq, bnd_val]
  by_cases h2 : 1 ≤ n ∧ n ≤ 200
  · rw [dec2 h2, if_pos h2]; rfl
  · rw [dec2f h2, if_neg h2]; rfl
structure RuleOK (d t M : Int) (D T m : Nat) : Prop where
  err : ruleE d t M = 0
  poly : PolyOK d t D T
  hM : M = ((D + m : Nat) : Int)
  hm : 1 ≤ m
  hM2 : D + m ≤ 100
theorem ruleOK_of {d t M : Int} (h : ruleE d t M = 0) : ∃ D T m : Nat, RuleOK d t M D T m := by
  have h0 := h
  unfold ruleE at h
  obtain ⟨h1, h2⟩ := firstOf2_zero h
  obtain ⟨D, T, ho⟩ := polyOK_of h1
  have hD := ho.hd
  have hD16 := ho.hi
  have h3 : w64 (d + 1) ≤ M ∧ M ≤ 100 := by
    unfold rangeErr at h2
    by_cases hh : w64 (d + 1) ≤ M ∧ M ≤ 100
    · exact hh
    · rw [if_neg hh] at h2; exact absurd h2 (by decide)
  rw [w64_id (by omega)] at h3
  exact ⟨D, T, (M - d).toNat, h0, ho, by omega, by omega, by omega⟩
end Go.Sh

/-
  Segments of a block, and the block of segments: the program's and the document's.
-/
namespace Go.Sh
open Go.PW

def chunk (E : Nat) (z : List Int) (k : Nat) : List Int := (z.drop (k * E)).take E
def segsL (D T C E : Nat) (z : List Int) : List (List Int) := (List.range C).map fun k => checkedL D T (chunk E z k)
theorem chunk_length {E C : Nat} {z : List Int} (hz : z.length = C * E) {k : Nat} (hk : k < C) : (chunk E z k).length = E := by
  have : (k + 1) * E ≤ C * E := Nat.mul_le_mul_right E hk
  rw [Nat.succ_mul] at this
  unfold chunk
  rw [List.length_take, List.length_drop]; omega
theorem chunk_bits {E : Nat} {z : List Int} (hz : bits z) (k : Nat) : bits (chunk E z k) := fun i hi => by
  unfold chunk at hi ⊢
  rw [List.length_take] at hi
  rw [List.getD_eq_getElem?_getD, List.getElem?_take_of_lt (by omega), List.getElem?_drop, ← List.getD_eq_getElem?_getD]
  exact bits_getD hz _

theorem segs_loop {N D T C E : Nat} (h16 : D ≤ 16) (h1 : 1 ≤ D) (hT : T < 2 ^ D) (z : List Int) (hz : z.length = C * E) (hE : 1 ≤ E) (hE2 : E ≤ 200) (hC : C ≤ 200) (hCE : C * E ≤ 1000) (hN : 1000 < N) (K : List Int × List (List Int) → Option (List (List Int) × Int)) :
    rds (code_Segments.b1 N D T (E : Int) K z) N (0, []) = K (z, segsL D T C E z) := by
  refine rds_spec (fun s : Int × List (List Int) => ∃ k : Nat, k ≤ C ∧ s = (((k * E : Nat) : Int), (List.range k).map fun k => checkedL D T (chunk E z k))) (fun s => z.length - s.1.toNat) (fun _ => K (z, segsL D T C E z)) (fun rec s hI hrec => ?_) N (0, []) ⟨0, Nat.zero_le _, by simp⟩ (by simp; omega)
  obtain ⟨k, hk, rfl⟩ := hI
  show br (decide (((k * E : Nat) : Int) < (z.length : Int))) _ _ = _
  rcases Nat.lt_or_ge k C with h | h
  · have hle : (k + 1) * E ≤ C * E := Nat.mul_le_mul_right E h
    rw [Nat.succ_mul] at hle
    have hlen : ((z.drop (k * E)).take (z.length - k * E)).length = z.length - k * E := by rw [List.length_take, List.length_drop]; omega
    have hmin : (if (((z.drop (k * E)).take (z.length - k * E)).length : Int) < (E : Int) then (((z.drop (k * E)).take (z.length - k * E)).length : Int) else (E : Int)) = (E : Int) := by
      rw [hlen]; split <;> omega
    have e1 : w64 (((k * E : Nat) : Int) + (E : Int)) = ((k * E + E : Nat) : Int) := by rw [w64_id (by omega)]; omega
    simp only [Int.toNat_natCast, hmin, e1]
    rw [br_pos (decide_eq_true (by omega)), chk_pos (by omega), chk_pos (by omega)]
    have hch : (z.drop (k * E)).take (k * E + E - k * E) = chunk E z k := by unfold chunk; rw [Nat.add_sub_cancel_left]
    rw [hch, checked_eq h16 h1 hT _ (by rw [chunk_length hz h]; omega) hN, bnd_val, chk_pos (by simp; omega)]
    show rec _ = _
    refine hrec _ ⟨k + 1, h, ?_⟩ ?_
    · rw [List.range_succ, List.map_append, Nat.succ_mul]; rfl
    · simp only [Int.toNat_natCast]; omega
  · have hkC : k = C := by omega
    subst hkC
    rw [br_neg (decide_eq_false (by omega))]
    rfl

theorem refsegs_loop {N D T C E : Nat} (h16 : D ≤ 16) (h1 : 1 ≤ D) (hT : T < 2 ^ D) (z : List Int) (hzb : bits z) (hz : z.length = C * E) (hE2 : E ≤ 200) (hC : C ≤ 200) (hCE : C * E ≤ 1000) (hN : 1000 < N) (K : List (List Int) → Option (List (List Int))) :
    rds (ref02_Segments.b1 N D T (C : Int) (E : Int) K z) N (0, []) = K (segsL D T C E z) := by
  refine rds_spec (fun s : Int × List (List Int) => ∃ k : Nat, k ≤ C ∧ s = ((k : Int), (List.range k).map fun k => checkedL D T (chunk E z k))) (fun s => C - s.1.toNat) (fun _ => K (segsL D T C E z)) (fun rec s hI hrec => ?_) N (0, []) ⟨0, Nat.zero_le _, by simp⟩ (by simp; omega)
  obtain ⟨k, hk, rfl⟩ := hI
  show br (decide ((k : Int) < (C : Int))) _ _ = _
  rcases Nat.lt_or_ge k C with h | h
  · have hle : (k + 1) * E ≤ C * E := Nat.mul_le_mul_right E h
    have hk1 : (k + 1) * E = k * E + E := Nat.succ_mul k E
    have e0 : w64 ((k : Int) + 1) = ((k + 1 : Nat) : Int) := by rw [w64_id (by omega)]; omega
    have e1 : w64 ((k : Int) * (E : Int)) = ((k * E : Nat) : Int) := by rw [← Int.natCast_mul]; exact w64_id (by omega)
    have e2 : w64 (((k + 1 : Nat) : Int) * (E : Int)) = (((k + 1) * E : Nat) : Int) := by rw [← Int.natCast_mul]; exact w64_id (by omega)
    simp only [e0, e1, e2, Int.toNat_natCast]
    rw [br_pos (decide_eq_true (by omega)), chk_pos (by omega)]
    have hch : (z.drop (k * E)).take ((k + 1) * E - k * E) = chunk E z k := by unfold chunk; rw [hk1, Nat.add_sub_cancel_left]
    rw [hch, refChecked_eq h16 h1 hT _ (by rw [chunk_length hz h]; omega) (chunk_bits hzb k) hN, bnd_val, chk_pos (by simp; omega)]
    refine hrec _ ⟨k + 1, h, ?_⟩ (by simp only [Int.toNat_natCast]; omega)
    rw [List.range_succ, List.map_append]; rfl
  · have hkC : k = C := by omega
    subst hkC
    rw [br_neg (decide_eq_false (by omega))]
    rfl

def joinP (D T E : Nat) : Nat → List (List Int) → List Int → (List Int × Int × Int) ⊕ List Int
  | _, [], acc => .inr acc
  | i, p :: ps, acc =>
    if p.length ≠ E + D then .inl ([], (i : Int), 10)
    else if p.all isBitB = false then .inl ([], (i : Int), 15)
    else if runR D T 0 p ≠ 0 then .inl ([], (i : Int), 21)
    else joinP D T E (i + 1) ps (acc ++ p.take E)
def endP {R : Type} (K : List Int → Option R) (w : List Int × Int × Int → Option R) : (List Int × Int × Int) ⊕ List Int → Option R
  | .inl e => w e
  | .inr l => K l
theorem joinP_length {D T E : Nat} : ∀ (ps : List (List Int)) (i : Nat) (acc l : List Int), joinP D T E i ps acc = .inr l → l.length = acc.length + ps.length * E
  | [], i, acc, l, h => by simp only [joinP, Sum.inr.injEq] at h; subst h; simp
  | p :: ps, i, acc, l, h => by
    simp only [joinP] at h
    split at h
    · cases h
    · rename_i h1
      split at h
      · cases h
      · split at h
        · cases h
        · have := joinP_length ps (i + 1) _ l h
          rw [this, List.length_append, List.length_take, List.length_cons, Nat.succ_mul]
          omega

theorem code_join {N D T E : Nat} (h16 : D ≤ 16) (h1 : 1 ≤ D) (hT : T < 2 ^ D) (hodd : T % 2 = 1) (hE : 1 ≤ E) (hE2 : E ≤ 200) (parts : List (List Int)) (hp : parts.length ≤ 200) (hps : ∀ p ∈ parts, p.length ≤ 400) (hN : 1000 < N) (K : List Int → Option (List Int × Int × Int)) :
    rds (code_Joined.b1 N D T parts (E : Int) K) N (0, []) = endP K some (joinP D T E 0 parts []) := by
  refine rds_spec (fun s : Int × List Int => ∃ k : Nat, k ≤ parts.length ∧ s.1 = k ∧ s.2.length ≤ k * 200) (fun s => parts.length - s.1.toNat) (fun s => endP K some (joinP D T E s.1.toNat (parts.drop s.1.toNat) s.2)) (fun rec s hI hrec => ?_) N (0, []) ⟨0, Nat.zero_le _, rfl, by simp⟩ (by simp; omega)
  obtain ⟨k, hk, hs1, hs2⟩ := hI
  obtain ⟨x, acc⟩ := s
  simp only at hs1 hs2
  subst hs1
  show br (decide ((k : Int) < (parts.length : Int))) _ _ = endP K some (joinP D T E k (parts.drop k) acc)
  rcases Nat.lt_or_ge k parts.length with h | h
  · obtain ⟨p, hpk⟩ : ∃ p, p = parts.getD k default := ⟨_, rfl⟩
    have hpk2 : parts[k] = p := by rw [hpk, List.getD_eq_getElem?_getD, List.getElem?_eq_getElem h]; rfl
    have hpl : p.length ≤ 400 := hps p (by rw [← hpk2]; exact List.getElem_mem h)
    have e1 : w64 ((k : Int) + 1) = ((k + 1 : Nat) : Int) := by rw [w64_id (by omega)]; omega
    have e2 : w64 ((E : Int) + (D : Int)) = ((E + D : Nat) : Int) := by rw [w64_id (by omega)]; omega
    rw [List.drop_eq_getElem_cons h, hpk2, joinP]
    rw [br_pos (decide_eq_true (by omega)), chk_pos (by omega)]
    simp only [Int.toNat_natCast, ← hpk, e1, e2]
    rw [unless_eq, bnd_val, ContainsFunc_eq (N := N) p (fun y0 => code_Joined_1 N y0) (fun x => !isBitB x) (fun x _ => rfl) (by omega) (by omega), bnd_val, unless_eq, bnd_val, first_eq _ (by simp) (by simp; omega), bnd_val]
    have hall : (p.any fun x => !isBitB x) = !(p.all isBitB) := by rw [List.any_eq_not_all_not]; simp
    rw [hall]
    by_cases hl : p.length = E + D
    · rw [if_neg (show ¬ p.length ≠ E + D from fun hh => hh hl), if_pos (show ((p.length : Int) == ((E + D : Nat) : Int)) = true by rw [hl]; simp), firstOf_cons0, firstOf_one]
      cases hb : p.all isBitB with
      | false => rfl
      | true =>
        have hbits := bits_of_all hb
        rw [if_neg (show ¬ (true = false) by decide)]
        simp only [Bool.not_true, Bool.not_false, if_true, bne_self_eq_false, br_false]
        rw [right_eq h16 h1 hT hodd p (by omega) hbits (by omega) hN, bnd_val]
        by_cases hr : runR D T 0 p = 0
        · rw [decide_eq_true hr, if_neg (show ¬ runR D T 0 p ≠ 0 from fun hh => hh hr), br_nt, chk_pos (by omega), chk_pos (by rw [List.length_take]; omega)]
          refine (hrec _ ⟨k + 1, h, rfl, ?_⟩ (by simp only [Int.toNat_natCast]; omega)).trans ?_
          · show (acc ++ p.take E).length ≤ _
            rw [List.length_append, List.length_take]; omega
          · simp only [Int.toNat_natCast]
        · rw [decide_eq_false hr, if_pos hr]; rfl
    · rw [if_pos (show p.length ≠ E + D from hl), if_neg (show ¬ ((p.length : Int) == ((E + D : Nat) : Int)) = true by simp; omega), firstOf_cons (by decide)]
      rfl
  · have hkl : k = parts.length := by omega
    subst hkl
    rw [br_neg (by simp), List.drop_length, joinP]; rfl

theorem ref_join {N D T E C : Nat} (h16 : D ≤ 16) (h1 : 1 ≤ D) (hT : T < 2 ^ D) (hodd : T % 2 = 1) (hE : 1 ≤ E) (hE2 : E ≤ 200) (parts : List (List Int)) (hC : parts.length = C) (hp : parts.length ≤ 200) (hps : ∀ p ∈ parts, p.length ≤ 400) (hN : 1000 < N) (K : List Int → Option (List Int × Int × Int)) :
    rds (ref02_Joined.b1 N D T parts (C : Int) (E : Int) K) N (0, []) = endP K some (joinP D T E 0 parts []) := by
  refine rds_spec (fun s : Int × List Int => ∃ k : Nat, k ≤ parts.length ∧ s.1 = k ∧ s.2.length ≤ k * 200) (fun s => parts.length - s.1.toNat) (fun s => endP K some (joinP D T E s.1.toNat (parts.drop s.1.toNat) s.2)) (fun rec s hI hrec => ?_) N (0, []) ⟨0, Nat.zero_le _, rfl, by simp⟩ (by simp; omega)
  obtain ⟨k, hk, hs1, hs2⟩ := hI
  obtain ⟨x, acc⟩ := s
  simp only at hs1 hs2
  subst hs1
  show br (decide ((k : Int) < (C : Int))) _ _ = endP K some (joinP D T E k (parts.drop k) acc)
  rcases Nat.lt_or_ge k parts.length with h | h
  · obtain ⟨p, hpk⟩ : ∃ p, p = parts.getD k default := ⟨_, rfl⟩
    have hpk2 : parts[k] = p := by rw [hpk, List.getD_eq_getElem?_getD, List.getElem?_eq_getElem h]; rfl
    have hpl : p.length ≤ 400 := hps p (by rw [← hpk2]; exact List.getElem_mem h)
    have e1 : w64 ((k : Int) + 1) = ((k + 1 : Nat) : Int) := by rw [w64_id (by omega)]; omega
    have e2 : w64 ((E : Int) + (D : Int)) = ((E + D : Nat) : Int) := by rw [w64_id (by omega)]; omega
    rw [List.drop_eq_getElem_cons h, hpk2, joinP]
    rw [br_pos (decide_eq_true (by omega)), chk_pos (by omega)]
    simp only [Int.toNat_natCast, ← hpk, e1, e2]
    by_cases hl : p.length = E + D
    · rw [if_neg (show ¬ p.length ≠ E + D from fun hh => hh hl), br_neg (by rw [hl]; simp), chk_pos (by omega)]
      unfold ref02_kindErr
      rw [AreBits_eq p (by omega) (by omega), bnd_val]
      cases hb : p.all isBitB with
      | false => rfl
      | true =>
        have hbits := bits_of_all hb
        rw [if_neg (show ¬ (true = false) by decide)]
        simp only [Bool.not_true, br_false, bnd_val, bne_self_eq_false]
        rw [chk_pos (by omega), refIsRight_eq h16 h1 hT hodd p (by omega) hbits (by omega) hN, bnd_val]
        by_cases hr : runR D T 0 p = 0
        · rw [decide_eq_true hr, if_neg (show ¬ runR D T 0 p ≠ 0 from fun hh => hh hr), br_nt, chk_pos (by omega), chk_pos (by omega), chk_pos (by rw [List.length_take]; omega)]
          refine (hrec _ ⟨k + 1, h, rfl, ?_⟩ (by simp only [Int.toNat_natCast]; omega)).trans ?_
          · show (acc ++ p.take E).length ≤ _
            rw [List.length_append, List.length_take]; omega
          · simp only [Int.toNat_natCast]
        · rw [decide_eq_false hr, if_pos hr]; rfl
    · rw [if_pos (show p.length ≠ E + D from hl), br_pos (bne_iff_ne.2 (by omega))]
      rfl
  · have hkl : k = parts.length := by omega
    subst hkl
    rw [br_neg (by rw [hC]; simp), List.drop_length, joinP]; rfl
end Go.Sh

/-
  Segments and joining, as the exported functions tell them.
-/
namespace Go.Sh
open Go.PW

def idxF : List Int → Int → Nat → Int
  | [], _, _ => -1
  | y :: l, v, k => if (v == y) = true then (k : Int) else idxF l v (k + 1)
theorem idxF_any (v : Int) : ∀ (l : List Int) (k : Nat), decide (idxF l v k ≥ 0) = l.any (fun y => v == y)
  | [], _ => by simp [idxF]
  | y :: l, k => by
    rw [idxF, List.any_cons]
    cases h : (v == y) with
    | true => simp
    | false => rw [if_neg (by simp), Bool.false_or]; exact idxF_any v l (k + 1)
theorem Contains_eq {N : Nat} (l : List Int) (v : Int) (hl : l.length < 4611686018427387904) (hN : l.length < N) : slices_Contains_ii N l v = some (l.any fun y => v == y) := by
  unfold slices_Contains_ii slices_Index_ii
  have H : rds (slices_Index_ii.b1 N l v fun _ => some (-1)) N 0 = some (idxF l v 0) := by
    refine (rds_up1 l.length _ (fun k => some (idxF (l.drop k) v k)) (fun k rec hk hr => ?_) (fun rec => ?_) hN).trans (by simp)
    · show br (decide ((k : Int) < (l.length : Int))) _ _ = _
      have e1 : w64 ((k : Int) + 1) = ((k + 1 : Nat) : Int) := by rw [w64_id (by omega)]; omega
      rw [br_pos (decide_eq_true (by omega)), chk_pos (by omega), Int.toNat_natCast, e1, hr, List.drop_eq_getElem_cons hk, idxF, getD_eq hk]
      cases (v == l[k]) <;> simp
    · show br (decide ((l.length : Int) < (l.length : Int))) _ _ = _
      rw [br_neg (by simp), List.drop_length]; rfl
  rw [jn, H, bnd_val, idxF_any]

def joinedR (D T C E F : Nat) (parts : List (List Int)) : List Int × Int × Int :=
  if parts.length ≠ C then ([], 0, 10) else
  match joinP D T E 0 parts [] with
  | .inl e => e
  | .inr l => if ((l.take F).any fun y => (1 : Int) == y) = true then ([], 0, 3) else (l.drop F, 0, 0)
theorem joinedR_length {D T C E F : Nat} (parts : List (List Int)) (hCE : C * E ≤ 1000) : (joinedR D T C E F parts).1.length ≤ 1000 := by
  unfold joinedR
  split
  · simp
  · rename_i h
    split
    · rename_i e he
      -- a wrong one: no bits
      have : ∀ (ps : List (List Int)) (i : Nat) (acc : List Int) e, joinP D T E i ps acc = .inl e → e.1 = [] := by
        intro ps
        induction ps with
        | nil => intro i acc e h; simp [joinP] at h
        | cons p ps ih =>
          intro i acc e h
          simp only [joinP] at h
          split at h
          · cases h; rfl
          · split at h
            · cases h; rfl
            · split at h
              · cases h; rfl
              · exact ih _ _ _ h
      rw [this _ _ _ _ he]; simp
    · rename_i l hl
      have := joinP_length _ _ _ _ hl
      have hp : parts.length = C := by omega
      rw [hp] at this
      split
      · simp
      · rw [List.length_drop]
        simp only [List.length_nil, Nat.zero_add] at this
        omega

theorem Joined_err {N : Nat} (d t M : Int) (parts : List (List Int)) (n : Int) (h : firstOf [ruleE d t M, rangeErr 1 200 2 n] ≠ 0) (hN : 1000 < N) :
    code_Joined N d t M parts n = some ([], 0, firstOf [ruleE d t M, rangeErr 1 200 2 n]) := by
  unfold code_Joined code_isLength
  rw [ruleErr_eq d t M hN, bnd_val, within_eq, bnd_val, bnd_val, unless_range, bnd_val, first_eq _ (by simp) (by simp; omega), bnd_val, br_pos (bne_iff_ne.2 h)]

theorem Joined_ok {N : Nat} {d t M : Int} {D T m n C E : Nat} (ho : RuleOK d t M D T m) (hc : CutOK m n C E) (hn : 1 ≤ n) (hn2 : n ≤ 200) (parts : List (List Int)) (hps : ∀ p ∈ parts, p.length ≤ 400) (hpl : parts.length ≤ 200) (hN : 1000 < N) :
    code_Joined N d t M parts n = some (joinedR D T C E (C * E - n) parts) ∧ ref02_Joined N d t M parts n = some (joinedR D T C E (C * E - n) parts) := by
  have hop := ho.poly
  have hD := hop.hd
  have hD16 := hop.hi
  have hD1 := hop.lo
  have hM := ho.hM
  have hM2 := ho.hM2
  have hm := ho.hm
  have hMd : M - d = (m : Int) := by omega
  have c1 := hc.c1
  have c2 := hc.c2
  have e1 := hc.e1
  have e2 := hc.e2
  have lo := hc.lo
  have hi := hc.hi
  have hw : w64 (M - d) = (m : Int) := by rw [hMd]; exact w64_id (by omega)
  have hF : w64 (w64 ((C : Int) * (E : Int)) - (n : Int)) = ((C * E - n : Nat) : Int) := by
    rw [← Int.natCast_mul, w64_id (n := ((C * E : Nat) : Int)) (by omega), w64_id (by omega)]; omega
  refine ⟨?_, ?_⟩
  · unfold code_Joined code_isLength
    have hz : firstOf [ruleE d t M, rangeErr 1 200 2 (n : Int)] = 0 := by
      rw [ho.err, firstOf_cons0, firstOf_one]; unfold rangeErr; rw [if_pos (by omega)]
    rw [ruleErr_eq d t M hN, bnd_val, within_eq, bnd_val, bnd_val, unless_range, bnd_val, first_eq _ (by simp) (by simp; omega), bnd_val, hz, br_neg (by rfl), cutOf_eq hc (by omega) (by omega) hMd hm (by omega) hn hn2, bnd_val]
    unfold joinedR
    by_cases hp : parts.length = C
    · rw [if_neg (show ¬ parts.length ≠ C from fun h => h hp)]
      show br ((parts.length : Int) != (C : Int)) _ _ = _
      rw [br_neg (by rw [hp]; simp), jn, hD, hop.ht, code_join hD16 hD1 hop.lt hop.odd e1 (by omega) parts hpl hps hN]
      cases hj : joinP D T E 0 parts [] with
      | inl e => rfl
      | inr l =>
        have hl := joinP_length _ _ _ _ hj
        rw [hp, List.length_nil, Nat.zero_add] at hl
        show chk _ _ = _
        rw [chk_pos (by omega), Int.toNat_natCast, List.drop_zero, Contains_eq _ _ (by rw [List.length_take]; omega) (by rw [List.length_take]; omega), bnd_val]
        cases ha : ((l.take (C * E - n)).any fun y => (1 : Int) == y) with
        | true => simp [ha]
        | false => rw [br_false, chk_pos (by omega), List.take_of_length_le (by rw [List.length_drop]; omega)]; simp [ha]
    · rw [if_pos (show parts.length ≠ C from hp)]
      show br ((parts.length : Int) != (C : Int)) _ _ = _
      rw [br_pos (bne_iff_ne.2 (by omega))]
  · unfold ref02_Joined
    rw [refCut_eq hc hw hm (by omega) hn2, bnd_val]
    unfold joinedR
    by_cases hp : parts.length = C
    · rw [if_neg (show ¬ parts.length ≠ C from fun h => h hp)]
      show br ((parts.length : Int) != (C : Int)) _ _ = _
      rw [br_neg (by rw [hp]; simp), jn, hD, hop.ht, ref_join hD16 hD1 hop.lt hop.odd e1 (by omega) parts hp hpl hps hN]
      cases hj : joinP D T E 0 parts [] with
      | inl e => rfl
      | inr l =>
        have hl := joinP_length _ _ _ _ hj
        rw [hp, List.length_nil, Nat.zero_add] at hl
        show jn _ _ = _
        rw [jn]
        refine (rds_up1 (C * E - n) _ (fun k => if (((l.take (C * E - n)).drop k).any fun y => (1 : Int) == y) = true then some ([], 0, 3) else some (l.drop (C * E - n), 0, 0)) (fun k rec hk hr => ?_) (fun rec => ?_) (by omega)).trans ?_
        · show br (decide ((k : Int) < w64 (w64 ((C : Int) * (E : Int)) - (n : Int)))) _ _ = _
          have e3 : w64 ((k : Int) + 1) = ((k + 1 : Nat) : Int) := by rw [w64_id (by omega)]; omega
          have hkl : k < (l.take (C * E - n)).length := by rw [List.length_take]; omega
          rw [hF, br_pos (decide_eq_true (by omega)), chk_pos (by omega), Int.toNat_natCast, e3, hr, List.drop_eq_getElem_cons hkl, List.any_cons]
          have hg : l.getD k 0 = (l.take (C * E - n))[k] := by rw [getD_eq (show k < l.length by omega)]; simp
          rw [hg]
          cases hx : ((l.take (C * E - n))[k] == (1 : Int)) with
          | true => rw [beq_iff_eq] at hx; rw [hx]; simp
          | false =>
            have : ((1 : Int) == (l.take (C * E - n))[k]) = false := by rw [beq_eq_false_iff_ne] at hx ⊢; exact fun h => hx h.symm
            rw [this, Bool.false_or, br_false]
        · show br (decide (((C * E - n : Nat) : Int) < w64 (w64 ((C : Int) * (E : Int)) - (n : Int)))) _ _ = _
          rw [hF, br_neg (by simp)]
          show chk _ _ = _
          have hd : (l.take (C * E - n)).drop (C * E - n) = [] := List.drop_of_length_le (by rw [List.length_take]; omega)
          rw [chk_pos (by omega), Int.toNat_natCast, hd, List.take_of_length_le (by rw [List.length_drop]; omega)]; rfl
        · rw [List.drop_zero]
          cases ha : ((l.take (C * E - n)).any fun y => (1 : Int) == y) <;> simp [ha]
    · rw [if_pos (show parts.length ≠ C from hp)]
      show br ((parts.length : Int) != (C : Int)) _ _ = _
      rw [br_pos (bne_iff_ne.2 (by omega))]
end Go.Sh

/-
  The law 'CodeSegments': its shallow function tells true.
-/
namespace Go.Sh
open Go.PW

theorem run_checked {D T : Nat} (h1 : 1 ≤ D) (hodd : T % 2 = 1) (hT : T < 2 ^ D) (l : List Int) : runR D T 0 (checkedL D T l) = 0 := by
  unfold checkedL
  rw [runR_append]
  have hlt := runR_lt hT 0 l (Nat.two_pow_pos D)
  exact (run_zero_iff h1 hodd hT _ (regL_length _ _) _ hlt).2 (valB_regL _ _ hlt).symm

theorem Lists_eq {N : Nat} (a : List (List Int)) (ha : a.length ≤ 1000) (hs : ∀ p ∈ a, p.length ≤ 1000) (hN : 1000 < N) : base_Lists N a a = some true := by
  unfold base_Lists
  rw [bne_self_eq_false, br_false, jn]
  refine (rds_up1 a.length _ (fun _ => some true) (fun k rec hk hr => ?_) (fun rec => ?_) (by omega)).trans rfl
  · show br (decide ((k : Int) < (a.length : Int))) _ _ = _
    have e1 : w64 ((k : Int) + 1) = ((k + 1 : Nat) : Int) := by rw [w64_id (by omega)]; omega
    have hm : (a.getD k default).length ≤ 1000 := by
      rw [List.getD_eq_getElem?_getD, List.getElem?_eq_getElem hk]; exact hs _ (List.getElem_mem hk)
    rw [br_pos (decide_eq_true (by omega)), chk_pos (by omega), chk_pos (by omega), Int.toNat_natCast, Ints_eq _ _ (by omega) (by omega), bnd_val, decide_eq_true rfl, br_nt, e1, hr]
  · show br (decide ((a.length : Int) < (a.length : Int))) _ _ = _
    rw [br_neg (by simp)]

theorem Segments_err {N : Nat} (d t M : Int) (l : List Int) (hl : l.length ≤ 202) (h : firstOf [ruleE d t M, listErr 200 isBitB 15 l] ≠ 0) (hN : 1000 < N) :
    code_Segments N d t M l = some ([], firstOf [ruleE d t M, listErr 200 isBitB 15 l]) := by
  unfold code_Segments
  rw [ruleErr_eq d t M hN, bnd_val, bitsErr_eq l (by omega) (by omega) (by omega), bnd_val, first_eq _ (by simp) (by simp; omega), bnd_val, br_pos (bne_iff_ne.2 h)]

theorem Segments_ok {N : Nat} {d t M : Int} {D T m C E : Nat} (ho : RuleOK d t M D T m) (l : List Int) (hc : CutOK m l.length C E) (hb : listErr 200 isBitB 15 l = 0) (hN : 1000 < N) :
    code_Segments N d t M l = some (segsL D T C E (List.replicate (C * E - l.length) 0 ++ l), 0) ∧ ref02_Segments N d t M l = some (segsL D T C E (List.replicate (C * E - l.length) 0 ++ l)) := by
  obtain ⟨hl0, hl1, hall⟩ := listErr_zero (by decide) hb
  have hbits := bits_of_all hall
  have hop := ho.poly
  have hD := hop.hd
  have hD16 := hop.hi
  have hD1 := hop.lo
  have hM := ho.hM
  have hM2 := ho.hM2
  have hm := ho.hm
  have hMd : M - d = (m : Int) := by omega
  have c1 := hc.c1
  have c2 := hc.c2
  have e1 := hc.e1
  have e2 := hc.e2
  have lo := hc.lo
  have hi := hc.hi
  have hw : w64 (M - d) = (m : Int) := by rw [hMd]; exact w64_id (by omega)
  have hF : w64 (w64 ((C : Int) * (E : Int)) - (l.length : Int)) = ((C * E - l.length : Nat) : Int) := by
    rw [← Int.natCast_mul, w64_id (n := ((C * E : Nat) : Int)) (by omega), w64_id (by omega)]; omega
  have hz : (List.replicate (C * E - l.length) (0 : Int) ++ l).length = C * E := by rw [List.length_append, List.length_replicate]; omega
  have hzb : bits (List.replicate (C * E - l.length) (0 : Int) ++ l) := by rw [bits_append]; exact ⟨fun i hi => by simp at hi; simp [hi], hbits⟩
  refine ⟨?_, ?_⟩
  · unfold code_Segments
    rw [ruleErr_eq d t M hN, bnd_val, bitsErr_eq l (by omega) (by omega) (by omega), bnd_val, ho.err, hb, first_eq _ (by simp) (by simp; omega), bnd_val, br_neg (by rfl), cutOf_eq hc (by omega) (by omega) hMd hm (by omega) (by omega) (by omega), bnd_val]
    show chk _ _ = _
    rw [chk_pos (by omega), Int.toNat_natCast, chk_pos (by rw [List.length_replicate]; omega), jn, br_neg (decide_eq_false (by omega)), bnd_val, hD, hop.ht, segs_loop hD16 hD1 hop.lt _ hz e1 (by omega) (by omega) (by omega) hN]
  · unfold ref02_Segments
    rw [refCut_eq hc hw hm (by omega) (by omega), bnd_val]
    show chk _ _ = _
    rw [hF, chk_pos (by omega), Int.toNat_natCast, chk_pos (by rw [List.length_replicate]; omega), jn, bnd_val, hD, hop.ht, refsegs_loop hD16 hD1 hop.lt _ hzb hz (by omega) (by omega) (by omega) hN]

theorem segsL_mem {D T C E : Nat} {z p : List Int} (hp : p ∈ segsL D T C E z) : ∃ k, k < C ∧ p = checkedL D T (chunk E z k) := by
  unfold segsL at hp
  obtain ⟨k, hk, rfl⟩ := List.mem_map.1 hp
  exact ⟨k, List.mem_range.1 hk, rfl⟩

theorem joinP_good {D T E : Nat} : ∀ (ps : List (List Int)) (i : Nat) (acc : List Int), (∀ p ∈ ps, p.length = E + D ∧ bits p ∧ runR D T 0 p = 0) → joinP D T E i ps acc = .inr (acc ++ (ps.map fun p => p.take E).flatten)
  | [], i, acc, _ => by simp [joinP]
  | p :: ps, i, acc, h => by
    obtain ⟨h1, h2, h3⟩ := h p List.mem_cons_self
    rw [joinP, if_neg (show ¬ p.length ≠ E + D from fun hh => hh h1), if_neg (show ¬ (p.all isBitB = false) by rw [all_of_bits h2]; decide), if_neg (show ¬ runR D T 0 p ≠ 0 from fun hh => hh h3), joinP_good ps (i + 1) _ (fun q hq => h q (List.mem_cons_of_mem _ hq)), List.map_cons, List.flatten_cons, List.append_assoc]

theorem chunks_flat (E : Nat) (z : List Int) : ∀ C, ((List.range C).map (chunk E z)).flatten = z.take (C * E)
  | 0 => by simp
  | C + 1 => by rw [List.range_succ, List.map_append, List.flatten_append, chunks_flat E z C, Nat.succ_mul, List.take_add]; simp [chunk]

theorem join_segs {D T C E : Nat} (h1 : 1 ≤ D) (hodd : T % 2 = 1) (hT : T < 2 ^ D) (z : List Int) (hzb : bits z) (hz : z.length = C * E) : joinP D T E 0 (segsL D T C E z) [] = .inr z := by
  rw [joinP_good _ _ _ fun p hp => ?_]
  · have : ((segsL D T C E z).map fun p => p.take E) = (List.range C).map (chunk E z) := by
      unfold segsL
      rw [List.map_map]
      refine List.map_congr_left fun k hk => ?_
      have hl := chunk_length hz (List.mem_range.1 hk)
      show (checkedL D T (chunk E z k)).take E = _
      unfold checkedL
      rw [List.take_left' hl]
    rw [this, chunks_flat, ← hz, List.take_length, List.nil_append]
  · obtain ⟨k, hk, rfl⟩ := segsL_mem hp
    exact ⟨by rw [checkedL_length, chunk_length hz hk], checkedL_bits (chunk_bits hzb k), run_checked h1 hodd hT _⟩

theorem segs_rounds {N : Nat} (M : Int) (s : List (List Int)) (L : Nat) (hs : ∀ p ∈ s, p.length = L) (hM : (L : Int) ≤ M) (hl : s.length ≤ 1000) (hN : 1000 < N) (K : Unit → Option Bool) : rds (law02_CodeSegments.b2 N M s K) N 0 = K () := by
  refine (rds_up1 s.length _ (fun _ => K ()) (fun k rec hk hr => ?_) (fun rec => ?_) (by omega)).trans rfl
  · show br (decide ((k : Int) < (s.length : Int))) _ _ = _
    have e1 : w64 ((k : Int) + 1) = ((k + 1 : Nat) : Int) := by rw [w64_id (by omega)]; omega
    have hg : ∀ j, j < s.length → (s.getD j default).length = L := fun j hj => by
      rw [List.getD_eq_getElem?_getD, List.getElem?_eq_getElem hj]; exact hs _ (List.getElem_mem hj)
    rw [br_pos (decide_eq_true (by omega)), chk_pos (by omega), chk_pos (by omega), chk_pos (by intro _; omega), Int.toNat_natCast, hg k hk, hg 0 (by omega), bne_self_eq_false, Bool.false_or, br_neg (decide_eq_false (by omega)), e1, hr]
  · show br (decide ((s.length : Int) < (s.length : Int))) _ _ = _
    rw [br_neg (by simp)]

theorem jn_eq3 {R : Type} (K : Int × List Int × Int → Option R) (d : Int) (B : Option (List Int × Int × Int)) : jn (τ := Int × List Int × Int) K (fun K_2 => br (d == 0) (bnd B fun x => match x with | (a, b, c) => K_2 (c, a, b)) (K_2 (d, [], 0))) = if d = 0 then bnd B fun x => K (x.2.2, x.1, x.2.1) else K (d, [], 0) := by
  by_cases h : d = 0
  · subst h; rfl
  · rw [if_neg h, jn, br_neg (by rw [beq_eq_false_iff_ne]; exact h)]
end Go.Sh

/-
  SO FAR APART: the law's shallow function tells true.
-/
namespace Go.Sh
open Go.PW

end Go.Sh

/-
  SO FAR APART: the law's shallow function tells true.
-/
namespace Go.Sh
open Go.PW

end Go.Sh

/-
  Parity-check codes: what the shallow functions come to.
-/
namespace Go.Sh
open Go.PW

theorem getD_mem {α : Type} {l : List α} {k : Nat} {d : α} (h : k < l.length) : l.getD k d ∈ l := by
  simp [List.getD_eq_getElem?_getD, h]
end Go.Sh

/-
  Parity-check codes: the rows that fail, the word of bits, flipping.
-/
namespace Go.Sh
open Go.PW

end Go.Sh

/-
  Parity-check codes: the exported functions.
-/
namespace Go.Sh
open Go.PW

theorem CopyLists_eq {N : Nat} (l : List (List Int)) (hl : l.length ≤ 1000000) (hs : ∀ r ∈ l, r.length ≤ 1000000) (hN : l.length < N) : base_CopyLists N l = some l := by
  unfold base_CopyLists jn
  refine (rds_map l.length (fun k => l.getD k default) _ some (fun k acc rec hk hac => ?_) (fun acc rec _ => ?_) hN).trans ?_
  · show br (decide ((k : Int) < (l.length : Int))) _ _ = _
    rw [br_pos (by simpa using hk), chk_pos (by omega), Int.toNat_natCast, CopyInts_eq _ _ (by have := hs _ (getD_mem (d := default) hk); omega), bnd_val, chk_pos (by simp; omega), w64_succ (by omega)]
  · show br (decide ((l.length : Int) < (l.length : Int))) _ _ = _
    rw [br_neg (by simp)]
  · congr 1
    refine List.ext_getElem (by simp) fun j h1 h2 => ?_
    simp [List.getD_eq_getElem?_getD, h2]
end Go.Sh

/-
  The law 'CodeSegments', the end.
-/
namespace Go.Sh
open Go.PW

theorem joined_both {N : Nat} (d t M : Int) (parts : List (List Int)) (n : Int) (hp : parts.length ≤ 10) (hps : ∀ p ∈ parts, p.length ≤ 110) (hN : 1000 < N) : ∃ (w : List Int) (num e : Int), code_Joined N d t M parts n = some (w, num, e) ∧ w.length ≤ 1000 ∧
    (if firstOf [ruleE d t M, rangeErr 1 200 2 n] = 0 then ref02_Joined N d t M parts n else some ([], 0, firstOf [ruleE d t M, rangeErr 1 200 2 n])) = some (w, num, e) := by
  by_cases hE : firstOf [ruleE d t M, rangeErr 1 200 2 n] = 0
  · obtain ⟨hr, hn⟩ := firstOf2_zero hE
    obtain ⟨D, T, m, ho⟩ := ruleOK_of hr
    have hn' : 1 ≤ n ∧ n ≤ 200 := by
      unfold rangeErr at hn
      by_cases hh : 1 ≤ n ∧ n ≤ 200
      · exact hh
      · rw [if_neg hh] at hn; exact absurd hn (by decide)
    obtain ⟨k, rfl⟩ : ∃ k : Nat, n = k := ⟨n.toNat, by omega⟩
    obtain ⟨C, E, hc⟩ := cut_ok (m := m) (n := k) ho.hm (by omega)
    have hi := hc.hi
    have c2 := hc.c2
    obtain ⟨hj1, hj2⟩ := Joined_ok ho hc (by omega) (by omega) parts (fun p hp => by have := hps p hp; omega) (by omega) hN
    have hjl := joinedR_length (D := D) (T := T) (F := C * E - k) parts (show C * E ≤ 1000 by omega)
    exact ⟨_, _, _, hj1, hjl, by rw [if_pos hE]; exact hj2⟩
  · exact ⟨_, _, _, Joined_err d t M parts n hE hN, by simp, by rw [if_neg hE]⟩

theorem jn_both {R : Type} (K : Int × List Int × Int → Option R) (d : Int) (B : Option (List Int × Int × Int)) {w : List Int} {num e : Int} (h : (if d = 0 then B else some ([], 0, d)) = some (w, num, e)) :
    jn (τ := Int × List Int × Int) K (fun K_2 => br (d == 0) (bnd B fun x => match x with | (a, b, c) => K_2 (c, a, b)) (K_2 (d, [], 0))) = K (e, w, num) := by
  rw [jn_eq3]
  by_cases hd : d = 0
  · rw [if_pos hd] at h ⊢; rw [h]; rfl
  · rw [if_neg hd] at h ⊢
    simp only [Option.some.injEq, Prod.mk.injEq] at h
    obtain ⟨rfl, rfl, rfl⟩ := h
    rfl

theorem segs_b1 {N : Nat} (parts : List (List Int)) (hp : parts.length ≤ 10) (hN : 1000 < N) (K : Unit → Option Bool) : rds (law02_CodeSegments.b1 N parts K) N 0 = if (parts.any fun p => decide ((p.length : Int) > 110)) = true then some true else K () := by
  refine rds_scan parts default (fun p => decide ((p.length : Int) > 110)) (some true) (K ()) _ (fun k rec hk => ?_) (fun rec => ?_) (by omega)
  · show br (decide ((k : Int) < (parts.length : Int))) _ _ = _
    have e1 : w64 ((k : Int) + 1) = ((k + 1 : Nat) : Int) := by rw [w64_id (by omega)]; omega
    rw [br_pos (decide_eq_true (by omega)), chk_pos (by omega), Int.toNat_natCast, e1]; rfl
  · show br (decide ((parts.length : Int) < (parts.length : Int))) _ _ = _
    rw [br_neg (by simp)]

theorem law_CodeSegments {N : Nat} (d t M : Int) (l : List Int) (parts : List (List Int)) (n : Int) (hN : 2000 < N) : law02_CodeSegments N d t M l parts n = some true := by
  unfold law02_CodeSegments
  rw [awake_eq (by omega), bnd_val, br_nt, few200, bnd_val]
  by_cases hf : (l.length : Int) ≤ 40 ∨ 200 < (l.length : Int) ∧ (l.length : Int) ≤ 202
  case neg => rw [decide_eq_false hf]; rfl
  have hl : l.length ≤ 202 := by omega
  rw [decide_eq_true hf]
  by_cases hp : (parts.length : Int) > 10
  case pos => rw [decide_eq_true hp]; rfl
  rw [decide_eq_false hp]
  rw [br_neg (by rfl), jn]
  rw [segs_b1 parts (by omega) (by omega)]
  by_cases hbig : (parts.any fun p => decide ((p.length : Int) > 110)) = true
  · rw [if_pos hbig]
  · have hps : ∀ p ∈ parts, p.length ≤ 110 := fun p hp => by
      have h1 : ¬ (p.length : Int) > 110 := fun hh => hbig (List.any_eq_true.2 ⟨p, hp, decide_eq_true hh⟩)
      omega
    rw [if_neg hbig]
    · skip
      show bnd (base_CopyLists N parts) _ = _
      rw [CopyLists_eq parts (by omega) (fun p hp => by have := hps p hp; omega) (by omega), bnd_val]
      obtain ⟨w, num, e, hj1, hwl, hj2⟩ := joined_both (N := N) d t M parts n (by omega) hps (by omega)
      rw [hj1, bnd_val]
      show bnd (ref02_RuleErr N d t M) _ = _
      rw [refRuleErr_eq d t M (by omega), bnd_val, jn_eq0 _ _ (refLengthErr_eq N n)]
      show jn _ _ = _
      rw [jn_both _ _ _ hj2]
      show bnd (grd (!((e != e) || (num != num))) false (base_Ints N w w)) _ = _
      rw [bne_self_eq_false, bne_self_eq_false, Bool.or_self, Bool.not_false, grd_true, Ints_eq _ _ (by omega) (by omega), bnd_val, decide_eq_true rfl, br_neg (by rfl)]
      rw [CopyInts_eq _ l (by omega), bnd_val]
      by_cases hE : firstOf [ruleE d t M, listErr 200 isBitB 15 l] = 0
      · obtain ⟨hr, hb⟩ := firstOf2_zero hE
        obtain ⟨D, T, m, ho⟩ := ruleOK_of hr
        obtain ⟨hl0, hl1, hall⟩ := listErr_zero (by decide) hb
        have hbits := bits_of_all hall
        obtain ⟨C, E, hc⟩ := cut_ok (m := m) (n := l.length) ho.hm (by omega)
        obtain ⟨hs1, hs2⟩ := Segments_ok ho l hc hb (show 1000 < N by omega)
        have c1 := hc.c1
        have c2 := hc.c2
        have e2 := hc.e2
        have lo := hc.lo
        have hi := hc.hi
        have hM := ho.hM
        have hM2 := ho.hM2
        have hop := ho.poly
        obtain ⟨z, hz⟩ : ∃ z, z = List.replicate (C * E - l.length) (0 : Int) ++ l := ⟨_, rfl⟩
        have hzl : z.length = C * E := by rw [hz, List.length_append, List.length_replicate]; omega
        have hzb : bits z := by rw [hz, bits_append]; exact ⟨fun i hi => by simp at hi; simp [hi], hbits⟩
        rw [← hz] at hs1 hs2
        have hsl : (segsL D T C E z).length = C := by simp [segsL]
        have hsp : ∀ p ∈ segsL D T C E z, p.length = E + D := fun p hp => by
          obtain ⟨k, hk, rfl⟩ := segsL_mem hp
          rw [checkedL_length, chunk_length hzl hk]
        rw [hs1, bnd_val]
        show bnd (some (ruleE d t M)) _ = _
        rw [bnd_val, jn_eq0 _ _ (refBitsErr_eq l (by omega) (by omega)), hE]
        show br _ _ _ = _
        rw [bne_self_eq_false, br_false, Bool.not_false, grd_true, hs2, bnd_val, grd_true, Lists_eq _ (by omega) (fun p hp => by rw [hsp p hp]; omega) (by omega), bnd_val, br_neg (by rfl), jn, segs_rounds M _ (E + D) hsp (by omega) (by omega) (by omega), CopyLists_eq _ (by omega) (fun p hp => by rw [hsp p hp]; omega) (by omega), bnd_val]
        rw [(Joined_ok ho hc (by omega) (by omega) _ (fun p hp => by rw [hsp p hp]; omega) (by omega) (show 1000 < N by omega)).1, bnd_val]
        have hj : joinedR D T C E (C * E - l.length) (segsL D T C E z) = (l, 0, 0) := by
          unfold joinedR
          rw [if_neg (show ¬ (segsL D T C E z).length ≠ C from fun h => h hsl), join_segs hop.lo hop.odd hop.lt z hzb hzl]
          have h1 : z.take (C * E - l.length) = List.replicate (C * E - l.length) (0 : Int) := by rw [hz]; exact List.take_left' (by simp)
          have h2 : z.drop (C * E - l.length) = l := by rw [hz]; exact List.drop_left' (by simp)
          have h3 : ((List.replicate (C * E - l.length) (0 : Int)).any fun y => (1 : Int) == y) = false := by
            rw [List.any_eq_false]
            intro y hy
            rw [List.eq_of_mem_replicate hy]; decide
          simp only [h1, h2, h3]; rfl
        rw [hj]
        show bnd (grd ((0 : Int) == 0 && (0 : Int) == 0) false (base_Ints N l l)) _ = _
        rw [beq_self_eq_true, Bool.and_self, grd_true, Ints_eq _ _ (by omega) (by omega), bnd_val, decide_eq_true rfl]; rfl
      · rw [Segments_err d t M l hl hE (by omega), bnd_val]
        show bnd (some (ruleE d t M)) _ = _
        rw [bnd_val, jn_eq0 _ _ (refBitsErr_eq l (by omega) (by omega))]
        show br _ _ _ = _
        rw [br_pos (bne_iff_ne.2 hE), beq_self_eq_true]; rfl

end Go.Sh
