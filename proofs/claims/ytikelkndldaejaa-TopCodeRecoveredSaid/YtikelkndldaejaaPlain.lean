/-
  Plain words: loops that count up. For every program.
-/
import Derived.Test.YtikelkndldaejaaPlA
import Derived.Test.YtikelkndldaejaaCsS
set_option linter.all false
namespace Go.PW
theorem w64_nat {n : Nat} (h : n < 4611686018427387904) : w64 (n : Int) = n := w64_id (by omega)
theorem w64_succ {k : Nat} (h : k < 4611686018427387904) : w64 ((k : Int) + 1) = ((k + 1 : Nat) : Int) := by rw [w64_id (by omega)]; rfl

theorem rds_up1 {R : Type} (len : Nat) (b : (Int → Option R) → Int → Option R) (F : Nat → Option R)
    (hstep : ∀ k rec, k < len → rec ((k + 1 : Nat) : Int) = F (k + 1) → b rec (k : Int) = F k) (hend : ∀ rec, b rec (len : Int) = F len)
    {N : Nat} (hN : len < N) : rds b N 0 = F 0 := by
  have h := rds_spec (b := b) (fun x => ∃ k : Nat, k ≤ len ∧ x = k) (fun x => len - x.toNat) (fun x => F x.toNat) (fun rec x hI hrec => ?_) N 0 ⟨0, Nat.zero_le _, rfl⟩ (by simp; omega)
  · simpa using h
  · obtain ⟨k, hk, hx⟩ := hI
    subst hx
    by_cases hkl : k < len
    · rw [hstep k rec hkl ?_]
      · simp
      · have := hrec ((k + 1 : Nat) : Int) ⟨k + 1, hkl, rfl⟩ (by simp only [Int.toNat_natCast]; omega)
        simpa using this
    · have : k = len := by omega
      subst this
      rw [hend rec]; simp
end Go.PW

/-
  What the shallow functions of the code chapter come to: lists and their errors.
-/
namespace Go.Sh
open Go.PW

theorem within_eq (N : Nat) (n lo hi : Int) : code_within N n lo hi = some (decide (lo ≤ n) && decide (n ≤ hi)) := rfl
theorem unless_eq (N : Nat) (b : Bool) (e : Int) : code_unless N b e = some (if b then 0 else e) := by cases b <;> rfl

def firstOf : List Int → Int
  | [] => 0
  | x :: l => if x = 0 then firstOf l else x
theorem firstOf_drop (l : List Int) (k : Nat) (h : k < l.length) : firstOf (l.drop k) = if l.getD k 0 = 0 then firstOf (l.drop (k + 1)) else l.getD k 0 := by
  rw [List.drop_eq_getElem_cons h, firstOf]; simp [List.getD_eq_getElem?_getD, h]
theorem first_eq {N : Nat} (l : List Int) (hl : l.length < 4611686018427387904) (hN : l.length < N) : code_first N l = some (firstOf l) := by
  unfold code_first jn
  refine (rds_up1 l.length _ (fun k => some (firstOf (l.drop k))) (fun k rec hk hr => ?_) (fun rec => ?_) hN).trans (by simp)
  · unfold code_first.b1
    rw [br_pos (by simpa using hk), chk_pos (by omega), w64_succ (by omega), hr, Int.toNat_natCast, firstOf_drop l k hk]
    by_cases h : l.getD k 0 = 0
    · rw [if_pos h, br_neg (by rw [h]; rfl)]
    · rw [if_neg h, br_pos (by simpa only [bne_iff_ne] using h)]
  · unfold code_first.b1
    rw [br_neg (by simp)]; simp [firstOf]

def indexOf (f : Int → Bool) : List Int → Nat → Int
  | [], _ => -1
  | x :: l, k => if f x then k else indexOf f l (k + 1)
theorem indexOf_drop (f : Int → Bool) (l : List Int) (k : Nat) (h : k < l.length) : indexOf f (l.drop k) k = if f (l.getD k 0) then (k : Int) else indexOf f (l.drop (k + 1)) (k + 1) := by
  rw [List.drop_eq_getElem_cons h, indexOf]; simp [List.getD_eq_getElem?_getD, h]
theorem IndexFunc_eq {N : Nat} (l : List Int) (g : Int → Option Bool) (f : Int → Bool) (hg : ∀ x ∈ l, g x = some (f x)) (hl : l.length < 4611686018427387904) (hN : l.length < N) : slices_IndexFunc_ii N l g = some (indexOf f l 0) := by
  unfold slices_IndexFunc_ii jn
  refine (rds_up1 l.length _ (fun k => some (indexOf f (l.drop k) k)) (fun k rec hk hr => ?_) (fun rec => ?_) hN).trans (by simp)
  · unfold slices_IndexFunc_ii.b1
    have hm : l.getD k 0 ∈ l := by simp [List.getD_eq_getElem?_getD, hk]
    rw [br_pos (by simpa using hk), chk_pos (by omega), w64_succ (by omega), hr, Int.toNat_natCast, hg _ hm, bnd_val, indexOf_drop f l k hk]
    cases h : f (l.getD k 0) <;> simp
  · unfold slices_IndexFunc_ii.b1
    rw [br_neg (by simp)]; simp [indexOf]
theorem indexOf_ge (f : Int → Bool) (l : List Int) (k : Nat) : indexOf f l k ≥ 0 ↔ l.any f = true := by
  induction l generalizing k with
  | nil => simp [indexOf]
  | cons x l ih =>
    rw [indexOf, List.any_cons]
    by_cases h : f x = true
    · simp [h]
    · rw [if_neg h, ih]; simp [h]
theorem indexOf_any (f : Int → Bool) (l : List Int) (k : Nat) : decide (indexOf f l k ≥ 0) = l.any f := by
  rw [Bool.eq_iff_iff, decide_eq_true_iff]; exact indexOf_ge f l k
theorem ContainsFunc_eq {N : Nat} (l : List Int) (g : Int → Option Bool) (f : Int → Bool) (hg : ∀ x ∈ l, g x = some (f x)) (hl : l.length < 4611686018427387904) (hN : l.length < N) : slices_ContainsFunc_ii N l g = some (l.any f) := by
  unfold slices_ContainsFunc_ii
  rw [IndexFunc_eq l g f hg hl hN, bnd_val, indexOf_any]
theorem listErr_eq {N : Nat} (l : List Int) (most e : Int) (g : Int → Option Bool) (f : Int → Bool) (hg : ∀ x ∈ l, g x = some (f x)) (hl : l.length < 4611686018427387904) (hN : l.length < N) (hN3 : 3 < N) :
    code_listErr N l most g e = some (if l.length = 0 then 10 else if (l.length : Int) > most then 8 else if l.all f then 0 else e) := by
  unfold code_listErr
  rw [ContainsFunc_eq l _ (fun x => !f x) (fun x hx => by simp [code_listErr_1, hg x hx]) hl hN, bnd_val]
  simp only [unless_eq, bnd_val]
  rw [first_eq _ (by simp) (by simpa using hN3), bnd_val]
  congr 1
  have ha : (!(l.any fun x => !f x)) = l.all f := by simp [List.all_eq_not_any_not]
  rw [ha]
  by_cases h0 : l.length = 0
  · simp [firstOf, h0]
  · by_cases h1 : (l.length : Int) > most
    · have : ¬ (l.length : Int) ≤ most := by omega
      simp [firstOf, h0, h1, this]
    · have : (l.length : Int) ≤ most := by omega
      have h2 : 0 < l.length := by omega
      rw [if_neg h0, if_neg h1, decide_eq_true (show (l.length : Int) > 0 by omega), decide_eq_true this]
      by_cases hf : l.all f = true
      · rw [if_pos hf]; rfl
      · rw [if_neg hf]
        simp only [firstOf, if_true]
        by_cases he : e = 0 <;> simp [he]
end Go.Sh

/-
  What the shallow functions of the code chapter come to: polar codes that are right.
-/
namespace Go.Sh
open Go.PW

theorem isBit_eq (N : Nat) (x : Int) : code_isBit N x = some (x == 0 || x == 1) := rfl
def isBitB (x : Int) : Bool := x == 0 || x == 1
def listErr (most : Int) (f : Int → Bool) (e : Int) (l : List Int) : Int := if l.length = 0 then 10 else if (l.length : Int) > most then 8 else if l.all f then 0 else e
theorem bitsErr_eq {N : Nat} (l : List Int) (hl : l.length < 4611686018427387904) (hN : l.length < N) (hN3 : 3 < N) : code_bitsErr N l = some (listErr 200 isBitB 15 l) := by
  unfold code_bitsErr
  rw [listErr_eq l _ _ (fun y0 => code_isBit N y0) isBitB (fun x _ => rfl) hl hN hN3, bnd_val]; rfl
def isSoftB (x : Int) : Bool := decide (-1000000 ≤ x) && decide (x ≤ 1000000)
theorem softErr_eq {N : Nat} (l : List Int) (hl : l.length < 4611686018427387904) (hN : l.length < N) (hN3 : 3 < N) : code_softErr N l = some (listErr 400 isSoftB 2 l) := by
  unfold code_softErr
  rw [listErr_eq l _ _ (fun y0 => code_upTo_1 N y0 1000000) isSoftB (fun x _ => by rw [code_upTo_1, w64_id (by omega), within_eq]; rfl) hl hN hN3, bnd_val]; rfl

theorem shl1_pow {p : Nat} (h : p ≤ 40) : shlI 1 (p : Int) = ((2 ^ p : Nat) : Int) := by
  have := shlI_nat (a := 1) (b := p) (by have := Nat.pow_le_pow_right (n := 2) (by omega) h; omega) (by omega)
  simpa using this
def placesErr (m : Int) : Int → List Int → Int
  | _, [] => 0
  | b, x :: l => if ¬(0 ≤ x ∧ x ≤ m) then 2 else if x ≤ b then 9 else placesErr m x l
def polarErr (p : Int) (l : List Int) : Int := if ¬(0 ≤ p ∧ p ≤ 6) then 2 else if l.length = 0 then 10 else placesErr (2 ^ p.toNat - 1) (-1) l
theorem placesErr_drop (m b : Int) (l : List Int) (k : Nat) (h : k < l.length) : placesErr m b (l.drop k) = if ¬(0 ≤ l.getD k 0 ∧ l.getD k 0 ≤ m) then 2 else if l.getD k 0 ≤ b then 9 else placesErr m (l.getD k 0) (l.drop (k + 1)) := by
  rw [List.drop_eq_getElem_cons h, placesErr]; simp [List.getD_eq_getElem?_getD, h]
theorem rds_upR {σ R : Type} (len : Nat) (b : (σ × Int → Option R) → σ × Int → Option R) (F : Nat → σ → Option R)
    (hstep : ∀ k s rec, k < len → (∀ s', rec (s', ((k + 1 : Nat) : Int)) = F (k + 1) s') → b rec (s, (k : Int)) = F k s) (hend : ∀ s rec, b rec (s, (len : Int)) = F len s)
    {N : Nat} (hN : len < N) (s : σ) : rds b N (s, 0) = F 0 s := by
  have h := rds_spec (b := b) (fun x => ∃ k : Nat, k ≤ len ∧ x.2 = k) (fun x => len - x.2.toNat) (fun x => F x.2.toNat x.1) (fun rec x hI hrec => ?_) N (s, 0) ⟨0, Nat.zero_le _, rfl⟩ (by simp; omega)
  · simpa using h
  · obtain ⟨k, hk, hx⟩ := hI
    obtain ⟨t, i⟩ := x
    simp only at hx
    subst hx
    by_cases hkl : k < len
    · rw [hstep k t rec hkl (fun s' => ?_)]
      · simp
      · have := hrec (s', ((k + 1 : Nat) : Int)) ⟨k + 1, hkl, rfl⟩ (by simp only [Int.toNat_natCast]; omega)
        simpa using this
    · have : k = len := by omega
      subst this
      rw [hend t rec]; simp
theorem pow_le6 {p : Nat} (h : p ≤ 6) : 2 ^ p ≤ 64 := Nat.pow_le_pow_right (n := 2) (by omega) h
theorem CheckPolar_eq {N : Nat} (p : Int) (l : List Int) (hl : l.length < 4611686018427387904) (hN : l.length < N) (hN3 : 3 < N) : code_CheckPolar N p l = some (polarErr p l) := by
  unfold code_CheckPolar
  simp only [code_isPower, within_eq, bnd_val, unless_eq]
  rw [first_eq _ (by simp) (by simp; omega), bnd_val]
  by_cases hp : 0 ≤ p ∧ p ≤ 6
  · obtain ⟨q, rfl⟩ := Int.eq_ofNat_of_zero_le hp.1
    have hq : q ≤ 6 := by omega
    have h64 := pow_le6 hq
    have hb : (decide (0 ≤ (q : Int)) && decide ((q : Int) ≤ 6)) = true := by simp; omega
    rw [hb]
    by_cases h0 : l.length = 0
    · have : decide ((l.length : Int) > 0) = false := by simp [h0]
      rw [this, br_pos (by decide)]
      rw [polarErr, if_neg (show ¬¬(0 ≤ (q : Int) ∧ (q : Int) ≤ 6) from fun h => h hp), if_pos h0]; rfl
    · have : decide ((l.length : Int) > 0) = true := by simp; omega
      rw [this, br_neg (by decide), jn]
      refine (rds_upR l.length _ (fun k b => some (placesErr (2 ^ q - 1) b (l.drop k))) (fun k b rec hk hr => ?_) (fun b rec => ?_) hN (-1)).trans ?_
      · unfold code_CheckPolar.b1
        simp only [within_eq, unless_eq, bnd_val, Int.toNat_natCast]
        have hw : w64 (shlI 1 (q : Int) - 1) = 2 ^ q - 1 := by
          rw [shl1_pow (by omega)]
          have : ((2 ^ q : Nat) : Int) ≤ 64 := by exact_mod_cast h64
          have h0 : (0 : Int) ≤ ((2 ^ q : Nat) : Int) := Int.natCast_nonneg _
          have e : ((2 ^ q : Nat) : Int) = 2 ^ q := by push_cast; rfl
          rw [e] at this h0 ⊢
          exact w64_id (by omega)
        rw [br_pos (by simpa using hk), chk_pos (by omega), chk_pos (by omega), first_eq _ (by simp) (by simp; omega), bnd_val, hw, w64_succ (by omega), hr, placesErr_drop _ _ _ _ hk]
        by_cases h1 : 0 ≤ l.getD k 0 ∧ l.getD k 0 ≤ 2 ^ q - 1
        · have h1b : (decide (0 ≤ l.getD k 0) && decide (l.getD k 0 ≤ 2 ^ q - 1)) = true := by rw [Bool.and_eq_true, decide_eq_true_iff, decide_eq_true_iff]; exact h1
          rw [h1b, if_neg (show ¬¬(0 ≤ l.getD k 0 ∧ l.getD k 0 ≤ 2 ^ q - 1) from fun h => h h1)]
          by_cases h2 : l.getD k 0 ≤ b
          · rw [if_pos h2, decide_eq_false (show ¬ l.getD k 0 > b by omega)]; rfl
          · rw [if_neg h2, decide_eq_true (show l.getD k 0 > b by omega)]; rfl
        · have h1b : (decide (0 ≤ l.getD k 0) && decide (l.getD k 0 ≤ 2 ^ q - 1)) = false := by rw [← Bool.not_eq_true, Bool.and_eq_true, decide_eq_true_iff, decide_eq_true_iff]; exact h1
          rw [h1b, if_pos h1]; rfl
      · show br (decide ((l.length : Int) < l.length)) _ _ = _
        rw [br_neg (by simp)]; simp [placesErr]
      · simp only [polarErr, List.drop_zero, Int.toNat_natCast]
        rw [if_neg (by omega), if_neg h0]
  · have hb : (decide (0 ≤ p) && decide (p ≤ 6)) = false := by rw [← Bool.not_eq_true, Bool.and_eq_true, decide_eq_true_iff, decide_eq_true_iff]; exact hp
    rw [hb, polarErr, if_pos hp]; rfl
end Go.Sh

/-
  What the shallow functions of the code chapter come to: the reference's checks.
-/
namespace Go.Sh
open Go.PW

theorem Within_eq (N : Nat) (n lo hi : Int) : base_Within N n lo hi = some (decide (lo ≤ n) && decide (n ≤ hi)) := rfl
theorem power_eq {N n : Nat} (hn : n ≤ 40) (hN : n < N) : ref02_power N n = some ((2 ^ n : Nat) : Int) := by
  have hp : ∀ k, k ≤ 40 → 2 ^ k ≤ 2 ^ 40 := fun k hk => Nat.pow_le_pow_right (by omega) hk
  unfold ref02_power jn
  refine (rds_spec (b := ref02_power.b1 N n fun out => some out) (fun x : Int × Int => ∃ k : Nat, k ≤ n ∧ x = (((2 ^ k : Nat) : Int), (k : Int))) (fun x => n - x.2.toNat) (fun _ => some ((2 ^ n : Nat) : Int)) (fun rec x hI hrec => ?_) N (1, 0) ⟨0, by simp, by simp⟩ (by simp; omega))
  obtain ⟨k, hk, rfl⟩ := hI
  show br (decide ((k : Int) < n)) _ _ = _
  by_cases h : k < n
  · have h1 := hp k (by omega)
    have e : w64 (2 * ((2 ^ k : Nat) : Int)) = ((2 ^ (k + 1) : Nat) : Int) := by
      have : (2 * ((2 ^ k : Nat) : Int)) = ((2 ^ (k + 1) : Nat) : Int) := by rw [Nat.pow_succ]; push_cast; omega
      rw [this]; exact w64_nat (by have := hp (k + 1) (by omega); omega)
    rw [br_pos (by simpa using h), w64_succ (by omega), e]
    exact hrec _ ⟨k + 1, h, rfl⟩ (by simp only [Int.toNat_natCast]; omega)
  · have : k = n := by omega
    subst this
    rw [br_neg (by simp)]
theorem Length_eq {N n : Nat} (l : List Int) (hn : n ≤ 40) (hN : n < N) : ref02_Length N n l = some ((2 ^ n : Nat) : Int) := by
  unfold ref02_Length; rw [power_eq hn hN]; rfl

theorem refCheckPolar_eq {N : Nat} (p : Int) (l : List Int) (hl : l.length < 4611686018427387904) (hN : l.length < N) (hN3 : 6 < N) : ref02_CheckPolar N p l = some (polarErr p l) := by
  unfold ref02_CheckPolar
  rw [Within_eq, bnd_val]
  by_cases hp : 0 ≤ p ∧ p ≤ 6
  · obtain ⟨q, rfl⟩ := Int.eq_ofNat_of_zero_le hp.1
    have hq : q ≤ 6 := by omega
    have h64 := pow_le6 hq
    have hb : (decide (0 ≤ (q : Int)) && decide ((q : Int) ≤ 6)) = true := by simp; omega
    rw [hb, br_neg (by rfl), polarErr, if_neg (show ¬¬(0 ≤ (q : Int) ∧ (q : Int) ≤ 6) from fun h => h hp)]
    by_cases h0 : l.length = 0
    · rw [br_pos (by simp [h0]), if_pos h0]
    · rw [br_neg (by simpa using h0), if_neg h0, jn, Int.toNat_natCast]
      have hw : w64 (((2 ^ q : Nat) : Int) - 1) = 2 ^ q - 1 := by
        have : ((2 ^ q : Nat) : Int) ≤ 64 := by exact_mod_cast h64
        have h0 : (0 : Int) ≤ ((2 ^ q : Nat) : Int) := Int.natCast_nonneg _
        have e : ((2 ^ q : Nat) : Int) = 2 ^ q := by push_cast; rfl
        rw [e] at this h0 ⊢
        exact w64_id (by omega)
      refine (rds_up1 l.length _ (fun k => some (placesErr (2 ^ q - 1) (if k = 0 then -1 else l.getD (k - 1) 0) (l.drop k))) (fun k rec hk hr => ?_) (fun rec => ?_) hN).trans (by simp)
      · unfold ref02_CheckPolar.b1
        rw [br_pos (by simpa using hk), chk_pos (by omega), power_eq (by omega) (by omega), bnd_val, hw, Within_eq, bnd_val, placesErr_drop _ _ _ _ hk, Int.toNat_natCast]
        by_cases h1 : 0 ≤ l.getD k 0 ∧ l.getD k 0 ≤ 2 ^ q - 1
        · have h1b : (decide (0 ≤ l.getD k 0) && decide (l.getD k 0 ≤ 2 ^ q - 1)) = true := by rw [Bool.and_eq_true, decide_eq_true_iff, decide_eq_true_iff]; exact h1
          rw [h1b, if_neg (show ¬¬(0 ≤ l.getD k 0 ∧ l.getD k 0 ≤ 2 ^ q - 1) from fun h => h h1), br_neg (by rfl), w64_succ (by omega), hr]
          by_cases hk0 : k = 0
          · subst hk0
            rw [chk_pos (by simp), chk_pos (by simp), br_neg (by simp), if_pos rfl, if_neg (show ¬ l.getD 0 0 ≤ -1 by omega)]
            rfl
          · obtain ⟨j, rfl⟩ : ∃ j, k = j + 1 := ⟨k - 1, by omega⟩
            have hj : w64 (((j + 1 : Nat) : Int) - 1) = (j : Int) := by rw [w64_id (by omega)]; omega
            rw [hj, chk_pos (by omega), chk_pos (by omega), if_neg hk0, Int.toNat_natCast]
            have hd : decide (((j + 1 : Nat) : Int) > 0) = true := by simp only [decide_eq_true_iff]; omega
            rw [hd, Bool.true_and, show j + 1 - 1 = j from rfl]
            by_cases h2 : l.getD (j + 1) 0 ≤ l.getD j 0
            · rw [if_pos h2, br_pos (by simpa using h2)]
            · rw [if_neg h2, br_neg (by simpa using h2)]; simp
        · have h1b : (decide (0 ≤ l.getD k 0) && decide (l.getD k 0 ≤ 2 ^ q - 1)) = false := by rw [← Bool.not_eq_true, Bool.and_eq_true, decide_eq_true_iff, decide_eq_true_iff]; exact h1
          rw [h1b, if_pos h1]; rfl
      · show br (decide ((l.length : Int) < l.length)) _ _ = _
        rw [br_neg (by simp)]; simp [placesErr]
  · have hb : (decide (0 ≤ p) && decide (p ≤ 6)) = false := by rw [← Bool.not_eq_true, Bool.and_eq_true, decide_eq_true_iff, decide_eq_true_iff]; exact hp
    rw [hb, polarErr, if_pos hp]; rfl
end Go.Sh

/-
  What the shallow functions of the code chapter come to: bits, copies, comparisons.
-/
namespace Go.Sh
open Go.PW

theorem AreBits_eq {N : Nat} (l : List Int) (hl : l.length < 4611686018427387904) (hN : l.length < N) : base_AreBits N l = some (l.all isBitB) := by
  unfold base_AreBits jn
  refine (rds_up1 l.length _ (fun k => some ((l.drop k).all isBitB)) (fun k rec hk hr => ?_) (fun rec => ?_) hN).trans (by simp)
  · unfold base_AreBits.b1
    rw [br_pos (by simpa using hk), chk_pos (by omega), chk_pos (by intro _; omega), w64_succ (by omega), hr, Int.toNat_natCast, List.drop_eq_getElem_cons hk, List.all_cons]
    have e : l.getD k 0 = l[k] := by simp [List.getD_eq_getElem?_getD, hk]
    rw [e]
    by_cases h0 : l[k] = 0
    · rw [br_neg (by simp [h0])]; simp [isBitB, h0]
    · by_cases h1 : l[k] = 1
      · rw [br_neg (by simp [h1])]; simp [isBitB, h1]
      · rw [br_pos (by simp [h0, h1])]; simp [isBitB, h0, h1]
  · show br (decide ((l.length : Int) < l.length)) _ _ = _
    rw [br_neg (by simp)]; simp
theorem refBitsErr_eq {N : Nat} (l : List Int) (hl : l.length < 4611686018427387904) (hN : l.length < N) : ref02_BitsErr N l = some (listErr 200 isBitB 15 l) := by
  unfold ref02_BitsErr ref02_kindErr listErr
  rw [AreBits_eq l hl hN]
  by_cases h0 : l.length = 0
  · rw [br_pos (by simp [h0]), if_pos h0]
  · rw [br_neg (by simpa using h0), if_neg h0]
    by_cases h1 : (l.length : Int) > 200
    · rw [br_pos (by simpa using h1), if_pos h1]
    · rw [br_neg (by simpa using h1), if_neg h1]
      simp only [bnd_val]
      cases h : l.all isBitB <;> rfl
theorem CopyInts_eq (N : Nat) (l : List Int) (hl : l.length ≤ 1000000000) : base_CopyInts N l = some l := by
  unfold base_CopyInts
  rw [chk_pos (by simpa using hl)]; rfl
theorem CopyPolar_eq (N : Nat) (p : Int) (l : List Int) (hl : l.length ≤ 1000000000) : ref02_CopyPolar N p l = some (p, l) := by
  unfold ref02_CopyPolar
  rw [CopyInts_eq N l hl, bnd_val]
theorem Ints_eq {N : Nat} (a b : List Int) (hl : a.length < 4611686018427387904) (hN : a.length < N) : base_Ints N a b = some (decide (a = b)) := by
  unfold base_Ints
  by_cases hlen : a.length = b.length
  · rw [br_neg (by simp [hlen]), jn]
    refine (rds_up1 a.length _ (fun k => some (decide (a.drop k = b.drop k))) (fun k rec hk hr => ?_) (fun rec => ?_) hN).trans (by simp)
    · unfold base_Ints.b1
      rw [br_pos (by simpa using hk), chk_pos (by omega), chk_pos (by omega), w64_succ (by omega), hr, Int.toNat_natCast]
      have hkb : k < b.length := by omega
      have ea : a.getD k 0 = a[k] := by simp [List.getD_eq_getElem?_getD, hk]
      have eb : b.getD k 0 = b[k] := by simp [List.getD_eq_getElem?_getD, hkb]
      have hd : (a.drop k = b.drop k) = (a[k] = b[k] ∧ a.drop (k + 1) = b.drop (k + 1)) := by
        rw [List.drop_eq_getElem_cons hk, List.drop_eq_getElem_cons hkb, List.cons.injEq]
      rw [ea, eb]; simp only [hd]
      by_cases h : a[k] = b[k]
      · rw [br_neg (by rw [h]; simp)]; simp [h]
      · rw [br_pos (by simpa using h)]; simp [h]
    · show br (decide ((a.length : Int) < a.length)) _ _ = _
      rw [br_neg (by simp)]; simp [hlen]
  · rw [br_pos (by rw [bne_iff_ne]; omega)]
    have : a ≠ b := fun e => hlen (by rw [e])
    simp [this]
end Go.Sh

/-
  What the shallow functions of the code chapter come to: the word of a polar code.
-/
namespace Go.Sh
open Go.PW

noncomputable def wordAt (s : Nat) (l : List Int) (i : Nat) : Int := if i.testBit s then l.getD i 0 else xorI (l.getD i 0) (l.getD (i + 2 ^ s) 0)
noncomputable def stepL (s : Nat) (l : List Int) : List Int := (List.range l.length).map (wordAt s l)
theorem stepL_length (s : Nat) (l : List Int) : (stepL s l).length = l.length := by simp [stepL]
noncomputable def wordIn {R : Type} (step : Int) (b13 : List Int) (K_2 : List Int → Option R) (rec2 : Int × List Int → Option R) : Int × List Int → Option R := fun (t13, b15) =>
  br (decide (t13 < (b13.length : Int))) (
  br ((andI t13 step == (0 : Int))) (
  chk (0 ≤ t13 ∧ t13 < (b15.length : Int)) <|
  chk (0 ≤ w64 (t13 + step) ∧ w64 (t13 + step) < (b15.length : Int)) <|
  chk (0 ≤ t13 ∧ t13 < (b15.length : Int)) <|
  rec2 (w64 (t13 + (1 : Int)), (b15.set t13.toNat (xorI (b15.getD t13.toNat 0) (b15.getD ((w64 (t13 + step)).toNat) 0))))) (
  rec2 (w64 (t13 + (1 : Int)), b15))) (
  K_2 b15)
theorem and_bit (n i : Nat) : n &&& 2 ^ i = if n.testBit i then 2 ^ i else 0 := by
  refine Nat.eq_of_testBit_eq fun j => ?_
  rw [Nat.testBit_and, Nat.testBit_two_pow]
  by_cases h : i = j
  · subst h
    cases ht : n.testBit i <;> simp [Nat.testBit_two_pow]
  · cases ht : n.testBit i <;> simp [Nat.testBit_two_pow, h]
theorem clear_lt {m s i : Nat} (hs : s < m) (hi : i < 2 ^ m) (hb : i.testBit s = false) : i + 2 ^ s < 2 ^ m := by
  obtain ⟨d, rfl⟩ : ∃ d, m = s + 1 + d := ⟨m - (s + 1), by omega⟩
  have h0 : i / 2 ^ s % 2 ≠ 1 := by simpa [Nat.testBit_eq_decide_div_mod_eq] using hb
  have hp : 0 < 2 ^ s := Nat.two_pow_pos s
  have e : 2 ^ (s + 1 + d) = 2 ^ s * (2 * 2 ^ d) := by rw [Nat.pow_add, Nat.pow_succ, Nat.mul_assoc]
  rw [e] at hi ⊢
  have h1 : i / 2 ^ s < 2 * 2 ^ d := Nat.div_lt_of_lt_mul hi
  have h2 := Nat.div_add_mod i (2 ^ s)
  have h3 := Nat.mod_lt i hp
  have h4 : i / 2 ^ s + 2 ≤ 2 * 2 ^ d := by omega
  have h5 : 2 ^ s * (i / 2 ^ s + 2) ≤ 2 ^ s * (2 * 2 ^ d) := Nat.mul_le_mul_left _ h4
  rw [Nat.mul_add] at h5
  omega
theorem ext_getD {a b : List Int} (h : a.length = b.length) (he : ∀ j, j < a.length → a.getD j 0 = b.getD j 0) : a = b := by
  refine List.ext_getElem h fun j h1 h2 => ?_
  have := he j h1
  simpa [List.getD_eq_getElem?_getD, h1, h2] using this
theorem stepL_getD (s : Nat) (l : List Int) (j : Nat) (h : j < l.length) : (stepL s l).getD j 0 = wordAt s l j := by
  simp [stepL, List.getD_eq_getElem?_getD, h]
theorem wordIn_eq {R : Type} (m s : Nat) (hs : s < m) (hm : m ≤ 30) (l : List Int) (hl : l.length = 2 ^ m) (K : List Int → Option R) {N : Nat} (hN : 2 ^ m < N) :
    rds (wordIn ((2 ^ s : Nat) : Int) l K) N (0, l) = K (stepL s l) := by
  have hbig : 2 ^ m ≤ 2 ^ 30 := Nat.pow_le_pow_right (by omega) hm
  have hsm : 2 ^ s < 2 ^ m := Nat.pow_lt_pow_right (by omega) hs
  have hps : (0 : Int) < 2 ^ s := Int.pow_pos (by omega)
  refine rds_spec (fun x : Int × List Int => ∃ k : Nat, k ≤ l.length ∧ x.1 = k ∧ x.2.length = l.length ∧ ∀ j, j < l.length → x.2.getD j 0 = if j < k then wordAt s l j else l.getD j 0) (fun x => l.length - x.1.toNat) (fun _ => K (stepL s l)) (fun rec x hI hrec => ?_) N (0, l) ⟨0, Nat.zero_le _, rfl, rfl, fun j hj => by simp⟩ (by simp; omega)
  obtain ⟨k, hk, hx, hbl, hb⟩ := hI
  obtain ⟨i, b⟩ := x
  simp only at hx hbl hb
  subst hx
  show br (decide ((k : Int) < (l.length : Int))) _ _ = _
  by_cases hkl : k < l.length
  · rw [br_pos (by simpa using hkl), w64_succ (by omega), andI_nat (by omega) (by omega)]
    have hand : (((k &&& 2 ^ s : Nat) : Int) == 0) = !k.testBit s := by
      rw [and_bit]
      cases k.testBit s
      · rfl
      · have := Nat.two_pow_pos s
        simp only [if_true, Bool.not_true, beq_eq_false_iff_ne]
        omega
    rw [hand]
    cases ht : k.testBit s with
    | false =>
      have hlt := clear_lt hs (by omega) ht
      rw [br_pos (by rfl), chk_pos (by omega)]
      have e : w64 ((k : Int) + ((2 ^ s : Nat) : Int)) = ((k + 2 ^ s : Nat) : Int) := by
        have : ((k : Int) + ((2 ^ s : Nat) : Int)) = ((k + 2 ^ s : Nat) : Int) := by push_cast; rfl
        rw [this]; exact w64_nat (by omega)
      have hlb : k + 2 ^ s < b.length := by rw [hbl, hl]; exact hlt
      rw [e, chk_pos ⟨Int.natCast_nonneg _, Int.ofNat_lt.2 hlb⟩, chk_pos (by omega), Int.toNat_natCast, Int.toNat_natCast]
      refine hrec _ ⟨k + 1, hkl, rfl, by simpa using hbl, fun j hj => ?_⟩ (by simp only [Int.toNat_natCast]; omega)
      simp only
      by_cases hjk : j = k
      · subst hjk
        rw [if_pos (Nat.lt_succ_self _)]
        simp only [List.getD_eq_getElem?_getD, List.getElem?_set_self (show j < b.length by omega), Option.getD_some]
        have h1 := hb j hj
        have h2 := hb (j + 2 ^ s) (by omega)
        rw [if_neg (by omega)] at h1
        rw [if_neg (show ¬ j + 2 ^ s < j from by have := Nat.two_pow_pos s; omega)] at h2
        rw [← List.getD_eq_getElem?_getD, ← List.getD_eq_getElem?_getD, h1, h2, wordAt, ht]; rfl
      · have h1 := hb j hj
        rw [List.getD_eq_getElem?_getD, List.getElem?_set_ne (Ne.symm hjk), ← List.getD_eq_getElem?_getD, h1]
        by_cases hlt2 : j < k
        · rw [if_pos hlt2, if_pos (show j < k + 1 by omega)]
        · rw [if_neg hlt2, if_neg (show ¬ j < k + 1 by omega)]
    | true =>
      rw [br_neg (by rfl)]
      refine hrec _ ⟨k + 1, hkl, rfl, hbl, fun j hj => ?_⟩ (by simp only [Int.toNat_natCast]; omega)
      have h1 := hb j hj
      simp only
      rw [h1]
      by_cases hjk : j = k
      · subst hjk
        rw [if_neg (by omega), if_pos (by omega), wordAt, ht]; rfl
      · by_cases hlt2 : j < k
        · rw [if_pos hlt2, if_pos (show j < k + 1 by omega)]
        · rw [if_neg hlt2, if_neg (show ¬ j < k + 1 by omega)]
  · rw [br_neg (by simpa using hkl)]
    have : b = stepL s l := ext_getD (by rw [hbl, stepL_length]) fun j hj => by
      rw [hbl] at hj
      rw [hb j hj, if_pos (by omega), stepL_getD s l j hj]
    rw [this]

noncomputable def wordOut {R : Type} (N : Nat) (K_1 : List Int → Option R) (rec1 : Int × List Int → Option R) : Int × List Int → Option R := fun (step, b13) =>
  br (decide (step < (b13.length : Int))) (
  jn (τ := List Int) (fun (b14 : List Int) =>
    rec1 (w64 (step * (2 : Int)), b14)) fun K_2 =>
  rds (wordIn step b13 K_2) N ((0 : Int), b13)) (
  K_1 b13)
theorem encode_b2 (N : Nat) : code_encode.b2 N = wordOut N := rfl
theorem cancel_b2 (N : Nat) : code_cancel.b2 N = wordOut N := rfl
noncomputable def wordL : Nat → List Int → List Int
  | 0, l => l
  | m + 1, l => stepL m (wordL m l)
theorem wordL_length : ∀ (m : Nat) (l : List Int), (wordL m l).length = l.length
  | 0, _ => rfl
  | m + 1, l => by rw [wordL, stepL_length, wordL_length m l]
theorem wordOut_eq {R : Type} (m : Nat) (hm : m ≤ 30) (l : List Int) (hl : l.length = 2 ^ m) (K : List Int → Option R) {N : Nat} (hN : 2 ^ m < N) :
    rds (wordOut N K) N (1, l) = K (wordL m l) := by
  have hbig : 2 ^ m ≤ 2 ^ 30 := Nat.pow_le_pow_right (by omega) hm
  refine rds_spec (fun x : Int × List Int => ∃ s : Nat, s ≤ m ∧ x = (((2 ^ s : Nat) : Int), wordL s l)) (fun x => 2 ^ m - x.1.toNat) (fun _ => K (wordL m l)) (fun rec x hI hrec => ?_) N (1, l) ⟨0, Nat.zero_le _, rfl⟩ (by simp; omega)
  obtain ⟨s, hs, rfl⟩ := hI
  show br (decide (((2 ^ s : Nat) : Int) < ((wordL s l).length : Int))) _ _ = _
  rw [wordL_length, hl]
  by_cases h : s < m
  · have hsm : 2 ^ s < 2 ^ m := Nat.pow_lt_pow_right (by omega) h
    rw [br_pos (by rw [decide_eq_true_iff]; exact Int.ofNat_lt.2 hsm), jn, wordIn_eq m s h hm _ (by rw [wordL_length, hl]) _ hN]
    have e : w64 (((2 ^ s : Nat) : Int) * 2) = ((2 ^ (s + 1) : Nat) : Int) := by
      have h1 : (((2 ^ s : Nat) : Int) * 2) = ((2 ^ (s + 1) : Nat) : Int) := by rw [Nat.pow_succ]; push_cast; rfl
      have h2 : 2 ^ (s + 1) ≤ 2 ^ m := Nat.pow_le_pow_right (by omega) h
      rw [h1]; exact w64_nat (by omega)
    rw [e]
    refine hrec _ ⟨s + 1, h, rfl⟩ ?_
    have h1 : 2 ^ s < 2 ^ (s + 1) := Nat.pow_lt_pow_right (by omega) (by omega)
    simp only [Int.toNat_natCast]
    omega
  · have : s = m := by omega
    subst this
    rw [br_neg (by simp)]
end Go.Sh

/-
  What the shallow functions of the code chapter come to: encoding.
-/
namespace Go.Sh
open Go.PW

def place : List Int → List Int → List Int → List Int
  | x :: is, y :: ys, b => place is ys (b.set x.toNat y)
  | _, _, b => b
theorem place_length : ∀ (is ys b : List Int), (place is ys b).length = b.length
  | [], _, b => by simp [place]
  | _ :: _, [], b => by simp [place]
  | x :: is, y :: ys, b => by rw [place, place_length is ys]; simp
theorem getD_eq {l : List Int} {k : Nat} (h : k < l.length) : l.getD k 0 = l[k] := by simp [List.getD_eq_getElem?_getD, h]
theorem encode_eq {N q : Nat} (hq : q ≤ 6) (info bits : List Int) (hlen : bits.length = info.length) (hin : ∀ x ∈ info, 0 ≤ x ∧ x < ((2 ^ q : Nat) : Int)) (hl : info.length < 4611686018427387904) (hN : info.length < N) (hN2 : 64 < N) :
    code_encode N q info bits = some (wordL q (place info bits (List.replicate (2 ^ q) 0))) := by
  have h64 := pow_le6 hq
  unfold code_encode
  rw [chk_pos (by omega), shl1_pow (by omega), chk_pos ⟨Int.natCast_nonneg _, by have : ((2 ^ q : Nat) : Int) ≤ ((64 : Nat) : Int) := Int.ofNat_le.2 h64; omega⟩, jn, Int.toNat_natCast]
  refine rds_spec (fun x : Int × List Int => ∃ k : Nat, k ≤ info.length ∧ x.1 = k ∧ x.2.length = 2 ^ q ∧ place (info.drop k) (bits.drop k) x.2 = place info bits (List.replicate (2 ^ q) 0)) (fun x => info.length - x.1.toNat) (fun _ => some (wordL q (place info bits (List.replicate (2 ^ q) 0)))) (fun rec x hI hrec => ?_) N (0, List.replicate (2 ^ q) 0) ⟨0, Nat.zero_le _, rfl, by simp, rfl⟩ (by simp; omega)
  obtain ⟨k, hk, hx, hbl, hp⟩ := hI
  obtain ⟨i, b⟩ := x
  simp only at hx hbl hp
  subst hx
  show br (decide ((k : Int) < (info.length : Int))) _ _ = _
  by_cases hkl : k < info.length
  · have hm := hin info[k] (List.getElem_mem hkl)
    have hkb : k < bits.length := by omega
    rw [br_pos (by simpa using hkl), chk_pos (by omega), chk_pos (by omega), Int.toNat_natCast, getD_eq hkl, getD_eq hkb, chk_pos ⟨hm.1, by rw [hbl]; exact hm.2⟩, w64_succ (by omega)]
    refine hrec _ ⟨k + 1, hkl, rfl, by simpa using hbl, ?_⟩ (by simp only [Int.toNat_natCast]; omega)
    rw [← hp, List.drop_eq_getElem_cons hkl, List.drop_eq_getElem_cons hkb, place]
  · have hke : k = info.length := by omega
    have hb : b = place info bits (List.replicate (2 ^ q) 0) := by
      rw [← hp, hke, List.drop_length]
      simp [place]
    rw [br_neg (by simpa using hkl)]
    show rds (code_encode.b2 N fun b12 => some b12) N (1, b) = _
    rw [encode_b2, wordOut_eq q (by omega) b hbl _ (by omega), hb]
end Go.Sh

/-
  The word of a polar code, by halves.
-/
namespace Go.Sh
open Go.PW

theorem getD_left (a b : List Int) {j : Nat} (h : j < a.length) : (a ++ b).getD j 0 = a.getD j 0 := by
  rw [List.getD_eq_getElem?_getD, List.getElem?_append_left h, ← List.getD_eq_getElem?_getD]
theorem getD_right (a b : List Int) (i : Nat) : (a ++ b).getD (a.length + i) 0 = b.getD i 0 := by
  rw [List.getD_eq_getElem?_getD, List.getElem?_append_right (by omega), Nat.add_sub_cancel_left, ← List.getD_eq_getElem?_getD]
noncomputable def zipX (a b : List Int) : List Int := (List.range a.length).map fun i => xorI (a.getD i 0) (b.getD i 0)
theorem zipX_length (a b : List Int) : (zipX a b).length = a.length := by simp [zipX]
theorem zipX_getD (a b : List Int) {i : Nat} (h : i < a.length) : (zipX a b).getD i 0 = xorI (a.getD i 0) (b.getD i 0) := by
  simp [zipX, List.getD_eq_getElem?_getD, h]
theorem stepL_append {m s : Nat} (hs : s < m) (a b : List Int) (ha : a.length = 2 ^ m) (hb : b.length = 2 ^ m) : stepL s (a ++ b) = stepL s a ++ stepL s b := by
  refine ext_getD (by simp [stepL_length]) fun j hj => ?_
  rw [stepL_length, List.length_append] at hj
  rw [stepL_getD s _ j (by simpa using hj)]
  by_cases h : j < a.length
  · rw [getD_left _ _ (by rw [stepL_length]; exact h), stepL_getD s a j h, wordAt, wordAt, getD_left a b h]
    cases ht : j.testBit s with
    | true => rfl
    | false =>
      have := clear_lt hs (by omega) ht
      rw [getD_left a b (by omega)]
  · obtain ⟨i, rfl⟩ : ∃ i, j = a.length + i := ⟨j - a.length, by omega⟩
    have hi : i < b.length := by omega
    have e : (stepL s a ++ stepL s b).getD (a.length + i) 0 = (stepL s b).getD i 0 := by
      have := getD_right (stepL s a) (stepL s b) i
      rwa [stepL_length] at this
    rw [e, stepL_getD s b i hi, wordAt, wordAt, getD_right, Nat.add_assoc, getD_right]
    have ht : (a.length + i).testBit s = i.testBit s := by rw [ha]; exact Nat.testBit_two_pow_add_gt hs i
    rw [ht]
theorem stepL_last {m : Nat} (a b : List Int) (ha : a.length = 2 ^ m) (hb : b.length = 2 ^ m) : stepL m (a ++ b) = zipX a b ++ b := by
  refine ext_getD (by simp [stepL_length, zipX_length]) fun j hj => ?_
  rw [stepL_length, List.length_append] at hj
  rw [stepL_getD m _ j (by simpa using hj)]
  by_cases h : j < a.length
  · have ht : j.testBit m = false := Nat.testBit_lt_two_pow (by omega)
    rw [getD_left _ _ (by rw [zipX_length]; exact h), zipX_getD a b h, wordAt, ht, getD_left a b h]
    have : j + 2 ^ m = a.length + j := by omega
    rw [this, getD_right]; rfl
  · obtain ⟨i, rfl⟩ : ∃ i, j = a.length + i := ⟨j - a.length, by omega⟩
    have hi : i < b.length := by omega
    have e : (zipX a b ++ b).getD (a.length + i) 0 = b.getD i 0 := by
      have := getD_right (zipX a b) b i
      rwa [zipX_length] at this
    have ht : (a.length + i).testBit m = true := by
      rw [ha, Nat.testBit_two_pow_add_eq, Nat.testBit_lt_two_pow (by omega)]; rfl
    rw [e, wordAt, ht, getD_right]; rfl
theorem wordL_append (m : Nat) : ∀ (s : Nat), s ≤ m → ∀ (a b : List Int), a.length = 2 ^ m → b.length = 2 ^ m → wordL s (a ++ b) = wordL s a ++ wordL s b
  | 0, _, _, _, _, _ => rfl
  | s + 1, hs, a, b, ha, hb => by
    rw [wordL, wordL_append m s (by omega) a b ha hb, stepL_append (m := m) (s := s) (by omega) _ _ (by rw [wordL_length, ha]) (by rw [wordL_length, hb])]
    rfl
theorem wordL_halves (m : Nat) (a b : List Int) (ha : a.length = 2 ^ m) (hb : b.length = 2 ^ m) : wordL (m + 1) (a ++ b) = zipX (wordL m a) (wordL m b) ++ wordL m b := by
  rw [wordL, wordL_append m m (Nat.le_refl _) a b ha hb, stepL_last _ _ (by rw [wordL_length, ha]) (by rw [wordL_length, hb])]
end Go.Sh

/-
  What the shallow functions of the code chapter come to: soft bits of a half.
-/
namespace Go.Sh
open Go.PW

def sgn (n : Int) : Int := if n < 0 then -1 else if n > 0 then 1 else 0
theorem size_eq (N : Nat) (n : Int) (h : -4611686018427387904 < n ∧ n < 4611686018427387904) : code_size N n = some (n.natAbs : Int) := by
  unfold code_size
  rw [w64_id (by omega)]
  congr 1
  split <;> omega
theorem sign_eq (N : Nat) (n : Int) : code_sign N n = some (sgn n) := by
  have hn : ∀ x : Int, (x != x) = false := fun x => by simp
  unfold code_sign cmp_Compare_int cmp_isNaN_int
  simp only [hn, bnd_val]
  rw [br_neg rfl, br_neg rfl]
  unfold sgn
  by_cases h : n < 0
  · rw [br_pos (by simpa using h), if_pos h]; rfl
  · rw [br_neg (by simpa using h), if_neg h]
    by_cases h1 : n > 0
    · rw [br_pos (by simpa using h1), if_pos h1]; rfl
    · rw [br_neg (by simpa using h1), if_neg h1]; rfl
def leftAt (x y : Int) : Int := (if (y.natAbs : Int) < (x.natAbs : Int) then (y.natAbs : Int) else (x.natAbs : Int)) * sgn x * sgn y
def leftL (a b : List Int) : List Int := (List.range a.length).map fun i => leftAt (a.getD i 0) (b.getD i 0)
theorem leftL_length (a b : List Int) : (leftL a b).length = a.length := by simp [leftL]
theorem leftL_getD (a b : List Int) {i : Nat} (h : i < a.length) : (leftL a b).getD i 0 = leftAt (a.getD i 0) (b.getD i 0) := by
  simp [leftL, List.getD_eq_getElem?_getD, h]
def rightAt (w x y : Int) : Int := if w = 1 then y - x else y + x
def rightL (w a b : List Int) : List Int := (List.range a.length).map fun i => rightAt (w.getD i 0) (a.getD i 0) (b.getD i 0)
theorem rightL_length (w a b : List Int) : (rightL w a b).length = a.length := by simp [rightL]
theorem rightL_getD (w a b : List Int) {i : Nat} (h : i < a.length) : (rightL w a b).getD i 0 = rightAt (w.getD i 0) (a.getD i 0) (b.getD i 0) := by
  simp [rightL, List.getD_eq_getElem?_getD, h]
theorem sgn_cases (n : Int) : sgn n = -1 ∨ sgn n = 0 ∨ sgn n = 1 := by
  unfold sgn
  by_cases h : n < 0
  · rw [if_pos h]; exact .inl rfl
  · rw [if_neg h]
    by_cases h1 : n > 0
    · rw [if_pos h1]; exact .inr (.inr rfl)
    · rw [if_neg h1]; exact .inr (.inl rfl)
theorem leftAt_w64 (x y : Int) (hx : -4611686018427387904 < x ∧ x < 4611686018427387904) (hy : -4611686018427387904 < y ∧ y < 4611686018427387904) :
    w64 (w64 ((if (y.natAbs : Int) < (x.natAbs : Int) then (y.natAbs : Int) else (x.natAbs : Int)) * sgn x) * sgn y) = leftAt x y := by
  unfold leftAt
  generalize hm : (if (y.natAbs : Int) < (x.natAbs : Int) then (y.natAbs : Int) else (x.natAbs : Int)) = M
  have h1 : 0 ≤ M ∧ M < 4611686018427387904 := by rw [← hm]; split <;> omega
  rcases sgn_cases x with h | h | h <;> rcases sgn_cases y with h' | h' | h' <;> rw [h, h'] <;> rw [w64_id (n := M * _) (by omega), w64_id (by omega)]
end Go.Sh

/-
  What the shallow functions of the code chapter come to: the loops of cancelling.
-/
namespace Go.Sh
open Go.PW

theorem half_eq {a b : List Int} (hab : b.length = a.length) (hl : a.length < 1000000) : w64 (((a ++ b).length : Int).tdiv 2) = (a.length : Int) := by
  have e : (((a ++ b).length : Int).tdiv 2) = (a.length : Int) := by
    rw [List.length_append, hab, Int.tdiv_eq_ediv_of_nonneg (Int.natCast_nonneg _)]; omega
  rw [e]; exact w64_nat (by omega)
theorem take_half (a b : List Int) : (a ++ b).take a.length = a := by simp
theorem drop_half {a b : List Int} (hab : b.length = a.length) : ((a ++ b).drop a.length).take ((a ++ b).length - a.length) = b := by
  rw [List.drop_left, List.length_append, hab, Nat.add_sub_cancel, ← hab, List.take_length]
def inR (l : List Int) : Prop := ∀ i, i < l.length → -2305843009213693952 < l.getD i 0 ∧ l.getD i 0 < 2305843009213693952
theorem cancel_b1_eq {N : Nat} (a b : List Int) (hab : b.length = a.length) (hl : a.length < 1000000) (hN : a.length < N) (ha : inR a) (hb : inR b) (K : List Int → Option (List Int)) :
    rds (code_cancel.b1 N (a ++ b) K) N (0, List.replicate a.length 0) = K (leftL a b) := by
  refine rds_spec (fun x : Int × List Int => ∃ k : Nat, k ≤ a.length ∧ x.1 = k ∧ x.2.length = a.length ∧ ∀ j, j < k → x.2.getD j 0 = leftAt (a.getD j 0) (b.getD j 0)) (fun x => a.length - x.1.toNat) (fun _ => K (leftL a b)) (fun rec x hI hrec => ?_) N (0, List.replicate a.length 0) ⟨0, Nat.zero_le _, rfl, by simp, fun j hj => absurd hj (Nat.not_lt_zero _)⟩ (by simp; omega)
  obtain ⟨k, hk, hx, hcl, hc⟩ := hI
  obtain ⟨i, c⟩ := x
  simp only at hx hcl hc
  subst hx
  unfold code_cancel.b1
  simp only [half_eq hab hl, Int.toNat_natCast, take_half, drop_half hab]
  by_cases hkl : k < a.length
  · have h1 := ha k hkl
    have h2 := hb k (by omega)
    rw [br_pos (by simpa using hkl), chk_pos (by omega), size_eq N _ (by omega), bnd_val, chk_pos (by omega), size_eq N _ (by omega), bnd_val, chk_pos (by omega), sign_eq, bnd_val, chk_pos (by omega), sign_eq, bnd_val, chk_pos (by omega), w64_succ (by omega), leftAt_w64 _ _ (by omega) (by omega)]
    refine hrec _ ⟨k + 1, hkl, rfl, by simpa using hcl, fun j hj => ?_⟩ (by simp only [Int.toNat_natCast]; omega)
    simp only
    by_cases hjk : j = k
    · subst hjk
      rw [List.getD_eq_getElem?_getD, List.getElem?_set_self (by omega)]; rfl
    · rw [List.getD_eq_getElem?_getD, List.getElem?_set_ne (Ne.symm hjk), ← List.getD_eq_getElem?_getD]
      exact hc j (by omega)
  · rw [br_neg (by simpa using hkl)]
    have : c = leftL a b := ext_getD (by rw [hcl, leftL_length]) fun j hj => by rw [hc j (by omega), leftL_getD a b (by omega)]
    rw [this]
theorem cancel_b4_eq {N : Nat} (w c a b : List Int) (hab : b.length = a.length) (hw : w.length = a.length) (hcl0 : c.length = a.length) (hl : a.length < 1000000) (hN : a.length < N) (ha : inR a) (hb : inR b) (K : List Int → Option (List Int)) :
    rds (code_cancel.b4 N (a ++ b) K w) N (0, c) = K (rightL w a b) := by
  refine rds_spec (fun x : Int × List Int => ∃ k : Nat, k ≤ a.length ∧ x.1 = k ∧ x.2.length = a.length ∧ ∀ j, j < k → x.2.getD j 0 = rightAt (w.getD j 0) (a.getD j 0) (b.getD j 0)) (fun x => a.length - x.1.toNat) (fun _ => K (rightL w a b)) (fun rec x hI hrec => ?_) N (0, c) ⟨0, Nat.zero_le _, rfl, hcl0, fun j hj => absurd hj (Nat.not_lt_zero _)⟩ (by simp; omega)
  obtain ⟨k, hk, hx, hcl, hc⟩ := hI
  obtain ⟨i, c⟩ := x
  simp only at hx hcl hc
  subst hx
  unfold code_cancel.b4
  simp only [half_eq hab hl, Int.toNat_natCast, take_half, drop_half hab]
  by_cases hkl : k < a.length
  · have h1 := ha k hkl
    have h2 := hb k (by omega)
    rw [br_pos (by simp only [decide_eq_true_iff]; omega), chk_pos (by omega), chk_pos (by omega), chk_pos (by omega), chk_pos (by omega), w64_id (n := b.getD k 0 + a.getD k 0) (by omega), w64_id (n := b.getD k 0 - a.getD k 0) (by omega), w64_succ (by omega)]
    by_cases hw1 : w.getD k 0 = 1
    · rw [br_pos (by rw [hw1]; rfl), chk_pos (by omega), chk_pos (by omega), chk_pos (by rw [List.length_set]; omega), List.set_set]
      refine hrec _ ⟨k + 1, hkl, rfl, by simpa using hcl, fun j hj => ?_⟩ (by simp only [Int.toNat_natCast]; omega)
      simp only
      by_cases hjk : j = k
      · subst hjk
        rw [List.getD_eq_getElem?_getD, List.getElem?_set_self (by omega), rightAt, if_pos hw1]; rfl
      · rw [List.getD_eq_getElem?_getD, List.getElem?_set_ne (Ne.symm hjk), ← List.getD_eq_getElem?_getD]
        exact hc j (by omega)
    · rw [br_neg (by simpa using hw1)]
      refine hrec _ ⟨k + 1, hkl, rfl, by simpa using hcl, fun j hj => ?_⟩ (by simp only [Int.toNat_natCast]; omega)
      simp only
      by_cases hjk : j = k
      · subst hjk
        rw [List.getD_eq_getElem?_getD, List.getElem?_set_self (by omega), rightAt, if_neg hw1]; rfl
      · rw [List.getD_eq_getElem?_getD, List.getElem?_set_ne (Ne.symm hjk), ← List.getD_eq_getElem?_getD]
        exact hc j (by omega)
  · rw [br_neg (by simp only [decide_eq_false_iff_not]; omega)]
    have : c = rightL w a b := ext_getD (by rw [hcl, rightL_length]) fun j hj => by rw [hc j (by omega), rightL_getD w a b (by omega)]
    rw [this]
end Go.Sh

/-
  What the shallow functions of the code chapter come to: cancelling undoes the word, where the signs are right.
-/
namespace Go.Sh
open Go.PW

def signed (x w : Int) : Prop := (w = 0 ∧ 0 < x) ∨ (w = 1 ∧ x < 0)
theorem xorI_bits {a b : Int} (ha : a = 0 ∨ a = 1) (hb : b = 0 ∨ b = 1) : xorI a b = if a = b then 0 else 1 := by
  rcases ha with rfl | rfl <;> rcases hb with rfl | rfl
  · exact xorI_nat (a := 0) (b := 0) (by omega) (by omega)
  · exact xorI_nat (a := 0) (b := 1) (by omega) (by omega)
  · exact xorI_nat (a := 1) (b := 0) (by omega) (by omega)
  · exact xorI_nat (a := 1) (b := 1) (by omega) (by omega)
theorem signed_sgn {x w : Int} (h : signed x w) : sgn x = 1 - 2 * w := by
  rcases h with ⟨rfl, h⟩ | ⟨rfl, h⟩ <;> unfold sgn
  · rw [if_neg (by omega), if_pos h]; rfl
  · rw [if_pos h]; rfl
theorem left_signed {x y v w : Int} (hv : v = 0 ∨ v = 1) (hw : w = 0 ∨ w = 1) (hx : signed x (xorI v w)) (hy : signed y w) : signed (leftAt x y) v := by
  have hx0 : x ≠ 0 := by rcases hx with ⟨_, h⟩ | ⟨_, h⟩ <;> omega
  have hy0 : y ≠ 0 := by rcases hy with ⟨_, h⟩ | ⟨_, h⟩ <;> omega
  unfold leftAt
  rw [signed_sgn hx, signed_sgn hy, xorI_bits hv hw]
  generalize hm : (if (y.natAbs : Int) < (x.natAbs : Int) then (y.natAbs : Int) else (x.natAbs : Int)) = M
  have h1 : 0 < M := by rw [← hm]; split <;> omega
  rcases hv with rfl | rfl <;> rcases hw with rfl | rfl <;> simp [signed] <;> omega
theorem right_signed {x y v w : Int} (hv : v = 0 ∨ v = 1) (hw : w = 0 ∨ w = 1) (hx : signed x (xorI v w)) (hy : signed y w) : signed (rightAt v x y) w := by
  rw [xorI_bits hv hw] at hx
  unfold rightAt
  rcases hv with rfl | rfl <;> rcases hw with rfl | rfl <;> simp [signed] at hx hy ⊢ <;> omega
theorem left_size {x y B : Int} (hx : (x.natAbs : Int) ≤ B) (hy : (y.natAbs : Int) ≤ B) : ((leftAt x y).natAbs : Int) ≤ B := by
  unfold leftAt
  generalize hm : (if (y.natAbs : Int) < (x.natAbs : Int) then (y.natAbs : Int) else (x.natAbs : Int)) = M
  have h1 : 0 ≤ M ∧ M ≤ B := by rw [← hm]; split <;> omega
  rcases sgn_cases x with h | h | h <;> rcases sgn_cases y with h' | h' | h' <;> rw [h, h'] <;> omega
theorem right_size {v x y B : Int} (hx : (x.natAbs : Int) ≤ B) (hy : (y.natAbs : Int) ≤ B) : ((rightAt v x y).natAbs : Int) ≤ 2 * B := by
  unfold rightAt; split <;> omega
end Go.Sh

/-
  What the shallow functions of the code chapter come to: cancelling.
-/
namespace Go.Sh
open Go.PW

def bits (l : List Int) : Prop := ∀ i, i < l.length → l.getD i 0 = 0 ∨ l.getD i 0 = 1
theorem bits_getD {l : List Int} (h : bits l) (i : Nat) : l.getD i 0 = 0 ∨ l.getD i 0 = 1 := by
  by_cases hi : i < l.length
  · exact h i hi
  · exact .inl (by simp [List.getD_eq_getElem?_getD, List.getElem?_eq_none (Nat.le_of_not_lt hi)])
theorem xorI_bit {a b : Int} (ha : a = 0 ∨ a = 1) (hb : b = 0 ∨ b = 1) : xorI a b = 0 ∨ xorI a b = 1 := by
  rw [xorI_bits ha hb]; split <;> simp
theorem stepL_bits (s : Nat) {l : List Int} (h : bits l) : bits (stepL s l) := fun i hi => by
  rw [stepL_length] at hi
  rw [stepL_getD s l i hi, wordAt]
  split
  · exact h i hi
  · exact xorI_bit (bits_getD h _) (bits_getD h _)
theorem wordL_bits : ∀ (m : Nat) {l : List Int}, bits l → bits (wordL m l)
  | 0, _, h => h
  | m + 1, _, h => stepL_bits m (wordL_bits m h)

theorem cancel_eq {N : Nat} (isInfo : Int → Option Bool) (info : Nat → Bool) : ∀ (m : Nat), m ≤ 6 → 2 ^ m < N → ∀ (n : Nat), m < n → ∀ (soft u : List Int) (f : Nat) (B : Nat), soft.length = 2 ^ m → u.length = 2 ^ m → bits u →
    (∀ i, i < 2 ^ m → signed (soft.getD i 0) ((wordL m u).getD i 0)) → (∀ i, i < 2 ^ m → ((soft.getD i 0).natAbs : Int) ≤ B) → B * 2 ^ m ≤ 2 ^ 40 → (∀ i, i < 2 ^ m → isInfo ((f + i : Nat) : Int) = some (info (f + i))) →
    (∀ i, i < 2 ^ m → info (f + i) = false → u.getD i 0 = 0) → f + 2 ^ m ≤ 1000000 → rds (code_cancel.b N isInfo) n (soft, (f : Int)) = some u := by
  intro m
  induction m with
  | zero =>
    intro _ _ n hn soft u f B hs hu hb hsg _ _ hinfo h0 _
    obtain ⟨n, rfl⟩ : ∃ k, n = k + 1 := ⟨n - 1, by omega⟩
    obtain ⟨x, rfl⟩ := List.length_eq_one_iff.1 hs
    obtain ⟨y, rfl⟩ := List.length_eq_one_iff.1 hu
    have hx := hsg 0 (by simp)
    have hy := h0 0 (by simp)
    have hi := hinfo 0 (by simp)
    simp only [Nat.add_zero] at hi hy
    rw [rds_succ]
    show br (w64 ((([x] : List Int).length : Int).tdiv 2) == 0) _ _ = _
    have hz : w64 ((([x] : List Int).length : Int).tdiv 2) = 0 := by rw [show ((([x] : List Int).length : Int).tdiv 2) = 0 by rw [List.length_singleton]; decide]; exact w64_id (by decide)
    rw [hz, br_pos (by rfl), hi, bnd_val, chk_pos (by intro _; simp)]
    simp only [wordL, List.getD_cons_zero] at hx hy ⊢
    rcases hx with ⟨rfl, h⟩ | ⟨rfl, h⟩
    · rw [br_neg (by simp; intro _; omega)]
    · cases hf : info f with
      | true => rw [br_pos (by simpa using h)]
      | false => exact absurd (hy hf) (by decide)
  | succ m ih =>
    intro hm hN n hn soft u f B hs hu hb hsg hB hBm hinfo h0 hf
    obtain ⟨n, rfl⟩ : ∃ k, n = k + 1 := ⟨n - 1, by omega⟩
    have hp : 2 ^ (m + 1) = 2 ^ m + 2 ^ m := by rw [Nat.pow_succ]; omega
    have hpos := Nat.two_pow_pos m
    have h64 := pow_le6 hm
    obtain ⟨a, b, rfl, ha, hb'⟩ : ∃ a b, soft = a ++ b ∧ a.length = 2 ^ m ∧ b.length = 2 ^ m := ⟨soft.take (2 ^ m), soft.drop (2 ^ m), (List.take_append_drop _ _).symm, by rw [List.length_take]; omega, by rw [List.length_drop]; omega⟩
    obtain ⟨u1, u2, rfl, hu1, hu2⟩ : ∃ u1 u2, u = u1 ++ u2 ∧ u1.length = 2 ^ m ∧ u2.length = 2 ^ m := ⟨u.take (2 ^ m), u.drop (2 ^ m), (List.take_append_drop _ _).symm, by rw [List.length_take]; omega, by rw [List.length_drop]; omega⟩
    rw [wordL_halves m u1 u2 hu1 hu2] at hsg
    have hab : b.length = a.length := by omega
    have hal : a.length < 1000000 := by omega
    have hBB : B ≤ 2 ^ 40 := Nat.le_trans (Nat.le_mul_of_pos_right B (Nat.two_pow_pos _)) hBm
    have hra : inR a := fun i hi => by
      have := hB i (by omega)
      rw [getD_left a b hi] at this
      omega
    have hrb : inR b := fun i hi => by
      have := hB (a.length + i) (by omega)
      rw [getD_right] at this
      omega
    generalize hself : rds (code_cancel.b N isInfo) n = self at *
    rw [rds_succ, hself]
    show br (w64 (((a ++ b).length : Int).tdiv 2) == 0) _ _ = _
    simp only [half_eq hab hal, Int.toNat_natCast]
    rw [br_neg (by rw [beq_eq_false_iff_ne]; omega), chk_pos (by rw [List.length_append]; omega), chk_pos (by rw [List.length_append]; omega), chk_pos (by omega), jn, cancel_b1_eq a b hab hal (by omega) hra hrb]
    have hbu1 : bits u1 := fun i hi => by have := hb i (by rw [List.length_append]; omega); rwa [getD_left u1 u2 hi] at this
    have hbu2 : bits u2 := fun i hi => by have := hb (u1.length + i) (by rw [List.length_append]; omega); rwa [getD_right] at this
    have hw1 := wordL_bits m hbu1
    have hw2 := wordL_bits m hbu2
    have hsa : ∀ i, i < 2 ^ m → signed (a.getD i 0) (xorI ((wordL m u1).getD i 0) ((wordL m u2).getD i 0)) := fun i hi => by
      have := hsg i (by omega)
      rwa [getD_left a b (by omega), getD_left _ _ (by rw [zipX_length, wordL_length]; omega), zipX_getD _ _ (by rw [wordL_length]; omega)] at this
    have hsb : ∀ i, i < 2 ^ m → signed (b.getD i 0) ((wordL m u2).getD i 0) := fun i hi => by
      have := hsg (a.length + i) (by omega)
      have e : a.length + i = (zipX (wordL m u1) (wordL m u2)).length + i := by rw [zipX_length, wordL_length]; omega
      rw [getD_right] at this
      rwa [e, getD_right] at this
    have key1 : self (leftL a b, (f : Int)) = some u1 := by
      rw [← hself]
      refine ih (by omega) (by omega) n (by omega) (leftL a b) u1 f B (by rw [leftL_length, ha]) hu1 hbu1 (fun i hi => ?_) (fun i hi => ?_) ?_ (fun i hi => hinfo i (by omega)) (fun i hi h => ?_) (by omega)
      · rw [leftL_getD a b (by omega)]; exact left_signed (bits_getD hw1 i) (bits_getD hw2 i) (hsa i hi) (hsb i hi)
      · rw [leftL_getD a b (by omega)]
        have h1 := hB i (by omega)
        have h2 := hB (a.length + i) (by omega)
        rw [getD_left a b (by omega)] at h1
        rw [getD_right] at h2
        exact left_size h1 h2
      · rw [hp, Nat.mul_add] at hBm; omega
      · have := h0 i (by omega) h
        rwa [getD_left u1 u2 (by omega)] at this
    show bnd (self (leftL a b, (f : Int))) _ = _
    rw [key1, bnd_val]
    have key2 : self (rightL (wordL m u1) a b, ((f + a.length : Nat) : Int)) = some u2 := by
      rw [← hself]
      refine ih (by omega) (by omega) n (by omega) (rightL (wordL m u1) a b) u2 (f + a.length) (2 * B) (by rw [rightL_length, ha]) hu2 hbu2 (fun i hi => ?_) (fun i hi => ?_) ?_ (fun i hi => ?_) (fun i hi h => ?_) ?_
      · rw [rightL_getD _ a b (by omega)]; exact right_signed (bits_getD hw1 i) (bits_getD hw2 i) (hsa i hi) (hsb i hi)
      · rw [rightL_getD _ a b (by omega)]
        have h1 := hB i (by omega)
        have h2 := hB (a.length + i) (by omega)
        rw [getD_left a b (by omega)] at h1
        rw [getD_right] at h2
        exact right_size h1 h2
      · rw [hp, Nat.mul_add] at hBm; rw [Nat.mul_assoc]; omega
      · have := hinfo (a.length + i) (by omega)
        rwa [← Nat.add_assoc] at this
      · have := h0 (a.length + i) (by omega) (by rwa [← Nat.add_assoc])
        rw [ha, ← hu1] at this
        rwa [getD_right] at this
      · omega
    rw [jn, slices_Clone_ii, chk_pos (by omega), bnd_val, jn, cancel_b2, wordOut_eq m (by omega) u1 hu1 _ (by omega)]
    show rds (code_cancel.b4 N (a ++ b) _ (wordL m u1)) N (0, leftL a b) = _
    rw [cancel_b4_eq (wordL m u1) (leftL a b) a b hab (by rw [wordL_length]; omega) (leftL_length a b) hal (by omega) hra hrb]
    have e : w64 ((f : Int) + (a.length : Int)) = ((f + a.length : Nat) : Int) := by
      rw [w64_id (by omega)]; rfl
    show bnd (self (rightL (wordL m u1) a b, w64 ((f : Int) + (a.length : Int)))) _ = _
    rw [e, key2, bnd_val, chk_pos (by omega)]
end Go.Sh

/-
  What the shallow functions of the code chapter come to: looking up places, decoding.
-/
namespace Go.Sh
open Go.PW

def rising (l : List Int) : Prop := ∀ i j, i < j → j < l.length → l.getD i 0 < l.getD j 0
theorem mid_eq {i j : Nat} (h : i < j) (hj : j < 1000000) : w64 (shrI (wu64 (w64 ((i : Int) + (j : Int)))) 1) = (((i + j) / 2 : Nat) : Int) := by
  have e1 : w64 ((i : Int) + (j : Int)) = ((i + j : Nat) : Int) := by rw [w64_id (by omega)]; rfl
  rw [e1, wu64_id (by omega)]
  have e2 := shrI_nat (a := i + j) (b := 1) (by omega)
  rw [show ((1 : Nat) : Int) = 1 from rfl, show 2 ^ 1 = 2 from rfl] at e2
  rw [e2]; exact w64_nat (by omega)
theorem Less_eq (N : Nat) (x y : Int) : cmp_Less_int N x y = some (decide (x < y)) := by
  have hn : ∀ x : Int, (x != x) = false := fun x => by simp
  unfold cmp_Less_int cmp_isNaN_int
  simp only [hn, bnd_val, grd_false, Bool.false_and, Bool.false_or]
theorem BinarySearch_b1_eq {N : Nat} (l : List Int) (t : Int) (hl : l.length < 1000000) (hN : l.length < N) (p : Nat) (hp : p ≤ l.length) (hlo : ∀ k, k < p → l.getD k 0 < t) (hhi : ∀ k, p ≤ k → k < l.length → ¬ l.getD k 0 < t) (K : Int → Option (Int × Bool)) :
    rds (slices_BinarySearch_ii.b1 N l t K) N (0, (l.length : Int)) = K (p : Int) := by
  refine rds_spec (fun x : Int × Int => ∃ i j : Nat, x = ((i : Int), (j : Int)) ∧ i ≤ p ∧ p ≤ j ∧ j ≤ l.length) (fun x => x.2.toNat - x.1.toNat) (fun _ => K (p : Int)) (fun rec x hI hrec => ?_) N (0, (l.length : Int)) ⟨0, l.length, rfl, Nat.zero_le _, hp, Nat.le_refl _⟩ (by simp; omega)
  obtain ⟨i, j, rfl, hi, hj, hjl⟩ := hI
  show br (decide ((i : Int) < (j : Int))) _ _ = _
  by_cases h : i < j
  · rw [br_pos (by simpa using h), mid_eq h (by omega), chk_pos (by omega), Less_eq, bnd_val, Int.toNat_natCast, w64_succ (by omega)]
    by_cases hc : l.getD ((i + j) / 2) 0 < t
    · rw [br_pos (by simpa using hc)]
      refine hrec _ ⟨(i + j) / 2 + 1, j, rfl, ?_, hj, hjl⟩ (by simp only [Int.toNat_natCast]; omega)
      by_cases hm : (i + j) / 2 < p
      · exact hm
      · exact absurd hc (hhi _ (by omega) (by omega))
    · rw [br_neg (by simpa using hc)]
      refine hrec _ ⟨i, (i + j) / 2, rfl, hi, ?_, by omega⟩ (by simp only [Int.toNat_natCast]; omega)
      by_cases hm : (i + j) / 2 < p
      · exact absurd (hlo _ hm) hc
      · omega
  · have : i = p := by omega
    subst this
    rw [br_neg (by simpa using h)]
theorem BinarySearch_eq {N : Nat} (l : List Int) (t : Int) (hr : rising l) (hl : l.length < 1000000) (hN : l.length < N) : ∃ i, slices_BinarySearch_ii N l t = some (i, decide (t ∈ l)) := by
  obtain ⟨p, hp, hlo, hhi⟩ : ∃ p, p ≤ l.length ∧ (∀ k, k < p → l.getD k 0 < t) ∧ (∀ k, p ≤ k → k < l.length → ¬ l.getD k 0 < t) := by
    have key : ∀ d, d ≤ l.length → ∃ p, p ≤ d ∧ (∀ k, k < p → l.getD k 0 < t) ∧ (∀ k, p ≤ k → k < d → ¬ l.getD k 0 < t) := by
      intro d
      induction d with
      | zero => intro _; exact ⟨0, Nat.le_refl _, fun k h => absurd h (Nat.not_lt_zero _), fun k _ h => absurd h (Nat.not_lt_zero _)⟩
      | succ d ih =>
        intro hd
        obtain ⟨p, h1, h2, h3⟩ := ih (by omega)
        by_cases hc : l.getD d 0 < t
        · refine ⟨d + 1, Nat.le_refl _, fun k hk => ?_, fun k h4 h5 => by omega⟩
          by_cases hkd : k = d
          · subst hkd; exact hc
          · exact Int.lt_trans (hr k d (by omega) (by omega)) hc
        · refine ⟨p, by omega, h2, fun k h4 h5 => ?_⟩
          by_cases hkd : k = d
          · subst hkd; exact hc
          · exact h3 k h4 (by omega)
    exact key l.length (Nat.le_refl _)
  refine ⟨p, ?_⟩
  unfold slices_BinarySearch_ii slices_isNaN_int
  rw [jn, BinarySearch_b1_eq l t hl hN p hp hlo hhi]
  have hn : ∀ x : Int, (x != x) = false := fun x => by simp
  simp only [hn, Int.toNat_natCast]
  rw [chk_pos (by simp only [decide_eq_true_iff]; omega), chk_pos (by simp only [Bool.and_eq_true, decide_eq_true_iff]; omega)]
  have g1 : ∀ g : Bool, grd g false (some false) = some false := fun g => by cases g <;> rfl
  rw [g1, bnd_val, g1, bnd_val]
  congr 2
  rw [Bool.eq_iff_iff]
  simp only [Bool.or_false, Bool.and_eq_true, decide_eq_true_iff, beq_iff_eq, Bool.and_false]
  constructor
  · rintro ⟨h1, h2⟩
    have h3 : p < l.length := by omega
    rw [← h2, getD_eq h3]; exact List.getElem_mem h3
  · intro h
    obtain ⟨k, hk, rfl⟩ := List.getElem_of_mem h
    have hk1 : ¬ k < p := fun h => by have := hlo k h; rw [getD_eq hk] at this; omega
    have hpk : p = k := by
      by_cases h : p < k
      · have h1 := hr p k h hk
        have h2 := hhi p (Nat.le_refl _) (by omega)
        rw [getD_eq hk] at h1
        exact absurd h1 h2
      · omega
    subst hpk
    exact ⟨by omega, getD_eq hk⟩
theorem decode_1_eq {N : Nat} (l : List Int) (p t : Int) (hr : rising l) (hl : l.length < 1000000) (hN : l.length < N) : code_decode_1 N t p l = some (decide (t ∈ l)) := by
  obtain ⟨i, h⟩ := BinarySearch_eq l t hr hl hN
  unfold code_decode_1
  rw [h]; rfl
theorem decode_b1_eq {N : Nat} (info x : List Int) (hin : ∀ k ∈ info, 0 ≤ k ∧ k < (x.length : Int)) (hl : info.length < 1000000) (hN : info.length < N) (K : List Int → Option (List Int)) :
    rds (code_decode.b1 N info x K) N (0, []) = K (info.map fun k => x.getD k.toNat 0) := by
  refine rds_spec (fun s : Int × List Int => ∃ k : Nat, k ≤ info.length ∧ s = ((k : Int), (info.take k).map fun k => x.getD k.toNat 0)) (fun s => info.length - s.1.toNat) (fun _ => K (info.map fun k => x.getD k.toNat 0)) (fun rec s hI hrec => ?_) N (0, []) ⟨0, Nat.zero_le _, by simp⟩ (by simp; omega)
  obtain ⟨k, hk, rfl⟩ := hI
  show br (decide ((k : Int) < (info.length : Int))) _ _ = _
  by_cases hkl : k < info.length
  · have hm := hin info[k] (List.getElem_mem hkl)
    rw [br_pos (by simpa using hkl), chk_pos (by omega), Int.toNat_natCast, getD_eq hkl, chk_pos hm, chk_pos (by simp; omega), w64_succ (by omega)]
    refine hrec _ ⟨k + 1, hkl, ?_⟩ (by simp only [Int.toNat_natCast]; omega)
    rw [List.take_succ_eq_append_getElem hkl, List.map_append]; rfl
  · have : k = info.length := by omega
    subst this
    rw [br_neg (by simp), List.take_length]
end Go.Sh

/-
  What the shallow functions of the code chapter come to: decoding.
-/
namespace Go.Sh
open Go.PW
theorem decode_eq {N q : Nat} (hq : q ≤ 6) (info soft u : List Int) (p : Int) (hr : rising info) (hin : ∀ x ∈ info, 0 ≤ x ∧ x < ((2 ^ q : Nat) : Int)) (hl : info.length < 1000000) (hN : info.length < N) (hN2 : 64 < N)
    (hs : soft.length = 2 ^ q) (hu : u.length = 2 ^ q) (hb : bits u) (hz : ∀ i, i < 2 ^ q → ((i : Nat) : Int) ∉ info → u.getD i 0 = 0)
    (hsg : ∀ i, i < 2 ^ q → signed (soft.getD i 0) ((wordL q u).getD i 0)) (hB : ∀ i, i < 2 ^ q → ((soft.getD i 0).natAbs : Int) ≤ 1000000) :
    code_decode N p info soft = some (info.map fun k => u.getD k.toNat 0) := by
  have h64 := pow_le6 hq
  unfold code_decode code_cancel
  have hc := cancel_eq (N := N) (fun y0 => code_decode_1 N y0 p info) (fun k => decide ((k : Int) ∈ info)) q hq (by omega) N (by omega) soft u 0 1000000 hs hu hb hsg hB (by have := Nat.mul_le_mul_left 1000000 h64; omega)
    (fun i hi => by rw [decode_1_eq info p _ hr hl hN]) (fun i hi h => hz i hi (by simpa using h)) (by omega)
  rw [show ((0 : Nat) : Int) = 0 from rfl] at hc
  rw [hc, bnd_val, jn, decode_b1_eq info u (fun k hk => by rw [hu]; exact hin k hk) hl hN]
end Go.Sh

/-
  What the exported functions of the code chapter come to: Encode, Decode.
-/
namespace Go.Sh
open Go.PW
theorem Decode_eq {N q : Nat} (hq : q ≤ 6) (info l : List Int) (hi : info.length < 1000000) (hl : l.length < 1000000) (hN : info.length < N) (hN1 : l.length < N) (hN2 : 64 < N) (h1 : polarErr q info = 0) (h2 : listErr 400 isSoftB 2 l = 0) (h3 : l.length = 2 ^ q) :
    code_Decode N q info l = bnd (code_decode N q info l) fun x => some (x, 0) := by
  unfold code_Decode
  rw [CheckPolar_eq _ info (by omega) hN (by omega), bnd_val, softErr_eq l (by omega) hN1 (by omega), bnd_val, h1, h2, first_eq _ (by simp) (by simp; omega), bnd_val, br_neg (by rfl), chk_pos (by omega), shl1_pow (by omega), h3, br_neg (by simp)]
end Go.Sh

/-
  What the shallow functions of the code chapter come to: places and soft bits with the signs of a word.
-/
namespace Go.Sh
open Go.PW

theorem placesErr_zero (m : Int) : ∀ (l : List Int) (b : Int), placesErr m b l = 0 → (∀ x ∈ l, 0 ≤ x ∧ x ≤ m ∧ b < x) ∧ l.Pairwise (· < ·)
  | [], _, _ => ⟨by simp, List.Pairwise.nil⟩
  | x :: l, b, h => by
    rw [placesErr] at h
    by_cases h1 : 0 ≤ x ∧ x ≤ m
    · rw [if_neg (by simpa using h1)] at h
      by_cases h2 : x ≤ b
      · rw [if_pos h2] at h; exact absurd h (by decide)
      · rw [if_neg h2] at h
        obtain ⟨ih1, ih2⟩ := placesErr_zero m l x h
        refine ⟨fun y hy => ?_, List.pairwise_cons.2 ⟨fun y hy => (ih1 y hy).2.2, ih2⟩⟩
        rcases List.mem_cons.1 hy with rfl | hy
        · exact ⟨h1.1, h1.2, by omega⟩
        · have := ih1 y hy
          exact ⟨this.1, this.2.1, by omega⟩
    · rw [if_pos h1] at h; exact absurd h (by decide)
theorem polarErr_zero {p : Int} {l : List Int} (h : polarErr p l = 0) : ∃ q : Nat, q ≤ 6 ∧ p = q ∧ l ≠ [] ∧ (∀ x ∈ l, 0 ≤ x ∧ x < ((2 ^ q : Nat) : Int)) ∧ l.Pairwise (· < ·) := by
  unfold polarErr at h
  by_cases h1 : 0 ≤ p ∧ p ≤ 6
  · rw [if_neg (by simpa using h1)] at h
    by_cases h2 : l.length = 0
    · rw [if_pos h2] at h; exact absurd h (by decide)
    · rw [if_neg h2] at h
      obtain ⟨h3, h4⟩ := placesErr_zero _ _ _ h
      have e : ((2 ^ p.toNat : Nat) : Int) = 2 ^ p.toNat := by push_cast; rfl
      exact ⟨p.toNat, by omega, by omega, fun hn => h2 (by rw [hn]; rfl), fun x hx => ⟨(h3 x hx).1, by rw [e]; have := (h3 x hx).2.1; omega⟩, h4⟩
  · rw [if_pos h1] at h; exact absurd h (by decide)
theorem rising_of {l : List Int} (h : l.Pairwise (· < ·)) : rising l := fun i j hij hj => by
  rw [getD_eq hj, getD_eq (Nat.lt_trans hij hj)]
  exact List.pairwise_iff_getElem.1 h i j (Nat.lt_trans hij hj) hj hij
theorem place_getD_out : ∀ (is ys b : List Int) (j : Nat), (∀ x ∈ is, 0 ≤ x) → (j : Int) ∉ is → (place is ys b).getD j 0 = b.getD j 0
  | [], _, _, _, _, _ => by simp [place]
  | _ :: _, [], _, _, _, _ => by simp [place]
  | x :: is, y :: ys, b, j, h0, h => by
    rw [place, place_getD_out is ys _ j (fun z hz => h0 z (List.mem_cons_of_mem _ hz)) (fun hm => h (List.mem_cons_of_mem _ hm))]
    have hx := h0 x (List.mem_cons_self)
    have hne : x.toNat ≠ j := fun e => h (by rw [← e, Int.toNat_of_nonneg hx]; exact List.mem_cons_self)
    simp [List.getD_eq_getElem?_getD, List.getElem?_set, hne]
theorem place_map : ∀ (is ys b : List Int), is.Pairwise (· < ·) → (∀ x ∈ is, 0 ≤ x ∧ x < (b.length : Int)) → ys.length = is.length → (is.map fun k => (place is ys b).getD k.toNat 0) = ys
  | [], [], _, _, _, _ => rfl
  | x :: is, y :: ys, b, hp, hin, hl => by
    obtain ⟨hp1, hp2⟩ := List.pairwise_cons.1 hp
    have hx := hin x List.mem_cons_self
    have ih := place_map is ys (b.set x.toNat y) hp2 (fun z hz => by rw [List.length_set]; exact hin z (List.mem_cons_of_mem _ hz)) (by simpa using hl)
    rw [List.map_cons, place, ih, place_getD_out is ys _ x.toNat (fun z hz => (hin z (List.mem_cons_of_mem _ hz)).1) (fun hm => by
      rw [Int.toNat_of_nonneg hx.1] at hm
      exact absurd (hp1 x hm) (by omega))]
    have : x.toNat < b.length := by omega
    simp [List.getD_eq_getElem?_getD, this]
theorem bits_set {b : List Int} (h : bits b) (k : Nat) {y : Int} (hy : y = 0 ∨ y = 1) : bits (b.set k y) := fun i hi => by
  rw [List.length_set] at hi
  by_cases hk : k = i
  · subst hk; simpa [List.getD_eq_getElem?_getD, hi] using hy
  · have := h i hi
    simpa [List.getD_eq_getElem?_getD, List.getElem?_set, hk] using this
theorem place_bits : ∀ (is ys b : List Int), bits ys → bits b → bits (place is ys b)
  | [], _, _, _, h => by simpa [place] using h
  | _ :: _, [], _, _, h => by simpa [place] using h
  | x :: is, y :: ys, b, hy, h => by
    rw [place]
    refine place_bits is ys _ (fun i hi => ?_) (bits_set h _ ?_)
    · have := hy (i + 1) (by simpa using hi); simpa using this
    · have := hy 0 (by simp); simpa using this
theorem bits_of_all {l : List Int} (h : l.all isBitB = true) : bits l := fun i hi => by
  have hm : l.getD i 0 ∈ l := by rw [getD_eq hi]; exact List.getElem_mem hi
  have := List.all_eq_true.1 h _ hm
  simpa [isBitB] using this
theorem all_of_bits {l : List Int} (h : bits l) : l.all isBitB = true := by
  rw [List.all_eq_true]
  intro x hx
  obtain ⟨i, hi, rfl⟩ := List.mem_iff_getElem.1 hx
  have := h i hi
  rw [getD_eq hi] at this
  simpa [isBitB] using this
theorem bits_replicate (n : Nat) : bits (List.replicate n 0) := fun i hi => by
  left
  rw [getD_eq hi]; simp
theorem listErr_zero {most e : Int} {f : Int → Bool} {l : List Int} (he : e ≠ 0) (h : listErr most f e l = 0) : l.length ≠ 0 ∧ (l.length : Int) ≤ most ∧ l.all f = true := by
  unfold listErr at h
  by_cases h1 : l.length = 0
  · rw [if_pos h1] at h; exact absurd h (by decide)
  · rw [if_neg h1] at h
    by_cases h2 : (l.length : Int) > most
    · rw [if_pos h2] at h; exact absurd h (by decide)
    · rw [if_neg h2] at h
      cases h3 : l.all f
      · rw [h3] at h; exact absurd h he
      · exact ⟨h1, by omega, rfl⟩
theorem listErr_ok {most e : Int} {f : Int → Bool} {l : List Int} (h1 : l.length ≠ 0) (h2 : (l.length : Int) ≤ most) (h3 : l.all f = true) : listErr most f e l = 0 := by
  unfold listErr
  rw [if_neg h1, if_neg (by omega), if_pos h3]

end Go.Sh

/-
  Four examples of the code chapter.
-/
namespace Go.Sh
open Go.PW
theorem ex_Remainder {N : Nat} (hN : 100 < N) : code_Remainder N 3 3 [1] = some ([0, 1, 1], 0) := by
  have s3 : shlI 1 3 = 8 := by simpa using shl1_pow (p := 3) (by decide)
  have s2 : shlI 1 2 = 4 := by simpa using shl1_pow (p := 2) (by decide)
  have s0 : shlI 0 1 = 0 := by simpa using shlI_nat (a := 0) (b := 1) (by decide) (by decide)
  have a0 : andI 0 4 = 0 := by simpa using andI_nat (a := 0) (b := 4) (by decide) (by decide)
  have a1 : andI 0 7 = 0 := by simpa using andI_nat (a := 0) (b := 7) (by decide) (by decide)
  have x1 : xorI 0 3 = 3 := by simpa using xorI_nat (a := 0) (b := 3) (by decide) (by decide)
  have a2 : andI 3 4 = 0 := by simpa using andI_nat (a := 3) (b := 4) (by decide) (by decide)
  have a3 : andI 3 2 = 2 := by simpa using andI_nat (a := 3) (b := 2) (by decide) (by decide)
  have a4 : andI 3 1 = 1 := by simpa using andI_nat (a := 3) (b := 1) (by decide) (by decide)
  have r4 : shrI 4 1 = 2 := by simpa using shrI_nat (a := 4) (b := 1) (by decide)
  have r2 : shrI 2 1 = 1 := by simpa using shrI_nat (a := 2) (b := 1) (by decide)
  have r1 : shrI 1 1 = 0 := by simpa using shrI_nat (a := 1) (b := 1) (by decide)
  have w2 : w64 2 = 2 := w64_id (by decide)
  have w7 : w64 7 = 7 := w64_id (by decide)
  have w8 : w64 8 = 8 := w64_id (by decide)
  have w1 : w64 1 = 1 := w64_id (by decide)
  obtain ⟨n, rfl⟩ : ∃ n, N = n + 20 := ⟨N - 20, by omega⟩
  have c : code_CheckPoly (n + 20) 3 3 = some 0 := by
    simp [code_CheckPoly, within_eq, unless_eq, s3, w7, chk, first_eq, firstOf]
  have m : code_remainder (n + 20) 3 3 [1] = some [0, 1, 1] := by
    simp only [code_remainder, jn]
    rw [chk_pos (by simp [w2]), rds_succ, code_remainder.b1]
    simp [chk, w2, w7, w8, w1, s2, s0, a0, a1, x1]
    rw [rds_succ, code_remainder.b1]
    simp [chk, w2, s2]
    rw [rds_succ, code_remainder.b2]
    simp [chk, a2, r4]
    rw [rds_succ, code_remainder.b2]
    simp [chk, a3, r2]
    rw [rds_succ, code_remainder.b2]
    simp [chk, a4, r1]
    rw [rds_succ, code_remainder.b2]
    simp [chk, w2, s2, a2, a3, a4, r4, r2, r1]
  unfold code_Remainder
  rw [c, bnd_val, bitsErr_eq _ (by decide) (by simp) (by omega), bnd_val, first_eq _ (by simp) (by simp), bnd_val, m]
  rfl
theorem ex_word : wordL 2 (place [1, 2, 3] [1, 0, 1] (List.replicate (2 ^ 2) 0)) = [0, 0, 1, 1] := by
  have x00 : xorI 0 0 = 0 := by simpa using xorI_bits (a := 0) (b := 0) (by simp) (by simp)
  have x01 : xorI 0 1 = 1 := by simpa using xorI_bits (a := 0) (b := 1) (by simp) (by simp)
  have x10 : xorI 1 0 = 1 := by simpa using xorI_bits (a := 1) (b := 0) (by simp) (by simp)
  have x11 : xorI 1 1 = 0 := by simpa using xorI_bits (a := 1) (b := 1) (by simp) (by simp)
  have e : place [1, 2, 3] [1, 0, 1] (List.replicate (2 ^ 2) 0) = [0, 1, 0, 1] := by decide
  rw [e]
  simp [wordL, stepL, wordAt, List.range_succ, x00, x01, x10, x11, Nat.testBit]
theorem ex_polar : polarErr 2 [1, 2, 3] = 0 := by decide
theorem ex_in : ∀ x ∈ ([1, 2, 3] : List Int), 0 ≤ x ∧ x < ((2 ^ 2 : Nat) : Int) := by decide
theorem ex_Decode {N : Nat} (hN : 100 < N) : code_Decode N 2 [1, 2, 3] [4, 3, -2, -5] = some ([1, 0, 1], 0) := by
  have h := Decode_eq (N := N) (q := 2) (by decide) [1, 2, 3] [4, 3, -2, -5] (by decide) (by decide) (by simp; omega) (by simp; omega) (by omega) ex_polar (by decide) rfl
  rw [show ((2 : Nat) : Int) = 2 from rfl] at h
  rw [h, decode_eq (q := 2) (by decide) [1, 2, 3] [4, 3, -2, -5] (place [1, 2, 3] [1, 0, 1] (List.replicate (2 ^ 2) 0)) 2 (rising_of (by decide)) ex_in (by decide) (by simp; omega) (by omega) rfl rfl (by unfold bits; decide) ?_ ?_ ?_]
  · rfl
  · decide
  · rw [ex_word]; unfold signed; decide
  · decide
end Go.Sh

/-
  RIGHT SIGNS ARE ENOUGH: the law's shallow function tells true.
-/
namespace Go.Sh
open Go.PW

theorem br_nt {α : Type} (a b : Option α) : br (!true) a b = b := rfl
theorem br_00 {α : Type} (a b : Option α) : br ((0 : Int) != 0) a b = b := rfl
end Go.Sh

/-
  Plain words: loops that build a list, that fold, that look for a wrong element. For every program.
-/
namespace Go.PW

theorem rds_map {α R : Type} (len : Nat) (f : Nat → α) (b : (Int × List α → Option R) → Int × List α → Option R) (K : List α → Option R)
    (hstep : ∀ k acc rec, k < len → acc.length = k → b rec ((k : Int), acc) = rec (((k + 1 : Nat) : Int), acc ++ [f k])) (hend : ∀ acc rec, acc.length = len → b rec ((len : Int), acc) = K acc)
    {N : Nat} (hN : len < N) : rds b N (0, []) = K ((List.range len).map f) := by
  refine rds_spec (fun s : Int × List α => ∃ k : Nat, k ≤ len ∧ s = ((k : Int), (List.range k).map f)) (fun s => len - s.1.toNat) (fun _ => K ((List.range len).map f)) (fun rec s hI hrec => ?_) N (0, []) ⟨0, Nat.zero_le _, by simp⟩ (by simp; omega)
  obtain ⟨k, hk, rfl⟩ := hI
  by_cases hkl : k < len
  · rw [hstep k _ rec hkl (by simp)]
    refine hrec _ ⟨k + 1, hkl, ?_⟩ (by simp only [Int.toNat_natCast]; omega)
    rw [List.range_succ, List.map_append]; rfl
  · have : k = len := by omega
    subst this
    exact hend _ rec (by simp)
def itN {σ : Type} (g : Nat → σ → σ) : Nat → σ → σ
  | 0, s => s
  | n + 1, s => g n (itN g n s)
theorem rds_it {σ R : Type} (len : Nat) (g : Nat → σ → σ) (I : Nat → σ → Prop) (b : (Int × σ → Option R) → Int × σ → Option R) (K : σ → Option R) {s : σ} (h0 : I 0 s)
    (hI : ∀ k s, k < len → I k s → I (k + 1) (g k s)) (hstep : ∀ k s rec, k < len → I k s → b rec ((k : Int), s) = rec (((k + 1 : Nat) : Int), g k s)) (hend : ∀ s rec, I len s → b rec ((len : Int), s) = K s)
    {N : Nat} (hN : len < N) : rds b N (0, s) = K (itN g len s) ∧ I len (itN g len s) := by
  have hIk : ∀ k, k ≤ len → I k (itN g k s) := fun k => by
    induction k with
    | zero => exact fun _ => h0
    | succ k ih => exact fun hk => hI k _ hk (ih (by omega))
  refine ⟨?_, hIk len (Nat.le_refl _)⟩
  refine rds_spec (fun x : Int × σ => ∃ k : Nat, k ≤ len ∧ x = ((k : Int), itN g k s)) (fun x => len - x.1.toNat) (fun _ => K (itN g len s)) (fun rec x hx hrec => ?_) N (0, s) ⟨0, Nat.zero_le _, rfl⟩ (by simp; omega)
  obtain ⟨k, hk, rfl⟩ := hx
  by_cases hkl : k < len
  · rw [hstep k _ rec hkl (hIk k hk)]
    exact hrec _ ⟨k + 1, hkl, rfl⟩ (by simp only [Int.toNat_natCast]; omega)
  · have : k = len := by omega
    subst this
    exact hend _ rec (hIk k hk)
theorem rds_itR {σ R : Type} (len : Nat) (g : Nat → σ → σ) (I : Nat → σ → Prop) (b : (σ × Int → Option R) → σ × Int → Option R) (K : σ → Option R) {s : σ} (h0 : I 0 s)
    (hI : ∀ k s, k < len → I k s → I (k + 1) (g k s)) (hstep : ∀ k s rec, k < len → I k s → b rec (s, (k : Int)) = rec (g k s, ((k + 1 : Nat) : Int))) (hend : ∀ s rec, I len s → b rec (s, (len : Int)) = K s)
    {N : Nat} (hN : len < N) : rds b N (s, 0) = K (itN g len s) ∧ I len (itN g len s) := by
  have hIk : ∀ k, k ≤ len → I k (itN g k s) := fun k => by
    induction k with
    | zero => exact fun _ => h0
    | succ k ih => exact fun hk => hI k _ hk (ih (by omega))
  refine ⟨?_, hIk len (Nat.le_refl _)⟩
  refine rds_spec (fun x : σ × Int => ∃ k : Nat, k ≤ len ∧ x = (itN g k s, (k : Int))) (fun x => len - x.2.toNat) (fun _ => K (itN g len s)) (fun rec x hx hrec => ?_) N (s, 0) ⟨0, Nat.zero_le _, rfl⟩ (by simp; omega)
  obtain ⟨k, hk, rfl⟩ := hx
  by_cases hkl : k < len
  · rw [hstep k _ rec hkl (hIk k hk)]
    exact hrec _ ⟨k + 1, hkl, rfl⟩ (by simp only [Int.toNat_natCast]; omega)
  · have : k = len := by omega
    subst this
    exact hend _ rec (hIk k hk)
theorem any_drop {α : Type} (bad : α → Bool) (l : List α) (d : α) (k : Nat) (h : k < l.length) : (l.drop k).any bad = (bad (l.getD k d) || (l.drop (k + 1)).any bad) := by
  rw [List.drop_eq_getElem_cons h, List.any_cons]; simp [List.getD_eq_getElem?_getD, h]
theorem rds_scan {α R : Type} (l : List α) (d : α) (bad : α → Bool) (e K : Option R) (b : (Int → Option R) → Int → Option R)
    (hstep : ∀ k rec, k < l.length → b rec (k : Int) = if bad (l.getD k d) = true then e else rec ((k + 1 : Nat) : Int)) (hend : ∀ rec, b rec (l.length : Int) = K)
    {N : Nat} (hN : l.length < N) : rds b N 0 = if l.any bad = true then e else K := by
  refine (rds_up1 l.length _ (fun k => if (l.drop k).any bad = true then e else K) (fun k rec hk hr => ?_) (fun rec => ?_) hN).trans (by simp)
  · rw [hstep k rec hk, hr, any_drop bad l d k hk]
    cases bad (l.getD k d) <;> simp
  · rw [hend]; simp
end Go.PW

/-
  The bits of a version, gathered soft bits, sums of both.
-/
namespace Go.Sh
open Go.PW

def rangeErr (lo hi e n : Int) : Int := if lo ≤ n ∧ n ≤ hi then 0 else e
theorem unless_range (N : Nat) (lo hi e n : Int) : code_unless N (decide (lo ≤ n) && decide (n ≤ hi)) e = some (rangeErr lo hi e n) := by
  rw [unless_eq]; unfold rangeErr
  by_cases h1 : lo ≤ n <;> by_cases h2 : n ≤ hi <;> simp [h1, h2]
theorem isVersion_eq (N : Nat) (n : Int) : code_isVersion N n = some (decide (0 ≤ n) && decide (n ≤ 3)) := rfl
theorem isCount_eq (N : Nat) (n : Int) : code_isCount N n = some (decide (1 ≤ n) && decide (n ≤ 400)) := rfl
theorem isLength_eq (N : Nat) (n : Int) : code_isLength N n = some (decide (1 ≤ n) && decide (n ≤ 200)) := rfl
theorem refRange {lo hi e n : Int} : br (!(decide (lo ≤ n) && decide (n ≤ hi))) (some e) (some 0) = some (rangeErr lo hi e n) := by
  unfold rangeErr
  by_cases h1 : lo ≤ n <;> by_cases h2 : n ≤ hi <;> simp [h1, h2]
theorem LengthErr_eq (N : Nat) (n : Int) : ref02_LengthErr N n = some (rangeErr 1 200 2 n) := refRange
theorem rangeErr_zero {lo hi e n : Int} (he : e ≠ 0) (h : rangeErr lo hi e n = 0) : lo ≤ n ∧ n ≤ hi := by
  unfold rangeErr at h
  by_cases h1 : lo ≤ n ∧ n ≤ hi
  · exact h1
  · rw [if_neg h1] at h; exact absurd h he

def sizeB (m x : Int) : Bool := decide (-m ≤ x) && decide (x ≤ m)
theorem isSoftB_size : isSoftB = sizeB 1000000 := rfl
theorem sizedErr_eq {N : Nat} (l : List Int) (count size : Int) (hs : 0 ≤ size ∧ size ≤ 4611686018427387904) (hl : l.length < 4611686018427387904) (hN : l.length < N) : ref02_sizedErr N l count size = some (listErr count (sizeB size) 2 l) := by
  unfold ref02_sizedErr listErr
  by_cases h0 : l.length = 0
  · rw [br_pos (by rw [h0]; rfl), if_pos h0]
  rw [br_neg (by rw [beq_eq_false_iff_ne]; omega), if_neg h0]
  by_cases h1 : (l.length : Int) > count
  · rw [br_pos (by simpa using h1), if_pos h1]
  rw [br_neg (by simpa using h1), if_neg h1]
  show rds (ref02_sizedErr.b1 N l size fun _ => some 0) N 0 = _
  rw [rds_scan l 0 (fun x => !sizeB size x) (some 2) (some 0) _ (fun k rec hk => ?_) (fun rec => ?_) hN]
  · by_cases h : l.all (sizeB size) = true
    · rw [if_neg (by rw [List.all_eq_not_any_not] at h; simpa using h), if_pos h]
    · rw [if_pos (by rw [List.all_eq_not_any_not] at h; simpa using h), if_neg h]
  · show br (decide ((k : Int) < (l.length : Int))) _ _ = _
    rw [br_pos (by simpa using hk), chk_pos (by omega), Within_eq, bnd_val, w64_id (n := 0 - size) (by omega), w64_succ (by omega), Int.toNat_natCast, show (0 : Int) - size = -size by omega]
    unfold sizeB
    cases h : (decide (-size ≤ l.getD k 0) && decide (l.getD k 0 ≤ size)) <;> simp
  · show br (decide ((l.length : Int) < (l.length : Int))) _ _ = _
    rw [br_neg (by simp)]
theorem sumsErr_eq {N : Nat} (l : List Int) (hl : l.length < 4611686018427387904) (hN : l.length < N) (hN3 : 3 < N) : code_sumsErr N l = some (listErr 200 (sizeB 1000000000) 2 l) := by
  unfold code_sumsErr
  rw [listErr_eq l 200 2 _ (sizeB 1000000000) (fun x _ => ?_) hl hN hN3, bnd_val]; · rfl
  unfold code_upTo_1
  rw [w64_id (by decide)]; rfl
theorem refSumsErr_eq {N : Nat} (l : List Int) (hl : l.length < 4611686018427387904) (hN : l.length < N) : ref02_SumsErr N l = some (listErr 200 (sizeB 1000000000) 2 l) := by
  unfold ref02_SumsErr
  rw [sizedErr_eq l _ _ (by decide) hl hN]; rfl

def placeN (len v k : Nat) : Nat := (v * len / 4 + k) % len
theorem placeN_lt {len v k : Nat} (h : 0 < len) : placeN len v k < len := Nat.mod_lt _ h
theorem place_w64 {len v k : Nat} (h : 0 < len) (hl : len ≤ 1000) (hv : v ≤ 3) (hk : k ≤ 1000) :
    (w64 ((w64 ((w64 ((v : Int) * (len : Int))).tdiv (4 : Int))) + (k : Int))).tmod (len : Int) = (placeN len v k : Int) := by
  have h1 : v * len ≤ 3000 := Nat.le_trans (Nat.mul_le_mul hv hl) (by decide)
  have h2 : ((v : Int) * (len : Int)) = ((v * len : Nat) : Int) := by push_cast; rfl
  rw [h2, w64_nat (by omega), Int.tdiv_eq_ediv_of_nonneg (by omega), show (((v * len : Nat) : Int) / 4) = ((v * len / 4 : Nat) : Int) by push_cast; rfl, w64_nat (by omega)]
  rw [show (((v * len / 4 : Nat) : Int) + (k : Int)) = ((v * len / 4 + k : Nat) : Int) by push_cast; rfl, w64_nat (by omega), Int.tmod_eq_emod_of_nonneg (by omega)]
  unfold placeN; push_cast; rfl
theorem refplace_eq {N len v k : Nat} (h : 0 < len) (hl : len ≤ 1000) (hv : v ≤ 3) (hk : k ≤ 1000) : ref02_place N len v k = some (placeN len v k : Int) := by
  unfold ref02_place
  rw [chk_pos (by omega), place_w64 h hl hv hk]

def matchL (word : List Int) (v n : Nat) : List Int := (List.range n).map fun k => word.getD (placeN word.length v k) 0
theorem match_eq {N : Nat} (word : List Int) (v n : Nat) (h : 0 < word.length) (hl : word.length ≤ 1000) (hv : v ≤ 3) (hn : n ≤ 1000) (hN : n < N) : code_match N word v n = some (matchL word v n) := by
  unfold code_match jn
  refine rds_map n (fun k => word.getD (placeN word.length v k) 0) _ some (fun k acc rec hk ha => ?_) (fun acc rec _ => ?_) hN
  · show br (decide ((k : Int) < (n : Int))) _ _ = _
    have hp := placeN_lt (v := v) (k := k) h
    rw [br_pos (by simpa using hk), chk_pos (by omega), place_w64 h hl hv (by omega), chk_pos (by omega), chk_pos (by simp; omega), br_nt, w64_succ (by omega), Int.toNat_natCast]
  · show br (decide ((n : Int) < (n : Int))) _ _ = _
    rw [br_neg (by simp)]
theorem refMatch_eq {N : Nat} (word : List Int) (v n : Nat) (h : 0 < word.length) (hl : word.length ≤ 1000) (hv : v ≤ 3) (hn : n ≤ 1000) (hN : n < N) : ref02_Match N word v n = some (matchL word v n) := by
  unfold ref02_Match jn
  refine rds_map n (fun k => word.getD (placeN word.length v k) 0) _ some (fun k acc rec hk ha => ?_) (fun acc rec _ => ?_) hN
  · show br (decide ((k : Int) < (n : Int))) _ _ = _
    have hp := placeN_lt (v := v) (k := k) h
    rw [br_pos (by simpa using hk), refplace_eq h hl hv (by omega), bnd_val, chk_pos (by omega), chk_pos (by simp; omega), w64_succ (by omega), Int.toNat_natCast]
  · show br (decide ((n : Int) < (n : Int))) _ _ = _
    rw [br_neg (by simp)]
end Go.Sh

/-
  The bits of a version, gathered soft bits, sums of both: the law's shallow function tells true.
-/
namespace Go.Sh
open Go.PW

noncomputable def gatherStep (soft : List Int) (len v k : Nat) (s : List Int) : List Int := s.set (placeN len v k) (w64 (s.getD (placeN len v k) 0 + soft.getD k 0))
noncomputable def gatherL (soft : List Int) (v len : Nat) : List Int := itN (gatherStep soft len v) soft.length (List.replicate len 0)
theorem gathered_eq {N : Nat} (soft : List Int) (v len : Nat) (hs : soft.length ≤ 1000) (h : 0 < len) (hl : len ≤ 1000) (hv : v ≤ 3) (hN : soft.length < N) : code_gathered N soft v len = some (gatherL soft v len) := by
  unfold code_gathered
  rw [chk_pos (by omega)]
  refine (rds_it soft.length (gatherStep soft len v) (fun _ s => s.length = len) _ some (s := List.replicate len 0) (by simp) (fun k s _ hs => by simpa [gatherStep] using hs) (fun k s rec hk hI => ?_) (fun s rec _ => ?_) hN).1
  · show br (decide ((k : Int) < (soft.length : Int))) _ _ = _
    have hp := placeN_lt (v := v) (k := k) h
    rw [br_pos (by simpa using hk), chk_pos (by omega), place_w64 h hl hv (by omega), chk_pos (by omega), chk_pos (by omega), chk_pos (by omega), br_nt, w64_succ (by omega), Int.toNat_natCast, Int.toNat_natCast]
    rfl
  · show br (decide ((soft.length : Int) < (soft.length : Int))) _ _ = _
    rw [br_neg (by simp)]
theorem gatherL_length (soft : List Int) (v len : Nat) : (gatherL soft v len).length = len := by
  unfold gatherL
  generalize soft.length = n
  induction n with
  | zero => simp [itN]
  | succ n ih => rw [itN, gatherStep, List.length_set, ih]
noncomputable def sumL (a b : List Int) : List Int := (List.range a.length).map fun k => w64 (a.getD k 0 + b.getD k 0)
theorem sumL_length (a b : List Int) : (sumL a b).length = a.length := by simp [sumL]
theorem combined_eq {N : Nat} (a b : List Int) (h : b.length = a.length) (ha : a.length ≤ 1000) (hN : a.length < N) (hN3 : 3 < N) :
    code_combined N a b = some (if (sumL a b).all (sizeB 1000000000) = true then (sumL a b, 0) else ([], 8)) := by
  unfold code_combined jn
  refine (rds_map a.length (fun k => w64 (a.getD k 0 + b.getD k 0)) _ (fun l => bnd (slices_ContainsFunc_ii N l fun y0 => code_combined_1 N y0) fun x1 => br x1 (some ([], 8)) (some (l, 0))) (fun k acc rec hk hac => ?_) (fun acc rec _ => ?_) hN).trans ?_
  · show br (decide ((k : Int) < (a.length : Int))) _ _ = _
    rw [br_pos (by simpa using hk), chk_pos (by omega), chk_pos (by omega), chk_pos (by simp; omega), w64_succ (by omega), Int.toNat_natCast]
  · show br (decide ((a.length : Int) < (a.length : Int))) _ _ = _
    rw [br_neg (by simp)]
  · show bnd (slices_ContainsFunc_ii N (sumL a b) _) _ = _
    rw [ContainsFunc_eq (sumL a b) _ (fun x => !sizeB 1000000000 x) (fun x _ => ?_) (by rw [sumL_length]; omega) (by rw [sumL_length]; omega), bnd_val]
    · rw [List.all_eq_not_any_not]
      show br ((sumL a b).any fun x => !sizeB 1000000000 x) _ (some (sumL a b, 0)) = _
      cases (sumL a b).any fun x => !sizeB 1000000000 x <;> rfl
    · unfold code_combined_1 code_isSum code_upTo_1
      rw [w64_id (by decide)]; rfl
theorem firstOf2 {a b : Int} (h : firstOf [a, b] = 0) : a = 0 ∧ b = 0 := by
  simp only [firstOf] at h
  split at h
  · split at h
    · exact ⟨‹_›, ‹_›⟩
    · exact absurd h ‹_›
  · exact absurd h ‹_›
end Go.Sh

/-
  Buffers of soft bits: begin, copies, sameness.
-/
namespace Go.Sh
open Go.PW

abbrev Proc := Int × Int × List Int
theorem rds_first {α R : Type} (l : List α) (d : α) (f : α → Int) (g : Int → Option R) (K : Option R) (b : (Int → Option R) → Int → Option R)
    (hstep : ∀ k rec, k < l.length → b rec (k : Int) = if f (l.getD k d) = 0 then rec ((k + 1 : Nat) : Int) else g (f (l.getD k d))) (hend : ∀ rec, b rec (l.length : Int) = K)
    {N : Nat} (hN : l.length < N) : rds b N 0 = if firstOf (l.map f) = 0 then K else g (firstOf (l.map f)) := by
  refine (rds_up1 l.length _ (fun k => if firstOf ((l.drop k).map f) = 0 then K else g (firstOf ((l.drop k).map f))) (fun k rec hk hr => ?_) (fun rec => ?_) hN).trans (by simp)
  · rw [hstep k rec hk, hr]
    have e : firstOf ((l.drop k).map f) = if f (l.getD k d) = 0 then firstOf ((l.drop (k + 1)).map f) else f (l.getD k d) := by
      rw [List.drop_eq_getElem_cons hk, List.map_cons, firstOf]; simp [List.getD_eq_getElem?_getD, hk]
    rw [e]
    by_cases h : f (l.getD k d) = 0
    · simp only [h, if_true]
    · simp only [h, if_false]
  · rw [hend]; simp [firstOf]
theorem map_range_getD {α : Type} (l : List α) (d : α) : (List.range l.length).map (fun k => l.getD k d) = l := by
  refine List.ext_getElem (by simp) fun j h1 h2 => ?_
  simp [List.getD_eq_getElem?_getD, h2]
theorem CopyBuffers_eq {N : Nat} (n : Int) (ps : List Proc) (hp : ps.length ≤ 1000) (hs : ∀ p ∈ ps, p.2.2.length ≤ 1000) (hN : 1000 < N) : ref02_CopyBuffers N n ps = some (n, ps) := by
  unfold ref02_CopyBuffers jn
  refine (rds_map ps.length (fun k => ps.getD k default) _ (fun b => some (n, b)) (fun k acc rec hk ha => ?_) (fun acc rec _ => ?_) (by omega)).trans (by rw [map_range_getD])
  · show br (decide ((k : Int) < (ps.length : Int))) _ _ = _
    have hm : ps.getD k default ∈ ps := by simp [List.getD_eq_getElem?_getD, hk]
    have := hs _ hm
    rw [br_pos (by simpa using hk), chk_pos (by omega), Int.toNat_natCast, CopyInts_eq _ _ (by omega), bnd_val, chk_pos (by simp; omega), w64_succ (by omega)]
  · show br (decide ((ps.length : Int) < (ps.length : Int))) _ _ = _
    rw [br_neg (by simp)]
def beginL (n c : Int) : Int × List Proc × Int :=
  if (1 ≤ n ∧ n ≤ 200) ∧ 1 ≤ c ∧ c ≤ 8 then (n, List.replicate c.toNat (-1, 0, List.replicate n.toNat 0), 0) else (0, [], 2)
theorem map_range_const {α : Type} (n : Nat) (a : α) : (List.range n).map (fun _ => a) = List.replicate n a := by
  refine List.ext_getElem (by simp) fun j h1 h2 => ?_
  simp
theorem Begin_eq {N : Nat} (n c : Int) (hN : 1000 < N) : code_Begin N n c = some (beginL n c) := by
  unfold code_Begin beginL
  rw [isLength_eq, bnd_val]
  by_cases h1 : 1 ≤ n ∧ n ≤ 200
  case neg =>
    have e : (decide (1 ≤ n) && decide (n ≤ 200)) = false := by rw [Bool.eq_false_iff]; simpa [Bool.and_eq_true] using h1
    rw [e, if_neg (fun h => h1 h.1)]; rfl
  have e : (decide (1 ≤ n) && decide (n ≤ 200)) = true := by simpa using h1
  rw [e, Bool.not_true, Bool.not_false, grd_true, within_eq, bnd_val]
  by_cases h2 : 1 ≤ c ∧ c ≤ 8
  case neg =>
    have e : (decide (1 ≤ c) && decide (c ≤ 8)) = false := by rw [Bool.eq_false_iff]; simpa [Bool.and_eq_true] using h2
    rw [e, if_neg (fun h => h2 h.2)]; rfl
  have e : (decide (1 ≤ c) && decide (c ≤ 8)) = true := by simpa using h2
  rw [e, if_pos ⟨h1, h2⟩, Bool.not_true, Bool.or_false, br_false]
  obtain ⟨m, rfl⟩ : ∃ m : Nat, c = m := ⟨c.toNat, by omega⟩
  unfold jn
  refine (rds_map m (fun _ => ((-1 : Int), (0 : Int), List.replicate n.toNat (0 : Int))) _ (fun b => some (n, b, 0)) (fun k acc rec hk ha => ?_) (fun acc rec _ => ?_) (by omega)).trans (by rw [map_range_const]; rfl)
  · show br (decide ((k : Int) < (m : Int))) _ _ = _
    rw [br_pos (by simpa using hk), chk_pos (by omega), chk_pos (by simp; omega), w64_succ (by omega)]
  · show br (decide ((m : Int) < (m : Int))) _ _ = _
    rw [br_neg (by simp)]
end Go.Sh

/-
  Buffers of soft bits: their errors.
-/
namespace Go.Sh
open Go.PW

def procE (n : Int) (p : Proc) : Int :=
  firstOf [if (decide (-1 ≤ p.1) && decide (p.1 ≤ 1) && (decide (0 ≤ p.2.1) && decide (p.2.1 ≤ 1000000000))) = true then 0 else 2, if ((p.1 == -1) == (p.2.1 == 0)) = true then 0 else 22,
    if (p.2.2.length : Int) = n then 0 else 10, if p.2.2.all (sizeB 1000000000) = true then 0 else 2, if ((!(p.2.1 == 0)) || p.2.2.all (· == 0)) = true then 0 else 22]
theorem grd_and (c : Bool) (b : Bool) : grd c false (some b) = some (c && b) := by cases c <;> rfl
theorem processErr_eq {N : Nat} (n : Int) (p : Proc) (hs : p.2.2.length ≤ 1000) (hN : 2000 < N) : code_processErr N p.1 p.2.1 p.2.2 n = some (procE n p) := by
  unfold code_processErr procE
  have c1 : slices_ContainsFunc_ii N p.2.2 (fun y0 => code_processErr_1 N y0) = some (p.2.2.any fun x => !sizeB 1000000000 x) := ContainsFunc_eq p.2.2 _ (fun x => !sizeB 1000000000 x) (fun x _ => by
    unfold code_processErr_1 code_isSum code_upTo_1
    rw [w64_id (by decide)]; rfl) (by omega) (by omega)
  have c2 : slices_ContainsFunc_ii N p.2.2 (fun y0 => code_processErr_2 N y0) = some (p.2.2.any fun x => x != 0) := ContainsFunc_eq p.2.2 _ (fun x => x != 0) (fun x _ => rfl) (by omega) (by omega)
  rw [within_eq, bnd_val, within_eq, grd_and, bnd_val, unless_eq, bnd_val, unless_eq, bnd_val, unless_eq, bnd_val, c1, bnd_val, unless_eq, bnd_val, c2, grd_and, bnd_val, unless_eq, bnd_val, first_eq _ (by simp) (by simp; omega), bnd_val]
  have e1 : ∀ a c : Bool, (a && (a && c)) = (a && c) := by decide
  have e4 : (!(p.2.2.any fun x => !sizeB 1000000000 x)) = p.2.2.all (sizeB 1000000000) := by rw [List.all_eq_not_any_not]
  have e5 : (!(p.2.2.any fun x => x != 0)) = p.2.2.all (· == 0) := by rw [List.all_eq_not_any_not]; rfl
  have e6 : ∀ z a : Bool, (!z || !(!(!z) && a)) = (!z || !a) := by decide
  rw [e1, e4, e6, e5]
  simp only [beq_iff_eq]

theorem refProc_eq {N : Nat} (n : Int) (p : Proc) (hn : 1 ≤ n ∧ n ≤ 200) (hs : p.2.2.length ≤ 1000) (hN : 2000 < N) (r : Option Int) :
    (bnd (base_Within N p.1 (-1 : Int) (1 : Int)) fun x2 =>
      bnd (grd (!(!x2)) false (base_Within N p.2.1 (0 : Int) (1000000000 : Int))) fun x3 =>
      br (((!x2) || (!x3))) (
      some (2 : Int)) (
      br (((p.1 == (-1 : Int)) != (p.2.1 == (0 : Int)))) (
      some (22 : Int)) (
      br (((p.2.2.length : Int) != n)) (
      some (10 : Int)) (
      bnd (ref02_SumsErr N p.2.2) fun x4 =>
      br ((x4 != (0 : Int))) (
      some x4) (
      chk ((p.2.1 == (0 : Int)) = true → 0 ≤ n ∧ n ≤ 1000000000) <|
      bnd (grd (p.2.1 == (0 : Int)) false (base_Ints N p.2.2 (List.replicate n.toNat (0 : Int)))) fun x5 =>
      br (((p.2.1 == (0 : Int)) && (!x5))) (
      some (22 : Int)) r))))) = if procE n p = 0 then r else some (procE n p) := by
  rw [Within_eq, bnd_val, Within_eq]
  unfold procE
  cases h1 : (decide (-1 ≤ p.1) && decide (p.1 ≤ 1))
  · simp [firstOf]
  cases h2 : (decide (0 ≤ p.2.1) && decide (p.2.1 ≤ 1000000000))
  · simp [firstOf]
  rw [Bool.not_true, Bool.not_false, grd_true, bnd_val, Bool.not_true, Bool.or_false, br_false]
  have e0 : ((p.1 == (-1 : Int)) != (p.2.1 == (0 : Int))) = !((p.1 == -1) == (p.2.1 == 0)) := rfl
  rw [e0]
  cases h3 : ((p.1 == -1) == (p.2.1 == 0))
  · simp [firstOf]
  rw [Bool.not_true, br_false]
  by_cases h4 : (p.2.2.length : Int) = n
  case neg => rw [br_pos (bne_iff_ne.2 h4)]; simp [firstOf, h4]
  rw [br_neg (by simpa using h4), refSumsErr_eq _ (by omega) (by omega), bnd_val, if_pos h4]
  unfold listErr
  rw [if_neg (by omega), if_neg (by omega)]
  cases h5 : p.2.2.all (sizeB 1000000000)
  · simp [firstOf]
  rw [if_pos rfl, br_00, chk_pos (fun _ => by omega), Ints_eq _ _ (by omega) (by omega)]
  have e6 : decide (p.2.2 = List.replicate n.toNat 0) = p.2.2.all (· == 0) := by
    rw [Bool.eq_iff_iff, decide_eq_true_iff, List.all_eq_true, List.eq_replicate_iff]
    constructor
    · intro h x hx; simpa using h.2 x hx
    · intro h; exact ⟨by omega, fun x hx => by simpa using h x hx⟩
  rw [e6]
  cases h6 : p.2.1 == 0 <;> cases h7 : p.2.2.all (· == 0) <;> simp [firstOf]

def bufE (n : Int) (ps : List Proc) : Int :=
  firstOf [rangeErr 1 200 2 n, if (ps.length : Int) > 0 then 0 else 10, if (ps.length : Int) ≤ 8 then 0 else 8, firstOf (ps.map (procE n))]
theorem fo_cons (a : Int) (l : List Int) : firstOf (a :: l) = if a = 0 then firstOf l else a := rfl
theorem fo_one (a : Int) : firstOf [a] = a := by by_cases h : a = 0 <;> simp [firstOf, h]
theorem fo_snoc (l : List Int) (a : Int) : firstOf (l ++ [a]) = if firstOf l = 0 then a else firstOf l := by
  induction l with
  | nil => simp [fo_one]; simp [firstOf]
  | cons x l ih =>
    rw [List.cons_append, fo_cons, fo_cons, ih]
    by_cases h : x = 0
    · simp only [h, if_true]
    · simp only [h, if_false]
theorem buffersErr_eq {N : Nat} (n : Int) (ps : List Proc) (hp : ps.length ≤ 1000) (hs : ∀ p ∈ ps, p.2.2.length ≤ 1000) (hN : 2000 < N) : code_buffersErr N n ps = some (bufE n ps) := by
  unfold code_buffersErr bufE
  rw [isLength_eq, bnd_val, unless_range, bnd_val, unless_eq, bnd_val, unless_eq, bnd_val, first_eq _ (by simp) (by simp; omega), bnd_val]
  simp only [decide_eq_true_eq]
  rw [show ∀ a b c d : Int, firstOf [a, b, c, d] = if firstOf [a, b, c] = 0 then d else firstOf [a, b, c] from fun a b c d => fo_snoc [a, b, c] d]
  by_cases h : firstOf [rangeErr 1 200 2 n, if (ps.length : Int) > 0 then 0 else 10, if (ps.length : Int) ≤ 8 then 0 else 8] = 0
  case neg => rw [br_pos (bne_iff_ne.2 h), if_neg h]
  rw [h, br_00, if_pos rfl]
  refine (rds_first ps default (procE n) some (some 0) _ (fun k rec hk => ?_) (fun rec => ?_) (by omega)).trans ?_
  · show br (decide ((k : Int) < (ps.length : Int))) _ _ = _
    have hm : ps.getD k default ∈ ps := by simp [List.getD_eq_getElem?_getD, hk]
    rw [br_pos (by simpa using hk), chk_pos (by omega), Int.toNat_natCast, processErr_eq n _ (hs _ hm) hN, bnd_val, w64_succ (by omega)]
    by_cases he : procE n (ps.getD k default) = 0
    · rw [if_pos he, he, br_00]
    · rw [if_neg he, br_pos (bne_iff_ne.2 he)]
  · show br (decide ((ps.length : Int) < (ps.length : Int))) _ _ = _
    rw [br_neg (by simp)]
  · by_cases he : firstOf (ps.map (procE n)) = 0
    · rw [if_pos he, he]
    · rw [if_neg he]
theorem refBuffersErr_eq {N : Nat} (n : Int) (ps : List Proc) (hp : ps.length ≤ 1000) (hs : ∀ p ∈ ps, p.2.2.length ≤ 1000) (hN : 2000 < N) : ref02_BuffersErr N n ps = some (bufE n ps) := by
  unfold ref02_BuffersErr bufE
  rw [LengthErr_eq, bnd_val, fo_cons]
  by_cases h1 : rangeErr 1 200 2 n = 0
  case neg => rw [br_pos (bne_iff_ne.2 h1), if_neg h1]
  obtain ⟨n1, n2⟩ := rangeErr_zero (by decide) h1
  rw [h1, br_00, if_pos rfl, fo_cons]
  by_cases h2 : ps.length = 0
  · rw [br_pos (by rw [h2]; rfl), if_neg (by rw [if_neg (by omega)]; decide), if_neg (by omega)]
  rw [br_neg (by rw [beq_eq_false_iff_ne]; omega), if_pos (by rw [if_pos (by omega)]), fo_cons]
  by_cases h3 : (ps.length : Int) ≤ 8
  case neg => rw [br_pos (by simp; omega), if_neg (by rw [if_neg h3]; decide), if_neg h3]
  rw [br_neg (by simp; omega), if_pos (by rw [if_pos h3]), fo_one]
  refine (rds_first ps default (procE n) some (some 0) _ (fun k rec hk => ?_) (fun rec => ?_) (by omega)).trans ?_
  · show br (decide ((k : Int) < (ps.length : Int))) _ _ = _
    have hm : ps.getD k default ∈ ps := by simp [List.getD_eq_getElem?_getD, hk]
    rw [br_pos (by simpa using hk), chk_pos (by omega), Int.toNat_natCast, w64_succ (by omega)]
    exact refProc_eq n _ ⟨n1, n2⟩ (hs _ hm) hN _
  · show br (decide ((ps.length : Int) < (ps.length : Int))) _ _ = _
    rw [br_neg (by simp)]
  · by_cases he : firstOf (ps.map (procE n)) = 0
    · rw [if_pos he, he]
    · rw [if_neg he]
theorem fo_zero : ∀ {l : List Int}, firstOf l = 0 → ∀ x ∈ l, x = 0
  | [], _, x, hx => by simp at hx
  | y :: l, h, x, hx => by
    rw [fo_cons] at h
    by_cases hy : y = 0
    · rw [if_pos hy] at h
      rcases List.mem_cons.1 hx with rfl | hx
      · exact hy
      · exact fo_zero h x hx
    · rw [if_neg hy] at h; exact absurd h hy
theorem fo_ite {c : Prop} [Decidable c] {e : Int} (he : e ≠ 0) (hh : (if c then (0 : Int) else e) = 0) : c := by
  by_cases hc : c
  · exact hc
  · rw [if_neg hc] at hh; exact absurd hh he
theorem bufE_zero {n : Int} {ps : List Proc} (h : bufE n ps = 0) : (1 ≤ n ∧ n ≤ 200) ∧ 0 < ps.length ∧ ps.length ≤ 8 ∧ ∀ p ∈ ps, procE n p = 0 := by
  unfold bufE at h
  have k := fo_zero h
  have h1 := k _ (List.mem_cons_self ..)
  have h2 := fo_ite (by decide) (k _ (List.mem_cons_of_mem _ (List.mem_cons_self ..)))
  have h3 := fo_ite (by decide) (k _ (List.mem_cons_of_mem _ (List.mem_cons_of_mem _ (List.mem_cons_self ..))))
  have h4 := k _ (List.mem_cons_of_mem _ (List.mem_cons_of_mem _ (List.mem_cons_of_mem _ (List.mem_cons_self ..))))
  exact ⟨rangeErr_zero (by decide) h1, by omega, by omega, fun p hp => fo_zero h4 _ (List.mem_map_of_mem hp)⟩
theorem procE_zero {n : Int} {p : Proc} (h : procE n p = 0) : (-1 ≤ p.1 ∧ p.1 ≤ 1) ∧ (0 ≤ p.2.1 ∧ p.2.1 ≤ 1000000000) ∧ ((p.1 = -1) ↔ (p.2.1 = 0)) ∧ (p.2.2.length : Int) = n ∧ p.2.2.all (sizeB 1000000000) = true ∧ (p.2.1 = 0 → ∀ x ∈ p.2.2, x = 0) := by
  unfold procE at h
  have k := fo_zero h
  have g1 := fo_ite (by decide) (k _ (List.mem_cons_self ..))
  have g2 := fo_ite (by decide) (k _ (List.mem_cons_of_mem _ (List.mem_cons_self ..)))
  have g3 := fo_ite (by decide) (k _ (List.mem_cons_of_mem _ (List.mem_cons_of_mem _ (List.mem_cons_self ..))))
  have g4 := fo_ite (by decide) (k _ (List.mem_cons_of_mem _ (List.mem_cons_of_mem _ (List.mem_cons_of_mem _ (List.mem_cons_self ..)))))
  have g5 := fo_ite (by decide) (k _ (List.mem_cons_of_mem _ (List.mem_cons_of_mem _ (List.mem_cons_of_mem _ (List.mem_cons_of_mem _ (List.mem_cons_self ..))))))
  simp only [Bool.and_eq_true, decide_eq_true_eq] at g1
  refine ⟨g1.1, g1.2, ?_, g3, g4, fun hz => ?_⟩
  · rw [beq_iff_eq, Bool.eq_iff_iff, beq_iff_eq, beq_iff_eq] at g2; exact g2
  · rw [hz] at g5
    have : p.2.2.all (· == 0) = true := by simpa using g5
    intro x hx
    simpa using List.all_eq_true.1 this x hx
end Go.Sh

/-
  The law 'CodeBuffers': its shallow function tells true.
-/
namespace Go.Sh
open Go.PW

theorem map_set_getD {α : Type} (l : List α) (d a : α) (i : Nat) : (List.range l.length).map (fun k => if k = i then a else l.getD k d) = l.set i a := by
  refine List.ext_getElem (by simp) fun j h1 h2 => ?_
  have hj : j < l.length := by simpa using h2
  rw [List.getElem_map, List.getElem_range, List.getElem_set]
  by_cases h : j = i
  · rw [if_pos h, if_pos h.symm]
  · rw [if_neg h, if_neg (Ne.symm h)]; simp [List.getD_eq_getElem?_getD, hj]
noncomputable def recvL (n : Nat) (ps : List Proc) (i : Nat) (t : Int) (v : Nat) (soft : List Int) : Int × List Proc × Int :=
  if (ps.getD i default).1 = t then
    if (sumL (ps.getD i default).2.2 (gatherL soft v n)).all (sizeB 1000000000) = true ∧ w64 ((ps.getD i default).2.1 + 1) ≤ 1000000000 then ((n : Int), ps.set i (t, w64 ((ps.getD i default).2.1 + 1), sumL (ps.getD i default).2.2 (gatherL soft v n)), 0) else (0, [], 8)
  else ((n : Int), ps.set i (t, 1, gatherL soft v n), 0)
theorem recv_loop {N : Nat} (ps : List Proc) (i : Nat) (t c : Int) (s : List Int) (K : List Proc → Option (Int × List Proc × Int)) (hp : ps.length ≤ 1000) (hs : ∀ p ∈ ps, p.2.2.length ≤ 1000) (hs2 : s.length ≤ 1000) (hN : 2000 < N) :
    rds (code_Receive.b1 N ps i t c s K) N ((0 : Int), ([] : List Proc)) = K (ps.set i (t, c, s)) := by
  rw [← map_set_getD ps default]
  refine rds_map ps.length (fun k => if k = i then (t, c, s) else ps.getD k default) _ K (fun k acc rec hk ha => ?_) (fun acc rec _ => ?_) (by omega)
  · show br (decide ((k : Int) < (ps.length : Int))) _ _ = _
    have hm : ps.getD k default ∈ ps := by simp [List.getD_eq_getElem?_getD, hk]
    have := hs _ hm
    rw [br_pos (by simpa using hk), chk_pos (by omega), Int.toNat_natCast]
    unfold jn
    dsimp only
    by_cases h : k = i
    · subst h
      rw [br_pos (by simp), if_pos rfl]
      show bnd (slices_Clone_ii N s) _ = _
      rw [slices_Clone_ii, chk_pos (by omega), bnd_val, chk_pos (by simp; omega), w64_succ (by omega)]
    · rw [br_neg (by rw [beq_eq_false_iff_ne]; omega), if_neg h]
      show bnd (slices_Clone_ii N (ps.getD k default).2.2) _ = _
      rw [slices_Clone_ii, chk_pos (by omega), bnd_val, chk_pos (by simp; omega), w64_succ (by omega)]
  · show br (decide ((ps.length : Int) < (ps.length : Int))) _ _ = _
    rw [br_neg (by simp)]
def receivedE (ps : List Proc) (i t v : Int) (soft : List Int) : Int := firstOf [rangeErr 0 ((ps.length : Int) - 1) 6 i, rangeErr 0 1 15 t, rangeErr 0 3 15 v, listErr 400 isSoftB 2 soft]
theorem bit_range (N : Nat) (t : Int) : bnd (code_isBit N t) (fun x => code_unless N x 15) = some (rangeErr 0 1 15 t) := by
  rw [isBit_eq, bnd_val, unless_eq]
  unfold rangeErr
  by_cases h : 0 ≤ t ∧ t ≤ 1
  · have : t = 0 ∨ t = 1 := by omega
    rw [if_pos h]; rcases this with rfl | rfl <;> rfl
  · have h0 : t ≠ 0 := by omega
    have h1 : t ≠ 1 := by omega
    rw [if_neg h]; simp [h0, h1]
theorem Receive_eq {N : Nat} (n : Int) (ps : List Proc) (i t v : Int) (soft : List Int) (hp : ps.length ≤ 1000) (hs : ∀ p ∈ ps, p.2.2.length ≤ 1000) (hl : soft.length ≤ 1000) (hN : 2000 < N) :
    code_Receive N n ps i t v soft = some (if firstOf [bufE n ps, receivedE ps i t v soft] = 0 then recvL n.toNat ps i.toNat t v.toNat soft else (0, [], firstOf [bufE n ps, receivedE ps i t v soft])) := by
  have hw : w64 ((ps.length : Int) - 1) = (ps.length : Int) - 1 := w64_id (by omega)
  unfold code_Receive
  rw [buffersErr_eq n ps hp hs hN, bnd_val, hw, within_eq, bnd_val, unless_range, bnd_val]
  have hb := bit_range N t
  rw [isBit_eq, bnd_val] at hb
  rw [isBit_eq, bnd_val, hb, bnd_val, isVersion_eq, bnd_val, unless_range, bnd_val, softErr_eq soft (by omega) (by omega) (by omega), bnd_val, first_eq _ (by simp) (by simp; omega), bnd_val]
  have e : firstOf [bufE n ps, rangeErr 0 ((ps.length : Int) - 1) 6 i, rangeErr 0 1 15 t, rangeErr 0 3 15 v, listErr 400 isSoftB 2 soft] = firstOf [bufE n ps, receivedE ps i t v soft] := by
    unfold receivedE
    rw [fo_cons, fo_cons (bufE n ps), fo_one]
  rw [e]
  by_cases h : firstOf [bufE n ps, receivedE ps i t v soft] = 0
  case neg => rw [br_pos (bne_iff_ne.2 h), if_neg h]
  obtain ⟨h1, h2⟩ := firstOf2 h
  rw [if_pos h, h, br_00]
  obtain ⟨⟨n1, n2⟩, p1, p2, hpr⟩ := bufE_zero h1
  have k := fo_zero h2
  have g1 := rangeErr_zero (by decide) (k _ (List.mem_cons_self ..))
  have g3 := rangeErr_zero (by decide) (k _ (List.mem_cons_of_mem _ (List.mem_cons_of_mem _ (List.mem_cons_self ..))))
  obtain ⟨a, rfl⟩ : ∃ a : Nat, n = a := ⟨n.toNat, by omega⟩
  obtain ⟨j, rfl⟩ : ∃ a : Nat, i = a := ⟨i.toNat, by omega⟩
  obtain ⟨u, rfl⟩ : ∃ a : Nat, v = a := ⟨v.toNat, by omega⟩
  rw [gathered_eq soft u a (by omega) (by omega) (by omega) (by omega) (by omega), bnd_val]
  have hm : ps.getD j default ∈ ps := by simp [List.getD_eq_getElem?_getD, show j < ps.length by omega]
  obtain ⟨q1, q2, q3, q4, q5, q6⟩ := procE_zero (hpr _ hm)
  have hlen := gatherL_length soft u a
  unfold jn
  simp only [Int.toNat_natCast]
  rw [chk_pos (by omega)]
  unfold recvL
  by_cases ht : (ps.getD j default).1 = t
  · rw [br_pos (by rw [beq_iff_eq]; exact ht), if_pos ht, combined_eq _ _ (by omega) (by omega) (by omega) (by omega), bnd_val]
    cases hA : (sumL (ps.getD j default).2.2 (gatherL soft u a)).all (sizeB 1000000000)
    · simp only [Bool.false_eq_true, if_false, false_and]
      rw [unless_eq, bnd_val, first_eq _ (by simp) (by simp; omega), bnd_val]
      rfl
    · simp only [if_true, true_and]
      rw [unless_eq, bnd_val, first_eq _ (by simp) (by simp; omega), bnd_val]
      by_cases hc : w64 ((ps.getD j default).2.1 + 1) ≤ 1000000000
      · rw [decide_eq_true hc, if_pos rfl, if_pos hc, br_neg (by rfl), recv_loop ps j t _ _ _ hp hs (by rw [sumL_length]; omega) hN]
      · rw [decide_eq_false hc, if_neg (by decide), if_neg hc]; rfl
  · rw [br_neg (by rw [beq_eq_false_iff_ne]; exact ht), if_neg ht, recv_loop ps j t _ _ _ hp hs (by omega) hN]
end Go.Sh

/-
  Words of polar codes: weights.
-/
namespace Go.Sh
open Go.PW

theorem bits_cons {x : Int} {l : List Int} : bits (x :: l) ↔ (x = 0 ∨ x = 1) ∧ bits l := by
  constructor
  · intro h
    exact ⟨by simpa using h 0 (by simp), fun i hi => by simpa using h (i + 1) (by simpa using hi)⟩
  · rintro ⟨h1, h2⟩ i hi
    cases i with
    | zero => simpa using h1
    | succ i => simpa using h2 i (by simpa using hi)
theorem bits_append {a b : List Int} : bits (a ++ b) ↔ bits a ∧ bits b := by
  induction a with
  | nil => simp [bits]
  | cons x a ih => rw [List.cons_append, bits_cons, bits_cons, ih, and_assoc]
theorem halves {l : List Int} {m : Nat} (h : l.length = 2 ^ (m + 1)) : ∃ a b, l = a ++ b ∧ a.length = 2 ^ m ∧ b.length = 2 ^ m := by
  have hp : 2 ^ (m + 1) = 2 ^ m + 2 ^ m := by rw [Nat.pow_succ]; omega
  exact ⟨l.take (2 ^ m), l.drop (2 ^ m), (List.take_append_drop _ _).symm, by rw [List.length_take]; omega, by rw [List.length_drop]; omega⟩
end Go.Sh

/-
  Checks of bits: the register, its steps, what it shows. Plain Lean.
-/
namespace Go.Sh
open Go.PW

def stepR (d t r : Nat) (b : Bool) : Nat := ((r <<< 1) % 2 ^ d) ^^^ (if (r.testBit (d - 1) ^^ b) = true then t else 0)
def isOne (x : Int) : Bool := x == 1
def runR (d t : Nat) : Nat → List Int → Nat
  | r, [] => r
  | r, x :: l => runR d t (stepR d t r (isOne x)) l
theorem runR_append (d t : Nat) : ∀ (r : Nat) (a b : List Int), runR d t r (a ++ b) = runR d t (runR d t r a) b
  | _, [], _ => rfl
  | r, x :: a, b => by rw [List.cons_append, runR, runR, runR_append d t _ a b]
theorem stepR_lt {d t r : Nat} {b : Bool} (ht : t < 2 ^ d) : stepR d t r b < 2 ^ d := by
  unfold stepR
  refine Nat.xor_lt_two_pow (Nat.mod_lt _ (Nat.two_pow_pos d)) ?_
  split
  · exact ht
  · exact Nat.two_pow_pos d
theorem runR_lt {d t : Nat} (ht : t < 2 ^ d) : ∀ (r : Nat) (l : List Int), r < 2 ^ d → runR d t r l < 2 ^ d
  | _, [], h => h
  | r, x :: l, _ => by rw [runR]; exact runR_lt ht _ l (stepR_lt ht)
theorem step_back {d t r V : Nat} {b : Bool} (hd : 1 ≤ d) (ht : t % 2 = 1) (hr : r < 2 ^ d) (h : stepR d t r b = 2 * V) : r = (if b = true then 2 ^ (d - 1) else 0) + V := by
  obtain ⟨e, rfl⟩ : ∃ e, d = e + 1 := ⟨d - 1, by omega⟩
  unfold stepR at h
  rw [Nat.add_sub_cancel] at h ⊢
  have hp : 2 ^ (e + 1) = 2 * 2 ^ e := by rw [Nat.pow_succ]; omega
  have hsh : r <<< 1 = 2 * r := by rw [Nat.shiftLeft_eq]; omega
  have hev : ((r <<< 1) % 2 ^ (e + 1)).testBit 0 = false := by
    rw [Nat.testBit_mod_two_pow, Nat.testBit_shiftLeft]; simp
  have hno : ¬ (r.testBit e ^^ b) = true := fun hf => by
    rw [if_pos hf] at h
    have h0 := congrArg (fun n => Nat.testBit n 0) h
    have ht0 : t.testBit 0 = true := by simp [Nat.testBit_zero, ht]
    have hv0 : (2 * V).testBit 0 = false := by simp [Nat.testBit_zero]
    simp only [Nat.testBit_xor, hev, ht0, hv0] at h0
    exact absurd h0 (by decide)
  rw [if_neg hno, Nat.xor_zero, hsh, hp] at h
  have hb : r.testBit e = b := by
    cases h1 : r.testBit e <;> cases b <;> simp_all
  have hm : 2 * r % (2 * 2 ^ e) = 2 * (r % 2 ^ e) := Nat.mul_mod_mul_left 2 r (2 ^ e)
  rw [hm] at h
  have hV : r % 2 ^ e = V := by omega
  have hdiv := Nat.div_add_mod r (2 ^ e)
  rw [Nat.testBit_eq_decide_div_mod_eq] at hb
  have hq : r / 2 ^ e < 2 := Nat.div_lt_of_lt_mul (by omega)
  generalize r / 2 ^ e = Q at *
  cases b
  · have : ¬ Q % 2 = 1 := by simpa using hb
    have h0 : Q = 0 := by omega
    rw [h0, Nat.mul_zero, hV] at hdiv
    simp; omega
  · have : Q % 2 = 1 := by simpa using hb
    have h1 : Q = 1 := by omega
    rw [h1, Nat.mul_one, hV] at hdiv
    simp; omega
def valB : List Int → Nat
  | [] => 0
  | x :: l => (if isOne x = true then 2 ^ l.length else 0) + valB l
theorem valB_lt : ∀ l : List Int, valB l < 2 ^ l.length
  | [] => by simp [valB]
  | x :: l => by
    have := valB_lt l
    rw [valB, List.length_cons, Nat.pow_succ]
    split <;> omega
theorem run_back {d t : Nat} (hd : 1 ≤ d) (ht : t % 2 = 1) (ht2 : t < 2 ^ d) : ∀ (D : List Int) (r : Nat), r < 2 ^ d → D.length ≤ d → runR d t r D = 0 → r = valB D * 2 ^ (d - D.length)
  | [], r, _, _, h => by
    rw [runR] at h; rw [h]; simp [valB]
  | x :: D, r, hr, hl, h => by
    rw [runR] at h
    rw [List.length_cons] at hl
    have ih := run_back hd ht ht2 D _ (stepR_lt ht2) (by omega) h
    obtain ⟨e, he⟩ : ∃ e, d - D.length = e + 1 := ⟨d - D.length - 1, by omega⟩
    rw [he] at ih
    have hpow : 2 ^ (e + 1) = 2 * 2 ^ e := by rw [Nat.pow_succ]; omega
    rw [hpow, show valB D * (2 * 2 ^ e) = 2 * (valB D * 2 ^ e) by rw [Nat.mul_left_comm]] at ih
    have hb := step_back hd ht hr ih
    have he2 : d - (x :: D).length = e := by rw [List.length_cons]; omega
    rw [he2, hb, valB, Nat.add_mul]
    congr 1
    by_cases hx : isOne x = true
    · rw [if_pos hx, if_pos hx, ← Nat.pow_add]; congr 1; omega
    · rw [if_neg hx, if_neg hx, Nat.zero_mul]
theorem step_fore {d t V : Nat} {b : Bool} (hd : 1 ≤ d) (hV : V < 2 ^ (d - 1)) : stepR d t ((if b = true then 2 ^ (d - 1) else 0) + V) b = 2 * V := by
  obtain ⟨e, rfl⟩ : ∃ e, d = e + 1 := ⟨d - 1, by omega⟩
  rw [Nat.add_sub_cancel] at hV ⊢
  have hp : 2 ^ (e + 1) = 2 * 2 ^ e := by rw [Nat.pow_succ]; omega
  have hbit : ((if b = true then 2 ^ e else 0) + V).testBit e = b := by
    cases b
    · simp [Nat.testBit_lt_two_pow hV]
    · simp only [if_true]
      rw [Nat.testBit_eq_decide_div_mod_eq, Nat.add_div_left _ (Nat.two_pow_pos e), Nat.div_eq_of_lt hV]; rfl
  have hx : ¬((b ^^ b) = true) := by simp
  unfold stepR
  rw [Nat.add_sub_cancel, hbit, if_neg hx, Nat.xor_zero, Nat.shiftLeft_eq, hp]
  cases b
  · simp only [Bool.false_eq_true, if_false]
    rw [Nat.mod_eq_of_lt (by omega)]; omega
  · simp only [if_true]
    rw [show (2 ^ e + V) * 2 ^ 1 = 2 * V + 2 * 2 ^ e by omega, Nat.add_mod_right, Nat.mod_eq_of_lt (by omega)]
theorem run_fore {d t : Nat} (hd : 1 ≤ d) : ∀ (D : List Int), D.length ≤ d → runR d t (valB D * 2 ^ (d - D.length)) D = 0
  | [], _ => by simp [valB, runR]
  | x :: D, hl => by
    rw [List.length_cons] at hl
    obtain ⟨e, he⟩ : ∃ e, d - D.length = e + 1 := ⟨d - D.length - 1, by omega⟩
    have he2 : d - (x :: D).length = e := by rw [List.length_cons]; omega
    have hv := valB_lt D
    have hlt : valB D * 2 ^ e < 2 ^ (d - 1) := by
      have : 2 ^ (d - 1) = 2 ^ D.length * 2 ^ e := by rw [← Nat.pow_add]; congr 1; omega
      rw [this]
      exact Nat.mul_lt_mul_of_pos_right hv (Nat.two_pow_pos e)
    have e1 : valB (x :: D) * 2 ^ (d - (x :: D).length) = (if isOne x = true then 2 ^ (d - 1) else 0) + valB D * 2 ^ e := by
      rw [he2, valB, Nat.add_mul]
      congr 1
      by_cases hx : isOne x = true
      · rw [if_pos hx, if_pos hx, ← Nat.pow_add]; congr 1; omega
      · rw [if_neg hx, if_neg hx, Nat.zero_mul]
    rw [runR, e1, step_fore hd hlt]
    have ih := run_fore (t := t) hd D (by omega)
    rw [he] at ih
    have hpow : 2 ^ (e + 1) = 2 * 2 ^ e := by rw [Nat.pow_succ]; omega
    rw [hpow, show valB D * (2 * 2 ^ e) = 2 * (valB D * 2 ^ e) by rw [Nat.mul_left_comm]] at ih
    exact ih
theorem run_zero_iff {d t : Nat} (hd : 1 ≤ d) (ht : t % 2 = 1) (ht2 : t < 2 ^ d) (D : List Int) (hD : D.length = d) (r : Nat) (hr : r < 2 ^ d) : runR d t r D = 0 ↔ r = valB D := by
  constructor
  · intro h
    have := run_back hd ht ht2 D r hr (by omega) h
    rw [hD, Nat.sub_self] at this
    simpa using this
  · intro h
    have := run_fore (t := t) hd D (by omega)
    rw [hD, Nat.sub_self, Nat.pow_zero, Nat.mul_one] at this
    rw [h]; exact this
end Go.Sh

/-
  How many ones a number has; the distance of a polar code.
-/
namespace Go.Sh
open Go.PW

end Go.Sh

/-
  Checks of bits: what the shallow functions come to.
-/
namespace Go.Sh
open Go.PW

def polyErr (d t : Int) : Int := if ¬(1 ≤ d ∧ d ≤ 16) then 2 else if ¬(1 ≤ t ∧ t ≤ ((2 ^ d.toNat : Nat) : Int) - 1) then 2 else if t % 2 = 0 then 3 else 0
structure PolyOK (d t : Int) (D T : Nat) : Prop where
  hd : d = D
  ht : t = T
  lo : 1 ≤ D
  hi : D ≤ 16
  lt : T < 2 ^ D
  odd : T % 2 = 1
theorem polyOK_of {d t : Int} (h : polyErr d t = 0) : ∃ D T : Nat, PolyOK d t D T := by
  unfold polyErr at h
  by_cases h1 : 1 ≤ d ∧ d ≤ 16
  · rw [if_neg (show ¬¬(1 ≤ d ∧ d ≤ 16) from fun h => h h1)] at h
    by_cases h2 : 1 ≤ t ∧ t ≤ ((2 ^ d.toNat : Nat) : Int) - 1
    · rw [if_neg (show ¬¬(1 ≤ t ∧ t ≤ ((2 ^ d.toNat : Nat) : Int) - 1) from fun h => h h2)] at h
      by_cases h3 : t % 2 = 0
      · rw [if_pos h3] at h; exact absurd h (by decide)
      · exact ⟨d.toNat, t.toNat, by omega, by omega, by omega, by omega, by omega, by omega⟩
    · rw [if_pos h2] at h; exact absurd h (by decide)
  · rw [if_pos h1] at h; exact absurd h (by decide)
theorem pow_le16 {p : Nat} (h : p ≤ 16) : 2 ^ p ≤ 65536 := Nat.pow_le_pow_right (n := 2) (by omega) h
theorem dec2 {a b : Prop} [Decidable a] [Decidable b] (h : a ∧ b) : (decide a && decide b) = true := by simp [h.1, h.2]
theorem dec2f {a b : Prop} [Decidable a] [Decidable b] (h : ¬(a ∧ b)) : (decide a && decide b) = false := by
  by_cases ha : a <;> by_cases hb : b <;> simp_all
theorem CheckPoly_eq {N : Nat} (d t : Int) (hN : 100 < N) : code_CheckPoly N d t = some (polyErr d t) := by
  unfold code_CheckPoly polyErr
  simp only [within_eq, bnd_val, unless_eq]
  by_cases h1 : 1 ≤ d ∧ d ≤ 16
  case neg => rw [dec2f h1, if_pos h1]; rfl
  rw [dec2 h1, if_neg (show ¬¬(1 ≤ d ∧ d ≤ 16) from fun h => h h1), br_nt, chk_pos (by omega)]
  obtain ⟨D, rfl⟩ : ∃ D : Nat, d = D := ⟨d.toNat, by omega⟩
  have hp := pow_le16 (p := D) (by omega)
  have hpos := Nat.two_pow_pos D
  rw [shl1_pow (by omega), w64_id (by omega), first_eq _ (by simp) (by simp; omega), bnd_val, Int.toNat_natCast]
  by_cases h2 : 1 ≤ t ∧ t ≤ ((2 ^ D : Nat) : Int) - 1
  · rw [dec2 h2, if_neg (show ¬¬(1 ≤ t ∧ t ≤ ((2 ^ D : Nat) : Int) - 1) from fun h => h h2), Int.tmod_eq_emod_of_nonneg (by omega)]
    by_cases h3 : t % 2 = 0
    · rw [if_pos h3, h3]; rfl
    · have : t % 2 = 1 := by omega
      rw [if_neg h3, this]; rfl
  · rw [dec2f h2, if_pos h2]; rfl
theorem refCheckPoly_eq {N : Nat} (d t : Int) (hN : 100 < N) : ref02_CheckPoly N d t = some (polyErr d t) := by
  unfold ref02_CheckPoly polyErr
  rw [Within_eq, bnd_val]
  by_cases h1 : 1 ≤ d ∧ d ≤ 16
  case neg => rw [dec2f h1, if_pos h1]; rfl
  rw [dec2 h1, if_neg (show ¬¬(1 ≤ d ∧ d ≤ 16) from fun h => h h1)]
  obtain ⟨D, rfl⟩ : ∃ D : Nat, d = D := ⟨d.toNat, by omega⟩
  have hp := pow_le16 (p := D) (by omega)
  have hpos := Nat.two_pow_pos D
  simp only [Bool.not_true, Bool.not_false, grd_true]
  rw [power_eq (by omega) (by omega)]
  simp only [bnd_val]
  rw [w64_id (by omega), Within_eq, bnd_val, Int.toNat_natCast]
  by_cases h2 : 1 ≤ t ∧ t ≤ ((2 ^ D : Nat) : Int) - 1
  · rw [dec2 h2, if_neg (show ¬¬(1 ≤ t ∧ t ≤ ((2 ^ D : Nat) : Int) - 1) from fun h => h h2), Int.tmod_eq_emod_of_nonneg (by omega)]
    by_cases h3 : t % 2 = 0
    · rw [if_pos h3, h3]; rfl
    · have : t % 2 = 1 := by omega
      rw [if_neg h3, this]; rfl
  · rw [dec2f h2, if_pos h2]; rfl

def regL : Nat → Nat → List Int
  | 0, _ => []
  | n + 1, x => (if x.testBit n = true then 1 else 0) :: regL n (x % 2 ^ n)
theorem regL_length : ∀ (n x : Nat), (regL n x).length = n
  | 0, _ => rfl
  | n + 1, x => by rw [regL, List.length_cons, regL_length n]
theorem regL_bits : ∀ (n x : Nat), bits (regL n x)
  | 0, _ => fun i hi => by simp [regL] at hi
  | n + 1, x => by
    rw [regL, bits_cons]
    exact ⟨by split <;> simp, regL_bits n _⟩
theorem valB_regL : ∀ (n x : Nat), x < 2 ^ n → valB (regL n x) = x
  | 0, x, h => by
    have : x = 0 := by simpa using h
    subst this; rfl
  | n + 1, x, h => by
    have hp : 2 ^ (n + 1) = 2 * 2 ^ n := by rw [Nat.pow_succ]; omega
    have hd := Nat.div_add_mod x (2 ^ n)
    have hq : x / 2 ^ n < 2 := Nat.div_lt_of_lt_mul (by omega)
    rw [regL, valB, regL_length, valB_regL n _ (Nat.mod_lt _ (Nat.two_pow_pos n)), Nat.testBit_eq_decide_div_mod_eq]
    generalize x / 2 ^ n = Q at *
    by_cases h1 : Q % 2 = 1
    · have : Q = 1 := by omega
      rw [this] at hd ⊢
      simp [isOne]; omega
    · have : Q = 0 := by omega
      rw [this] at hd ⊢
      simp [isOne]; omega
theorem regL_valB : ∀ {C : List Int}, bits C → regL C.length (valB C) = C
  | [], _ => rfl
  | x :: C, h => by
    have hv := valB_lt C
    rw [List.length_cons, regL, valB]
    have h1 : ((if isOne x = true then 2 ^ C.length else 0) + valB C).testBit C.length = isOne x := by
      cases hx : isOne x
      · simp [Nat.testBit_lt_two_pow hv]
      · simp only [if_true]
        rw [Nat.testBit_eq_decide_div_mod_eq, Nat.add_div_left _ (Nat.two_pow_pos _), Nat.div_eq_of_lt hv]; rfl
    have h2 : ((if isOne x = true then 2 ^ C.length else 0) + valB C) % 2 ^ C.length = valB C := by
      cases isOne x
      · simp [Nat.mod_eq_of_lt hv]
      · simp only [if_true]; rw [Nat.add_mod_left, Nat.mod_eq_of_lt hv]
    rw [h1, h2, regL_valB (bits_cons.1 h).2]
    congr 1
    rcases (bits_cons.1 h).1 with rfl | rfl <;> rfl
theorem reg_split (x k : Nat) : regL (k + 1) (x % 2 ^ (k + 1)) = (if x.testBit k = true then 1 else 0) :: regL k (x % 2 ^ k) := by
  rw [regL, Nat.testBit_mod_two_pow]
  have : x % 2 ^ (k + 1) % 2 ^ k = x % 2 ^ k := Nat.mod_mod_of_dvd _ ⟨2, by rw [Nat.pow_succ]⟩
  rw [this]; simp

theorem step_eq {D T r : Nat} (b : Int) (h16 : D ≤ 16) (h1 : 1 ≤ D) (hT : T < 2 ^ D) (hr : r < 2 ^ D) {α : Type} (f : Int → Option α) :
    br (((andI (r : Int) (shlI 1 (w64 ((D : Int) - 1))) != 0) != (b == 1))) (f (xorI (andI (shlI (r : Int) 1) (w64 ((w64 (2 * shlI 1 (w64 ((D : Int) - 1)))) - 1))) (T : Int))) (f (andI (shlI (r : Int) 1) (w64 ((w64 (2 * shlI 1 (w64 ((D : Int) - 1)))) - 1)))) = f (stepR D T r (isOne b) : Int) := by
  obtain ⟨e, rfl⟩ : ∃ e, D = e + 1 := ⟨D - 1, by omega⟩
  have hp : 2 ^ (e + 1) = 2 * 2 ^ e := by rw [Nat.pow_succ]; omega
  have hb := pow_le16 h16
  have hpos := Nat.two_pow_pos e
  have e0 : w64 (((e + 1 : Nat) : Int) - 1) = (e : Int) := by rw [w64_id (by omega)]; omega
  have e1 : w64 (2 * ((2 ^ e : Nat) : Int)) = ((2 ^ (e + 1) : Nat) : Int) := by rw [w64_id (by omega)]; omega
  have e2 : w64 (((2 ^ (e + 1) : Nat) : Int) - 1) = ((2 ^ (e + 1) - 1 : Nat) : Int) := by rw [w64_id (by omega)]; omega
  have e3 : shlI (r : Int) 1 = ((r * 2 : Nat) : Int) := by
    have := shlI_nat (a := r) (b := 1) (by omega) (by decide)
    simpa using this
  have hmod : (r * 2) % 2 ^ (e + 1) < 2 ^ (e + 1) := Nat.mod_lt _ (by omega)
  rw [e0, shl1_pow (by omega), e1, e2, e3, andI_nat (by omega) (by omega), andI_nat (by omega) (by omega), Nat.and_two_pow_sub_one_eq_mod, and_bit, xorI_nat (by omega) (by omega)]
  unfold stepR
  rw [Nat.add_sub_cancel, show r <<< 1 = r * 2 by rw [Nat.shiftLeft_eq]]
  have hx : ((((if r.testBit e = true then 2 ^ e else 0 : Nat) : Int) != 0) != (b == 1)) = (r.testBit e ^^ isOne b) := by
    have hne : (((2 ^ e : Nat) : Int) != 0) = true := by rw [bne_iff_ne]; omega
    unfold isOne
    cases r.testBit e
    · cases (b == 1) <;> rfl
    · rw [if_pos rfl, hne]
  rw [hx]
  cases (r.testBit e ^^ isOne b)
  · rw [br_false, if_neg (by decide), Nat.xor_zero]
  · rw [br_true, if_pos rfl]
theorem remainder_b1_eq {N D T : Nat} (h16 : D ≤ 16) (h1 : 1 ≤ D) (hT : T < 2 ^ D) (l : List Int) (hl : l.length < 1000000) (hN : l.length < N) (K : Int → Option (List Int)) :
    rds (code_remainder.b1 N D T l K) N (0, 0) = K (runR D T 0 l : Int) := by
  refine rds_spec (fun s : Int × Int => ∃ k : Nat, k ≤ l.length ∧ s = ((runR D T 0 (l.take k) : Int), (k : Int))) (fun s => l.length - s.2.toNat) (fun _ => K (runR D T 0 l : Int)) (fun rec s hI hrec => ?_) N (0, 0) ⟨0, Nat.zero_le _, by simp [runR]⟩ (by simp; omega)
  obtain ⟨k, hk, rfl⟩ := hI
  show br (decide ((k : Int) < (l.length : Int))) _ _ = _
  by_cases hkl : k < l.length
  · rw [br_pos (by simpa using hkl), chk_pos (by omega), w64_succ (by omega), Int.toNat_natCast]
    have hlt := runR_lt (d := D) hT 0 (l.take k) (Nat.two_pow_pos D)
    rw [step_eq (l.getD k 0) h16 h1 hT hlt (fun x => rec (x, ((k + 1 : Nat) : Int)))]
    refine hrec _ ⟨k + 1, hkl, ?_⟩ (by simp only [Int.toNat_natCast]; omega)
    rw [List.take_succ_eq_append_getElem hkl, runR_append, ← getD_eq hkl]; rfl
  · have : k = l.length := by omega
    subst this
    rw [br_neg (by simp), List.take_length]
theorem remainder_b2_eq {N D : Nat} (h16 : D ≤ 16) (h1 : 1 ≤ D) (r : Nat) (hr : r < 2 ^ D) (hN : 100 < N) (K : List Int → Option (List Int)) :
    rds (code_remainder.b2 N r K) N (((2 ^ (D - 1) : Nat) : Int), []) = K (regL D r) := by
  refine rds_spec (fun s : Int × List Int => ∃ j : Nat, j ≤ D ∧ s.1 = (if j = 0 then 0 else ((2 ^ (j - 1) : Nat) : Int)) ∧ s.2.length = D - j ∧ s.2 ++ regL j (r % 2 ^ j) = regL D r) (fun s => if s.1 = 0 then 0 else s.1.toNat.log2 + 1) (fun _ => K (regL D r)) (fun rec s hI hrec => ?_) N _ ⟨D, Nat.le_refl _, by rw [if_neg (by omega)], by simp, by rw [Nat.mod_eq_of_lt hr]; rfl⟩ ?_
  · obtain ⟨j, hj, h2, h3, h4⟩ := hI
    obtain ⟨top, acc⟩ := s
    simp only at h2 h3 h4
    subst h2
    by_cases hj0 : j = 0
    · subst hj0
      show br (decide ((if 0 = 0 then (0 : Int) else _) > 0)) _ _ = _
      rw [if_pos rfl, br_neg (by decide)]
      simp [regL] at h4
      rw [h4]
    · obtain ⟨i, rfl⟩ : ∃ i, j = i + 1 := ⟨j - 1, by omega⟩
      have hp16 := pow_le16 (p := i) (by omega)
      have hpos := Nat.two_pow_pos i
      have hD := pow_le16 h16
      rw [if_neg hj0, Nat.add_sub_cancel]
      show br (decide (((2 ^ i : Nat) : Int) > 0)) _ _ = _
      rw [br_pos (decide_eq_true (by omega)), andI_nat (by omega) (by omega), and_bit]
      have hsh : shrI ((2 ^ i : Nat) : Int) 1 = (if i = 0 then 0 else ((2 ^ (i - 1) : Nat) : Int)) := by
        have := shrI_nat (a := 2 ^ i) (b := 1) (by decide)
        rw [show ((1 : Nat) : Int) = 1 from rfl] at this
        rw [this]
        by_cases hi : i = 0
        · subst hi; rfl
        · obtain ⟨m, rfl⟩ : ∃ m, i = m + 1 := ⟨i - 1, by omega⟩
          rw [if_neg hi, Nat.add_sub_cancel, Nat.pow_succ]
          congr 1; omega
      have hμ : ∀ acc', (fun s : Int × List Int => if s.1 = 0 then 0 else s.1.toNat.log2 + 1) ((if i = 0 then 0 else ((2 ^ (i - 1) : Nat) : Int)), acc') < (fun s : Int × List Int => if s.1 = 0 then 0 else s.1.toNat.log2 + 1) (((2 ^ i : Nat) : Int), acc) := fun acc' => by
        simp only
        rw [if_neg (show ¬ ((2 ^ i : Nat) : Int) = 0 by omega), Int.toNat_natCast, Nat.log2_two_pow]
        by_cases hi : i = 0
        · rw [if_pos hi]; simp
        · rw [if_neg hi, if_neg (by have := Nat.two_pow_pos (i - 1); omega), Int.toNat_natCast, Nat.log2_two_pow]; omega
      rw [hsh]
      rw [reg_split] at h4
      cases hb : r.testBit i
      · rw [br_neg (by simp), chk_pos (by simp; omega)]
        rw [hb] at h4
        exact hrec _ ⟨i, by omega, rfl, by simp; omega, by simpa using h4⟩ (hμ _)
      · have hne : ((((if true = true then 2 ^ i else 0 : Nat)) : Int) != 0) = true := by rw [bne_iff_ne, if_pos rfl]; omega
        rw [br_pos hne, chk_pos (by simp; omega)]
        rw [hb] at h4
        exact hrec _ ⟨i, by omega, rfl, by simp; omega, by simpa using h4⟩ (hμ _)
  · have := Nat.two_pow_pos (D - 1)
    simp only
    rw [if_neg (by omega), Int.toNat_natCast, Nat.log2_two_pow]; omega
theorem remainder_eq {N D T : Nat} (h16 : D ≤ 16) (h1 : 1 ≤ D) (hT : T < 2 ^ D) (l : List Int) (hl : l.length < 1000000) (hN : l.length < N) (hN2 : 100 < N) : code_remainder N D T l = some (regL D (runR D T 0 l)) := by
  have e0 : w64 ((D : Int) - 1) = ((D - 1 : Nat) : Int) := by rw [w64_id (by omega)]; omega
  unfold code_remainder
  rw [chk_pos (by rw [e0]; omega), jn, remainder_b1_eq h16 h1 hT l hl hN, e0, shl1_pow (by omega), jn, remainder_b2_eq h16 h1 _ (runR_lt hT 0 l (Nat.two_pow_pos D)) hN2]

theorem Concat_eq {N : Nat} (a b : List Int) (ha : a.length ≤ 1000) (hb : b.length ≤ 1000) (hN : 10 < N) : slices_Concat_ii N [a, b] = some (a ++ b) := by
  obtain ⟨n, rfl⟩ : ∃ n, N = n + 10 := ⟨N - 10, by omega⟩
  have w1 : w64 (0 + (a.length : Int)) = (a.length : Int) := by rw [w64_id (by omega)]; omega
  have w2 : w64 ((a.length : Int) + (b.length : Int)) = ((a.length + b.length : Nat) : Int) := by rw [w64_id (by omega)]; omega
  have w3 : w64 ((0 : Int) + 1) = 1 := by rw [w64_id (by omega)]; rfl
  have w4 : w64 ((1 : Int) + 1) = 2 := by rw [w64_id (by omega)]; rfl
  have w5 : w64 ((0 : Int) - 0) = 0 := by rw [w64_id (by omega)]; rfl
  have w6 : w64 (((a.length + b.length : Nat) : Int) - 0) = ((a.length + b.length : Nat) : Int) := by rw [w64_id (by omega)]; omega
  have b2 : ∀ K, rds (slices_Concat_ii.b2 (n + 10) [a, b] K) (n + 10) (0, []) = K (a ++ b) := fun K => by
    rw [rds_succ, slices_Concat_ii.b2, br_pos (by simp), chk_pos (by simp), chk_pos (by simp; omega), w3, rds_succ, slices_Concat_ii.b2, br_pos (by simp), chk_pos (by simp), chk_pos (by simp; omega), w4, rds_succ, slices_Concat_ii.b2, br_neg (by simp)]
    simp
  have b3 : ∀ K, rds (slices_Concat_ii.b3 (n + 10) [a, b] K) (n + 10) (0, []) = K (a ++ b) := fun K => by
    rw [rds_succ, slices_Concat_ii.b3, br_pos (by simp), chk_pos (by simp), chk_pos (by simp; omega), w3, rds_succ, slices_Concat_ii.b3, br_pos (by simp), chk_pos (by simp), chk_pos (by simp; omega), w4, rds_succ, slices_Concat_ii.b3, br_neg (by simp)]
    simp
  have b1 : ∀ K, rds (slices_Concat_ii.b1 (n + 10) [a, b] K) (n + 10) (0, 0) = K ((a.length + b.length : Nat) : Int) := fun K => by
    rw [rds_succ, slices_Concat_ii.b1, br_pos (by simp), chk_pos (by simp)]
    show br (decide (w64 (0 + (a.length : Int)) < 0)) none (rds _ _ (w64 (0 + (a.length : Int)), w64 (0 + 1))) = _
    rw [w1, br_neg (decide_eq_false (by omega)), w3, rds_succ, slices_Concat_ii.b1, br_pos (by simp), chk_pos (by simp)]
    show br (decide (w64 ((a.length : Int) + (b.length : Int)) < 0)) none (rds _ _ (w64 ((a.length : Int) + (b.length : Int)), w64 (1 + 1))) = _
    rw [w2, br_neg (decide_eq_false (by omega)), w4, rds_succ, slices_Concat_ii.b1, br_neg (by simp)]
  unfold slices_Concat_ii
  simp only [jn, b1, b2, b3, w5, w6]
  rw [br_neg (decide_eq_false (by omega))]
  by_cases h : (((a.length + b.length : Nat) : Int)) > 0
  · rw [br_pos (decide_eq_true h), chk_pos (by omega), chk_pos (by simp; omega), chk_pos (by simp; omega)]
  · rw [br_neg (decide_eq_false h)]
theorem Equal_eq {N : Nat} (a b : List Int) (hl : a.length < 4611686018427387904) (hN : a.length < N) : slices_Equal_ii N a b = some (decide (a = b)) := Ints_eq a b hl hN
def checkedL (D T : Nat) (l : List Int) : List Int := l ++ regL D (runR D T 0 l)
end Go.Sh

/-
  A BURST IS CAUGHT: the law's shallow function tells true.
-/
namespace Go.Sh
open Go.PW

theorem BitsOf_eq {N D : Nat} (h1 : 1 ≤ D) (h16 : D ≤ 16) (p : Nat) (hp : p < 2 ^ D) (hN : 100 < N) : base_BitsOf N (p : Int) (D : Int) = some (regL D p) := by
  have hD := pow_le16 h16
  unfold base_BitsOf
  rw [chk_pos (by omega), jn, Int.toNat_natCast]
  refine rds_spec (fun s : Int × Int × List Int => ∃ j : Nat, j ≤ D ∧ s = (((p / 2 ^ (D - j) : Nat) : Int), ((j : Int) - 1), List.replicate j 0 ++ regL (D - j) (p % 2 ^ (D - j)))) (fun s => (s.2.1 + 1).toNat) (fun _ => some (regL D p)) (fun rec s hI hrec => ?_) N _ ⟨D, Nat.le_refl _, ?_⟩ ?_
  · obtain ⟨j, hj, rfl⟩ := hI
    by_cases hj0 : j = 0
    · subst hj0
      show br (decide ((((0 : Nat) : Int) - 1) ≥ 0)) _ _ = _
      rw [br_neg (by decide), Nat.sub_zero, Nat.mod_eq_of_lt hp]; rfl
    · obtain ⟨i, rfl⟩ : ∃ i, j = i + 1 := ⟨j - 1, by omega⟩
      have e1 : (((i + 1 : Nat) : Int) - 1) = (i : Int) := by omega
      rw [e1]
      show br (decide ((i : Int) ≥ 0)) _ _ = _
      obtain ⟨k, hk⟩ : ∃ k, D - i = k + 1 := ⟨D - i - 1, by omega⟩
      have hk' : D - (i + 1) = k := by omega
      have hlt : p / 2 ^ k ≤ p := Nat.div_le_self _ _
      have hR : p / 2 ^ (k + 1) = p / 2 ^ k / 2 := by rw [Nat.pow_succ, ← Nat.div_div_eq_div_mul]
      have hpb : p < 65536 := by omega
      rw [hk', br_pos (decide_eq_true (by omega)), chk_pos (by rw [List.length_append, List.length_replicate]; omega)]
      have ed : w64 (((p / 2 ^ k : Nat) : Int).tdiv 2) = ((p / 2 ^ (k + 1) : Nat) : Int) := by
        rw [hR]
        generalize p / 2 ^ k = Q at *
        rw [Int.tdiv_eq_ediv_of_nonneg (by omega), w64_id (by omega)]; omega
      have em : (((p / 2 ^ k : Nat) : Int).tmod 2) = if p.testBit k = true then 1 else 0 := by
        rw [Nat.testBit_eq_decide_div_mod_eq]
        generalize p / 2 ^ k = Q at *
        rw [Int.tmod_eq_emod_of_nonneg (by omega)]
        by_cases h : Q % 2 = 1
        · rw [decide_eq_true h, if_pos rfl]; omega
        · rw [decide_eq_false h, if_neg (by decide)]; omega
      rw [ed, em, w64_id (n := (i : Int) - 1) (by omega), Int.toNat_natCast]
      refine hrec _ ⟨i, by omega, ?_⟩ (by simp only; omega)
      rw [hk, reg_split]
      congr 2
      refine ext_getD (by simp [regL_length]; omega) fun m hm => ?_
      rw [List.length_set, List.length_append, List.length_replicate, regL_length] at hm
      by_cases hmi : i = m
      · subst hmi
        simp [List.getD_eq_getElem?_getD, List.getElem?_append]
      · simp only [List.getD_eq_getElem?_getD, List.getElem?_set, if_neg hmi, List.getElem?_append, List.length_replicate]
        by_cases h2 : m < i
        · rw [if_pos (by omega), if_pos h2]; simp [List.getElem?_replicate, h2, show m < i + 1 by omega]
        · obtain ⟨z, rfl⟩ : ∃ z, m = i + 1 + z := ⟨m - (i + 1), by omega⟩
          rw [if_neg (by omega), if_neg (by omega), show i + 1 + z - (i + 1) = z by omega, show i + 1 + z - i = z + 1 by omega, List.getElem?_cons_succ]
  · rw [w64_id (by omega), Nat.sub_self, Nat.pow_zero, Nat.div_one]; simp [regL]
  · rw [w64_id (by omega)]; simp only; omega
end Go.Sh

/-
  Checks of bits: the division of the document, and the law's shallow function tells true.
-/
namespace Go.Sh
open Go.PW

def b01 (b : Bool) : Int := if b = true then 1 else 0
theorem b01_isOne {x : Int} (h : x = 0 ∨ x = 1) : b01 (isOne x) = x := by rcases h with rfl | rfl <;> rfl
theorem add_b01 (a b : Bool) : (w64 (b01 a + b01 b)).tmod 2 = b01 (a ^^ b) := by
  rw [w64_id (by cases a <;> cases b <;> decide)]
  cases a <;> cases b <;> rfl
theorem regL_getD : ∀ (n x k : Nat), k < n → (regL n x).getD k 0 = b01 (x.testBit (n - 1 - k))
  | n + 1, x, 0, _ => by rw [regL, List.getD_cons_zero]; rfl
  | n + 1, x, k + 1, h => by
    rw [regL, List.getD_cons_succ, regL_getD n _ k (by omega), Nat.testBit_mod_two_pow]
    rw [decide_eq_true (show n - 1 - k < n by omega), Bool.true_and, show n + 1 - 1 - (k + 1) = n - 1 - k by omega]

def cellR (D T : Nat) (l : List Int) (i j : Nat) : Bool := isOne ((l ++ List.replicate D 0).getD j 0) ^^ (decide (j < i + D) && (runR D T 0 (l.take i)).testBit (D - 1 - (j - i)))

theorem stepR_bit {D T r m : Nat} {b : Bool} (hm : m < D) : (stepR D T r b).testBit m = ((decide (1 ≤ m) && r.testBit (m - 1)) ^^ ((r.testBit (D - 1) ^^ b) && T.testBit m)) := by
  unfold stepR
  rw [Nat.testBit_xor, Nat.testBit_mod_two_pow, Nat.testBit_shiftLeft, decide_eq_true hm, Bool.true_and]
  congr 1
  cases (r.testBit (D - 1) ^^ b) <;> simp

theorem take_succ_run {D T : Nat} (l : List Int) {i : Nat} (hi : i < l.length) : runR D T 0 (l.take (i + 1)) = stepR D T (runR D T 0 (l.take i)) (isOne (l.getD i 0)) := by
  rw [List.take_add_one, List.getElem?_eq_getElem hi, runR_append, getD_eq hi]; rfl

theorem orig_getD {D : Nat} (l : List Int) {i : Nat} (hi : i < l.length) : (l ++ List.replicate D 0).getD i 0 = l.getD i 0 := by
  rw [List.getD_eq_getElem?_getD, List.getD_eq_getElem?_getD, List.getElem?_append_left hi]

theorem cell_step {D T : Nat} (h1 : 1 ≤ D) (l : List Int) {i j : Nat} (hi : i < l.length) (hj : i + 1 ≤ j) :
    cellR D T l (i + 1) j = (cellR D T l i j ^^ (cellR D T l i i && (decide (j < i + 1 + D) && T.testBit (D - 1 - (j - (i + 1)))))) := by
  unfold cellR
  rw [take_succ_run l hi, orig_getD l hi, Nat.sub_self, Nat.sub_zero, decide_eq_true (show i < i + D by omega), Bool.true_and]
  by_cases h : j < i + 1 + D
  · rw [decide_eq_true h, Bool.true_and, Bool.true_and, stepR_bit (by omega)]
    by_cases h2 : j < i + D
    · rw [decide_eq_true h2, Bool.true_and, decide_eq_true (show 1 ≤ D - 1 - (j - (i + 1)) by omega), Bool.true_and, show D - 1 - (j - (i + 1)) - 1 = D - 1 - (j - i) by omega]
      cases isOne ((l ++ List.replicate D 0).getD j 0) <;> cases (runR D T 0 (l.take i)).testBit (D - 1 - (j - i)) <;> cases (runR D T 0 (l.take i)).testBit (D - 1) <;> cases isOne (l.getD i 0) <;> cases T.testBit (D - 1 - (j - (i + 1))) <;> rfl
    · rw [decide_eq_false h2, Bool.false_and, decide_eq_false (show ¬ 1 ≤ D - 1 - (j - (i + 1)) by omega), Bool.false_and]
      cases isOne ((l ++ List.replicate D 0).getD j 0) <;> cases (runR D T 0 (l.take i)).testBit (D - 1) <;> cases isOne (l.getD i 0) <;> cases T.testBit (D - 1 - (j - (i + 1))) <;> rfl
  · rw [decide_eq_false h, decide_eq_false (show ¬ j < i + D by omega)]
    simp

theorem refRem_b2 {N D : Nat} (taps : List Int) (htaps : taps.length = D) (hD : D ≤ 16) (i : Nat) (b : List Int) (len : Nat) (hb : b.length = len + D) (hi : i < len) (hlen : len ≤ 1000) (hN : 100 < N) (K : List Int → Option (List Int)) :
    ∃ c : List Int, rds (ref02_Remainder.b2 N (D : Int) taps (i : Int) K) N (0, b) = K c ∧ c.length = len + D ∧
      ∀ j, c.getD j 0 = if i + 1 ≤ j ∧ j < i + 1 + D then (w64 (b.getD j 0 + taps.getD (j - (i + 1)) 0)).tmod 2 else b.getD j 0 := by
  have H : rds (ref02_Remainder.b2 N (D : Int) taps (i : Int) K) N (0, b) = K (itN (fun k s => s.set (i + 1 + k) ((w64 (s.getD (i + 1 + k) 0 + taps.getD k 0)).tmod 2)) D b) ∧
      ((itN (fun k s => s.set (i + 1 + k) ((w64 (s.getD (i + 1 + k) 0 + taps.getD k 0)).tmod 2)) D b).length = len + D ∧ ∀ j, (itN (fun k s => s.set (i + 1 + k) ((w64 (s.getD (i + 1 + k) 0 + taps.getD k 0)).tmod 2)) D b).getD j 0 = if i + 1 ≤ j ∧ j < i + 1 + D then (w64 (b.getD j 0 + taps.getD (j - (i + 1)) 0)).tmod 2 else b.getD j 0) := by
    refine rds_it D (fun k s => s.set (i + 1 + k) ((w64 (s.getD (i + 1 + k) 0 + taps.getD k 0)).tmod 2))
      (fun k s => s.length = len + D ∧ ∀ j, s.getD j 0 = if i + 1 ≤ j ∧ j < i + 1 + k then (w64 (b.getD j 0 + taps.getD (j - (i + 1)) 0)).tmod 2 else b.getD j 0)
      (ref02_Remainder.b2 N (D : Int) taps (i : Int) K) K (s := b) ⟨hb, fun j => by rw [if_neg (by omega)]⟩ (fun k s hk hs => ?_) (fun k s rec hk hs => ?_) (fun s rec hs => ?_) (N := N) (by omega)
    · refine ⟨(List.length_set ..).trans hs.1, fun j => ?_⟩
      have hk2 : i + 1 + k < s.length := by rw [hs.1]; omega
      by_cases hj : j = i + 1 + k
      · subst hj
        rw [if_pos (by omega), List.getD_eq_getElem?_getD, List.getElem?_set_self hk2, hs.2 (i + 1 + k), if_neg (by omega), Nat.add_sub_cancel_left]; rfl
      · have h := hs.2 j
        rw [List.getD_eq_getElem?_getD, List.getElem?_set_ne (fun e => hj e.symm), ← List.getD_eq_getElem?_getD, h]
        by_cases hc : i + 1 ≤ j ∧ j < i + 1 + k
        · rw [if_pos hc, if_pos (by omega)]
        · rw [if_neg hc, if_neg (by omega)]
    · have hk2 : i + 1 + k < s.length := by rw [hs.1]; omega
      have e1 : w64 ((w64 ((i : Int) + 1)) + (k : Int)) = ((i + 1 + k : Nat) : Int) := by rw [w64_id (show _ ≤ (i : Int) + 1 ∧ _ by omega), w64_id (by omega)]; omega
      have e2 : w64 ((k : Int) + 1) = ((k + 1 : Nat) : Int) := by rw [w64_id (by omega)]; omega
      show br (decide ((k : Int) < (D : Int))) _ _ = _
      rw [br_pos (decide_eq_true (by omega)), e1, e2, chk_pos (by omega), chk_pos (by omega), chk_pos (by omega)]
      simp only [Int.toNat_natCast]
    · show br (decide ((D : Int) < (D : Int))) _ _ = _
      rw [br_neg (by simp)]
  exact ⟨_, H.1, H.2.1, H.2.2⟩

theorem refRemainder_eq {N D T : Nat} (h16 : D ≤ 16) (h1 : 1 ≤ D) (hT : T < 2 ^ D) (l : List Int) (hl : l.length ≤ 500) (hb : bits l) (hN : 1000 < N) : ref02_Remainder N D T l = some (regL D (runR D T 0 l)) := by
  unfold ref02_Remainder
  rw [CopyInts_eq _ l (by omega), bnd_val, chk_pos (by omega), Int.toNat_natCast, chk_pos (by rw [List.length_replicate]; omega), BitsOf_eq h1 h16 T hT (by omega), bnd_val, jn]
  have hol : (l ++ List.replicate D (0 : Int)).length = l.length + D := by simp
  have hbits : bits (l ++ List.replicate D 0) := by rw [bits_append]; exact ⟨hb, fun i hi => by simp at hi; simp [hi]⟩
  refine rds_spec (fun s : Int × List Int => ∃ i : Nat, i ≤ l.length ∧ s.1 = i ∧ s.2.length = l.length + D ∧ ∀ j, i ≤ j → j < l.length + D → s.2.getD j 0 = b01 (cellR D T l i j)) (fun s => l.length - s.1.toNat) (fun _ => some (regL D (runR D T 0 l))) (fun rec s hI hrec => ?_) N _ ⟨0, Nat.zero_le _, rfl, hol, fun j _ hj => ?_⟩ (by simp; omega)
  · obtain ⟨i, hi, hs1, hs2, hs3⟩ := hI
    obtain ⟨x, b⟩ := s
    simp only at hs1 hs2 hs3
    subst hs1
    show br (decide ((i : Int) < (l.length : Int))) _ _ = _
    rcases Nat.lt_or_ge i l.length with h | h
    · have e2 : w64 ((i : Int) + 1) = ((i + 1 : Nat) : Int) := by rw [w64_id (by omega)]; omega
      rw [br_pos (decide_eq_true (by omega)), jn, chk_pos (by omega), Int.toNat_natCast, e2, hs3 i (Nat.le_refl _) (by omega)]
      by_cases hc : cellR D T l i i = true
      · obtain ⟨c, hc1, hc2, hc3⟩ := refRem_b2 (N := N) (regL D T) (regL_length D T) h16 i b l.length hs2 h (by omega) (by omega) (fun b12 => rec (((i + 1 : Nat) : Int), b12))
        rw [hc, br_neg (by rfl), hc1]
        refine hrec _ ⟨i + 1, h, rfl, hc2, fun j hj hj2 => ?_⟩ (by simp; omega)
        show c.getD j 0 = _
        rw [hc3, cell_step h1 l h hj, hc, Bool.true_and]
        by_cases hjD : j < i + 1 + D
        · rw [if_pos ⟨hj, hjD⟩, hs3 j (by omega) hj2, regL_getD _ _ _ (by omega), add_b01, decide_eq_true hjD, Bool.true_and]
        · rw [if_neg (by omega), hs3 j (by omega) hj2, decide_eq_false hjD, Bool.false_and, Bool.xor_false]
      · have hc' : cellR D T l i i = false := by simpa using hc
        rw [hc', br_pos (by rfl)]
        refine hrec _ ⟨i + 1, h, rfl, hs2, fun j hj hj2 => ?_⟩ (by simp; omega)
        show b.getD j 0 = _
        rw [cell_step h1 l h hj, hc', Bool.false_and, Bool.xor_false]
        exact hs3 j (by omega) hj2
    · have : i = l.length := by omega
      subst this
      rw [br_neg (by simp)]
      show chk _ _ = _
      rw [chk_pos (by omega), Int.toNat_natCast]
      congr 1
      refine List.ext_getElem (by rw [List.length_take, List.length_drop, regL_length, hs2]; omega) fun k h2 h3 => ?_
      rw [regL_length] at h3
      have hk := hs3 (l.length + k) (by omega) (by omega)
      rw [List.getElem_take, List.getElem_drop, ← getD_eq (l := b) (show l.length + k < b.length by omega), hk, ← getD_eq (l := regL D (runR D T 0 l)) (by rw [regL_length]; exact h3), regL_getD _ _ _ h3]
      congr 1
      unfold cellR
      rw [List.take_length, decide_eq_true (by omega), Bool.true_and, Nat.add_sub_cancel_left]
      have : (l ++ List.replicate D (0 : Int)).getD (l.length + k) 0 = 0 := by
        rw [List.getD_eq_getElem?_getD, List.getElem?_append_right (by omega), Nat.add_sub_cancel_left, List.getElem?_replicate]
        split <;> rfl
      rw [this]; simp [isOne]
  · show (l ++ List.replicate D 0).getD j 0 = _
    unfold cellR
    rw [List.take_zero, runR, Nat.zero_testBit, Bool.and_false, Bool.xor_false, b01_isOne (hbits j (by omega))]

theorem refChecked_eq {N D T : Nat} (h16 : D ≤ 16) (h1 : 1 ≤ D) (hT : T < 2 ^ D) (l : List Int) (hl : l.length ≤ 500) (hb : bits l) (hN : 1000 < N) : ref02_Checked N D T l = some (checkedL D T l) := by
  unfold ref02_Checked
  rw [CopyInts_eq _ l (by omega), bnd_val, refRemainder_eq h16 h1 hT l hl hb hN, bnd_val, chk_pos (by rw [regL_length]; omega)]; rfl

theorem refIsRight_eq {N D T : Nat} (h16 : D ≤ 16) (h1 : 1 ≤ D) (hT : T < 2 ^ D) (hodd : T % 2 = 1) (l : List Int) (hl : l.length ≤ 500) (hb : bits l) (hD : D < l.length) (hN : 1000 < N) : ref02_IsRight N D T l = some (decide (runR D T 0 l = 0)) := by
  unfold ref02_IsRight
  have e : w64 ((l.length : Int) - (D : Int)) = ((l.length - D : Nat) : Int) := by rw [w64_id (by omega)]; omega
  have hsp : l = l.take (l.length - D) ++ l.drop (l.length - D) := (List.take_append_drop _ _).symm
  have hb' : bits (l.take (l.length - D)) ∧ bits (l.drop (l.length - D)) := by rw [← bits_append, ← hsp]; exact hb
  have hdl : (l.drop (l.length - D)).length = D := by rw [List.length_drop]; omega
  rw [e, chk_pos (by omega), chk_pos (by omega), Int.toNat_natCast, refRemainder_eq h16 h1 hT _ (by rw [List.length_take]; omega) hb'.1 hN, bnd_val, List.take_of_length_le (by rw [List.length_drop]; omega), Ints_eq _ _ (by omega) (by omega), bnd_val]
  congr 1
  have hlt := runR_lt hT 0 (l.take (l.length - D)) (Nat.two_pow_pos D)
  have hz := run_zero_iff h1 hodd hT (l.drop (l.length - D)) hdl _ hlt
  have hrun : runR D T 0 l = runR D T (runR D T 0 (l.take (l.length - D))) (l.drop (l.length - D)) := by rw [← runR_append, ← hsp]
  rw [hrun]
  refine decide_eq_decide.2 ⟨fun h => hz.2 ?_, fun h => ?_⟩
  · have h2 := valB_regL D _ hlt
    rw [← h2, ← h]
  · rw [hz.1 h]
    have h2 := regL_valB hb'.2
    rw [hdl] at h2; exact h2.symm
end Go.Sh

/-
  The law 'CodeChecks': its shallow function tells true.
-/
namespace Go.Sh
open Go.PW

theorem firstOf_cons0 (l : List Int) : firstOf (0 :: l) = firstOf l := by simp [firstOf]
theorem firstOf_cons {x : Int} (h : x ≠ 0) (l : List Int) : firstOf (x :: l) = x := by simp [firstOf, h]

end Go.Sh

/-
  The document's word of bits is the word by rounds.
-/
namespace Go.Sh
open Go.PW

def cov (i j : Nat) : Bool := i &&& j == j
theorem cov_iff (i j : Nat) : cov i j = true ↔ ∀ k, j.testBit k = true → i.testBit k = true := by
  unfold cov
  rw [beq_iff_eq]
  constructor
  · intro h k hk
    have := congrArg (fun x => x.testBit k) h
    simp only [Nat.testBit_and, hk, Bool.and_true] at this
    exact this
  · intro h
    refine Nat.eq_of_testBit_eq fun k => ?_
    rw [Nat.testBit_and]
    cases hj : j.testBit k with
    | false => simp
    | true => simp [h k hj]
theorem cov_half (i j : Nat) : cov i j = (!(decide (j % 2 = 1) && decide (i % 2 = 0)) && cov (i / 2) (j / 2)) := by
  rw [Bool.eq_iff_iff, Bool.and_eq_true, cov_iff, cov_iff]
  constructor
  · intro h
    refine ⟨?_, fun k hk => ?_⟩
    · have h0 := h 0
      simp only [Nat.testBit_zero, decide_eq_true_eq] at h0
      simp only [Bool.not_eq_true', Bool.and_eq_false_iff, decide_eq_false_iff_not]
      omega
    · have := h (k + 1)
      simpa only [Nat.testBit_succ] using this (by rw [Nat.testBit_succ]; exact hk)
  · rintro ⟨h1, h2⟩ k hk
    cases k with
    | zero =>
      simp only [Nat.testBit_zero, decide_eq_true_eq] at hk ⊢
      simp only [Bool.not_eq_true', Bool.and_eq_false_iff, decide_eq_false_iff_not] at h1
      omega
    | succ k => rw [Nat.testBit_succ] at hk ⊢; exact h2 k hk
theorem cov_zero (i : Nat) : cov i 0 = true := by rw [cov_iff]; intro k hk; simp at hk

theorem covers_eq {N i j : Nat} (hi : i < 1000) (hj : j < 1000) (hN : 1000 < N) : ref02_covers N i j = some (cov i j) := by
  unfold ref02_covers
  rw [jn]
  refine rds_spec (fun s : Int × Int => ∃ i j : Nat, i < 1000 ∧ j < 1000 ∧ s = ((i : Int), (j : Int))) (fun s => s.2.toNat) (fun s => some (cov s.1.toNat s.2.toNat)) (fun rec s hI hrec => ?_) N _ ⟨i, j, hi, hj, rfl⟩ (by simp; omega)
  obtain ⟨i, j, hi, hj, rfl⟩ := hI
  show br (decide ((j : Int) > 0)) _ _ = some (cov i j)
  by_cases h0 : j = 0
  · subst h0; rw [br_neg (by simp), cov_zero]
  · have e1 : (j : Int).tmod 2 = ((j % 2 : Nat) : Int) := by rw [Int.tmod_eq_emod_of_nonneg (by omega)]; omega
    have e2 : (i : Int).tmod 2 = ((i % 2 : Nat) : Int) := by rw [Int.tmod_eq_emod_of_nonneg (by omega)]; omega
    have e3 : w64 ((i : Int).tdiv 2) = ((i / 2 : Nat) : Int) := by rw [Int.tdiv_eq_ediv_of_nonneg (by omega), w64_id (by omega)]; omega
    have e4 : w64 ((j : Int).tdiv 2) = ((j / 2 : Nat) : Int) := by rw [Int.tdiv_eq_ediv_of_nonneg (by omega), w64_id (by omega)]; omega
    rw [br_pos (decide_eq_true (by omega)), e1, e2, e3, e4]
    have b1 : (((j % 2 : Nat) : Int) == 1) = decide (j % 2 = 1) := by rw [Bool.eq_iff_iff]; simp; omega
    have b2 : (((i % 2 : Nat) : Int) == 0) = decide (i % 2 = 0) := by rw [Bool.eq_iff_iff]; simp; omega
    rw [b1, b2, cov_half i j]
    cases hc : (decide (j % 2 = 1) && decide (i % 2 = 0)) with
    | true => rfl
    | false =>
      rw [br_false, hrec _ ⟨i / 2, j / 2, by omega, by omega, rfl⟩ (by simp only [Int.toNat_natCast]; omega)]
      simp only [Int.toNat_natCast, Bool.not_false, Bool.true_and]

def sumW (u : List Int) (j : Nat) : Nat → Int
  | 0 => 0
  | n + 1 => sumW u j n + (if cov n j = true then u.getD n 0 else 0)
theorem sumW_range {u : List Int} (hu : bits u) (j : Nat) : ∀ n, 0 ≤ sumW u j n ∧ sumW u j n ≤ n
  | 0 => by simp [sumW]
  | n + 1 => by
    have h := sumW_range hu j n
    have hb := bits_getD hu n
    rw [sumW]
    split <;> rcases hb with hb | hb <;> rw [hb] at * <;> omega

theorem word_b2_eq {N : Nat} (u : List Int) (hu : bits u) (hl : u.length ≤ 200) (j : Nat) (hj : j < 200) (hN : 1000 < N) (K : Int → Option (List Int)) : rds (ref02_word.b2 N u (j : Int) K) N (0, 0) = K (sumW u j u.length) := by
  have H : rds (ref02_word.b2 N u (j : Int) K) N ((0 : Int), 0) = K (itN (fun k s => s + (if cov k j = true then u.getD k 0 else 0)) u.length 0) ∧ itN (fun k s => s + (if cov k j = true then u.getD k 0 else 0)) u.length 0 = sumW u j u.length := by
    refine rds_itR u.length (fun k s => s + (if cov k j = true then u.getD k 0 else 0)) (fun k s => s = sumW u j k) (ref02_word.b2 N u (j : Int) K) K (s := 0) rfl (fun k s hk hs => ?_) (fun k s rec hk hs => ?_) (fun s rec hs => ?_) (N := N) (by omega)
    · rw [hs, sumW]
    · have hr := sumW_range hu j k
      have hb := bits_getD hu k
      have e1 : w64 ((k : Int) + 1) = ((k + 1 : Nat) : Int) := by rw [w64_id (by omega)]; omega
      show br (decide ((k : Int) < (u.length : Int))) _ _ = _
      rw [br_pos (decide_eq_true (by omega)), covers_eq (by omega) (by omega) hN, bnd_val, e1]
      cases hc : cov k j with
      | true => rw [br_true, chk_pos (by omega), Int.toNat_natCast, if_pos rfl, w64_id (by rw [hs]; rcases hb with hb | hb <;> rw [hb] <;> omega)]
      | false => rw [br_false, if_neg (by simp), Int.add_zero]
    · show br (decide ((u.length : Int) < (u.length : Int))) _ _ = _
      rw [br_neg (by simp)]
  rw [H.1, H.2]

theorem refWord_eq {N : Nat} (u : List Int) (hu : bits u) (hl : u.length ≤ 200) (hN : 1000 < N) : ref02_word N u = some ((List.range u.length).map fun j => (sumW u j u.length).tmod 2) := by
  unfold ref02_word
  rw [jn]
  have H : rds (ref02_word.b1 N u fun b0 => some b0) N (0, []) = (fun b0 : List Int => some b0) (itN (fun k (s : List Int) => s ++ [(sumW u k u.length).tmod 2]) u.length []) ∧ itN (fun k (s : List Int) => s ++ [(sumW u k u.length).tmod 2]) u.length [] = (List.range u.length).map fun j => (sumW u j u.length).tmod 2 := by
    refine rds_it u.length (fun k (s : List Int) => s ++ [(sumW u k u.length).tmod 2]) (fun k s => s = (List.range k).map fun j => (sumW u j u.length).tmod 2) (ref02_word.b1 N u fun b0 => some b0) (fun b0 => some b0) (s := []) rfl (fun k s hk hs => ?_) (fun k s rec hk hs => ?_) (fun s rec hs => ?_) (N := N) (by omega)
    · rw [hs, List.range_succ, List.map_append]; rfl
    · have e1 : w64 ((k : Int) + 1) = ((k + 1 : Nat) : Int) := by rw [w64_id (by omega)]; omega
      show br (decide ((k : Int) < (u.length : Int))) _ _ = _
      rw [br_pos (decide_eq_true (by omega)), jn, jn, word_b2_eq u hu hl k (by omega) hN, e1]
      show chk _ _ = _
      rw [chk_pos (by rw [hs]; simp; omega)]
    · show br (decide ((u.length : Int) < (u.length : Int))) _ _ = _
      rw [br_neg (by simp)]
  rw [H.1, H.2]

theorem cov_add_lo {m i j : Nat} (hi : i < 2 ^ m) (hj : j < 2 ^ m) : cov (2 ^ m + i) j = cov i j := by
  rw [Bool.eq_iff_iff, cov_iff, cov_iff]
  refine forall_congr' fun k => imp_congr_right fun hk => ?_
  have : k < m := by
    refine Nat.lt_of_not_le fun h => ?_
    rw [Nat.testBit_lt_two_pow (Nat.lt_of_lt_of_le hj (Nat.pow_le_pow_right (by decide) h))] at hk
    cases hk
  rw [Nat.testBit_two_pow_add_gt this]
theorem cov_lo_hi {m i j : Nat} (hi : i < 2 ^ m) (hj : j < 2 ^ m) : cov i (2 ^ m + j) = false := by
  refine Bool.eq_false_iff.2 fun h => ?_
  have := (cov_iff _ _).1 h m (by rw [Nat.testBit_two_pow_add_eq, Nat.testBit_lt_two_pow hj]; rfl)
  rw [Nat.testBit_lt_two_pow hi] at this
  cases this
theorem cov_hi_hi {m i j : Nat} (hi : i < 2 ^ m) (hj : j < 2 ^ m) : cov (2 ^ m + i) (2 ^ m + j) = cov i j := by
  rw [Bool.eq_iff_iff, cov_iff, cov_iff]
  constructor
  · intro h k hk
    have hkm : k < m := by
      refine Nat.lt_of_not_le fun h => ?_
      rw [Nat.testBit_lt_two_pow (Nat.lt_of_lt_of_le hj (Nat.pow_le_pow_right (by decide) h))] at hk
      cases hk
    have := h k (by rw [Nat.testBit_two_pow_add_gt hkm]; exact hk)
    rwa [Nat.testBit_two_pow_add_gt hkm] at this
  · intro h k hk
    rcases Nat.lt_trichotomy k m with hkm | rfl | hkm
    · rw [Nat.testBit_two_pow_add_gt hkm] at hk ⊢; exact h k hk
    · rw [Nat.testBit_two_pow_add_eq, Nat.testBit_lt_two_pow hi]; rfl
    · have hp : 2 ^ m + j < 2 ^ k := Nat.lt_of_lt_of_le (show 2 ^ m + j < 2 ^ (m + 1) by rw [Nat.pow_succ]; omega) (Nat.pow_le_pow_right (by decide) hkm)
      rw [Nat.testBit_lt_two_pow hp] at hk
      cases hk

theorem sumW_lo {m j : Nat} (a b : List Int) (ha : a.length = 2 ^ m) (hj : j < 2 ^ m) : ∀ n, n ≤ 2 ^ m → sumW (a ++ b) j n = sumW a j n
  | 0, _ => rfl
  | n + 1, h => by rw [sumW, sumW, sumW_lo a b ha hj n (by omega), getD_left a b (by omega)]
theorem sumW_add {m j : Nat} (a b : List Int) (ha : a.length = 2 ^ m) (hj : j < 2 ^ m) : ∀ n, n ≤ 2 ^ m → sumW (a ++ b) j (2 ^ m + n) = sumW a j (2 ^ m) + sumW b j n
  | 0, _ => by rw [Nat.add_zero, sumW_lo a b ha hj _ (Nat.le_refl _), sumW, Int.add_zero]
  | n + 1, h => by
    rw [← Nat.add_assoc, sumW, sumW_add a b ha hj n (by omega), sumW, cov_add_lo (by omega) hj]
    have : (a ++ b).getD (2 ^ m + n) 0 = b.getD n 0 := by rw [← ha]; exact getD_right a b n
    rw [this]; omega
theorem sumW_hi0 {m j : Nat} (u : List Int) (hj : j < 2 ^ m) : ∀ n, n ≤ 2 ^ m → sumW u (2 ^ m + j) n = 0
  | 0, _ => rfl
  | n + 1, h => by rw [sumW, sumW_hi0 u hj n (by omega), cov_lo_hi (by omega) hj]; rfl
theorem sumW_hi {m j : Nat} (a b : List Int) (ha : a.length = 2 ^ m) (hj : j < 2 ^ m) : ∀ n, n ≤ 2 ^ m → sumW (a ++ b) (2 ^ m + j) (2 ^ m + n) = sumW b j n
  | 0, _ => by rw [Nat.add_zero, sumW_hi0 _ hj _ (Nat.le_refl _), sumW]
  | n + 1, h => by
    rw [← Nat.add_assoc, sumW, sumW_hi a b ha hj n (by omega), sumW, cov_hi_hi (by omega) hj]
    have : (a ++ b).getD (2 ^ m + n) 0 = b.getD n 0 := by rw [← ha]; exact getD_right a b n
    rw [this]

theorem tmod_add {x y : Int} (hx : 0 ≤ x) (hy : 0 ≤ y) : (x + y).tmod 2 = xorI (x.tmod 2) (y.tmod 2) := by
  rw [Int.tmod_eq_emod_of_nonneg hx, Int.tmod_eq_emod_of_nonneg hy, Int.tmod_eq_emod_of_nonneg (by omega), xorI_bits (by omega) (by omega)]
  split <;> omega

theorem wordL_sums : ∀ (m : Nat) (u : List Int), u.length = 2 ^ m → bits u → wordL m u = (List.range u.length).map fun j => (sumW u j u.length).tmod 2
  | 0, u, h, hb => by
    obtain ⟨x, rfl⟩ := List.length_eq_one_iff.1 h
    have hx := hb 0 (by simp)
    simp only [List.getD_cons_zero] at hx
    have hc : cov 0 0 = true := by decide
    rcases hx with rfl | rfl <;> simp [wordL, sumW, hc, List.range_succ] <;> rfl
  | m + 1, u, h, hb => by
    have hp : 2 ^ (m + 1) = 2 ^ m + 2 ^ m := by rw [Nat.pow_succ]; omega
    obtain ⟨a, b, rfl, ha, hb'⟩ : ∃ a b, u = a ++ b ∧ a.length = 2 ^ m ∧ b.length = 2 ^ m := ⟨u.take (2 ^ m), u.drop (2 ^ m), (List.take_append_drop _ _).symm, by rw [List.length_take]; omega, by rw [List.length_drop]; omega⟩
    obtain ⟨hba, hbb⟩ := bits_append.1 hb
    rw [wordL_halves m a b ha hb']
    have la : (wordL m a).length = 2 ^ m := by rw [wordL_length, ha]
    have lb : (wordL m b).length = 2 ^ m := by rw [wordL_length, hb']
    have ea := wordL_sums m a ha hba
    have eb := wordL_sums m b hb' hbb
    have ga : ∀ j, j < 2 ^ m → (wordL m a).getD j 0 = (sumW a j (2 ^ m)).tmod 2 := fun j hj => by
      rw [ea, List.getD_eq_getElem?_getD, List.getElem?_map, List.getElem?_range (by omega), ha]; rfl
    have gb : ∀ j, j < 2 ^ m → (wordL m b).getD j 0 = (sumW b j (2 ^ m)).tmod 2 := fun j hj => by
      rw [eb, List.getD_eq_getElem?_getD, List.getElem?_map, List.getElem?_range (by omega), hb']; rfl
    have hlen : (a ++ b).length = 2 ^ m + 2 ^ m := by rw [List.length_append]; omega
    refine ext_getD (by rw [List.length_append, zipX_length, la, lb, List.length_map, List.length_range, hlen]) fun j hj => ?_
    rw [List.length_append, zipX_length, la, lb] at hj
    have er : ((List.range (a ++ b).length).map fun j => (sumW (a ++ b) j (a ++ b).length).tmod 2).getD j 0 = (sumW (a ++ b) j (2 ^ m + 2 ^ m)).tmod 2 := by
      rw [List.getD_eq_getElem?_getD, List.getElem?_map, List.getElem?_range (by omega), hlen]; rfl
    rw [er]
    rcases Nat.lt_or_ge j (2 ^ m) with h1 | h1
    · rw [getD_left _ _ (by rw [zipX_length, la]; exact h1), zipX_getD _ _ (by rw [la]; exact h1), ga j h1, gb j h1, sumW_add a b ha h1 _ (Nat.le_refl _), tmod_add (sumW_range hba _ _).1 (sumW_range hbb _ _).1]
    · obtain ⟨i, rfl⟩ : ∃ i, j = 2 ^ m + i := ⟨j - 2 ^ m, by omega⟩
      rw [sumW_hi a b ha (by omega) _ (Nat.le_refl _), ← gb i (by omega)]
      have : 2 ^ m + i = (zipX (wordL m a) (wordL m b)).length + i := by rw [zipX_length, la]
      rw [this, getD_right]

theorem refWord_wordL {N m : Nat} (hm : m ≤ 6) (u : List Int) (h : u.length = 2 ^ m) (hb : bits u) (hN : 1000 < N) : ref02_word N u = some (wordL m u) := by
  have := pow_le6 hm
  rw [refWord_eq u hb (by omega) hN, wordL_sums m u h hb]
end Go.Sh

/-
  Successive cancellation: the program's and the document's come to the same bits, for any soft bits.
-/
namespace Go.Sh
open Go.PW

noncomputable def cancelL (info : Nat → Bool) : Nat → List Int → Nat → List Int
  | 0, s, f => [if (info f && decide (s.getD 0 0 < 0)) = true then 1 else 0]
  | m + 1, s, f => cancelL info m (leftL (s.take (2 ^ m)) (s.drop (2 ^ m))) f ++
      cancelL info m (rightL (wordL m (cancelL info m (leftL (s.take (2 ^ m)) (s.drop (2 ^ m))) f)) (s.take (2 ^ m)) (s.drop (2 ^ m))) (f + 2 ^ m)
theorem cancelL_length (info : Nat → Bool) : ∀ (m : Nat) (s : List Int) (f : Nat), (cancelL info m s f).length = 2 ^ m
  | 0, _, _ => rfl
  | m + 1, s, f => by rw [cancelL, List.length_append, cancelL_length info m, cancelL_length info m, Nat.pow_succ]; omega
theorem cancelL_bits (info : Nat → Bool) : ∀ (m : Nat) (s : List Int) (f : Nat), bits (cancelL info m s f)
  | 0, s, f => by
    intro i hi
    have : i = 0 := by simpa [cancelL] using hi
    subst this
    rw [cancelL, List.getD_cons_zero]
    split <;> simp
  | m + 1, s, f => by rw [cancelL, bits_append]; exact ⟨cancelL_bits info m _ _, cancelL_bits info m _ _⟩

theorem cancelL_app (info : Nat → Bool) {m : Nat} {a b : List Int} (ha : a.length = 2 ^ m) (f : Nat) : cancelL info (m + 1) (a ++ b) f = cancelL info m (leftL a b) f ++ cancelL info m (rightL (wordL m (cancelL info m (leftL a b) f)) a b) (f + 2 ^ m) := by
  rw [cancelL, ← ha, List.take_left, List.drop_left]

def small (B : Nat) (l : List Int) : Prop := ∀ i, i < l.length → ((l.getD i 0).natAbs : Int) ≤ B
theorem small_app {B : Nat} {a b : List Int} (h : small B (a ++ b)) : small B a ∧ small B b :=
  ⟨fun i hi => by have := h i (by rw [List.length_append]; omega); rwa [getD_left a b hi] at this, fun i hi => by have := h (a.length + i) (by rw [List.length_append]; omega); rwa [getD_right] at this⟩
theorem small_inR {B : Nat} {l : List Int} (h : small B l) (hB : B ≤ 2 ^ 40) : inR l := fun i hi => by
  have := h i hi
  omega
theorem small_left {B : Nat} {a b : List Int} (hab : b.length = a.length) (ha : small B a) (hb : small B b) : small B (leftL a b) := fun i hi => by
  rw [leftL_length] at hi
  rw [leftL_getD a b hi]; exact left_size (ha i hi) (hb i (by omega))
theorem small_right {B : Nat} {w a b : List Int} (hab : b.length = a.length) (ha : small B a) (hb : small B b) : small (2 * B) (rightL w a b) := fun i hi => by
  rw [rightL_length] at hi
  rw [rightL_getD w a b hi]; exact right_size (ha i hi) (hb i (by omega))

theorem cancel_any {N : Nat} (isInfo : Int → Option Bool) (info : Nat → Bool) : ∀ (m : Nat), m ≤ 6 → 2 ^ m < N → ∀ (n : Nat), m < n → ∀ (soft : List Int) (f : Nat) (B : Nat), soft.length = 2 ^ m → small B soft → B * 2 ^ m ≤ 2 ^ 40 →
    (∀ i, i < 2 ^ m → isInfo ((f + i : Nat) : Int) = some (info (f + i))) → f + 2 ^ m ≤ 1000000 → rds (code_cancel.b N isInfo) n (soft, (f : Int)) = some (cancelL info m soft f) := by
  intro m
  induction m with
  | zero =>
    intro _ _ n hn soft f B hs _ _ hinfo _
    obtain ⟨n, rfl⟩ : ∃ k, n = k + 1 := ⟨n - 1, by omega⟩
    obtain ⟨x, rfl⟩ := List.length_eq_one_iff.1 hs
    have hi := hinfo 0 (by simp)
    simp only [Nat.add_zero] at hi
    rw [rds_succ]
    show br (w64 ((([x] : List Int).length : Int).tdiv 2) == 0) _ _ = _
    have hz : w64 ((([x] : List Int).length : Int).tdiv 2) = 0 := by rw [show ((([x] : List Int).length : Int).tdiv 2) = 0 by rw [List.length_singleton]; decide]; exact w64_id (by decide)
    rw [hz, br_pos (by rfl), hi, bnd_val, chk_pos (by intro _; simp), cancelL]
    cases hc : (info f && decide (([x] : List Int).getD 0 0 < 0)) <;> rfl
  | succ m ih =>
    intro hm hN n hn soft f B hs hB hBm hinfo hf
    obtain ⟨n, rfl⟩ : ∃ k, n = k + 1 := ⟨n - 1, by omega⟩
    have hp : 2 ^ (m + 1) = 2 ^ m + 2 ^ m := by rw [Nat.pow_succ]; omega
    have hpos := Nat.two_pow_pos m
    have h64 := pow_le6 hm
    obtain ⟨a, b, rfl, ha, hb'⟩ : ∃ a b, soft = a ++ b ∧ a.length = 2 ^ m ∧ b.length = 2 ^ m := ⟨soft.take (2 ^ m), soft.drop (2 ^ m), (List.take_append_drop _ _).symm, by rw [List.length_take]; omega, by rw [List.length_drop]; omega⟩
    have hab : b.length = a.length := by omega
    have hal : a.length < 1000000 := by omega
    have hBB : B ≤ 2 ^ 40 := Nat.le_trans (Nat.le_mul_of_pos_right B (Nat.two_pow_pos _)) hBm
    obtain ⟨sa, sb⟩ := small_app hB
    have hra := small_inR sa hBB
    have hrb := small_inR sb hBB
    rw [hp, Nat.mul_add] at hBm
    rw [cancelL_app info ha]
    obtain ⟨u1, hu1⟩ : ∃ u1, u1 = cancelL info m (leftL a b) f := ⟨_, rfl⟩
    have hu1l : u1.length = 2 ^ m := by rw [hu1, cancelL_length]
    have hu1b : bits u1 := by rw [hu1]; exact cancelL_bits info m _ _
    rw [← hu1]
    generalize hself : rds (code_cancel.b N isInfo) n = self at *
    rw [rds_succ, hself]
    show br (w64 (((a ++ b).length : Int).tdiv 2) == 0) _ _ = _
    simp only [half_eq hab hal, Int.toNat_natCast]
    rw [br_neg (by rw [beq_eq_false_iff_ne]; omega), chk_pos (by rw [List.length_append]; omega), chk_pos (by rw [List.length_append]; omega), chk_pos (by omega), jn, cancel_b1_eq a b hab hal (by omega) hra hrb]
    have key1 : self (leftL a b, (f : Int)) = some u1 := by
      rw [← hself, hu1]
      exact ih (by omega) (by omega) n (by omega) (leftL a b) f B (by rw [leftL_length, ha]) (small_left hab sa sb) (by omega) (fun i hi => hinfo i (by omega)) (by omega)
    show bnd (self (leftL a b, (f : Int))) _ = _
    rw [key1, bnd_val]
    have key2 : self (rightL (wordL m u1) a b, ((f + a.length : Nat) : Int)) = some (cancelL info m (rightL (wordL m u1) a b) (f + 2 ^ m)) := by
      rw [← hself, ha]
      refine ih (by omega) (by omega) n (by omega) (rightL (wordL m u1) a b) (f + 2 ^ m) (2 * B) (by rw [rightL_length, ha]) (small_right hab sa sb) ?_ (fun i hi => ?_) (by omega)
      · rw [Nat.mul_assoc]; omega
      · have := hinfo (2 ^ m + i) (by omega)
        rwa [← Nat.add_assoc] at this
    rw [jn, slices_Clone_ii, chk_pos (by omega), bnd_val, jn, cancel_b2, wordOut_eq m (by omega) u1 hu1l _ (by omega)]
    show rds (code_cancel.b4 N (a ++ b) _ (wordL m u1)) N (0, leftL a b) = _
    rw [cancel_b4_eq (wordL m u1) (leftL a b) a b hab (by rw [wordL_length]; omega) (leftL_length a b) hal (by omega) hra hrb]
    have e : w64 ((f : Int) + (a.length : Int)) = ((f + a.length : Nat) : Int) := by
      rw [w64_id (by omega)]; rfl
    show bnd (self (rightL (wordL m u1) a b, w64 ((f : Int) + (a.length : Int)))) _ = _
    rw [e, key2, bnd_val, chk_pos (by rw [cancelL_length]; omega)]

theorem Has_eq {N : Nat} (l : List Int) (n : Int) (hl : l.length < 4611686018427387904) (hN : l.length < N) : base_Has N l n = some (decide (n ∈ l)) := by
  unfold base_Has
  rw [jn]
  refine (rds_scan l 0 (fun x => x == n) (some true) (some false) _ (fun k rec hk => ?_) (fun rec => ?_) hN).trans ?_
  · show br (decide ((k : Int) < (l.length : Int))) _ _ = _
    rw [br_pos (decide_eq_true (by omega)), chk_pos (by omega), Int.toNat_natCast]
    have e1 : w64 ((k : Int) + 1) = ((k + 1 : Nat) : Int) := by rw [w64_id (by omega)]; omega
    rw [e1]; rfl
  · show br (decide ((l.length : Int) < (l.length : Int))) _ _ = _
    rw [br_neg (by simp)]
  · by_cases h : n ∈ l
    · rw [if_pos (by rw [List.any_eq_true]; exact ⟨n, h, by simp⟩), decide_eq_true h]
    · rw [if_neg (by rw [List.any_eq_true]; rintro ⟨x, hx, he⟩; exact h (by rw [beq_iff_eq] at he; rwa [← he])), decide_eq_false h]

theorem refSign_eq (N : Nat) (n : Int) : ref02_sign N n = some (sgn n) := by
  unfold ref02_sign sgn
  congr 1
  split <;> split <;> (try split) <;> omega
theorem refSize_eq (N : Nat) (n : Int) (h : -4611686018427387904 < n ∧ n < 4611686018427387904) : base_Size N n = some (n.natAbs : Int) := size_eq N n h

theorem left_ref (x y : Int) (hx : -2305843009213693952 < x ∧ x < 2305843009213693952) (hy : -2305843009213693952 < y ∧ y < 2305843009213693952) :
    w64 (w64 (sgn x * sgn y) * (if (y.natAbs : Int) < (x.natAbs : Int) then (y.natAbs : Int) else (x.natAbs : Int))) = leftAt x y := by
  unfold leftAt
  generalize hm : (if (y.natAbs : Int) < (x.natAbs : Int) then (y.natAbs : Int) else (x.natAbs : Int)) = M
  have hM : 0 ≤ M ∧ M < 4611686018427387904 := by rw [← hm]; split <;> omega
  have hs : w64 (sgn x * sgn y) = sgn x * sgn y := by
    rcases sgn_cases x with h1 | h1 | h1 <;> rcases sgn_cases y with h2 | h2 | h2 <;> rw [h1, h2] <;> exact w64_id (by decide)
  rw [hs]
  rcases sgn_cases x with h1 | h1 | h1 <;> rcases sgn_cases y with h2 | h2 | h2 <;> rw [h1, h2] <;> rw [w64_id (by omega)] <;> omega

theorem right_ref {v x y : Int} (hv : v = 0 ∨ v = 1) (hx : -2305843009213693952 < x ∧ x < 2305843009213693952) (hy : -2305843009213693952 < y ∧ y < 2305843009213693952) :
    w64 (y + w64 (w64 (1 - w64 (2 * v)) * x)) = rightAt v x y := by
  unfold rightAt
  rcases hv with rfl | rfl
  · rw [w64_id (n := 2 * 0) (by decide), w64_id (n := 1 - 2 * 0) (by decide), w64_id (n := (1 - 2 * 0) * x) (by omega), w64_id (by omega), if_neg (by decide)]; omega
  · rw [w64_id (n := 2 * 1) (by decide), w64_id (n := 1 - 2 * 1) (by decide), w64_id (n := (1 - 2 * 1) * x) (by omega), w64_id (by omega), if_pos rfl]; omega

theorem refcancel_b1_eq {N : Nat} (a b : List Int) (hab : b.length = a.length) (hl : a.length < 1000000) (hN : a.length < N) (ha : inR a) (hb : inR b) (K : List Int → Option (List Int)) :
    rds (ref02_cancel.b1 N (a ++ b) K) N (0, []) = K (leftL a b) := by
  have hh := half_eq hab hl
  have H : rds (ref02_cancel.b1 N (a ++ b) K) N (0, []) = K (itN (fun k (s : List Int) => s ++ [leftAt (a.getD k 0) (b.getD k 0)]) a.length []) ∧ itN (fun k (s : List Int) => s ++ [leftAt (a.getD k 0) (b.getD k 0)]) a.length [] = leftL a b := by
    refine rds_it a.length (fun k (s : List Int) => s ++ [leftAt (a.getD k 0) (b.getD k 0)]) (fun k s => s = (List.range k).map fun i => leftAt (a.getD i 0) (b.getD i 0)) (ref02_cancel.b1 N (a ++ b) K) K (s := []) rfl (fun k s hk hs => ?_) (fun k s rec hk hs => ?_) (fun s rec hs => ?_) (N := N) hN
    · rw [hs, List.range_succ, List.map_append]; rfl
    · have e1 : w64 ((k : Int) + 1) = ((k + 1 : Nat) : Int) := by rw [w64_id (by omega)]; omega
      have e2 : w64 ((a.length : Int) + (k : Int)) = ((a.length + k : Nat) : Int) := by rw [w64_id (by omega)]; omega
      have hlen : (a ++ b).length = a.length + b.length := List.length_append
      have h1 := ha k hk
      have h2 := hb k (by omega)
      show br (decide ((k : Int) < w64 (((a ++ b).length : Int).tdiv 2))) _ _ = _
      simp only [hh, e1, e2, Int.toNat_natCast]
      rw [br_pos (decide_eq_true (by omega)), chk_pos (by omega), chk_pos (by omega), getD_left a b hk, getD_right, refSign_eq, bnd_val, refSign_eq, bnd_val, refSize_eq _ _ (by omega), bnd_val, refSize_eq _ _ (by omega), bnd_val, left_ref _ _ h1 h2, chk_pos (by rw [hs]; simp; omega)]
    · show br (decide ((a.length : Int) < w64 (((a ++ b).length : Int).tdiv 2))) _ _ = _
      rw [hh, br_neg (by simp)]
  rw [H.1, H.2]

theorem refcancel_b2_eq {N : Nat} (w a b : List Int) (hab : b.length = a.length) (hw : w.length = a.length) (hwb : bits w) (hl : a.length < 1000000) (hN : a.length < N) (ha : inR a) (hb : inR b) (K : List Int → Option (List Int)) :
    rds (ref02_cancel.b2 N (a ++ b) w K) N (0, []) = K (rightL w a b) := by
  have hh := half_eq hab hl
  have H : rds (ref02_cancel.b2 N (a ++ b) w K) N (0, []) = K (itN (fun k (s : List Int) => s ++ [rightAt (w.getD k 0) (a.getD k 0) (b.getD k 0)]) a.length []) ∧ itN (fun k (s : List Int) => s ++ [rightAt (w.getD k 0) (a.getD k 0) (b.getD k 0)]) a.length [] = rightL w a b := by
    refine rds_it a.length (fun k (s : List Int) => s ++ [rightAt (w.getD k 0) (a.getD k 0) (b.getD k 0)]) (fun k s => s = (List.range k).map fun i => rightAt (w.getD i 0) (a.getD i 0) (b.getD i 0)) (ref02_cancel.b2 N (a ++ b) w K) K (s := []) rfl (fun k s hk hs => ?_) (fun k s rec hk hs => ?_) (fun s rec hs => ?_) (N := N) hN
    · rw [hs, List.range_succ, List.map_append]; rfl
    · have e1 : w64 ((k : Int) + 1) = ((k + 1 : Nat) : Int) := by rw [w64_id (by omega)]; omega
      have e2 : w64 ((a.length : Int) + (k : Int)) = ((a.length + k : Nat) : Int) := by rw [w64_id (by omega)]; omega
      have hlen : (a ++ b).length = a.length + b.length := List.length_append
      have h1 := ha k hk
      have h2 := hb k (by omega)
      show br (decide ((k : Int) < w64 (((a ++ b).length : Int).tdiv 2))) _ _ = _
      simp only [hh, e1, e2, Int.toNat_natCast]
      rw [br_pos (decide_eq_true (by omega)), chk_pos (by omega), chk_pos (by omega), chk_pos (by omega), getD_left a b hk, getD_right, right_ref (bits_getD hwb k) h1 h2, chk_pos (by rw [hs]; simp; omega)]
    · show br (decide ((a.length : Int) < w64 (((a ++ b).length : Int).tdiv 2))) _ _ = _
      rw [hh, br_neg (by simp)]
  rw [H.1, H.2]

theorem refcancel_any {N : Nat} (p : Int) (Info : List Int) (hIl : Info.length < 1000000) (hIN : Info.length < N) (hN2 : 1000 < N) : ∀ (m : Nat), m ≤ 6 → ∀ (n : Nat), m < n → ∀ (soft : List Int) (f : Nat) (B : Nat), soft.length = 2 ^ m → small B soft → B * 2 ^ m ≤ 2 ^ 40 →
    f + 2 ^ m ≤ 1000000 → rds (ref02_cancel.b N) n (p, Info, (f : Int), soft) = some (cancelL (fun k => decide ((k : Int) ∈ Info)) m soft f) := by
  intro m
  induction m with
  | zero =>
    intro _ n hn soft f B hs _ _ _
    obtain ⟨n, rfl⟩ : ∃ k, n = k + 1 := ⟨n - 1, by omega⟩
    obtain ⟨x, rfl⟩ := List.length_eq_one_iff.1 hs
    rw [rds_succ]
    show br ((([x] : List Int).length : Int) == 1) _ _ = _
    rw [br_pos (by rfl), Has_eq Info _ (by omega) hIN, bnd_val, chk_pos (by intro _; simp), cancelL]
    cases hc : (decide ((f : Int) ∈ Info) && decide (([x] : List Int).getD 0 0 < 0)) <;> rfl
  | succ m ih =>
    intro hm n hn soft f B hs hB hBm hf
    obtain ⟨n, rfl⟩ : ∃ k, n = k + 1 := ⟨n - 1, by omega⟩
    have hp : 2 ^ (m + 1) = 2 ^ m + 2 ^ m := by rw [Nat.pow_succ]; omega
    have hpos := Nat.two_pow_pos m
    have h64 := pow_le6 hm
    obtain ⟨a, b, rfl, ha, hb'⟩ : ∃ a b, soft = a ++ b ∧ a.length = 2 ^ m ∧ b.length = 2 ^ m := ⟨soft.take (2 ^ m), soft.drop (2 ^ m), (List.take_append_drop _ _).symm, by rw [List.length_take]; omega, by rw [List.length_drop]; omega⟩
    have hab : b.length = a.length := by omega
    have hal : a.length < 1000000 := by omega
    have hBB : B ≤ 2 ^ 40 := Nat.le_trans (Nat.le_mul_of_pos_right B (Nat.two_pow_pos _)) hBm
    obtain ⟨sa, sb⟩ := small_app hB
    have hra := small_inR sa hBB
    have hrb := small_inR sb hBB
    rw [hp, Nat.mul_add] at hBm
    rw [cancelL_app _ ha]
    obtain ⟨u1, hu1⟩ : ∃ u1, u1 = cancelL (fun k => decide ((k : Int) ∈ Info)) m (leftL a b) f := ⟨_, rfl⟩
    have hu1l : u1.length = 2 ^ m := by rw [hu1, cancelL_length]
    have hu1b : bits u1 := by rw [hu1]; exact cancelL_bits _ m _ _
    rw [← hu1]
    generalize hself : rds (ref02_cancel.b N) n = self at *
    rw [rds_succ, hself]
    have hlen : (a ++ b).length = a.length + b.length := List.length_append
    show br (((a ++ b).length : Int) == 1) _ _ = _
    rw [br_neg (by rw [beq_eq_false_iff_ne]; omega), jn, refcancel_b1_eq a b hab hal (by omega) hra hrb]
    have key1 : self (p, Info, (f : Int), leftL a b) = some u1 := by
      rw [← hself, hu1]
      exact ih (by omega) n (by omega) (leftL a b) f B (by rw [leftL_length, ha]) (small_left hab sa sb) (by omega) (by omega)
    show bnd (self (p, Info, (f : Int), leftL a b)) _ = _
    rw [key1, bnd_val, refWord_wordL (m := m) (by omega) u1 hu1l hu1b (by omega), bnd_val, jn]
    rw [refcancel_b2_eq (wordL m u1) a b hab (by rw [wordL_length]; omega) (wordL_bits m hu1b) hal (by omega) hra hrb]
    have key2 : self (p, Info, ((f + a.length : Nat) : Int), rightL (wordL m u1) a b) = some (cancelL (fun k => decide ((k : Int) ∈ Info)) m (rightL (wordL m u1) a b) (f + 2 ^ m)) := by
      rw [← hself, ha]
      refine ih (by omega) n (by omega) (rightL (wordL m u1) a b) (f + 2 ^ m) (2 * B) (by rw [rightL_length, ha]) (small_right hab sa sb) ?_ (by omega)
      rw [Nat.mul_assoc]; omega
    have e : w64 ((f : Int) + w64 (((a ++ b).length : Int).tdiv 2)) = ((f + a.length : Nat) : Int) := by
      rw [half_eq hab hal, w64_id (by omega)]; rfl
    show bnd (self (p, Info, w64 ((f : Int) + w64 (((a ++ b).length : Int).tdiv 2)), rightL (wordL m u1) a b)) _ = _
    rw [e, key2, bnd_val, chk_pos (by rw [cancelL_length]; omega)]

noncomputable def decodeL (q : Nat) (info soft : List Int) : List Int := info.map fun k => (cancelL (fun k => decide ((k : Int) ∈ info)) q soft 0).getD k.toNat 0
theorem decode_any {N q : Nat} (hq : q ≤ 6) (info soft : List Int) (p : Int) (hr : rising info) (hin : ∀ x ∈ info, 0 ≤ x ∧ x < ((2 ^ q : Nat) : Int)) (hl : info.length < 1000000) (hN : info.length < N) (hN2 : 1000 < N)
    (hs : soft.length = 2 ^ q) (hB : small 1000000000 soft) : code_decode N p info soft = some (decodeL q info soft) := by
  have h64 := pow_le6 hq
  unfold code_decode code_cancel
  have hc := cancel_any (N := N) (fun y0 => code_decode_1 N y0 p info) (fun k => decide ((k : Int) ∈ info)) q hq (by omega) N (by omega) soft 0 1000000000 hs hB (by have := Nat.mul_le_mul_left 1000000000 h64; omega)
    (fun i hi => by rw [decode_1_eq info p _ hr hl hN]) (by omega)
  rw [show ((0 : Nat) : Int) = 0 from rfl] at hc
  rw [hc, bnd_val, jn, decode_b1_eq info _ (fun k hk => by rw [cancelL_length]; exact hin k hk) hl hN]; rfl
theorem refDecode_any {N q : Nat} (hq : q ≤ 6) (info soft : List Int) (p : Int) (hin : ∀ x ∈ info, 0 ≤ x ∧ x < ((2 ^ q : Nat) : Int)) (hl : info.length < 1000000) (hN : info.length < N) (hN2 : 1000 < N)
    (hs : soft.length = 2 ^ q) (hB : small 1000000000 soft) : ref02_Decode N p info soft = some (decodeL q info soft) := by
  have h64 := pow_le6 hq
  unfold ref02_Decode ref02_cancel
  have hc := refcancel_any (N := N) p info hl hN hN2 q hq N (by omega) soft 0 1000000000 hs hB (by have := Nat.mul_le_mul_left 1000000000 h64; omega) (by omega)
  rw [show ((0 : Nat) : Int) = 0 from rfl] at hc
  rw [hc, bnd_val, jn]
  exact decode_b1_eq info _ (fun k hk => by rw [cancelL_length]; exact hin k hk) hl hN _
end Go.Sh

/-
  The law 'CodeChains': its shallow function tells true.
-/
namespace Go.Sh
open Go.PW

theorem checked_eq {N D T : Nat} (h16 : D ≤ 16) (h1 : 1 ≤ D) (hT : T < 2 ^ D) (l : List Int) (hl : l.length ≤ 500) (hN : 1000 < N) : code_checked N D T l = some (checkedL D T l) := by
  unfold code_checked
  rw [remainder_eq h16 h1 hT l (by omega) (by omega) (by omega), bnd_val, Concat_eq _ _ (by omega) (by rw [regL_length]; omega) (by omega)]; rfl
theorem right_eq {N D T : Nat} (h16 : D ≤ 16) (h1 : 1 ≤ D) (hT : T < 2 ^ D) (hodd : T % 2 = 1) (c : List Int) (hl : c.length ≤ 500) (hbits : bits c) (hc : D < c.length) (hN : 1000 < N) : code_right N D T c = some (decide (runR D T 0 c = 0)) := by
  unfold code_right
  have hw : w64 ((c.length : Int) - (D : Int)) = ((c.length - D : Nat) : Int) := by rw [w64_id (by omega)]; omega
  rw [hw, chk_pos (by omega), Int.toNat_natCast, remainder_eq h16 h1 hT _ (by simp; omega) (by simp; omega) (by omega), bnd_val, chk_pos (by omega), Equal_eq _ _ (by rw [regL_length]; omega) (by rw [regL_length]; omega), bnd_val]
  have hr := refIsRight_eq (N := N) h16 h1 hT hodd c hl hbits hc hN
  unfold ref02_IsRight at hr
  rw [hw, chk_pos (by omega), chk_pos (by omega), Int.toNat_natCast, refRemainder_eq h16 h1 hT _ (by simp; omega) (fun i hi => by have := hbits i (by simp at hi; omega); rw [List.getD_eq_getElem?_getD, List.getElem?_take_of_lt (by simp at hi; omega), ← List.getD_eq_getElem?_getD]; exact this) hN, bnd_val, Ints_eq _ _ (by simp; omega) (by simp; omega), bnd_val] at hr
  rw [← hr]
  congr 1
  exact decide_eq_decide.2 ⟨fun h => h.symm, fun h => h.symm⟩

theorem checkedL_bits {D T : Nat} {l : List Int} (h : bits l) : bits (checkedL D T l) := by unfold checkedL; rw [bits_append]; exact ⟨h, regL_bits _ _⟩
theorem checkedL_length {D T : Nat} (l : List Int) : (checkedL D T l).length = l.length + D := by unfold checkedL; rw [List.length_append, regL_length]

theorem refEncode_eq {N q : Nat} (hq : q ≤ 6) (info l : List Int) (hlen : l.length = info.length) (hin : ∀ x ∈ info, 0 ≤ x ∧ x < ((2 ^ q : Nat) : Int)) (hl : info.length < 1000000) (hN : info.length < N) (hN2 : 1000 < N) (hb : bits l) :
    ref02_Encode N q info l = some (wordL q (place info l (List.replicate (2 ^ q) 0))) := by
  have h64 := pow_le6 hq
  unfold ref02_Encode
  rw [power_eq (by omega) (by omega), bnd_val, chk_pos ⟨Int.natCast_nonneg _, by have : ((2 ^ q : Nat) : Int) ≤ ((64 : Nat) : Int) := Int.ofNat_le.2 h64; omega⟩, jn, Int.toNat_natCast]
  refine rds_spec (fun x : Int × List Int => ∃ k : Nat, k ≤ info.length ∧ x.1 = k ∧ x.2.length = 2 ^ q ∧ place (info.drop k) (l.drop k) x.2 = place info l (List.replicate (2 ^ q) 0)) (fun x => info.length - x.1.toNat) (fun _ => some (wordL q (place info l (List.replicate (2 ^ q) 0)))) (fun rec x hI hrec => ?_) N (0, List.replicate (2 ^ q) 0) ⟨0, Nat.zero_le _, rfl, by simp, rfl⟩ (by simp; omega)
  obtain ⟨k, hk, hx, hbl, hp⟩ := hI
  obtain ⟨i, b⟩ := x
  simp only at hx hbl hp
  subst hx
  show br (decide ((k : Int) < (l.length : Int))) _ _ = _
  by_cases hkl : k < info.length
  · have hm := hin info[k] (List.getElem_mem hkl)
    have hkb : k < l.length := by omega
    rw [br_pos (by simpa using hkb), chk_pos (by omega), chk_pos (by omega), Int.toNat_natCast, getD_eq hkl, getD_eq hkb, chk_pos ⟨hm.1, by rw [hbl]; exact hm.2⟩, w64_succ (by omega)]
    refine hrec _ ⟨k + 1, hkl, rfl, by simpa using hbl, ?_⟩ (by simp only [Int.toNat_natCast]; omega)
    rw [← hp, List.drop_eq_getElem_cons hkl, List.drop_eq_getElem_cons hkb, place]
  · have hke : k = info.length := by omega
    have hb' : b = place info l (List.replicate (2 ^ q) 0) := by
      rw [← hp, hke, List.drop_length]
      simp [place]
    rw [br_neg (by simp; omega)]
    show bnd (ref02_word N b) _ = _
    have hbb : bits b := by rw [hb']; exact place_bits _ _ _ hb (fun i hi => by simp at hi; simp [hi])
    rw [refWord_wordL hq b hbl hbb hN2, bnd_val, hb']

theorem firstOf_one (x : Int) : firstOf [x] = x := by
  by_cases h : x = 0
  · subst h; rfl
  · exact firstOf_cons h _
def chainE (d t p : Int) (info : List Int) (cnt : Int) : Int := firstOf [polyErr d t, polarErr p info, if (info.length : Int) > d then 0 else 10, rangeErr 1 400 2 cnt]
theorem chainErr_eq {N : Nat} (d t p : Int) (info : List Int) (cnt : Int) (hl : info.length < 1000000) (hN : info.length < N) (hN2 : 1000 < N) : code_chainErr N d t p info cnt = some (chainE d t p info cnt) := by
  unfold code_chainErr chainE
  rw [CheckPoly_eq d t (by omega), bnd_val, CheckPolar_eq p info (by omega) hN (by omega), bnd_val, unless_eq, bnd_val, isCount_eq, bnd_val, unless_range, bnd_val, first_eq _ (by simp) (by simp; omega), bnd_val]
  congr 4
  by_cases h : (info.length : Int) > d <;> simp [h]
theorem refChainErr_eq {N : Nat} (d t p : Int) (info : List Int) (cnt : Int) (hl : info.length < 1000000) (hN : info.length < N) (hN2 : 1000 < N) : ref02_ChainErr N d t p info cnt = some (chainE d t p info cnt) := by
  unfold ref02_ChainErr chainE
  rw [refCheckPoly_eq d t (by omega), bnd_val]
  by_cases h1 : polyErr d t = 0
  case neg => rw [br_pos (bne_iff_ne.2 h1), firstOf_cons h1]
  rw [h1, bne_self_eq_false, br_false, firstOf_cons0, refCheckPolar_eq p info (by omega) hN (by omega), bnd_val]
  by_cases h2 : polarErr p info = 0
  case neg => rw [br_pos (bne_iff_ne.2 h2), firstOf_cons h2]
  rw [h2, bne_self_eq_false, br_false, firstOf_cons0]
  by_cases h3 : (info.length : Int) > d
  case neg => rw [br_pos (decide_eq_true (by omega)), if_neg h3, firstOf_cons (by decide)]
  rw [br_neg (decide_eq_false (by omega)), if_pos h3, firstOf_cons0]
  unfold ref02_CountErr
  rw [Within_eq, bnd_val, firstOf_one]
  unfold rangeErr
  by_cases h4 : 1 ≤ cnt ∧ cnt ≤ 400
  · rw [dec2 h4, if_pos h4]; rfl
  · rw [dec2f h4, if_neg h4]; rfl
structure ChainOK (d t p : Int) (info : List Int) (cnt : Int) (D T q n : Nat) : Prop where
  err : chainE d t p info cnt = 0
  poly : PolyOK d t D T
  hq : q ≤ 6
  hp : p = q
  hin : ∀ x ∈ info, 0 ≤ x ∧ x < ((2 ^ q : Nat) : Int)
  hpw : info.Pairwise (· < ·)
  hlen : D < info.length
  hcnt : cnt = n
  hn1 : 1 ≤ n
  hn2 : n ≤ 400
theorem chainOK_of {d t p : Int} {info : List Int} {cnt : Int} (h : chainE d t p info cnt = 0) : ∃ D T q n : Nat, ChainOK d t p info cnt D T q n := by
  have h0 := h
  unfold chainE at h
  have s1 : ∀ x (l : List Int), firstOf (x :: l) = 0 → x = 0 ∧ firstOf l = 0 := fun x l h => by
    by_cases hx : x = 0
    · subst hx; rw [firstOf_cons0] at h; exact ⟨rfl, h⟩
    · rw [firstOf_cons hx] at h; exact absurd h hx
  obtain ⟨h1, h⟩ := s1 _ _ h
  obtain ⟨h2, h⟩ := s1 _ _ h
  obtain ⟨h3, h⟩ := s1 _ _ h
  obtain ⟨h4, h⟩ := s1 _ _ h
  obtain ⟨D, T, ho⟩ := polyOK_of h1
  obtain ⟨q, hq, hp, hne, hin, hpw⟩ := polarErr_zero h2
  have h3' : (info.length : Int) > d := by
    by_cases hh : (info.length : Int) > d
    · exact hh
    · rw [if_neg hh] at h3; exact absurd h3 (by decide)
  have h4' : 1 ≤ cnt ∧ cnt ≤ 400 := by
    unfold rangeErr at h4
    by_cases hh : 1 ≤ cnt ∧ cnt ≤ 400
    · exact hh
    · rw [if_neg hh] at h4; exact absurd h4 (by decide)
  exact ⟨D, T, q, cnt.toNat, h0, ho, hq, hp, hin, hpw, by have := ho.hd; omega, by omega, by omega, by omega⟩
end Go.Sh

/-
  The law 'CodeChains': its shallow function tells true, continued.
-/
namespace Go.Sh
open Go.PW

noncomputable def sentE (d t p : Int) (info : List Int) (cnt : Int) (l : List Int) (v : Int) : Int := firstOf [chainE d t p info cnt, listErr 200 isBitB 15 l, if (w64 ((l.length : Int) + d) == (info.length : Int)) = true then 0 else 10, rangeErr 0 3 15 v]
theorem CopyChain_eq (N : Nat) (d t p : Int) (info : List Int) (cnt : Int) (hl : info.length ≤ 1000000000) : ref02_CopyChain N d t p info cnt = some (d, t, p, info, cnt) := by
  unfold ref02_CopyChain
  rw [CopyPolar_eq _ _ _ hl, bnd_val]

noncomputable def sentL (D T q : Nat) (info l : List Int) (v n : Nat) : List Int := matchL (wordL q (place info (checkedL D T l) (List.replicate (2 ^ q) 0))) v n

structure SentOK (d t p : Int) (info : List Int) (cnt : Int) (l : List Int) (v : Int) (D T q n k : Nat) : Prop where
  chain : ChainOK d t p info cnt D T q n
  hl : listErr 200 isBitB 15 l = 0
  hs : l.length + D = info.length
  hv : v = k
  hk : k ≤ 3
theorem Sent_eq {N : Nat} (d t p : Int) (info : List Int) (cnt : Int) (l : List Int) (v : Int) (hi : info.length ≤ 66) (hl : l.length ≤ 202) (hN : 1000 < N) :
    (sentE d t p info cnt l v ≠ 0 → code_Sent N d t p info cnt l v = some ([], sentE d t p info cnt l v)) ∧
    ∀ {D T q n k : Nat}, SentOK d t p info cnt l v D T q n k → code_Sent N d t p info cnt l v = some (sentL D T q info l k n, 0) ∧ ref02_Sent N d t p info cnt l v = some (sentL D T q info l k n) := by
  have hc : code_Sent N d t p info cnt l v = br (sentE d t p info cnt l v != 0) (some ([], sentE d t p info cnt l v)) (bnd (code_checked N d t l) fun x7 => bnd (code_encode N p info x7) fun x8 => bnd (code_match N x8 v cnt) fun x9 => some (x9, 0)) := by
    unfold code_Sent
    rw [chainErr_eq d t p info cnt (by omega) (by omega) hN, bnd_val, bitsErr_eq l (by omega) (by omega) (by omega), bnd_val, unless_eq, bnd_val, isVersion_eq, bnd_val, unless_range, bnd_val, first_eq _ (by simp) (by simp; omega), bnd_val]; rfl
  refine ⟨fun h => by rw [hc, br_pos (bne_iff_ne.2 h)], fun {D T q n k} ho => ?_⟩
  have hoc := ho.chain
  have hop := hoc.poly
  obtain ⟨hl0, hl1, hall⟩ := listErr_zero (by decide) ho.hl
  have hbits := bits_of_all hall
  have hcl := checkedL_length (D := D) (T := T) l
  have hs := ho.hs
  have hwl : (wordL q (place info (checkedL D T l) (List.replicate (2 ^ q) 0))).length = 2 ^ q := by rw [wordL_length, place_length, List.length_replicate]
  have h64 := pow_le6 hoc.hq
  have hpos := Nat.two_pow_pos q
  have hn2 := hoc.hn2
  have hE : sentE d t p info cnt l v = 0 := by
    have e3 : (w64 ((l.length : Int) + d) == (info.length : Int)) = true := by
      have hD16 := hop.hi
      rw [hop.hd, w64_id (by omega), beq_iff_eq]; omega
    have e1 := hoc.err
    have e4 : rangeErr 0 3 15 v = 0 := by unfold rangeErr; rw [if_pos (by have := ho.hk; have := ho.hv; omega)]
    unfold sentE
    rw [e1, ho.hl, e3, e4]; rfl
  refine ⟨?_, ?_⟩
  · rw [hc, hE, br_neg (by rfl), hop.hd, hop.ht, checked_eq hop.hi hop.lo hop.lt l (by omega) hN, bnd_val, hoc.hp, encode_eq hoc.hq info _ (by omega) hoc.hin (by omega) (by omega) (by omega), bnd_val, ho.hv, hoc.hcnt, match_eq _ _ _ (by omega) (by omega) ho.hk (by omega) (by omega), bnd_val]; rfl
  · unfold ref02_Sent
    rw [hop.hd, hop.ht, refChecked_eq hop.hi hop.lo hop.lt l (by omega) hbits hN, bnd_val, hoc.hp, refEncode_eq hoc.hq info _ (by omega) hoc.hin (by omega) (by omega) hN (checkedL_bits hbits), bnd_val, ho.hv, hoc.hcnt, refMatch_eq _ _ _ (by omega) (by omega) ho.hk (by omega) (by omega), bnd_val]; rfl

end Go.Sh

/-
  The law 'CodeChains': its shallow function tells true, the end.
-/
namespace Go.Sh
open Go.PW

theorem small_of_all {B : Nat} {l : List Int} (h : l.all (sizeB B) = true) : small B l := fun i hi => by
  have hm : l.getD i 0 ∈ l := by rw [getD_eq hi]; exact List.getElem_mem hi
  have := List.all_eq_true.1 h _ hm
  unfold sizeB at this
  simp only [Bool.and_eq_true, decide_eq_true_eq] at this
  omega
theorem decodeL_length (q : Nat) (info soft : List Int) : (decodeL q info soft).length = info.length := by simp [decodeL]
theorem decodeL_bits (q : Nat) (info soft : List Int) : bits (decodeL q info soft) := fun i hi => by
  rw [decodeL_length] at hi
  rw [getD_eq (by rw [decodeL_length]; exact hi)]
  simp only [decodeL, List.getElem_map]
  exact bits_getD (cancelL_bits _ q soft 0) _

noncomputable def recL (D T q : Nat) (info soft : List Int) : List Int × Int :=
  if runR D T 0 (decodeL q info soft) = 0 then ((decodeL q info soft).take (info.length - D), 0) else ([], 21)

theorem Recovered_ok {N : Nat} {d t p : Int} {info : List Int} {cnt : Int} {D T q n : Nat} (ho : ChainOK d t p info cnt D T q n) (soft : List Int) (hi : info.length ≤ 66) (hs : listErr 200 (sizeB 1000000000) 2 soft = 0) (hq : soft.length = 2 ^ q) (hN : 1000 < N) :
    code_Recovered N d t p info cnt soft = some (recL D T q info soft) ∧ ref02_Recovered N d t p info cnt soft = some (recL D T q info soft) := by
  obtain ⟨hl0, hl1, hall⟩ := listErr_zero (by decide) hs
  have hB : small 1000000000 soft := small_of_all hall
  have hop := ho.poly
  have hlen := ho.hlen
  have hd := decodeL_length q info soft
  have hb := decodeL_bits q info soft
  have hw : w64 (((decodeL q info soft).length : Int) - d) = ((info.length - D : Nat) : Int) := by rw [hd, hop.hd, w64_id (by omega)]; omega
  refine ⟨?_, ?_⟩
  · unfold code_Recovered
    rw [chainErr_eq d t p info cnt (by omega) (by omega) hN, bnd_val, sumsErr_eq soft (by omega) (by omega) (by omega), bnd_val, ho.err, hs, first_eq _ (by simp) (by simp; omega), bnd_val, br_neg (by rfl), ho.hp, chk_pos (by omega), shl1_pow (by have := ho.hq; omega), hq, br_neg (by simp), decode_any ho.hq info soft _ (rising_of ho.hpw) ho.hin (by omega) (by omega) hN hq hB, bnd_val]
    rw [hw, hop.hd, hop.ht, right_eq hop.hi hop.lo hop.lt hop.odd _ (by omega) hb (by omega) hN, bnd_val]
    unfold recL
    by_cases hr : runR D T 0 (decodeL q info soft) = 0
    · rw [decide_eq_true hr, if_pos hr, br_neg (by rfl), chk_pos (by omega), Int.toNat_natCast]
    · rw [decide_eq_false hr, if_neg hr, br_pos (by rfl)]
  · unfold ref02_Recovered
    rw [ho.hp, refDecode_any ho.hq info soft _ ho.hin (by omega) (by omega) hN hq hB, bnd_val]
    rw [hw, hop.hd, hop.ht, refIsRight_eq hop.hi hop.lo hop.lt hop.odd _ (by omega) hb (by omega) hN, bnd_val]
    unfold recL
    by_cases hr : runR D T 0 (decodeL q info soft) = 0
    · rw [decide_eq_true hr, if_pos hr, br_neg (by rfl), chk_pos (by omega), Int.toNat_natCast]
    · rw [decide_eq_false hr, if_neg hr, br_pos (by rfl)]

end Go.Sh

/-
  Cutting a block: how many segments, and how long they are.
-/
namespace Go.Sh
open Go.PW

end Go.Sh

/-
  Segments of a block, and the block of segments: the program's and the document's.
-/
namespace Go.Sh
open Go.PW

end Go.Sh

/-
  Segments and joining, as the exported functions tell them.
-/
namespace Go.Sh
open Go.PW

end Go.Sh

/-
  The law 'CodeSegments': its shallow function tells true.
-/
namespace Go.Sh
open Go.PW

theorem run_checked {D T : Nat} (h1 : 1 ≤ D) (hodd : T % 2 = 1) (hT : T < 2 ^ D) (l : List Int) : runR D T 0 (checkedL D T l) = 0 := by
  unfold checkedL
  rw [runR_append]
  have hlt := runR_lt hT 0 l (Nat.two_pow_pos D)
  exact (run_zero_iff h1 hodd hT _ (regL_length _ _) _ hlt).2 (valB_regL _ _ hlt).symm

end Go.Sh

/-
  Sent and received in versions: soft bits, and what a buffer has of them.
-/
namespace Go.Sh
open Go.PW

theorem Mod_any (N : Nat) (n m : Int) (hm : 0 < m ∧ m ≤ 4611686018427387904) : base_Mod N n m = some (n % m) := by
  unfold base_Mod
  rw [chk_pos (by omega)]
  have h1 := Int.tmod_eq_emod (a := n) (b := m)
  have h2 : m ≠ 0 := by omega
  have h3 := Int.emod_nonneg n h2
  have h4 := Int.emod_lt_of_pos n hm.1
  by_cases h : n.tmod m < 0
  · rw [br_pos (by simpa using h)]
    have e : n.tmod m + m = n % m := by
      rw [h1] at h ⊢
      split at h <;> split <;> omega
    rw [e, w64_id (by omega)]
  · rw [br_neg (by simpa using h)]
    have e : n.tmod m = n % m := by
      rw [h1] at h ⊢
      split at h <;> split <;> omega
    rw [e]
theorem coded_eq {N : Nat} (hN : 100 < N) : top_coded N = some true := by
  unfold top_coded
  rw [ex_Remainder hN, ex_Decode hN]
  simp only [bnd_val]
  rw [Ints_eq _ _ (by decide) (by simp; omega), Ints_eq _ _ (by decide) (by simp; omega)]
  simp
def softT (w sizes : List Int) (k : Nat) : Int := (1 - 2 * w.getD k 0) * (if sizes.length > 0 then 1 + sizes.getD (k % sizes.length) 0 % 1000 else 1)
def softTL (w sizes : List Int) : List Int := (List.range w.length).map (softT w sizes)
theorem softTL_length (w s : List Int) : (softTL w s).length = w.length := by simp [softTL]
theorem softTL_getD (w s : List Int) {k : Nat} (h : k < w.length) : (softTL w s).getD k 0 = softT w s k := by simp [softTL, List.getD_eq_getElem?_getD, h]
theorem softT_signed {w s : List Int} {k : Nat} (hw : w.getD k 0 = 0 ∨ w.getD k 0 = 1) : signed (softT w s k) (w.getD k 0) ∧ ((softT w s k).natAbs : Int) ≤ 1000 := by
  unfold softT signed
  have h1 := Int.emod_nonneg (s.getD (k % s.length) 0) (show (1000 : Int) ≠ 0 by decide)
  have h2 := Int.emod_lt_of_pos (s.getD (k % s.length) 0) (show (0 : Int) < 1000 by decide)
  generalize s.getD (k % s.length) 0 % 1000 = m at *
  generalize w.getD k 0 = x at *
  rcases hw with rfl | rfl
  · split
    · rw [show ((1 : Int) - 2 * 0) * (1 + m) = 1 + m by omega]; exact ⟨.inl ⟨rfl, by omega⟩, by omega⟩
    · exact ⟨.inl ⟨rfl, by decide⟩, by decide⟩
  · split
    · rw [show ((1 : Int) - 2 * 1) * (1 + m) = -(1 + m) by omega]; exact ⟨.inr ⟨rfl, by omega⟩, by omega⟩
    · exact ⟨.inr ⟨rfl, by decide⟩, by decide⟩
theorem softT_w64 {w m : Int} (hw : w = 0 ∨ w = 1) (hm : 0 ≤ m ∧ m < 1000000) : w64 (w64 (1 - w64 (2 * w)) * (1 + m)) = (1 - 2 * w) * (1 + m) := by
  rcases hw with rfl | rfl
  · rw [w64_id (n := 2 * 0) (by omega), w64_id (n := 1 - 2 * 0) (by omega)]
    exact w64_id (by omega)
  · rw [w64_id (n := 2 * 1) (by omega), w64_id (n := 1 - 2 * 1) (by omega)]
    exact w64_id (by omega)
theorem codeSoft_eq {N : Nat} (w sizes : List Int) (hw : bits w) (hl : w.length ≤ 1000) (hN : 1000 < N) : top_codeSoft N w sizes = some (softTL w sizes) := by
  unfold top_codeSoft jn
  refine rds_map w.length (softT w sizes) _ some (fun k acc rec hk ha => ?_) (fun acc rec _ => ?_) (by omega)
  · show br (decide ((k : Int) < (w.length : Int))) _ _ = _
    have hb := hw k hk
    have h2 : w.getD k 0 % 2 = w.getD k 0 := by rcases hb with h | h <;> rw [h] <;> rfl
    rw [br_pos (by simpa using hk)]
    by_cases hs : sizes.length > 0
    · have ht : ((k : Int).tmod (sizes.length : Int)) = ((k % sizes.length : Nat) : Int) := by
        rw [Int.tmod_eq_emod_of_nonneg (by omega)]; push_cast; rfl
      have hlt := Nat.mod_lt k hs
      have h3 := Int.emod_nonneg (sizes.getD (k % sizes.length) 0) (show (1000 : Int) ≠ 0 by decide)
      have h4 := Int.emod_lt_of_pos (sizes.getD (k % sizes.length) 0) (show (0 : Int) < 1000 by decide)
      rw [br_pos (by simpa using hs), chk_pos (by omega), ht, chk_pos (by omega), Int.toNat_natCast, Mod_any _ _ _ (by decide), bnd_val, chk_pos (by omega), Int.toNat_natCast, Mod_any _ _ _ (by decide), bnd_val, chk_pos (by simp; omega), w64_succ (by omega), h2]
      rw [w64_id (n := 1 + sizes.getD (k % sizes.length) 0 % 1000) (by omega), softT_w64 hb (by omega)]
      simp only [softT, if_pos hs]
    · rw [br_neg (by simpa using hs), chk_pos (by omega), Int.toNat_natCast, Mod_any _ _ _ (by decide), bnd_val, chk_pos (by simp; omega), w64_succ (by omega), h2]
      rw [show w64 (w64 (1 - w64 (2 * w.getD k 0)) * 1) = (1 - 2 * w.getD k 0) * 1 from softT_w64 (m := 0) hb (by decide)]
      simp only [softT, if_neg hs]
  · show br (decide ((w.length : Int) < (w.length : Int))) _ _ = _
    rw [br_neg (by simp)]
theorem getD_set {l : List Int} {i j : Nat} {x : Int} (hi : i < l.length) : (l.set i x).getD j 0 = if i = j then x else l.getD j 0 := by
  simp only [List.getD_eq_getElem?_getD, List.getElem?_set]
  by_cases h : i = j
  · subst h; simp [hi]
  · simp [h]
theorem add_small {x y : Int} {m : Nat} (hx : (x.natAbs : Int) ≤ 1000 * m) (hy : (y.natAbs : Int) ≤ 1000) (hm : m ≤ 1000) : w64 (x + y) = x + y ∧ ((x + y).natAbs : Int) ≤ 1000 * (m + 1 : Nat) := ⟨w64_id (by omega), by omega⟩
theorem signed_add {x y w : Int} (hx : signed x w) (hy : signed y w) : signed (x + y) w := by
  rcases hx with ⟨c1, c2⟩ | ⟨c1, c2⟩ <;> rcases hy with ⟨d1, d2⟩ | ⟨d1, d2⟩
  · exact .inl ⟨c1, by omega⟩
  · rw [c1] at d1; exact absurd d1 (by decide)
  · rw [c1] at d1; exact absurd d1 (by decide)
  · exact .inr ⟨c1, by omega⟩
theorem gather_inv {soft W : List Int} {v len : Nat} (hp : 0 < len) (hB : ∀ k, k < soft.length → ((soft.getD k 0).natAbs : Int) ≤ 1000) (hs : ∀ k, k < soft.length → signed (soft.getD k 0) (W.getD (placeN len v k) 0)) :
    ∀ m, m ≤ soft.length → m ≤ 1000 → (itN (gatherStep soft len v) m (List.replicate len 0)).length = len ∧ ∀ j, j < len →
      (((itN (gatherStep soft len v) m (List.replicate len 0)).getD j 0).natAbs : Int) ≤ 1000 * m ∧
      ((∃ k, k < m ∧ placeN len v k = j) → signed ((itN (gatherStep soft len v) m (List.replicate len 0)).getD j 0) (W.getD j 0)) ∧
      ((¬∃ k, k < m ∧ placeN len v k = j) → (itN (gatherStep soft len v) m (List.replicate len 0)).getD j 0 = 0)
  | 0, _, _ => ⟨by simp [itN], fun j hj => by
      have : (List.replicate len (0 : Int)).getD j 0 = 0 := by rw [getD_eq (by simpa using hj)]; simp
      simp only [itN, this]
      exact ⟨by decide, fun ⟨k, hk, _⟩ => absurd hk (by omega), fun _ => trivial⟩⟩
  | m + 1, hm, hm2 => by
    obtain ⟨h1, h2⟩ := gather_inv hp hB hs m (by omega) (by omega)
    have hpl := placeN_lt (v := v) (k := m) hp
    simp only [itN, gatherStep]
    refine ⟨by rw [List.length_set]; exact h1, fun j hj => ?_⟩
    obtain ⟨a1, a2, a3⟩ := h2 j hj
    have b1 := hB m (by omega)
    have b2 := hs m (by omega)
    rw [getD_set (by omega)]
    by_cases hj' : placeN len v m = j
    · rw [if_pos hj', hj']
      rw [hj'] at b2
      obtain ⟨c1, c2⟩ := add_small a1 b1 (by omega)
      rw [c1]
      refine ⟨c2, fun _ => ?_, fun h => absurd ⟨m, by omega, hj'⟩ h⟩
      by_cases he : ∃ k, k < m ∧ placeN len v k = j
      · exact signed_add (a2 he) b2
      · rw [a3 he, Int.zero_add]; exact b2
    · rw [if_neg hj']
      refine ⟨by omega, fun ⟨k, hk, he⟩ => a2 ⟨k, ?_, he⟩, fun h => a3 fun ⟨k, hk, he⟩ => h ⟨k, by omega, he⟩⟩
      have : k ≠ m := fun e => hj' (by rw [← e]; exact he)
      omega
def markStep (len v k : Nat) (s : List Int) : List Int := s.set (placeN len v k) 1
theorem mark_inv {s : List Int} {v len : Nat} (hp : 0 < len) (hs : s.length = len) : ∀ m, (itN (markStep len v) m s).length = len ∧ ∀ j, j < len →
    ((∃ k, k < m ∧ placeN len v k = j) → (itN (markStep len v) m s).getD j 0 = 1) ∧ ((¬∃ k, k < m ∧ placeN len v k = j) → (itN (markStep len v) m s).getD j 0 = s.getD j 0)
  | 0 => ⟨hs, fun j _ => ⟨fun ⟨k, hk, _⟩ => absurd hk (by omega), fun _ => rfl⟩⟩
  | m + 1 => by
    obtain ⟨h1, h2⟩ := mark_inv hp hs m (v := v)
    have hpl := placeN_lt (v := v) (k := m) hp
    simp only [itN, markStep]
    refine ⟨by rw [List.length_set]; exact h1, fun j hj => ?_⟩
    obtain ⟨a2, a3⟩ := h2 j hj
    rw [getD_set (by omega)]
    by_cases hj' : placeN len v m = j
    · rw [if_pos hj']
      exact ⟨fun _ => rfl, fun h => absurd ⟨m, by omega, hj'⟩ h⟩
    · rw [if_neg hj']
      refine ⟨fun ⟨k, hk, he⟩ => a2 ⟨k, ?_, he⟩, fun h => a3 fun ⟨k, hk, he⟩ => h ⟨k, by omega, he⟩⟩
      have : k ≠ m := fun e => hj' (by rw [← e]; exact he)
      omega
theorem mark_loop {N : Nat} (cnt len v : Nat) (hp : 0 < len) (hl : len ≤ 1000) (hv : v ≤ 3) (hc : cnt ≤ 1000) (s : List Int) (hs : s.length = len) (K : Int × List Proc × List Int → Option Bool) (y : Int) (z : List Proc) (hN : 1000 < N) :
    rds (top_TopCodeRecovered.b2 N (cnt : Int) (len : Int) K (v : Int) y z) N ((0 : Int), s) = K (y, z, itN (markStep len v) cnt s) := by
  refine (rds_it cnt (markStep len v) (fun _ s => s.length = len) _ (fun s => K (y, z, s)) (s := s) hs (fun k s _ hs => by simpa [markStep] using hs) (fun k s rec hk hI => ?_) (fun s rec _ => ?_) (by omega)).1
  · show br (decide ((k : Int) < (cnt : Int))) _ _ = _
    have hpl := placeN_lt (v := v) (k := k) hp
    rw [br_pos (by simpa using hk), chk_pos (by omega), place_w64 hp hl hv (by omega), chk_pos (by omega), w64_succ (by omega), Int.toNat_natCast]
    rfl
  · show br (decide ((cnt : Int) < (cnt : Int))) _ _ = _
    rw [br_neg (by simp)]
end Go.Sh

/-
  The law 'TopCodeRecovered': its shallow function tells true.
-/
namespace Go.Sh
open Go.PW

theorem procE_ok {n : Int} {p : Proc} (h1 : -1 ≤ p.1 ∧ p.1 ≤ 1) (h2 : 0 ≤ p.2.1 ∧ p.2.1 ≤ 1000000000) (h3 : (p.1 = -1) ↔ (p.2.1 = 0)) (h4 : (p.2.2.length : Int) = n) (h5 : p.2.2.all (sizeB 1000000000) = true) (h6 : p.2.1 = 0 → ∀ x ∈ p.2.2, x = 0) : procE n p = 0 := by
  unfold procE
  have g2 : ((p.1 == -1) == (p.2.1 == 0)) = true := by rw [beq_iff_eq, Bool.eq_iff_iff, beq_iff_eq, beq_iff_eq]; exact h3
  have g5 : ((!(p.2.1 == 0)) || p.2.2.all (· == 0)) = true := by
    by_cases hz : p.2.1 = 0
    · have : p.2.2.all (· == 0) = true := List.all_eq_true.2 fun x hx => by simpa using h6 hz x hx
      rw [this, Bool.or_true]
    · rw [beq_eq_false_iff_ne.2 hz]; rfl
  rw [if_pos (by rw [decide_eq_true h1.1, decide_eq_true h1.2, decide_eq_true h2.1, decide_eq_true h2.2]; rfl), if_pos g2, if_pos h4, if_pos h5, if_pos g5]; rfl
theorem all_sizeB {B : Int} {l : List Int} (h : ∀ j, j < l.length → ((l.getD j 0).natAbs : Int) ≤ B) : l.all (sizeB B) = true := by
  rw [List.all_eq_true]
  intro x hx
  obtain ⟨i, hi, rfl⟩ := List.mem_iff_getElem.1 hx
  have := h i hi
  rw [getD_eq hi] at this
  unfold sizeB
  rw [Bool.and_eq_true, decide_eq_true_eq, decide_eq_true_eq]
  omega
theorem bufE_one {n : Int} {p : Proc} (hn : 1 ≤ n ∧ n ≤ 200) (h : procE n p = 0) : bufE n [p] = 0 := by
  unfold bufE
  rw [List.map_cons, List.map_nil, h]
  unfold rangeErr
  rw [if_pos hn]; simp [firstOf]
structure RInv (len : Nat) (W : List Int) (k : Nat) (tg c : Int) (s snt : List Int) : Prop where
  ls : s.length = len
  lt : snt.length = len
  st : (k = 0 ∧ tg = -1 ∧ c = 0) ∨ (0 < k ∧ tg = 0 ∧ c = k)
  el : ∀ j, j < len → ((s.getD j 0).natAbs : Int) ≤ 80000 * k ∧ ((snt.getD j 0 = 0 ∧ s.getD j 0 = 0) ∨ (snt.getD j 0 = 1 ∧ signed (s.getD j 0) (W.getD j 0)))
theorem RInv.proc {len : Nat} {W : List Int} {k : Nat} {tg c : Int} {s snt : List Int} (h : RInv len W k tg c s snt) (hk : k ≤ 6) : procE (len : Int) (tg, c, s) = 0 := by
  have hst := h.st
  have hls := h.ls
  refine procE_ok (by dsimp only; omega) (by dsimp only; omega) (by dsimp only; omega) (by dsimp only; omega) (all_sizeB fun j hj => ?_) fun hz x hx => ?_
  · have := (h.el j (by dsimp only at hj; omega)).1
    dsimp only at this ⊢
    omega
  · obtain ⟨i, hi, rfl⟩ := List.mem_iff_getElem.1 hx
    have h1 := (h.el i (by dsimp only at hi; omega)).1
    dsimp only at hz hi
    rw [getD_eq hi] at h1
    dsimp only
    omega
theorem sumL_getD (a b : List Int) {j : Nat} (h : j < a.length) : (sumL a b).getD j 0 = w64 (a.getD j 0 + b.getD j 0) := by simp [sumL, List.getD_eq_getElem?_getD, h]
theorem add_small2 {x y : Int} {k : Nat} (hx : (x.natAbs : Int) ≤ 80000 * k) (hy : (y.natAbs : Int) ≤ 80000) (hk : k ≤ 6) : w64 (x + y) = x + y ∧ ((x + y).natAbs : Int) ≤ 80000 * (k + 1 : Nat) := ⟨w64_id (by omega), by omega⟩
theorem RInv.round {len : Nat} {W : List Int} {k : Nat} {tg c : Int} {s snt : List Int} (h : RInv len W k tg c s snt) (hk : k ≤ 5) (hp : 0 < len) {soft : List Int} {v : Nat} (hl : soft.length ≤ 80)
    (hB : ∀ i, i < soft.length → ((soft.getD i 0).natAbs : Int) ≤ 1000) (hs : ∀ i, i < soft.length → signed (soft.getD i 0) (W.getD (placeN len v i) 0)) :
    ∃ s', recvL len [(tg, c, s)] 0 0 v soft = ((len : Int), [(0, ((k + 1 : Nat) : Int), s')], 0) ∧ RInv len W (k + 1) 0 ((k + 1 : Nat) : Int) s' (itN (markStep len v) soft.length snt) := by
  obtain ⟨g1, g2⟩ := gather_inv (W := W) hp hB hs soft.length (Nat.le_refl _) (by omega)
  obtain ⟨m1, m2⟩ := mark_inv (v := v) hp h.lt soft.length
  have hg : itN (gatherStep soft len v) soft.length (List.replicate len 0) = gatherL soft v len := rfl
  rw [hg] at g1 g2
  have own : ∀ j, j < len → (((gatherL soft v len).getD j 0).natAbs : Int) ≤ 80000 := fun j hj => by have := (g2 j hj).1; omega
  rcases h.st with ⟨rfl, rfl, rfl⟩ | ⟨hk0, rfl, rfl⟩
  · refine ⟨gatherL soft v len, rfl, ⟨g1, m1, .inr ⟨by omega, rfl, rfl⟩, fun j hj => ⟨by have := own j hj; omega, ?_⟩⟩⟩
    obtain ⟨a1, a2⟩ := m2 j hj
    obtain ⟨_, b1, b2⟩ := g2 j hj
    obtain ⟨c1, c2⟩ := h.el j hj
    by_cases he : ∃ i, i < soft.length ∧ placeN len v i = j
    · exact .inr ⟨a1 he, b1 he⟩
    · rcases c2 with ⟨c2, _⟩ | ⟨c2, c3⟩
      · exact .inl ⟨(a2 he).trans c2, b2 he⟩
      · exfalso
        rcases c3 with ⟨_, c3⟩ | ⟨_, c3⟩ <;> omega
  · have hw : w64 ((k : Int) + 1) = ((k + 1 : Nat) : Int) := w64_succ (by omega)
    have sm : ∀ j, j < len → (sumL s (gatherL soft v len)).getD j 0 = s.getD j 0 + (gatherL soft v len).getD j 0 ∧ (((sumL s (gatherL soft v len)).getD j 0).natAbs : Int) ≤ 80000 * (k + 1 : Nat) := fun j hj => by
      obtain ⟨e1, e2⟩ := add_small2 (h.el j hj).1 (own j hj) (by omega)
      rw [sumL_getD _ _ (by rw [h.ls]; exact hj), e1]; exact ⟨rfl, e2⟩
    have hall : (sumL s (gatherL soft v len)).all (sizeB 1000000000) = true := all_sizeB fun j hj => by
      rw [sumL_length, h.ls] at hj
      have := (sm j hj).2; omega
    refine ⟨sumL s (gatherL soft v len), ?_, ⟨by rw [sumL_length]; exact h.ls, m1, .inr ⟨by omega, rfl, rfl⟩, fun j hj => ⟨(sm j hj).2, ?_⟩⟩⟩
    · unfold recvL
      rw [if_pos (by rfl)]
      show (if (sumL s (gatherL soft v len)).all (sizeB 1000000000) = true ∧ w64 ((k : Int) + 1) ≤ 1000000000 then _ else _) = _
      rw [if_pos ⟨hall, by rw [hw]; omega⟩]
      show ((len : Int), [((0 : Int), w64 ((k : Int) + 1), sumL s (gatherL soft v len))], (0 : Int)) = _
      rw [hw]
    · obtain ⟨a1, a2⟩ := m2 j hj
      obtain ⟨_, b1, b2⟩ := g2 j hj
      obtain ⟨c1, c2⟩ := h.el j hj
      rw [(sm j hj).1]
      by_cases he : ∃ i, i < soft.length ∧ placeN len v i = j
      · refine .inr ⟨a1 he, ?_⟩
        rcases c2 with ⟨_, c2⟩ | ⟨_, c2⟩
        · rw [c2, Int.zero_add]; exact b1 he
        · exact signed_add c2 (b1 he)
      · rw [b2 he, Int.add_zero, a2 he]
        exact c2
theorem matchL_getD (w : List Int) (v n : Nat) {k : Nat} (h : k < n) : (matchL w v n).getD k 0 = w.getD (placeN w.length v k) 0 := by simp [matchL, List.getD_eq_getElem?_getD, h]
theorem matchL_length (w : List Int) (v n : Nat) : (matchL w v n).length = n := by simp [matchL]
theorem matchL_bits {w : List Int} (h : bits w) (hp : 0 < w.length) (v n : Nat) : bits (matchL w v n) := fun k hk => by
  rw [matchL_length] at hk
  rw [matchL_getD w v n hk]
  exact h _ (placeN_lt hp)

structure TopOK (d t p : Int) (info : List Int) (cnt : Int) (l : List Int) (D T q n : Nat) : Prop where
  chain : ChainOK d t p info cnt D T q n
  hl : listErr 200 isBitB 15 l = 0
  hs : l.length + D = info.length
  hi : info.length ≤ 66
  hn : n ≤ 80
theorem refBitsErr_any {N : Nat} (l : List Int) (hN : 1000 < N) : ref02_BitsErr N l = some (listErr 200 isBitB 15 l) := by
  by_cases h : (l.length : Int) > 200
  · unfold ref02_BitsErr listErr
    rw [br_neg (by rw [beq_eq_false_iff_ne]; omega), br_pos (by simpa using h), if_neg (by omega), if_pos h]
  · exact refBitsErr_eq l (by omega) (by omega)
theorem codeRight_eq {N : Nat} (d t p : Int) (info : List Int) (cnt : Int) (l : List Int) (hN : 1000 < N) :
    ∃ b, top_codeRight N d t p info cnt l = some b ∧ (b = true → ∃ D T q n : Nat, TopOK d t p info cnt l D T q n) := by
  unfold top_codeRight
  by_cases h1 : (info.length : Int) ≤ 66
  case neg => exact ⟨false, by simp [h1], fun h => absurd h (by decide)⟩
  rw [decide_eq_true h1, grd_true, refChainErr_eq d t p info cnt (by omega) (by omega) hN, bnd_val]
  by_cases h2 : chainE d t p info cnt = 0
  case neg => exact ⟨false, by rw [beq_eq_false_iff_ne.2 h2]; simp, fun h => absurd h (by decide)⟩
  rw [h2]
  by_cases h3 : cnt ≤ 80
  case neg => exact ⟨false, by simp [h3], fun h => absurd h (by decide)⟩
  rw [decide_eq_true h3, show ((true && ((0 : Int) == 0)) && true) = true from rfl, grd_true, refBitsErr_any l hN, bnd_val]
  by_cases h4 : listErr 200 isBitB 15 l = 0
  case neg => exact ⟨false, by rw [beq_eq_false_iff_ne.2 h4]; simp, fun h => absurd h (by decide)⟩
  rw [h4]
  refine ⟨_, rfl, fun h => ?_⟩
  have h5 : w64 ((l.length : Int) + d) = (info.length : Int) := by simpa using h
  obtain ⟨D, T, q, n, ho⟩ := chainOK_of h2
  obtain ⟨hl0, hl1, _⟩ := listErr_zero (by decide) h4
  have hd := ho.poly.hd
  have h16 := ho.poly.hi
  rw [hd, w64_id (by omega)] at h5
  have hc := ho.hcnt
  exact ⟨D, T, q, n, ho, h4, by omega, by omega, by omega⟩
noncomputable def topW (D T q : Nat) (info l : List Int) : List Int := wordL q (place info (checkedL D T l) (List.replicate (2 ^ q) 0))
theorem top_round {N : Nat} {d t p : Int} {info : List Int} {cnt : Int} {l : List Int} {D T q n : Nat} (ho : TopOK d t p info cnt l D T q n) (vs sizes : List Int) (hv : vs.length ≤ 6) (hN : 2000 < N)
    (K : Int × List Proc × List Int → Option Bool) (rec : Int × Int × List Proc × List Int → Option Bool) (k : Nat) (hk : k < vs.length) (tg c : Int) (s snt : List Int) (hI : RInv (2 ^ q) (topW D T q info l) k tg c s snt) :
    ∃ s' snt', RInv (2 ^ q) (topW D T q info l) (k + 1) 0 ((k + 1 : Nat) : Int) s' snt' ∧
      top_TopCodeRecovered.b1 N d t p info cnt l vs sizes ((2 ^ q : Nat) : Int) K rec ((k : Int), ((2 ^ q : Nat) : Int), [(tg, c, s)], snt) = rec (((k + 1 : Nat) : Int), ((2 ^ q : Nat) : Int), [(0, ((k + 1 : Nat) : Int), s')], snt') := by
  have hoc := ho.chain
  have h64 := pow_le6 hoc.hq
  have hpos := Nat.two_pow_pos q
  have hbits := bits_of_all (listErr_zero (by decide) ho.hl).2.2
  obtain ⟨hl0, hl1, _⟩ := listErr_zero (by decide) ho.hl
  have hn80 := ho.hn
  have hn1 := hoc.hn1
  have hwl : (topW D T q info l).length = 2 ^ q := by rw [topW, wordL_length, place_length, List.length_replicate]
  have hwb : bits (topW D T q info l) := wordL_bits q (place_bits _ _ _ (checkedL_bits hbits) (bits_replicate _))
  have m0 := Int.emod_nonneg (vs.getD k 0) (show (4 : Int) ≠ 0 by decide)
  have m1 := Int.emod_lt_of_pos (vs.getD k 0) (show (0 : Int) < 4 by decide)
  obtain ⟨v, hv'⟩ : ∃ v : Nat, vs.getD k 0 % 4 = v := ⟨(vs.getD k 0 % 4).toNat, by omega⟩
  have hso : SentOK d t p info cnt l (v : Int) D T q n v := ⟨hoc, ho.hl, ho.hs, rfl, by omega⟩
  have hsent := ((Sent_eq (N := N) d t p info cnt l (v : Int) ho.hi (by omega) (by omega)).2 hso).1
  have hsl : sentL D T q info l v n = matchL (topW D T q info l) v n := rfl
  rw [hsl] at hsent
  have hmb := matchL_bits hwb (by omega) v n
  have hml := matchL_length (topW D T q info l) v n
  have hsf : ∀ i, i < (softTL (matchL (topW D T q info l) v n) sizes).length → (((softTL (matchL (topW D T q info l) v n) sizes).getD i 0).natAbs : Int) ≤ 1000 ∧ signed ((softTL (matchL (topW D T q info l) v n) sizes).getD i 0) ((topW D T q info l).getD (placeN (2 ^ q) v i) 0) := fun i hi => by
    rw [softTL_length, hml] at hi
    rw [softTL_getD _ _ (by omega)]
    have := softT_signed (s := sizes) (hmb i (by omega))
    rw [matchL_getD _ _ _ hi, hwl] at this
    exact ⟨this.2, this.1⟩
  have hsl2 : (softTL (matchL (topW D T q info l) v n) sizes).length = n := by rw [softTL_length, hml]
  obtain ⟨s', hr, hI'⟩ := hI.round (by omega) hpos (soft := softTL (matchL (topW D T q info l) v n) sizes) (v := v) (by omega) (fun i hi => (hsf i hi).1) (fun i hi => (hsf i hi).2)
  rw [hsl2] at hI'
  refine ⟨s', _, hI', ?_⟩
  have hbuf : bufE ((2 ^ q : Nat) : Int) [(tg, c, s)] = 0 := bufE_one (by omega) (hI.proc (by omega))
  have hbuf' : bufE ((2 ^ q : Nat) : Int) [(0, ((k + 1 : Nat) : Int), s')] = 0 := bufE_one (by omega) (hI'.proc (by omega))
  have hsoftE : listErr 400 isSoftB 2 (softTL (matchL (topW D T q info l) v n) sizes) = 0 := listErr_ok (by omega) (by omega) (by
    rw [isSoftB_size]
    exact all_sizeB fun j hj => by have := (hsf j hj).1; omega)
  have hrE : receivedE [(tg, c, s)] 0 0 (v : Int) (softTL (matchL (topW D T q info l) v n) sizes) = 0 := by
    unfold receivedE
    rw [hsoftE]
    unfold rangeErr
    rw [if_pos (by simp), if_pos (by decide), if_pos (by omega)]; rfl
  have hls := hI.ls
  have hls' := hI'.ls
  have hrecv := Receive_eq (N := N) ((2 ^ q : Nat) : Int) [(tg, c, s)] 0 0 (v : Int) (softTL (matchL (topW D T q info l) v n) sizes) (by simp) (by simp; omega) (by omega) hN
  rw [hbuf, hrE, if_pos (by rfl)] at hrecv
  simp only [Int.toNat_natCast] at hrecv
  rw [show (0 : Int).toNat = 0 from rfl, hr] at hrecv
  show br (decide ((k : Int) < (vs.length : Int))) _ _ = _
  rw [br_pos (by simpa using hk), jn, chk_pos (by omega), Int.toNat_natCast, Mod_any _ _ _ (by decide), bnd_val, hv', CopyChain_eq _ _ _ _ _ _ (by have := ho.hi; omega), bnd_val]
  dsimp only
  rw [CopyInts_eq _ _ (by omega), bnd_val, hsent, bnd_val]
  dsimp only
  rw [AreBits_eq _ (by omega) (by omega), hml, hoc.hcnt, all_of_bits hmb]
  simp only [bne_self_eq_false, Bool.or_self, Bool.not_false, grd_true, bnd_val, Bool.not_true, br_false]
  rw [CopyBuffers_eq _ _ (by simp) (by simp; omega) (by omega), bnd_val]
  dsimp only
  rw [codeSoft_eq _ _ hmb (by omega) (by omega), bnd_val, hrecv, bnd_val]
  dsimp only
  rw [bne_self_eq_false, Bool.not_false, grd_true, refBuffersErr_eq _ _ (by simp) (by simp; omega) hN, bnd_val, hbuf']
  rw [br_neg (by simp)]
  refine (mark_loop n (2 ^ q) v hpos (by omega) (by omega) (by omega) snt hI.lt _ _ _ (by omega)).trans ?_
  dsimp only
  rw [w64_succ (by omega)]
theorem replicate_getD (n j : Nat) : (List.replicate n (0 : Int)).getD j 0 = 0 := by
  rw [List.getD_eq_getElem?_getD, List.getElem?_replicate]
  split <;> rfl
theorem law_TopCodeRecovered {N : Nat} (d t p : Int) (info : List Int) (cnt : Int) (l vs sizes : List Int) (hN : 2000 < N) : top_TopCodeRecovered N d t p info cnt l vs sizes = some true := by
  unfold top_TopCodeRecovered
  rw [coded_eq (by omega), bnd_val, br_nt]
  obtain ⟨b, hb, ho⟩ := codeRight_eq (N := N) d t p info cnt l (by omega)
  rw [hb, bnd_val]
  cases b
  case false => rfl
  obtain ⟨D, T, q, n, ho⟩ := ho rfl
  by_cases hv0 : vs.length = 0
  · rw [br_pos (by rw [hv0]; rfl)]
  by_cases hv6 : (vs.length : Int) > 6
  · rw [br_pos (by rw [decide_eq_true hv6, Bool.or_true])]
  rw [br_neg (by rw [decide_eq_false hv6, beq_eq_false_iff_ne.2 (show ((vs.length : Int)) ≠ 0 by omega)]; rfl)]
  have hoc := ho.chain
  have h64 := pow_le6 hoc.hq
  have hpos := Nat.two_pow_pos q
  have hbits := bits_of_all (listErr_zero (by decide) ho.hl).2.2
  obtain ⟨hl0, hl1, _⟩ := listErr_zero (by decide) ho.hl
  have hwl : (topW D T q info l).length = 2 ^ q := by rw [topW, wordL_length, place_length, List.length_replicate]
  rw [hoc.hp, Length_eq info (by have := hoc.hq; omega) (by have := hoc.hq; omega), bnd_val, Begin_eq _ _ (by omega), bnd_val]
  have hbg : beginL ((2 ^ q : Nat) : Int) 1 = (((2 ^ q : Nat) : Int), [(-1, 0, List.replicate (2 ^ q) 0)], 0) := by
    unfold beginL
    rw [if_pos (by omega), Int.toNat_natCast]; rfl
  rw [hbg]
  dsimp only
  have hI0 : RInv (2 ^ q) (topW D T q info l) 0 (-1) 0 (List.replicate (2 ^ q) 0) (List.replicate (2 ^ q) 0) := ⟨by simp, by simp, .inl ⟨rfl, rfl, rfl⟩, fun j hj => by
    rw [replicate_getD]; exact ⟨by decide, .inl ⟨rfl, rfl⟩⟩⟩
  have hbuf : bufE ((2 ^ q : Nat) : Int) [(-1, 0, List.replicate (2 ^ q) 0)] = 0 := bufE_one (by omega) (hI0.proc (by omega))
  rw [bne_self_eq_false, Bool.not_false, grd_true, refBuffersErr_eq _ _ (by simp) (by simp; omega) hN, bnd_val, hbuf, br_neg (by simp), chk_pos (by omega), Int.toNat_natCast]
  unfold jn
  refine rds_spec (fun x : Int × Int × List Proc × List Int => ∃ (k : Nat) (tg c : Int) (s snt : List Int), k ≤ vs.length ∧ x = ((k : Int), ((2 ^ q : Nat) : Int), [(tg, c, s)], snt) ∧ RInv (2 ^ q) (topW D T q info l) k tg c s snt) (fun x => vs.length - x.1.toNat) (fun _ => some true) (fun rec x hx hrec => ?_) N _ ⟨0, -1, 0, _, _, Nat.zero_le _, rfl, hI0⟩ (by simp; omega)
  obtain ⟨k, tg, c, s, snt, hk, rfl, hI⟩ := hx
  by_cases hkl : k < vs.length
  · rw [← hoc.hp]
    obtain ⟨s', snt', hI', hr⟩ := top_round (N := N) ho vs sizes (by omega) hN _ rec k hkl tg c s snt hI
    rw [hr]
    exact hrec _ ⟨k + 1, 0, _, s', snt', hkl, rfl, hI'⟩ (by simp only [Int.toNat_natCast]; omega)
  have hke : k = vs.length := by omega
  show br (decide ((k : Int) < (vs.length : Int))) _ _ = _
  rw [br_neg (by simp; omega)]
  dsimp only
  have hls := hI.ls
  have hlt := hI.lt
  rw [Has_eq snt 0 (by omega) (by omega), bnd_val]
  by_cases h0 : (0 : Int) ∈ snt
  · rw [decide_eq_true h0]; rfl
  rw [decide_eq_false h0, br_false, CopyChain_eq _ _ _ _ _ _ (by have := ho.hi; omega), bnd_val]
  dsimp only
  rw [chk_pos (by simp)]
  show bnd (base_CopyInts N s) _ = _
  rw [CopyInts_eq _ _ (by omega), bnd_val]
  -- all places have been sent
  have hall : ∀ j, j < 2 ^ q → signed (s.getD j 0) ((topW D T q info l).getD j 0) ∧ ((s.getD j 0).natAbs : Int) ≤ 1000000 := fun j hj => by
    obtain ⟨a1, a2⟩ := hI.el j hj
    refine ⟨?_, by omega⟩
    rcases a2 with ⟨a2, _⟩ | ⟨_, a2⟩
    · exfalso
      refine h0 ?_
      rw [getD_eq (by omega)] at a2
      rw [← a2]; exact List.getElem_mem _
    · exact a2
  have hsE : listErr 200 (sizeB 1000000000) 2 s = 0 := listErr_ok (by omega) (by omega) (all_sizeB fun j hj => by have := (hall j (by omega)).2; omega)
  have hrec' := (Recovered_ok (N := N) hoc s ho.hi hsE hls (by omega)).1
  rw [hoc.hp] at hrec'
  rw [hrec', bnd_val]
  have hcl := checkedL_length (D := D) (T := T) l
  have hs' := ho.hs
  have hdec1 := decode_any (N := N) hoc.hq info s (q : Int) (rising_of hoc.hpw) hoc.hin (by have := ho.hi; omega) (by have := ho.hi; omega) (by omega) hls (small_of_all (listErr_zero (by decide) hsE).2.2)
  have hdec2 := decode_eq (N := N) hoc.hq info s (place info (checkedL D T l) (List.replicate (2 ^ q) 0)) (q : Int) (rising_of hoc.hpw) hoc.hin (by have := ho.hi; omega) (by have := ho.hi; omega) (by omega) hls (by rw [place_length, List.length_replicate])
    (place_bits _ _ _ (checkedL_bits hbits) (bits_replicate _)) ?_ (fun i hi => (hall i hi).1) (fun i hi => (hall i hi).2)
  have hd : decodeL q info s = checkedL D T l := by
    rw [hdec1] at hdec2
    rw [Option.some.inj hdec2]
    exact place_map info _ _ hoc.hpw (by simpa using hoc.hin) (by omega)
  unfold recL
  rw [hd, if_pos (run_checked hoc.poly.lo hoc.poly.odd hoc.poly.lt l)]
  have htk : (checkedL D T l).take (info.length - D) = l := by
    unfold checkedL
    rw [show info.length - D = l.length by omega, List.take_left' rfl]
  rw [htk]
  dsimp only
  rw [beq_self_eq_true, grd_true, Ints_eq _ _ (by omega) (by omega), bnd_val, decide_eq_true rfl]; rfl
  · intro i hi hm
    rw [place_getD_out info _ _ i (fun x hx => (hoc.hin x hx).1) hm, replicate_getD]
end Go.Sh
