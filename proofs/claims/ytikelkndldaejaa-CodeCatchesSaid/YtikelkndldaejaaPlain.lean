/-
  Plain words: loops that count up. For every program.
-/
import Derived.Test.YtikelkndldaejaaPlA
import Derived.Test.YtikelkndldaejaaCsS
set_option linter.all false
namespace Go.PW
theorem w64_nat {n : Nat} (h : n < 4611686018427387904) : w64 (n : Int) = n := w64_id (by omega)
theorem w64_succ {k : Nat} (h : k < 4611686018427387904) : w64 ((k : Int) + 1) = ((k + 1 : Nat) : Int) := by rw [w64_id (by omega)]; rfl

/-- A loop that counts up from k to len, with a state. -/
theorem rds_up {σ R : Type} (len : Nat) (b : (Int × σ → Option R) → Int × σ → Option R) (F : Nat → σ → Option R)
    (hstep : ∀ k s rec, k < len → (∀ s', rec (((k + 1 : Nat) : Int), s') = F (k + 1) s') → b rec ((k : Int), s) = F k s) (hend : ∀ s rec, b rec ((len : Int), s) = F len s)
    {N : Nat} (hN : len < N) (s : σ) : rds b N (0, s) = F 0 s := by
  have h := rds_spec (b := b) (fun x => ∃ k : Nat, k ≤ len ∧ x.1 = k) (fun x => len - x.1.toNat) (fun x => F x.1.toNat x.2) (fun rec x hI hrec => ?_) N (0, s) ⟨0, Nat.zero_le _, rfl⟩ (by simp; omega)
  · simpa using h
  · obtain ⟨k, hk, hx⟩ := hI
    obtain ⟨i, t⟩ := x
    simp only at hx
    subst hx
    by_cases hkl : k < len
    · rw [hstep k t rec hkl (fun s' => ?_)]
      · simp
      · have := hrec (((k + 1 : Nat) : Int), s') ⟨k + 1, hkl, rfl⟩ (by simp only [Int.toNat_natCast]; omega)
        simpa using this
    · have : k = len := by omega
      subst this
      rw [hend t rec]; simp
/-- The same, without a state. -/
theorem rds_up1 {R : Type} (len : Nat) (b : (Int → Option R) → Int → Option R) (F : Nat → Option R)
    (hstep : ∀ k rec, k < len → rec ((k + 1 : Nat) : Int) = F (k + 1) → b rec (k : Int) = F k) (hend : ∀ rec, b rec (len : Int) = F len)
    {N : Nat} (hN : len < N) : rds b N 0 = F 0 := by
  have h := rds_spec (b := b) (fun x => ∃ k : Nat, k ≤ len ∧ x = k) (fun x => len - x.toNat) (fun x => F x.toNat) (fun rec x hI hrec => ?_) N 0 ⟨0, Nat.zero_le _, rfl⟩ (by simp; omega)
  · simpa using h
  · obtain ⟨k, hk, hx⟩ := hI
    subst hx
    by_cases hkl : k < len
    · rw [hstep k rec hkl ?_]
      · simp
      · have := hrec ((k + 1 : Nat) : Int) ⟨k + 1, hkl, rfl⟩ (by simp only [Int.toNat_natCast]; omega)
        simpa using this
    · have : k = len := by omega
      subst this
      rw [hend rec]; simp
end Go.PW

/-
  What the shallow functions of the code chapter come to: lists and their errors.
-/
namespace Go.Sh
open Go.PW

theorem within_eq (N : Nat) (n lo hi : Int) : code_within N n lo hi = some (decide (lo ≤ n) && decide (n ≤ hi)) := rfl
theorem unless_eq (N : Nat) (b : Bool) (e : Int) : code_unless N b e = some (if b then 0 else e) := by cases b <;> rfl

/-- The first that is not 0. -/
def firstOf : List Int → Int
  | [] => 0
  | x :: l => if x = 0 then firstOf l else x
theorem firstOf_drop (l : List Int) (k : Nat) (h : k < l.length) : firstOf (l.drop k) = if l.getD k 0 = 0 then firstOf (l.drop (k + 1)) else l.getD k 0 := by
  rw [List.drop_eq_getElem_cons h, firstOf]; simp [List.getD_eq_getElem?_getD, h]
theorem first_eq {N : Nat} (l : List Int) (hl : l.length < 4611686018427387904) (hN : l.length < N) : code_first N l = some (firstOf l) := by
  unfold code_first jn
  refine (rds_up1 l.length _ (fun k => some (firstOf (l.drop k))) (fun k rec hk hr => ?_) (fun rec => ?_) hN).trans (by simp)
  · unfold code_first.b1
    rw [br_pos (by simpa using hk), chk_pos (by omega), w64_succ (by omega), hr, Int.toNat_natCast, firstOf_drop l k hk]
    by_cases h : l.getD k 0 = 0
    · rw [if_pos h, br_neg (by rw [h]; rfl)]
    · rw [if_neg h, br_pos (by simpa only [bne_iff_ne] using h)]
  · unfold code_first.b1
    rw [br_neg (by simp)]; simp [firstOf]

/-- Where the first element lies that a test tells. -/
def indexOf (f : Int → Bool) : List Int → Nat → Int
  | [], _ => -1
  | x :: l, k => if f x then k else indexOf f l (k + 1)
theorem indexOf_drop (f : Int → Bool) (l : List Int) (k : Nat) (h : k < l.length) : indexOf f (l.drop k) k = if f (l.getD k 0) then (k : Int) else indexOf f (l.drop (k + 1)) (k + 1) := by
  rw [List.drop_eq_getElem_cons h, indexOf]; simp [List.getD_eq_getElem?_getD, h]
theorem IndexFunc_eq {N : Nat} (l : List Int) (g : Int → Option Bool) (f : Int → Bool) (hg : ∀ x ∈ l, g x = some (f x)) (hl : l.length < 4611686018427387904) (hN : l.length < N) : slices_IndexFunc_ii N l g = some (indexOf f l 0) := by
  unfold slices_IndexFunc_ii jn
  refine (rds_up1 l.length _ (fun k => some (indexOf f (l.drop k) k)) (fun k rec hk hr => ?_) (fun rec => ?_) hN).trans (by simp)
  · unfold slices_IndexFunc_ii.b1
    have hm : l.getD k 0 ∈ l := by simp [List.getD_eq_getElem?_getD, hk]
    rw [br_pos (by simpa using hk), chk_pos (by omega), w64_succ (by omega), hr, Int.toNat_natCast, hg _ hm, bnd_val, indexOf_drop f l k hk]
    cases h : f (l.getD k 0) <;> simp
  · unfold slices_IndexFunc_ii.b1
    rw [br_neg (by simp)]; simp [indexOf]
theorem indexOf_ge (f : Int → Bool) (l : List Int) (k : Nat) : indexOf f l k ≥ 0 ↔ l.any f = true := by
  induction l generalizing k with
  | nil => simp [indexOf]
  | cons x l ih =>
    rw [indexOf, List.any_cons]
    by_cases h : f x = true
    · simp [h]
    · rw [if_neg h, ih]; simp [h]
theorem indexOf_any (f : Int → Bool) (l : List Int) (k : Nat) : decide (indexOf f l k ≥ 0) = l.any f := by
  rw [Bool.eq_iff_iff, decide_eq_true_iff]; exact indexOf_ge f l k
theorem ContainsFunc_eq {N : Nat} (l : List Int) (g : Int → Option Bool) (f : Int → Bool) (hg : ∀ x ∈ l, g x = some (f x)) (hl : l.length < 4611686018427387904) (hN : l.length < N) : slices_ContainsFunc_ii N l g = some (l.any f) := by
  unfold slices_ContainsFunc_ii
  rw [IndexFunc_eq l g f hg hl hN, bnd_val, indexOf_any]
theorem listErr_eq {N : Nat} (l : List Int) (most e : Int) (g : Int → Option Bool) (f : Int → Bool) (hg : ∀ x ∈ l, g x = some (f x)) (hl : l.length < 4611686018427387904) (hN : l.length < N) (hN3 : 3 < N) :
    code_listErr N l most g e = some (if l.length = 0 then 10 else if (l.length : Int) > most then 8 else if l.all f then 0 else e) := by
  unfold code_listErr
  rw [ContainsFunc_eq l _ (fun x => !f x) (fun x hx => by simp [code_listErr_1, hg x hx]) hl hN, bnd_val]
  simp only [unless_eq, bnd_val]
  rw [first_eq _ (by simp) (by simpa using hN3), bnd_val]
  congr 1
  have ha : (!(l.any fun x => !f x)) = l.all f := by simp [List.all_eq_not_any_not]
  rw [ha]
  by_cases h0 : l.length = 0
  · simp [firstOf, h0]
  · by_cases h1 : (l.length : Int) > most
    · have : ¬ (l.length : Int) ≤ most := by omega
      simp [firstOf, h0, h1, this]
    · have : (l.length : Int) ≤ most := by omega
      have h2 : 0 < l.length := by omega
      rw [if_neg h0, if_neg h1, decide_eq_true (show (l.length : Int) > 0 by omega), decide_eq_true this]
      by_cases hf : l.all f = true
      · rw [if_pos hf]; rfl
      · rw [if_neg hf]
        simp only [firstOf, if_true]
        by_cases he : e = 0 <;> simp [he]
end Go.Sh

/-
  What the shallow functions of the code chapter come to: polar codes that are right.
-/
namespace Go.Sh
open Go.PW

theorem isBit_eq (N : Nat) (x : Int) : code_isBit N x = some (x == 0 || x == 1) := rfl
def isBitB (x : Int) : Bool := x == 0 || x == 1
def listErr (most : Int) (f : Int → Bool) (e : Int) (l : List Int) : Int := if l.length = 0 then 10 else if (l.length : Int) > most then 8 else if l.all f then 0 else e
theorem bitsErr_eq {N : Nat} (l : List Int) (hl : l.length < 4611686018427387904) (hN : l.length < N) (hN3 : 3 < N) : code_bitsErr N l = some (listErr 200 isBitB 15 l) := by
  unfold code_bitsErr
  rw [listErr_eq l _ _ (fun y0 => code_isBit N y0) isBitB (fun x _ => rfl) hl hN hN3, bnd_val]; rfl
def isSoftB (x : Int) : Bool := decide (-1000000 ≤ x) && decide (x ≤ 1000000)
theorem softErr_eq {N : Nat} (l : List Int) (hl : l.length < 4611686018427387904) (hN : l.length < N) (hN3 : 3 < N) : code_softErr N l = some (listErr 400 isSoftB 2 l) := by
  unfold code_softErr
  rw [listErr_eq l _ _ (fun y0 => code_upTo_1 N y0 1000000) isSoftB (fun x _ => by rw [code_upTo_1, w64_id (by omega), within_eq]; rfl) hl hN hN3, bnd_val]; rfl

theorem shl1_pow {p : Nat} (h : p ≤ 40) : shlI 1 (p : Int) = ((2 ^ p : Nat) : Int) := by
  have := shlI_nat (a := 1) (b := p) (by have := Nat.pow_le_pow_right (n := 2) (by omega) h; omega) (by omega)
  simpa using this
/-- What is wrong with the places of a polar code. -/
def placesErr (m : Int) : Int → List Int → Int
  | _, [] => 0
  | b, x :: l => if ¬(0 ≤ x ∧ x ≤ m) then 2 else if x ≤ b then 9 else placesErr m x l
def polarErr (p : Int) (l : List Int) : Int := if ¬(0 ≤ p ∧ p ≤ 6) then 2 else if l.length = 0 then 10 else placesErr (2 ^ p.toNat - 1) (-1) l
theorem placesErr_drop (m b : Int) (l : List Int) (k : Nat) (h : k < l.length) : placesErr m b (l.drop k) = if ¬(0 ≤ l.getD k 0 ∧ l.getD k 0 ≤ m) then 2 else if l.getD k 0 ≤ b then 9 else placesErr m (l.getD k 0) (l.drop (k + 1)) := by
  rw [List.drop_eq_getElem_cons h, placesErr]; simp [List.getD_eq_getElem?_getD, h]
/-- A loop that counts up, its number behind its state. -/
theorem rds_upR {σ R : Type} (len : Nat) (b : (σ × Int → Option R) → σ × Int → Option R) (F : Nat → σ → Option R)
    (hstep : ∀ k s rec, k < len → (∀ s', rec (s', ((k + 1 : Nat) : Int)) = F (k + 1) s') → b rec (s, (k : Int)) = F k s) (hend : ∀ s rec, b rec (s, (len : Int)) = F len s)
    {N : Nat} (hN : len < N) (s : σ) : rds b N (s, 0) = F 0 s := by
  have h := rds_spec (b := b) (fun x => ∃ k : Nat, k ≤ len ∧ x.2 = k) (fun x => len - x.2.toNat) (fun x => F x.2.toNat x.1) (fun rec x hI hrec => ?_) N (s, 0) ⟨0, Nat.zero_le _, rfl⟩ (by simp; omega)
  · simpa using h
  · obtain ⟨k, hk, hx⟩ := hI
    obtain ⟨t, i⟩ := x
    simp only at hx
    subst hx
    by_cases hkl : k < len
    · rw [hstep k t rec hkl (fun s' => ?_)]
      · simp
      · have := hrec (s', ((k + 1 : Nat) : Int)) ⟨k + 1, hkl, rfl⟩ (by simp only [Int.toNat_natCast]; omega)
        simpa using this
    · have : k = len := by omega
      subst this
      rw [hend t rec]; simp
theorem pow_le6 {p : Nat} (h : p ≤ 6) : 2 ^ p ≤ 64 := Nat.pow_le_pow_right (n := 2) (by omega) h
theorem CheckPolar_eq {N : Nat} (p : Int) (l : List Int) (hl : l.length < 4611686018427387904) (hN : l.length < N) (hN3 : 3 < N) : code_CheckPolar N p l = some (polarErr p l) := by
  unfold code_CheckPolar
  simp only [code_isPower, within_eq, bnd_val, unless_eq]
  rw [first_eq _ (by simp) (by simp; omega), bnd_val]
  by_cases hp : 0 ≤ p ∧ p ≤ 6
  · obtain ⟨q, rfl⟩ := Int.eq_ofNat_of_zero_le hp.1
    have hq : q ≤ 6 := by omega
    have h64 := pow_le6 hq
    have hb : (decide (0 ≤ (q : Int)) && decide ((q : Int) ≤ 6)) = true := by simp; omega
    rw [hb]
    by_cases h0 : l.length = 0
    · have : decide ((l.length : Int) > 0) = false := by simp [h0]
      rw [this, br_pos (by decide)]
      rw [polarErr, if_neg (show ¬¬(0 ≤ (q : Int) ∧ (q : Int) ≤ 6) from fun h => h hp), if_pos h0]; rfl
    · have : decide ((l.length : Int) > 0) = true := by simp; omega
      rw [this, br_neg (by decide), jn]
      refine (rds_upR l.length _ (fun k b => some (placesErr (2 ^ q - 1) b (l.drop k))) (fun k b rec hk hr => ?_) (fun b rec => ?_) hN (-1)).trans ?_
      · unfold code_CheckPolar.b1
        simp only [within_eq, unless_eq, bnd_val, Int.toNat_natCast]
        have hw : w64 (shlI 1 (q : Int) - 1) = 2 ^ q - 1 := by
          rw [shl1_pow (by omega)]
          have : ((2 ^ q : Nat) : Int) ≤ 64 := by exact_mod_cast h64
          have h0 : (0 : Int) ≤ ((2 ^ q : Nat) : Int) := Int.natCast_nonneg _
          have e : ((2 ^ q : Nat) : Int) = 2 ^ q := by push_cast; rfl
          rw [e] at this h0 ⊢
          exact w64_id (by omega)
        rw [br_pos (by simpa using hk), chk_pos (by omega), chk_pos (by omega), first_eq _ (by simp) (by simp; omega), bnd_val, hw, w64_succ (by omega), hr, placesErr_drop _ _ _ _ hk]
        by_cases h1 : 0 ≤ l.getD k 0 ∧ l.getD k 0 ≤ 2 ^ q - 1
        · have h1b : (decide (0 ≤ l.getD k 0) && decide (l.getD k 0 ≤ 2 ^ q - 1)) = true := by rw [Bool.and_eq_true, decide_eq_true_iff, decide_eq_true_iff]; exact h1
          rw [h1b, if_neg (show ¬¬(0 ≤ l.getD k 0 ∧ l.getD k 0 ≤ 2 ^ q - 1) from fun h => h h1)]
          by_cases h2 : l.getD k 0 ≤ b
          · rw [if_pos h2, decide_eq_false (show ¬ l.getD k 0 > b by omega)]; rfl
          · rw [if_neg h2, decide_eq_true (show l.getD k 0 > b by omega)]; rfl
        · have h1b : (decide (0 ≤ l.getD k 0) && decide (l.getD k 0 ≤ 2 ^ q - 1)) = false := by rw [← Bool.not_eq_true, Bool.and_eq_true, decide_eq_true_iff, decide_eq_true_iff]; exact h1
          rw [h1b, if_pos h1]; rfl
      · show br (decide ((l.length : Int) < l.length)) _ _ = _
        rw [br_neg (by simp)]; simp [placesErr]
      · simp only [polarErr, List.drop_zero, Int.toNat_natCast]
        rw [if_neg (by omega), if_neg h0]
  · have hb : (decide (0 ≤ p) && decide (p ≤ 6)) = false := by rw [← Bool.not_eq_true, Bool.and_eq_true, decide_eq_true_iff, decide_eq_true_iff]; exact hp
    rw [hb, polarErr, if_pos hp]; rfl
end Go.Sh

/-
  What the shallow functions of the code chapter come to: the reference's checks.
-/
namespace Go.Sh
open Go.PW

theorem Within_eq (N : Nat) (n lo hi : Int) : base_Within N n lo hi = some (decide (lo ≤ n) && decide (n ≤ hi)) := rfl
theorem power_eq {N n : Nat} (hn : n ≤ 40) (hN : n < N) : ref02_power N n = some ((2 ^ n : Nat) : Int) := by
  have hp : ∀ k, k ≤ 40 → 2 ^ k ≤ 2 ^ 40 := fun k hk => Nat.pow_le_pow_right (by omega) hk
  unfold ref02_power jn
  refine (rds_spec (b := ref02_power.b1 N n fun out => some out) (fun x : Int × Int => ∃ k : Nat, k ≤ n ∧ x = (((2 ^ k : Nat) : Int), (k : Int))) (fun x => n - x.2.toNat) (fun _ => some ((2 ^ n : Nat) : Int)) (fun rec x hI hrec => ?_) N (1, 0) ⟨0, by simp, by simp⟩ (by simp; omega))
  obtain ⟨k, hk, rfl⟩ := hI
  show br (decide ((k : Int) < n)) _ _ = _
  by_cases h : k < n
  · have h1 := hp k (by omega)
    have e : w64 (2 * ((2 ^ k : Nat) : Int)) = ((2 ^ (k + 1) : Nat) : Int) := by
      have : (2 * ((2 ^ k : Nat) : Int)) = ((2 ^ (k + 1) : Nat) : Int) := by rw [Nat.pow_succ]; push_cast; omega
      rw [this]; exact w64_nat (by have := hp (k + 1) (by omega); omega)
    rw [br_pos (by simpa using h), w64_succ (by omega), e]
    exact hrec _ ⟨k + 1, h, rfl⟩ (by simp only [Int.toNat_natCast]; omega)
  · have : k = n := by omega
    subst this
    rw [br_neg (by simp)]
theorem Length_eq {N n : Nat} (l : List Int) (hn : n ≤ 40) (hN : n < N) : ref02_Length N n l = some ((2 ^ n : Nat) : Int) := by
  unfold ref02_Length; rw [power_eq hn hN]; rfl

theorem refCheckPolar_eq {N : Nat} (p : Int) (l : List Int) (hl : l.length < 4611686018427387904) (hN : l.length < N) (hN3 : 6 < N) : ref02_CheckPolar N p l = some (polarErr p l) := by
  unfold ref02_CheckPolar
  rw [Within_eq, bnd_val]
  by_cases hp : 0 ≤ p ∧ p ≤ 6
  · obtain ⟨q, rfl⟩ := Int.eq_ofNat_of_zero_le hp.1
    have hq : q ≤ 6 := by omega
    have h64 := pow_le6 hq
    have hb : (decide (0 ≤ (q : Int)) && decide ((q : Int) ≤ 6)) = true := by simp; omega
    rw [hb, br_neg (by rfl), polarErr, if_neg (show ¬¬(0 ≤ (q : Int) ∧ (q : Int) ≤ 6) from fun h => h hp)]
    by_cases h0 : l.length = 0
    · rw [br_pos (by simp [h0]), if_pos h0]
    · rw [br_neg (by simpa using h0), if_neg h0, jn, Int.toNat_natCast]
      have hw : w64 (((2 ^ q : Nat) : Int) - 1) = 2 ^ q - 1 := by
        have : ((2 ^ q : Nat) : Int) ≤ 64 := by exact_mod_cast h64
        have h0 : (0 : Int) ≤ ((2 ^ q : Nat) : Int) := Int.natCast_nonneg _
        have e : ((2 ^ q : Nat) : Int) = 2 ^ q := by push_cast; rfl
        rw [e] at this h0 ⊢
        exact w64_id (by omega)
      refine (rds_up1 l.length _ (fun k => some (placesErr (2 ^ q - 1) (if k = 0 then -1 else l.getD (k - 1) 0) (l.drop k))) (fun k rec hk hr => ?_) (fun rec => ?_) hN).trans (by simp)
      · unfold ref02_CheckPolar.b1
        rw [br_pos (by simpa using hk), chk_pos (by omega), power_eq (by omega) (by omega), bnd_val, hw, Within_eq, bnd_val, placesErr_drop _ _ _ _ hk, Int.toNat_natCast]
        by_cases h1 : 0 ≤ l.getD k 0 ∧ l.getD k 0 ≤ 2 ^ q - 1
        · have h1b : (decide (0 ≤ l.getD k 0) && decide (l.getD k 0 ≤ 2 ^ q - 1)) = true := by rw [Bool.and_eq_true, decide_eq_true_iff, decide_eq_true_iff]; exact h1
          rw [h1b, if_neg (show ¬¬(0 ≤ l.getD k 0 ∧ l.getD k 0 ≤ 2 ^ q - 1) from fun h => h h1), br_neg (by rfl), w64_succ (by omega), hr]
          by_cases hk0 : k = 0
          · subst hk0
            rw [chk_pos (by simp), chk_pos (by simp), br_neg (by simp), if_pos rfl, if_neg (show ¬ l.getD 0 0 ≤ -1 by omega)]
            rfl
          · obtain ⟨j, rfl⟩ : ∃ j, k = j + 1 := ⟨k - 1, by omega⟩
            have hj : w64 (((j + 1 : Nat) : Int) - 1) = (j : Int) := by rw [w64_id (by omega)]; omega
            rw [hj, chk_pos (by omega), chk_pos (by omega), if_neg hk0, Int.toNat_natCast]
            have hd : decide (((j + 1 : Nat) : Int) > 0) = true := by simp only [decide_eq_true_iff]; omega
            rw [hd, Bool.true_and, show j + 1 - 1 = j from rfl]
            by_cases h2 : l.getD (j + 1) 0 ≤ l.getD j 0
            · rw [if_pos h2, br_pos (by simpa using h2)]
            · rw [if_neg h2, br_neg (by simpa using h2)]; simp
        · have h1b : (decide (0 ≤ l.getD k 0) && decide (l.getD k 0 ≤ 2 ^ q - 1)) = false := by rw [← Bool.not_eq_true, Bool.and_eq_true, decide_eq_true_iff, decide_eq_true_iff]; exact h1
          rw [h1b, if_pos h1]; rfl
      · show br (decide ((l.length : Int) < l.length)) _ _ = _
        rw [br_neg (by simp)]; simp [placesErr]
  · have hb : (decide (0 ≤ p) && decide (p ≤ 6)) = false := by rw [← Bool.not_eq_true, Bool.and_eq_true, decide_eq_true_iff, decide_eq_true_iff]; exact hp
    rw [hb, polarErr, if_pos hp]; rfl
end Go.Sh

/-
  What the shallow functions of the code chapter come to: bits, copies, comparisons.
-/
namespace Go.Sh
open Go.PW

theorem AreBits_eq {N : Nat} (l : List Int) (hl : l.length < 4611686018427387904) (hN : l.length < N) : base_AreBits N l = some (l.all isBitB) := by
  unfold base_AreBits jn
  refine (rds_up1 l.length _ (fun k => some ((l.drop k).all isBitB)) (fun k rec hk hr => ?_) (fun rec => ?_) hN).trans (by simp)
  · unfold base_AreBits.b1
    rw [br_pos (by simpa using hk), chk_pos (by omega), chk_pos (by intro _; omega), w64_succ (by omega), hr, Int.toNat_natCast, List.drop_eq_getElem_cons hk, List.all_cons]
    have e : l.getD k 0 = l[k] := by simp [List.getD_eq_getElem?_getD, hk]
    rw [e]
    by_cases h0 : l[k] = 0
    · rw [br_neg (by simp [h0])]; simp [isBitB, h0]
    · by_cases h1 : l[k] = 1
      · rw [br_neg (by simp [h1])]; simp [isBitB, h1]
      · rw [br_pos (by simp [h0, h1])]; simp [isBitB, h0, h1]
  · show br (decide ((l.length : Int) < l.length)) _ _ = _
    rw [br_neg (by simp)]; simp
theorem refBitsErr_eq {N : Nat} (l : List Int) (hl : l.length < 4611686018427387904) (hN : l.length < N) : ref02_BitsErr N l = some (listErr 200 isBitB 15 l) := by
  unfold ref02_BitsErr ref02_kindErr listErr
  rw [AreBits_eq l hl hN]
  by_cases h0 : l.length = 0
  · rw [br_pos (by simp [h0]), if_pos h0]
  · rw [br_neg (by simpa using h0), if_neg h0]
    by_cases h1 : (l.length : Int) > 200
    · rw [br_pos (by simpa using h1), if_pos h1]
    · rw [br_neg (by simpa using h1), if_neg h1]
      simp only [bnd_val]
      cases h : l.all isBitB <;> rfl
theorem CopyInts_eq (N : Nat) (l : List Int) (hl : l.length ≤ 1000000000) : base_CopyInts N l = some l := by
  unfold base_CopyInts
  rw [chk_pos (by simpa using hl)]; rfl
theorem CopyPolar_eq (N : Nat) (p : Int) (l : List Int) (hl : l.length ≤ 1000000000) : ref02_CopyPolar N p l = some (p, l) := by
  unfold ref02_CopyPolar
  rw [CopyInts_eq N l hl, bnd_val]
theorem Mod_eq (N : Nat) (n m : Int) (hn : -9223372036854775808 ≤ n ∧ n ≤ 9223372036854775807) (hm : 0 < m ∧ m ≤ 4611686018427387904) : base_Mod N n m = some (n % m) := by
  unfold base_Mod
  rw [chk_pos (by omega)]
  have h1 := Int.tmod_eq_emod (a := n) (b := m)
  have h2 : m ≠ 0 := by omega
  have h3 := Int.emod_nonneg n h2
  have h4 := Int.emod_lt_of_pos n hm.1
  by_cases h : n.tmod m < 0
  · rw [br_pos (by simpa using h)]
    have e : n.tmod m + m = n % m := by
      rw [h1] at h ⊢
      split at h <;> split <;> omega
    rw [e, w64_id (by omega)]
  · rw [br_neg (by simpa using h)]
    have e : n.tmod m = n % m := by
      rw [h1] at h ⊢
      split at h <;> split <;> omega
    rw [e]
theorem Ints_eq {N : Nat} (a b : List Int) (hl : a.length < 4611686018427387904) (hN : a.length < N) : base_Ints N a b = some (decide (a = b)) := by
  unfold base_Ints
  by_cases hlen : a.length = b.length
  · rw [br_neg (by simp [hlen]), jn]
    refine (rds_up1 a.length _ (fun k => some (decide (a.drop k = b.drop k))) (fun k rec hk hr => ?_) (fun rec => ?_) hN).trans (by simp)
    · unfold base_Ints.b1
      rw [br_pos (by simpa using hk), chk_pos (by omega), chk_pos (by omega), w64_succ (by omega), hr, Int.toNat_natCast]
      have hkb : k < b.length := by omega
      have ea : a.getD k 0 = a[k] := by simp [List.getD_eq_getElem?_getD, hk]
      have eb : b.getD k 0 = b[k] := by simp [List.getD_eq_getElem?_getD, hkb]
      have hd : (a.drop k = b.drop k) = (a[k] = b[k] ∧ a.drop (k + 1) = b.drop (k + 1)) := by
        rw [List.drop_eq_getElem_cons hk, List.drop_eq_getElem_cons hkb, List.cons.injEq]
      rw [ea, eb]; simp only [hd]
      by_cases h : a[k] = b[k]
      · rw [br_neg (by rw [h]; simp)]; simp [h]
      · rw [br_pos (by simpa using h)]; simp [h]
    · show br (decide ((a.length : Int) < a.length)) _ _ = _
      rw [br_neg (by simp)]; simp [hlen]
  · rw [br_pos (by rw [bne_iff_ne]; omega)]
    have : a ≠ b := fun e => hlen (by rw [e])
    simp [this]
end Go.Sh

/-
  What the shallow functions of the code chapter come to: the word of a polar code.
-/
namespace Go.Sh
open Go.PW

/-- One round of the word, place by place. -/
noncomputable def wordAt (s : Nat) (l : List Int) (i : Nat) : Int := if i.testBit s then l.getD i 0 else xorI (l.getD i 0) (l.getD (i + 2 ^ s) 0)
noncomputable def stepL (s : Nat) (l : List Int) : List Int := (List.range l.length).map (wordAt s l)
theorem stepL_length (s : Nat) (l : List Int) : (stepL s l).length = l.length := by simp [stepL]
noncomputable def wordIn {R : Type} (step : Int) (b13 : List Int) (K_2 : List Int → Option R) (rec2 : Int × List Int → Option R) : Int × List Int → Option R := fun (t13, b15) =>
  br (decide (t13 < (b13.length : Int))) (
  br ((andI t13 step == (0 : Int))) (
  chk (0 ≤ t13 ∧ t13 < (b15.length : Int)) <|
  chk (0 ≤ w64 (t13 + step) ∧ w64 (t13 + step) < (b15.length : Int)) <|
  chk (0 ≤ t13 ∧ t13 < (b15.length : Int)) <|
  rec2 (w64 (t13 + (1 : Int)), (b15.set t13.toNat (xorI (b15.getD t13.toNat 0) (b15.getD ((w64 (t13 + step)).toNat) 0))))) (
  rec2 (w64 (t13 + (1 : Int)), b15))) (
  K_2 b15)
theorem encode_b3 (N : Nat) : code_encode.b3 N = wordIn := rfl
theorem cancel_b3 (N : Nat) : code_cancel.b3 N = wordIn := rfl

theorem and_bit (n i : Nat) : n &&& 2 ^ i = if n.testBit i then 2 ^ i else 0 := by
  refine Nat.eq_of_testBit_eq fun j => ?_
  rw [Nat.testBit_and, Nat.testBit_two_pow]
  by_cases h : i = j
  · subst h
    cases ht : n.testBit i <;> simp [Nat.testBit_two_pow]
  · cases ht : n.testBit i <;> simp [Nat.testBit_two_pow, h]
theorem clear_lt {m s i : Nat} (hs : s < m) (hi : i < 2 ^ m) (hb : i.testBit s = false) : i + 2 ^ s < 2 ^ m := by
  obtain ⟨d, rfl⟩ : ∃ d, m = s + 1 + d := ⟨m - (s + 1), by omega⟩
  have h0 : i / 2 ^ s % 2 ≠ 1 := by simpa [Nat.testBit_eq_decide_div_mod_eq] using hb
  have hp : 0 < 2 ^ s := Nat.two_pow_pos s
  have e : 2 ^ (s + 1 + d) = 2 ^ s * (2 * 2 ^ d) := by rw [Nat.pow_add, Nat.pow_succ, Nat.mul_assoc]
  rw [e] at hi ⊢
  have h1 : i / 2 ^ s < 2 * 2 ^ d := Nat.div_lt_of_lt_mul hi
  have h2 := Nat.div_add_mod i (2 ^ s)
  have h3 := Nat.mod_lt i hp
  have h4 : i / 2 ^ s + 2 ≤ 2 * 2 ^ d := by omega
  have h5 : 2 ^ s * (i / 2 ^ s + 2) ≤ 2 ^ s * (2 * 2 ^ d) := Nat.mul_le_mul_left _ h4
  rw [Nat.mul_add] at h5
  omega
theorem ext_getD {a b : List Int} (h : a.length = b.length) (he : ∀ j, j < a.length → a.getD j 0 = b.getD j 0) : a = b := by
  refine List.ext_getElem h fun j h1 h2 => ?_
  have := he j h1
  simpa [List.getD_eq_getElem?_getD, h1, h2] using this
theorem stepL_getD (s : Nat) (l : List Int) (j : Nat) (h : j < l.length) : (stepL s l).getD j 0 = wordAt s l j := by
  simp [stepL, List.getD_eq_getElem?_getD, h]
theorem wordIn_eq {R : Type} (m s : Nat) (hs : s < m) (hm : m ≤ 30) (l : List Int) (hl : l.length = 2 ^ m) (K : List Int → Option R) {N : Nat} (hN : 2 ^ m < N) :
    rds (wordIn ((2 ^ s : Nat) : Int) l K) N (0, l) = K (stepL s l) := by
  have hbig : 2 ^ m ≤ 2 ^ 30 := Nat.pow_le_pow_right (by omega) hm
  have hsm : 2 ^ s < 2 ^ m := Nat.pow_lt_pow_right (by omega) hs
  have hps : (0 : Int) < 2 ^ s := Int.pow_pos (by omega)
  refine rds_spec (fun x : Int × List Int => ∃ k : Nat, k ≤ l.length ∧ x.1 = k ∧ x.2.length = l.length ∧ ∀ j, j < l.length → x.2.getD j 0 = if j < k then wordAt s l j else l.getD j 0) (fun x => l.length - x.1.toNat) (fun _ => K (stepL s l)) (fun rec x hI hrec => ?_) N (0, l) ⟨0, Nat.zero_le _, rfl, rfl, fun j hj => by simp⟩ (by simp; omega)
  obtain ⟨k, hk, hx, hbl, hb⟩ := hI
  obtain ⟨i, b⟩ := x
  simp only at hx hbl hb
  subst hx
  show br (decide ((k : Int) < (l.length : Int))) _ _ = _
  by_cases hkl : k < l.length
  · rw [br_pos (by simpa using hkl), w64_succ (by omega), andI_nat (by omega) (by omega)]
    have hand : (((k &&& 2 ^ s : Nat) : Int) == 0) = !k.testBit s := by
      rw [and_bit]
      cases k.testBit s
      · rfl
      · have := Nat.two_pow_pos s
        simp only [if_true, Bool.not_true, beq_eq_false_iff_ne]
        omega
    rw [hand]
    cases ht : k.testBit s with
    | false =>
      have hlt := clear_lt hs (by omega) ht
      rw [br_pos (by rfl), chk_pos (by omega)]
      have e : w64 ((k : Int) + ((2 ^ s : Nat) : Int)) = ((k + 2 ^ s : Nat) : Int) := by
        have : ((k : Int) + ((2 ^ s : Nat) : Int)) = ((k + 2 ^ s : Nat) : Int) := by push_cast; rfl
        rw [this]; exact w64_nat (by omega)
      have hlb : k + 2 ^ s < b.length := by rw [hbl, hl]; exact hlt
      rw [e, chk_pos ⟨Int.natCast_nonneg _, Int.ofNat_lt.2 hlb⟩, chk_pos (by omega), Int.toNat_natCast, Int.toNat_natCast]
      refine hrec _ ⟨k + 1, hkl, rfl, by simpa using hbl, fun j hj => ?_⟩ (by simp only [Int.toNat_natCast]; omega)
      simp only
      by_cases hjk : j = k
      · subst hjk
        rw [if_pos (Nat.lt_succ_self _)]
        simp only [List.getD_eq_getElem?_getD, List.getElem?_set_self (show j < b.length by omega), Option.getD_some]
        have h1 := hb j hj
        have h2 := hb (j + 2 ^ s) (by omega)
        rw [if_neg (by omega)] at h1
        rw [if_neg (show ¬ j + 2 ^ s < j from by have := Nat.two_pow_pos s; omega)] at h2
        rw [← List.getD_eq_getElem?_getD, ← List.getD_eq_getElem?_getD, h1, h2, wordAt, ht]; rfl
      · have h1 := hb j hj
        rw [List.getD_eq_getElem?_getD, List.getElem?_set_ne (Ne.symm hjk), ← List.getD_eq_getElem?_getD, h1]
        by_cases hlt2 : j < k
        · rw [if_pos hlt2, if_pos (show j < k + 1 by omega)]
        · rw [if_neg hlt2, if_neg (show ¬ j < k + 1 by omega)]
    | true =>
      rw [br_neg (by rfl)]
      refine hrec _ ⟨k + 1, hkl, rfl, hbl, fun j hj => ?_⟩ (by simp only [Int.toNat_natCast]; omega)
      have h1 := hb j hj
      simp only
      rw [h1]
      by_cases hjk : j = k
      · subst hjk
        rw [if_neg (by omega), if_pos (by omega), wordAt, ht]; rfl
      · by_cases hlt2 : j < k
        · rw [if_pos hlt2, if_pos (show j < k + 1 by omega)]
        · rw [if_neg hlt2, if_neg (show ¬ j < k + 1 by omega)]
  · rw [br_neg (by simpa using hkl)]
    have : b = stepL s l := ext_getD (by rw [hbl, stepL_length]) fun j hj => by
      rw [hbl] at hj
      rw [hb j hj, if_pos (by omega), stepL_getD s l j hj]
    rw [this]

noncomputable def wordOut {R : Type} (N : Nat) (K_1 : List Int → Option R) (rec1 : Int × List Int → Option R) : Int × List Int → Option R := fun (step, b13) =>
  br (decide (step < (b13.length : Int))) (
  jn (τ := List Int) (fun (b14 : List Int) =>
    rec1 (w64 (step * (2 : Int)), b14)) fun K_2 =>
  rds (wordIn step b13 K_2) N ((0 : Int), b13)) (
  K_1 b13)
theorem encode_b2 (N : Nat) : code_encode.b2 N = wordOut N := rfl
theorem cancel_b2 (N : Nat) : code_cancel.b2 N = wordOut N := rfl
/-- The word, by rounds. -/
noncomputable def wordL : Nat → List Int → List Int
  | 0, l => l
  | m + 1, l => stepL m (wordL m l)
theorem wordL_length : ∀ (m : Nat) (l : List Int), (wordL m l).length = l.length
  | 0, _ => rfl
  | m + 1, l => by rw [wordL, stepL_length, wordL_length m l]
theorem wordOut_eq {R : Type} (m : Nat) (hm : m ≤ 30) (l : List Int) (hl : l.length = 2 ^ m) (K : List Int → Option R) {N : Nat} (hN : 2 ^ m < N) :
    rds (wordOut N K) N (1, l) = K (wordL m l) := by
  have hbig : 2 ^ m ≤ 2 ^ 30 := Nat.pow_le_pow_right (by omega) hm
  refine rds_spec (fun x : Int × List Int => ∃ s : Nat, s ≤ m ∧ x = (((2 ^ s : Nat) : Int), wordL s l)) (fun x => 2 ^ m - x.1.toNat) (fun _ => K (wordL m l)) (fun rec x hI hrec => ?_) N (1, l) ⟨0, Nat.zero_le _, rfl⟩ (by simp; omega)
  obtain ⟨s, hs, rfl⟩ := hI
  show br (decide (((2 ^ s : Nat) : Int) < ((wordL s l).length : Int))) _ _ = _
  rw [wordL_length, hl]
  by_cases h : s < m
  · have hsm : 2 ^ s < 2 ^ m := Nat.pow_lt_pow_right (by omega) h
    rw [br_pos (by rw [decide_eq_true_iff]; exact Int.ofNat_lt.2 hsm), jn, wordIn_eq m s h hm _ (by rw [wordL_length, hl]) _ hN]
    have e : w64 (((2 ^ s : Nat) : Int) * 2) = ((2 ^ (s + 1) : Nat) : Int) := by
      have h1 : (((2 ^ s : Nat) : Int) * 2) = ((2 ^ (s + 1) : Nat) : Int) := by rw [Nat.pow_succ]; push_cast; rfl
      have h2 : 2 ^ (s + 1) ≤ 2 ^ m := Nat.pow_le_pow_right (by omega) h
      rw [h1]; exact w64_nat (by omega)
    rw [e]
    refine hrec _ ⟨s + 1, h, rfl⟩ ?_
    have h1 : 2 ^ s < 2 ^ (s + 1) := Nat.pow_lt_pow_right (by omega) (by omega)
    simp only [Int.toNat_natCast]
    omega
  · have : s = m := by omega
    subst this
    rw [br_neg (by simp)]
end Go.Sh

/-
  What the shallow functions of the code chapter come to: encoding.
-/
namespace Go.Sh
open Go.PW

/-- Bits at their places. -/
def place : List Int → List Int → List Int → List Int
  | x :: is, y :: ys, b => place is ys (b.set x.toNat y)
  | _, _, b => b
theorem place_length : ∀ (is ys b : List Int), (place is ys b).length = b.length
  | [], _, b => by simp [place]
  | _ :: _, [], b => by simp [place]
  | x :: is, y :: ys, b => by rw [place, place_length is ys]; simp
theorem getD_eq {l : List Int} {k : Nat} (h : k < l.length) : l.getD k 0 = l[k] := by simp [List.getD_eq_getElem?_getD, h]
theorem encode_eq {N q : Nat} (hq : q ≤ 6) (info bits : List Int) (hlen : bits.length = info.length) (hin : ∀ x ∈ info, 0 ≤ x ∧ x < ((2 ^ q : Nat) : Int)) (hl : info.length < 4611686018427387904) (hN : info.length < N) (hN2 : 64 < N) :
    code_encode N q info bits = some (wordL q (place info bits (List.replicate (2 ^ q) 0))) := by
  have h64 := pow_le6 hq
  unfold code_encode
  rw [chk_pos (by omega), shl1_pow (by omega), chk_pos ⟨Int.natCast_nonneg _, by have : ((2 ^ q : Nat) : Int) ≤ ((64 : Nat) : Int) := Int.ofNat_le.2 h64; omega⟩, jn, Int.toNat_natCast]
  refine rds_spec (fun x : Int × List Int => ∃ k : Nat, k ≤ info.length ∧ x.1 = k ∧ x.2.length = 2 ^ q ∧ place (info.drop k) (bits.drop k) x.2 = place info bits (List.replicate (2 ^ q) 0)) (fun x => info.length - x.1.toNat) (fun _ => some (wordL q (place info bits (List.replicate (2 ^ q) 0)))) (fun rec x hI hrec => ?_) N (0, List.replicate (2 ^ q) 0) ⟨0, Nat.zero_le _, rfl, by simp, rfl⟩ (by simp; omega)
  obtain ⟨k, hk, hx, hbl, hp⟩ := hI
  obtain ⟨i, b⟩ := x
  simp only at hx hbl hp
  subst hx
  show br (decide ((k : Int) < (info.length : Int))) _ _ = _
  by_cases hkl : k < info.length
  · have hm := hin info[k] (List.getElem_mem hkl)
    have hkb : k < bits.length := by omega
    rw [br_pos (by simpa using hkl), chk_pos (by omega), chk_pos (by omega), Int.toNat_natCast, getD_eq hkl, getD_eq hkb, chk_pos ⟨hm.1, by rw [hbl]; exact hm.2⟩, w64_succ (by omega)]
    refine hrec _ ⟨k + 1, hkl, rfl, by simpa using hbl, ?_⟩ (by simp only [Int.toNat_natCast]; omega)
    rw [← hp, List.drop_eq_getElem_cons hkl, List.drop_eq_getElem_cons hkb, place]
  · have hke : k = info.length := by omega
    have hb : b = place info bits (List.replicate (2 ^ q) 0) := by
      rw [← hp, hke, List.drop_length]
      simp [place]
    rw [br_neg (by simpa using hkl)]
    show rds (code_encode.b2 N fun b12 => some b12) N (1, b) = _
    rw [encode_b2, wordOut_eq q (by omega) b hbl _ (by omega), hb]
end Go.Sh

/-
  The word of a polar code, by halves.
-/
namespace Go.Sh
open Go.PW

theorem getD_left (a b : List Int) {j : Nat} (h : j < a.length) : (a ++ b).getD j 0 = a.getD j 0 := by
  rw [List.getD_eq_getElem?_getD, List.getElem?_append_left h, ← List.getD_eq_getElem?_getD]
theorem getD_right (a b : List Int) (i : Nat) : (a ++ b).getD (a.length + i) 0 = b.getD i 0 := by
  rw [List.getD_eq_getElem?_getD, List.getElem?_append_right (by omega), Nat.add_sub_cancel_left, ← List.getD_eq_getElem?_getD]
noncomputable def zipX (a b : List Int) : List Int := (List.range a.length).map fun i => xorI (a.getD i 0) (b.getD i 0)
theorem zipX_length (a b : List Int) : (zipX a b).length = a.length := by simp [zipX]
theorem zipX_getD (a b : List Int) {i : Nat} (h : i < a.length) : (zipX a b).getD i 0 = xorI (a.getD i 0) (b.getD i 0) := by
  simp [zipX, List.getD_eq_getElem?_getD, h]
theorem stepL_append {m s : Nat} (hs : s < m) (a b : List Int) (ha : a.length = 2 ^ m) (hb : b.length = 2 ^ m) : stepL s (a ++ b) = stepL s a ++ stepL s b := by
  refine ext_getD (by simp [stepL_length]) fun j hj => ?_
  rw [stepL_length, List.length_append] at hj
  rw [stepL_getD s _ j (by simpa using hj)]
  by_cases h : j < a.length
  · rw [getD_left _ _ (by rw [stepL_length]; exact h), stepL_getD s a j h, wordAt, wordAt, getD_left a b h]
    cases ht : j.testBit s with
    | true => rfl
    | false =>
      have := clear_lt hs (by omega) ht
      rw [getD_left a b (by omega)]
  · obtain ⟨i, rfl⟩ : ∃ i, j = a.length + i := ⟨j - a.length, by omega⟩
    have hi : i < b.length := by omega
    have e : (stepL s a ++ stepL s b).getD (a.length + i) 0 = (stepL s b).getD i 0 := by
      have := getD_right (stepL s a) (stepL s b) i
      rwa [stepL_length] at this
    rw [e, stepL_getD s b i hi, wordAt, wordAt, getD_right, Nat.add_assoc, getD_right]
    have ht : (a.length + i).testBit s = i.testBit s := by rw [ha]; exact Nat.testBit_two_pow_add_gt hs i
    rw [ht]
theorem stepL_last {m : Nat} (a b : List Int) (ha : a.length = 2 ^ m) (hb : b.length = 2 ^ m) : stepL m (a ++ b) = zipX a b ++ b := by
  refine ext_getD (by simp [stepL_length, zipX_length]) fun j hj => ?_
  rw [stepL_length, List.length_append] at hj
  rw [stepL_getD m _ j (by simpa using hj)]
  by_cases h : j < a.length
  · have ht : j.testBit m = false := Nat.testBit_lt_two_pow (by omega)
    rw [getD_left _ _ (by rw [zipX_length]; exact h), zipX_getD a b h, wordAt, ht, getD_left a b h]
    have : j + 2 ^ m = a.length + j := by omega
    rw [this, getD_right]; rfl
  · obtain ⟨i, rfl⟩ : ∃ i, j = a.length + i := ⟨j - a.length, by omega⟩
    have hi : i < b.length := by omega
    have e : (zipX a b ++ b).getD (a.length + i) 0 = b.getD i 0 := by
      have := getD_right (zipX a b) b i
      rwa [zipX_length] at this
    have ht : (a.length + i).testBit m = true := by
      rw [ha, Nat.testBit_two_pow_add_eq, Nat.testBit_lt_two_pow (by omega)]; rfl
    rw [e, wordAt, ht, getD_right]; rfl
theorem wordL_append (m : Nat) : ∀ (s : Nat), s ≤ m → ∀ (a b : List Int), a.length = 2 ^ m → b.length = 2 ^ m → wordL s (a ++ b) = wordL s a ++ wordL s b
  | 0, _, _, _, _, _ => rfl
  | s + 1, hs, a, b, ha, hb => by
    rw [wordL, wordL_append m s (by omega) a b ha hb, stepL_append (m := m) (s := s) (by omega) _ _ (by rw [wordL_length, ha]) (by rw [wordL_length, hb])]
    rfl
/-- **The word of two halves.** -/
theorem wordL_halves (m : Nat) (a b : List Int) (ha : a.length = 2 ^ m) (hb : b.length = 2 ^ m) : wordL (m + 1) (a ++ b) = zipX (wordL m a) (wordL m b) ++ wordL m b := by
  rw [wordL, wordL_append m m (Nat.le_refl _) a b ha hb, stepL_last _ _ (by rw [wordL_length, ha]) (by rw [wordL_length, hb])]
end Go.Sh

/-
  What the shallow functions of the code chapter come to: soft bits of a half.
-/
namespace Go.Sh
open Go.PW

def sgn (n : Int) : Int := if n < 0 then -1 else if n > 0 then 1 else 0
theorem size_eq (N : Nat) (n : Int) (h : -4611686018427387904 < n ∧ n < 4611686018427387904) : code_size N n = some (n.natAbs : Int) := by
  unfold code_size
  rw [w64_id (by omega)]
  congr 1
  split <;> omega
theorem sign_eq (N : Nat) (n : Int) : code_sign N n = some (sgn n) := by
  have hn : ∀ x : Int, (x != x) = false := fun x => by simp
  unfold code_sign cmp_Compare_int cmp_isNaN_int
  simp only [hn, bnd_val]
  rw [br_neg rfl, br_neg rfl]
  unfold sgn
  by_cases h : n < 0
  · rw [br_pos (by simpa using h), if_pos h]; rfl
  · rw [br_neg (by simpa using h), if_neg h]
    by_cases h1 : n > 0
    · rw [br_pos (by simpa using h1), if_pos h1]; rfl
    · rw [br_neg (by simpa using h1), if_neg h1]; rfl
/-- The soft bit of a place of the first half. -/
def leftAt (x y : Int) : Int := (if (y.natAbs : Int) < (x.natAbs : Int) then (y.natAbs : Int) else (x.natAbs : Int)) * sgn x * sgn y
def leftL (a b : List Int) : List Int := (List.range a.length).map fun i => leftAt (a.getD i 0) (b.getD i 0)
theorem leftL_length (a b : List Int) : (leftL a b).length = a.length := by simp [leftL]
theorem leftL_getD (a b : List Int) {i : Nat} (h : i < a.length) : (leftL a b).getD i 0 = leftAt (a.getD i 0) (b.getD i 0) := by
  simp [leftL, List.getD_eq_getElem?_getD, h]
/-- The soft bit of a place of the second half, the first half's word known. -/
def rightAt (w x y : Int) : Int := if w = 1 then y - x else y + x
def rightL (w a b : List Int) : List Int := (List.range a.length).map fun i => rightAt (w.getD i 0) (a.getD i 0) (b.getD i 0)
theorem rightL_length (w a b : List Int) : (rightL w a b).length = a.length := by simp [rightL]
theorem rightL_getD (w a b : List Int) {i : Nat} (h : i < a.length) : (rightL w a b).getD i 0 = rightAt (w.getD i 0) (a.getD i 0) (b.getD i 0) := by
  simp [rightL, List.getD_eq_getElem?_getD, h]
theorem sgn_cases (n : Int) : sgn n = -1 ∨ sgn n = 0 ∨ sgn n = 1 := by
  unfold sgn
  by_cases h : n < 0
  · rw [if_pos h]; exact .inl rfl
  · rw [if_neg h]
    by_cases h1 : n > 0
    · rw [if_pos h1]; exact .inr (.inr rfl)
    · rw [if_neg h1]; exact .inr (.inl rfl)
theorem leftAt_w64 (x y : Int) (hx : -4611686018427387904 < x ∧ x < 4611686018427387904) (hy : -4611686018427387904 < y ∧ y < 4611686018427387904) :
    w64 (w64 ((if (y.natAbs : Int) < (x.natAbs : Int) then (y.natAbs : Int) else (x.natAbs : Int)) * sgn x) * sgn y) = leftAt x y := by
  unfold leftAt
  generalize hm : (if (y.natAbs : Int) < (x.natAbs : Int) then (y.natAbs : Int) else (x.natAbs : Int)) = M
  have h1 : 0 ≤ M ∧ M < 4611686018427387904 := by rw [← hm]; split <;> omega
  rcases sgn_cases x with h | h | h <;> rcases sgn_cases y with h' | h' | h' <;> rw [h, h'] <;> rw [w64_id (n := M * _) (by omega), w64_id (by omega)]
end Go.Sh

/-
  What the shallow functions of the code chapter come to: the loops of cancelling.
-/
namespace Go.Sh
open Go.PW

theorem half_eq {a b : List Int} (hab : b.length = a.length) (hl : a.length < 1000000) : w64 (((a ++ b).length : Int).tdiv 2) = (a.length : Int) := by
  have e : (((a ++ b).length : Int).tdiv 2) = (a.length : Int) := by
    rw [List.length_append, hab, Int.tdiv_eq_ediv_of_nonneg (Int.natCast_nonneg _)]; omega
  rw [e]; exact w64_nat (by omega)
theorem take_half (a b : List Int) : (a ++ b).take a.length = a := by simp
theorem drop_half {a b : List Int} (hab : b.length = a.length) : ((a ++ b).drop a.length).take ((a ++ b).length - a.length) = b := by
  rw [List.drop_left, List.length_append, hab, Nat.add_sub_cancel, ← hab, List.take_length]
def inR (l : List Int) : Prop := ∀ i, i < l.length → -2305843009213693952 < l.getD i 0 ∧ l.getD i 0 < 2305843009213693952
theorem cancel_b1_eq {N : Nat} (a b : List Int) (hab : b.length = a.length) (hl : a.length < 1000000) (hN : a.length < N) (ha : inR a) (hb : inR b) (K : List Int → Option (List Int)) :
    rds (code_cancel.b1 N (a ++ b) K) N (0, List.replicate a.length 0) = K (leftL a b) := by
  refine rds_spec (fun x : Int × List Int => ∃ k : Nat, k ≤ a.length ∧ x.1 = k ∧ x.2.length = a.length ∧ ∀ j, j < k → x.2.getD j 0 = leftAt (a.getD j 0) (b.getD j 0)) (fun x => a.length - x.1.toNat) (fun _ => K (leftL a b)) (fun rec x hI hrec => ?_) N (0, List.replicate a.length 0) ⟨0, Nat.zero_le _, rfl, by simp, fun j hj => absurd hj (Nat.not_lt_zero _)⟩ (by simp; omega)
  obtain ⟨k, hk, hx, hcl, hc⟩ := hI
  obtain ⟨i, c⟩ := x
  simp only at hx hcl hc
  subst hx
  unfold code_cancel.b1
  simp only [half_eq hab hl, Int.toNat_natCast, take_half, drop_half hab]
  by_cases hkl : k < a.length
  · have h1 := ha k hkl
    have h2 := hb k (by omega)
    rw [br_pos (by simpa using hkl), chk_pos (by omega), size_eq N _ (by omega), bnd_val, chk_pos (by omega), size_eq N _ (by omega), bnd_val, chk_pos (by omega), sign_eq, bnd_val, chk_pos (by omega), sign_eq, bnd_val, chk_pos (by omega), w64_succ (by omega), leftAt_w64 _ _ (by omega) (by omega)]
    refine hrec _ ⟨k + 1, hkl, rfl, by simpa using hcl, fun j hj => ?_⟩ (by simp only [Int.toNat_natCast]; omega)
    simp only
    by_cases hjk : j = k
    · subst hjk
      rw [List.getD_eq_getElem?_getD, List.getElem?_set_self (by omega)]; rfl
    · rw [List.getD_eq_getElem?_getD, List.getElem?_set_ne (Ne.symm hjk), ← List.getD_eq_getElem?_getD]
      exact hc j (by omega)
  · rw [br_neg (by simpa using hkl)]
    have : c = leftL a b := ext_getD (by rw [hcl, leftL_length]) fun j hj => by rw [hc j (by omega), leftL_getD a b (by omega)]
    rw [this]
theorem cancel_b4_eq {N : Nat} (w c a b : List Int) (hab : b.length = a.length) (hw : w.length = a.length) (hcl0 : c.length = a.length) (hl : a.length < 1000000) (hN : a.length < N) (ha : inR a) (hb : inR b) (K : List Int → Option (List Int)) :
    rds (code_cancel.b4 N (a ++ b) K w) N (0, c) = K (rightL w a b) := by
  refine rds_spec (fun x : Int × List Int => ∃ k : Nat, k ≤ a.length ∧ x.1 = k ∧ x.2.length = a.length ∧ ∀ j, j < k → x.2.getD j 0 = rightAt (w.getD j 0) (a.getD j 0) (b.getD j 0)) (fun x => a.length - x.1.toNat) (fun _ => K (rightL w a b)) (fun rec x hI hrec => ?_) N (0, c) ⟨0, Nat.zero_le _, rfl, hcl0, fun j hj => absurd hj (Nat.not_lt_zero _)⟩ (by simp; omega)
  obtain ⟨k, hk, hx, hcl, hc⟩ := hI
  obtain ⟨i, c⟩ := x
  simp only at hx hcl hc
  subst hx
  unfold code_cancel.b4
  simp only [half_eq hab hl, Int.toNat_natCast, take_half, drop_half hab]
  by_cases hkl : k < a.length
  · have h1 := ha k hkl
    have h2 := hb k (by omega)
    rw [br_pos (by simp only [decide_eq_true_iff]; omega), chk_pos (by omega), chk_pos (by omega), chk_pos (by omega), chk_pos (by omega), w64_id (n := b.getD k 0 + a.getD k 0) (by omega), w64_id (n := b.getD k 0 - a.getD k 0) (by omega), w64_succ (by omega)]
    by_cases hw1 : w.getD k 0 = 1
    · rw [br_pos (by rw [hw1]; rfl), chk_pos (by omega), chk_pos (by omega), chk_pos (by rw [List.length_set]; omega), List.set_set]
      refine hrec _ ⟨k + 1, hkl, rfl, by simpa using hcl, fun j hj => ?_⟩ (by simp only [Int.toNat_natCast]; omega)
      simp only
      by_cases hjk : j = k
      · subst hjk
        rw [List.getD_eq_getElem?_getD, List.getElem?_set_self (by omega), rightAt, if_pos hw1]; rfl
      · rw [List.getD_eq_getElem?_getD, List.getElem?_set_ne (Ne.symm hjk), ← List.getD_eq_getElem?_getD]
        exact hc j (by omega)
    · rw [br_neg (by simpa using hw1)]
      refine hrec _ ⟨k + 1, hkl, rfl, by simpa using hcl, fun j hj => ?_⟩ (by simp only [Int.toNat_natCast]; omega)
      simp only
      by_cases hjk : j = k
      · subst hjk
        rw [List.getD_eq_getElem?_getD, List.getElem?_set_self (by omega), rightAt, if_neg hw1]; rfl
      · rw [List.getD_eq_getElem?_getD, List.getElem?_set_ne (Ne.symm hjk), ← List.getD_eq_getElem?_getD]
        exact hc j (by omega)
  · rw [br_neg (by simp only [decide_eq_false_iff_not]; omega)]
    have : c = rightL w a b := ext_getD (by rw [hcl, rightL_length]) fun j hj => by rw [hc j (by omega), rightL_getD w a b (by omega)]
    rw [this]
end Go.Sh

/-
  What the shallow functions of the code chapter come to: cancelling undoes the word, where the signs are right.
-/
namespace Go.Sh
open Go.PW

/-- A soft bit with the sign of a bit. -/
def signed (x w : Int) : Prop := (w = 0 ∧ 0 < x) ∨ (w = 1 ∧ x < 0)
theorem xorI_bits {a b : Int} (ha : a = 0 ∨ a = 1) (hb : b = 0 ∨ b = 1) : xorI a b = if a = b then 0 else 1 := by
  rcases ha with rfl | rfl <;> rcases hb with rfl | rfl
  · exact xorI_nat (a := 0) (b := 0) (by omega) (by omega)
  · exact xorI_nat (a := 0) (b := 1) (by omega) (by omega)
  · exact xorI_nat (a := 1) (b := 0) (by omega) (by omega)
  · exact xorI_nat (a := 1) (b := 1) (by omega) (by omega)
theorem signed_sgn {x w : Int} (h : signed x w) : sgn x = 1 - 2 * w := by
  rcases h with ⟨rfl, h⟩ | ⟨rfl, h⟩ <;> unfold sgn
  · rw [if_neg (by omega), if_pos h]; rfl
  · rw [if_pos h]; rfl
theorem left_signed {x y v w : Int} (hv : v = 0 ∨ v = 1) (hw : w = 0 ∨ w = 1) (hx : signed x (xorI v w)) (hy : signed y w) : signed (leftAt x y) v := by
  have hx0 : x ≠ 0 := by rcases hx with ⟨_, h⟩ | ⟨_, h⟩ <;> omega
  have hy0 : y ≠ 0 := by rcases hy with ⟨_, h⟩ | ⟨_, h⟩ <;> omega
  unfold leftAt
  rw [signed_sgn hx, signed_sgn hy, xorI_bits hv hw]
  generalize hm : (if (y.natAbs : Int) < (x.natAbs : Int) then (y.natAbs : Int) else (x.natAbs : Int)) = M
  have h1 : 0 < M := by rw [← hm]; split <;> omega
  rcases hv with rfl | rfl <;> rcases hw with rfl | rfl <;> simp [signed] <;> omega
theorem right_signed {x y v w : Int} (hv : v = 0 ∨ v = 1) (hw : w = 0 ∨ w = 1) (hx : signed x (xorI v w)) (hy : signed y w) : signed (rightAt v x y) w := by
  rw [xorI_bits hv hw] at hx
  unfold rightAt
  rcases hv with rfl | rfl <;> rcases hw with rfl | rfl <;> simp [signed] at hx hy ⊢ <;> omega
theorem left_size {x y B : Int} (hx : (x.natAbs : Int) ≤ B) (hy : (y.natAbs : Int) ≤ B) : ((leftAt x y).natAbs : Int) ≤ B := by
  unfold leftAt
  generalize hm : (if (y.natAbs : Int) < (x.natAbs : Int) then (y.natAbs : Int) else (x.natAbs : Int)) = M
  have h1 : 0 ≤ M ∧ M ≤ B := by rw [← hm]; split <;> omega
  rcases sgn_cases x with h | h | h <;> rcases sgn_cases y with h' | h' | h' <;> rw [h, h'] <;> omega
theorem right_size {v x y B : Int} (hx : (x.natAbs : Int) ≤ B) (hy : (y.natAbs : Int) ≤ B) : ((rightAt v x y).natAbs : Int) ≤ 2 * B := by
  unfold rightAt; split <;> omega
end Go.Sh

/-
  What the shallow functions of the code chapter come to: cancelling.
-/
namespace Go.Sh
open Go.PW

def bits (l : List Int) : Prop := ∀ i, i < l.length → l.getD i 0 = 0 ∨ l.getD i 0 = 1
theorem bits_getD {l : List Int} (h : bits l) (i : Nat) : l.getD i 0 = 0 ∨ l.getD i 0 = 1 := by
  by_cases hi : i < l.length
  · exact h i hi
  · exact .inl (by simp [List.getD_eq_getElem?_getD, List.getElem?_eq_none (Nat.le_of_not_lt hi)])
theorem xorI_bit {a b : Int} (ha : a = 0 ∨ a = 1) (hb : b = 0 ∨ b = 1) : xorI a b = 0 ∨ xorI a b = 1 := by
  rw [xorI_bits ha hb]; split <;> simp
theorem stepL_bits (s : Nat) {l : List Int} (h : bits l) : bits (stepL s l) := fun i hi => by
  rw [stepL_length] at hi
  rw [stepL_getD s l i hi, wordAt]
  split
  · exact h i hi
  · exact xorI_bit (bits_getD h _) (bits_getD h _)
theorem wordL_bits : ∀ (m : Nat) {l : List Int}, bits l → bits (wordL m l)
  | 0, _, h => h
  | m + 1, _, h => stepL_bits m (wordL_bits m h)

theorem cancel_eq {N : Nat} (isInfo : Int → Option Bool) (info : Nat → Bool) : ∀ (m : Nat), m ≤ 6 → 2 ^ m < N → ∀ (n : Nat), m < n → ∀ (soft u : List Int) (f : Nat) (B : Nat), soft.length = 2 ^ m → u.length = 2 ^ m → bits u →
    (∀ i, i < 2 ^ m → signed (soft.getD i 0) ((wordL m u).getD i 0)) → (∀ i, i < 2 ^ m → ((soft.getD i 0).natAbs : Int) ≤ B) → B * 2 ^ m ≤ 2 ^ 40 → (∀ i, i < 2 ^ m → isInfo ((f + i : Nat) : Int) = some (info (f + i))) →
    (∀ i, i < 2 ^ m → info (f + i) = false → u.getD i 0 = 0) → f + 2 ^ m ≤ 1000000 → rds (code_cancel.b N isInfo) n (soft, (f : Int)) = some u := by
  intro m
  induction m with
  | zero =>
    intro _ _ n hn soft u f B hs hu hb hsg _ _ hinfo h0 _
    obtain ⟨n, rfl⟩ : ∃ k, n = k + 1 := ⟨n - 1, by omega⟩
    obtain ⟨x, rfl⟩ := List.length_eq_one_iff.1 hs
    obtain ⟨y, rfl⟩ := List.length_eq_one_iff.1 hu
    have hx := hsg 0 (by simp)
    have hy := h0 0 (by simp)
    have hi := hinfo 0 (by simp)
    simp only [Nat.add_zero] at hi hy
    rw [rds_succ]
    show br (w64 ((([x] : List Int).length : Int).tdiv 2) == 0) _ _ = _
    have hz : w64 ((([x] : List Int).length : Int).tdiv 2) = 0 := by rw [show ((([x] : List Int).length : Int).tdiv 2) = 0 by rw [List.length_singleton]; decide]; exact w64_id (by decide)
    rw [hz, br_pos (by rfl), hi, bnd_val, chk_pos (by intro _; simp)]
    simp only [wordL, List.getD_cons_zero] at hx hy ⊢
    rcases hx with ⟨rfl, h⟩ | ⟨rfl, h⟩
    · rw [br_neg (by simp; intro _; omega)]
    · cases hf : info f with
      | true => rw [br_pos (by simpa using h)]
      | false => exact absurd (hy hf) (by decide)
  | succ m ih =>
    intro hm hN n hn soft u f B hs hu hb hsg hB hBm hinfo h0 hf
    obtain ⟨n, rfl⟩ : ∃ k, n = k + 1 := ⟨n - 1, by omega⟩
    have hp : 2 ^ (m + 1) = 2 ^ m + 2 ^ m := by rw [Nat.pow_succ]; omega
    have hpos := Nat.two_pow_pos m
    have h64 := pow_le6 hm
    obtain ⟨a, b, rfl, ha, hb'⟩ : ∃ a b, soft = a ++ b ∧ a.length = 2 ^ m ∧ b.length = 2 ^ m := ⟨soft.take (2 ^ m), soft.drop (2 ^ m), (List.take_append_drop _ _).symm, by rw [List.length_take]; omega, by rw [List.length_drop]; omega⟩
    obtain ⟨u1, u2, rfl, hu1, hu2⟩ : ∃ u1 u2, u = u1 ++ u2 ∧ u1.length = 2 ^ m ∧ u2.length = 2 ^ m := ⟨u.take (2 ^ m), u.drop (2 ^ m), (List.take_append_drop _ _).symm, by rw [List.length_take]; omega, by rw [List.length_drop]; omega⟩
    rw [wordL_halves m u1 u2 hu1 hu2] at hsg
    have hab : b.length = a.length := by omega
    have hal : a.length < 1000000 := by omega
    have hBB : B ≤ 2 ^ 40 := Nat.le_trans (Nat.le_mul_of_pos_right B (Nat.two_pow_pos _)) hBm
    have hra : inR a := fun i hi => by
      have := hB i (by omega)
      rw [getD_left a b hi] at this
      omega
    have hrb : inR b := fun i hi => by
      have := hB (a.length + i) (by omega)
      rw [getD_right] at this
      omega
    generalize hself : rds (code_cancel.b N isInfo) n = self at *
    rw [rds_succ, hself]
    show br (w64 (((a ++ b).length : Int).tdiv 2) == 0) _ _ = _
    simp only [half_eq hab hal, Int.toNat_natCast]
    rw [br_neg (by rw [beq_eq_false_iff_ne]; omega), chk_pos (by rw [List.length_append]; omega), chk_pos (by rw [List.length_append]; omega), chk_pos (by omega), jn, cancel_b1_eq a b hab hal (by omega) hra hrb]
    have hbu1 : bits u1 := fun i hi => by have := hb i (by rw [List.length_append]; omega); rwa [getD_left u1 u2 hi] at this
    have hbu2 : bits u2 := fun i hi => by have := hb (u1.length + i) (by rw [List.length_append]; omega); rwa [getD_right] at this
    have hw1 := wordL_bits m hbu1
    have hw2 := wordL_bits m hbu2
    have hsa : ∀ i, i < 2 ^ m → signed (a.getD i 0) (xorI ((wordL m u1).getD i 0) ((wordL m u2).getD i 0)) := fun i hi => by
      have := hsg i (by omega)
      rwa [getD_left a b (by omega), getD_left _ _ (by rw [zipX_length, wordL_length]; omega), zipX_getD _ _ (by rw [wordL_length]; omega)] at this
    have hsb : ∀ i, i < 2 ^ m → signed (b.getD i 0) ((wordL m u2).getD i 0) := fun i hi => by
      have := hsg (a.length + i) (by omega)
      have e : a.length + i = (zipX (wordL m u1) (wordL m u2)).length + i := by rw [zipX_length, wordL_length]; omega
      rw [getD_right] at this
      rwa [e, getD_right] at this
    have key1 : self (leftL a b, (f : Int)) = some u1 := by
      rw [← hself]
      refine ih (by omega) (by omega) n (by omega) (leftL a b) u1 f B (by rw [leftL_length, ha]) hu1 hbu1 (fun i hi => ?_) (fun i hi => ?_) ?_ (fun i hi => hinfo i (by omega)) (fun i hi h => ?_) (by omega)
      · rw [leftL_getD a b (by omega)]; exact left_signed (bits_getD hw1 i) (bits_getD hw2 i) (hsa i hi) (hsb i hi)
      · rw [leftL_getD a b (by omega)]
        have h1 := hB i (by omega)
        have h2 := hB (a.length + i) (by omega)
        rw [getD_left a b (by omega)] at h1
        rw [getD_right] at h2
        exact left_size h1 h2
      · rw [hp, Nat.mul_add] at hBm; omega
      · have := h0 i (by omega) h
        rwa [getD_left u1 u2 (by omega)] at this
    show bnd (self (leftL a b, (f : Int))) _ = _
    rw [key1, bnd_val]
    have key2 : self (rightL (wordL m u1) a b, ((f + a.length : Nat) : Int)) = some u2 := by
      rw [← hself]
      refine ih (by omega) (by omega) n (by omega) (rightL (wordL m u1) a b) u2 (f + a.length) (2 * B) (by rw [rightL_length, ha]) hu2 hbu2 (fun i hi => ?_) (fun i hi => ?_) ?_ (fun i hi => ?_) (fun i hi h => ?_) ?_
      · rw [rightL_getD _ a b (by omega)]; exact right_signed (bits_getD hw1 i) (bits_getD hw2 i) (hsa i hi) (hsb i hi)
      · rw [rightL_getD _ a b (by omega)]
        have h1 := hB i (by omega)
        have h2 := hB (a.length + i) (by omega)
        rw [getD_left a b (by omega)] at h1
        rw [getD_right] at h2
        exact right_size h1 h2
      · rw [hp, Nat.mul_add] at hBm; rw [Nat.mul_assoc]; omega
      · have := hinfo (a.length + i) (by omega)
        rwa [← Nat.add_assoc] at this
      · have := h0 (a.length + i) (by omega) (by rwa [← Nat.add_assoc])
        rw [ha, ← hu1] at this
        rwa [getD_right] at this
      · omega
    rw [jn, slices_Clone_ii, chk_pos (by omega), bnd_val, jn, cancel_b2, wordOut_eq m (by omega) u1 hu1 _ (by omega)]
    show rds (code_cancel.b4 N (a ++ b) _ (wordL m u1)) N (0, leftL a b) = _
    rw [cancel_b4_eq (wordL m u1) (leftL a b) a b hab (by rw [wordL_length]; omega) (leftL_length a b) hal (by omega) hra hrb]
    have e : w64 ((f : Int) + (a.length : Int)) = ((f + a.length : Nat) : Int) := by
      rw [w64_id (by omega)]; rfl
    show bnd (self (rightL (wordL m u1) a b, w64 ((f : Int) + (a.length : Int)))) _ = _
    rw [e, key2, bnd_val, chk_pos (by omega)]
end Go.Sh

/-
  What the shallow functions of the code chapter come to: looking up places, decoding.
-/
namespace Go.Sh
open Go.PW

/-- Numbers, each greater than the one ahead. -/
def rising (l : List Int) : Prop := ∀ i j, i < j → j < l.length → l.getD i 0 < l.getD j 0
theorem mid_eq {i j : Nat} (h : i < j) (hj : j < 1000000) : w64 (shrI (wu64 (w64 ((i : Int) + (j : Int)))) 1) = (((i + j) / 2 : Nat) : Int) := by
  have e1 : w64 ((i : Int) + (j : Int)) = ((i + j : Nat) : Int) := by rw [w64_id (by omega)]; rfl
  rw [e1, wu64_id (by omega)]
  have e2 := shrI_nat (a := i + j) (b := 1) (by omega)
  rw [show ((1 : Nat) : Int) = 1 from rfl, show 2 ^ 1 = 2 from rfl] at e2
  rw [e2]; exact w64_nat (by omega)
theorem Less_eq (N : Nat) (x y : Int) : cmp_Less_int N x y = some (decide (x < y)) := by
  have hn : ∀ x : Int, (x != x) = false := fun x => by simp
  unfold cmp_Less_int cmp_isNaN_int
  simp only [hn, bnd_val, grd_false, Bool.false_and, Bool.false_or]
theorem BinarySearch_b1_eq {N : Nat} (l : List Int) (t : Int) (hl : l.length < 1000000) (hN : l.length < N) (p : Nat) (hp : p ≤ l.length) (hlo : ∀ k, k < p → l.getD k 0 < t) (hhi : ∀ k, p ≤ k → k < l.length → ¬ l.getD k 0 < t) (K : Int → Option (Int × Bool)) :
    rds (slices_BinarySearch_ii.b1 N l t K) N (0, (l.length : Int)) = K (p : Int) := by
  refine rds_spec (fun x : Int × Int => ∃ i j : Nat, x = ((i : Int), (j : Int)) ∧ i ≤ p ∧ p ≤ j ∧ j ≤ l.length) (fun x => x.2.toNat - x.1.toNat) (fun _ => K (p : Int)) (fun rec x hI hrec => ?_) N (0, (l.length : Int)) ⟨0, l.length, rfl, Nat.zero_le _, hp, Nat.le_refl _⟩ (by simp; omega)
  obtain ⟨i, j, rfl, hi, hj, hjl⟩ := hI
  show br (decide ((i : Int) < (j : Int))) _ _ = _
  by_cases h : i < j
  · rw [br_pos (by simpa using h), mid_eq h (by omega), chk_pos (by omega), Less_eq, bnd_val, Int.toNat_natCast, w64_succ (by omega)]
    by_cases hc : l.getD ((i + j) / 2) 0 < t
    · rw [br_pos (by simpa using hc)]
      refine hrec _ ⟨(i + j) / 2 + 1, j, rfl, ?_, hj, hjl⟩ (by simp only [Int.toNat_natCast]; omega)
      by_cases hm : (i + j) / 2 < p
      · exact hm
      · exact absurd hc (hhi _ (by omega) (by omega))
    · rw [br_neg (by simpa using hc)]
      refine hrec _ ⟨i, (i + j) / 2, rfl, hi, ?_, by omega⟩ (by simp only [Int.toNat_natCast]; omega)
      by_cases hm : (i + j) / 2 < p
      · exact absurd (hlo _ hm) hc
      · omega
  · have : i = p := by omega
    subst this
    rw [br_neg (by simpa using h)]
theorem BinarySearch_eq {N : Nat} (l : List Int) (t : Int) (hr : rising l) (hl : l.length < 1000000) (hN : l.length < N) : ∃ i, slices_BinarySearch_ii N l t = some (i, decide (t ∈ l)) := by
  obtain ⟨p, hp, hlo, hhi⟩ : ∃ p, p ≤ l.length ∧ (∀ k, k < p → l.getD k 0 < t) ∧ (∀ k, p ≤ k → k < l.length → ¬ l.getD k 0 < t) := by
    have key : ∀ d, d ≤ l.length → ∃ p, p ≤ d ∧ (∀ k, k < p → l.getD k 0 < t) ∧ (∀ k, p ≤ k → k < d → ¬ l.getD k 0 < t) := by
      intro d
      induction d with
      | zero => intro _; exact ⟨0, Nat.le_refl _, fun k h => absurd h (Nat.not_lt_zero _), fun k _ h => absurd h (Nat.not_lt_zero _)⟩
      | succ d ih =>
        intro hd
        obtain ⟨p, h1, h2, h3⟩ := ih (by omega)
        by_cases hc : l.getD d 0 < t
        · refine ⟨d + 1, Nat.le_refl _, fun k hk => ?_, fun k h4 h5 => by omega⟩
          by_cases hkd : k = d
          · subst hkd; exact hc
          · exact Int.lt_trans (hr k d (by omega) (by omega)) hc
        · refine ⟨p, by omega, h2, fun k h4 h5 => ?_⟩
          by_cases hkd : k = d
          · subst hkd; exact hc
          · exact h3 k h4 (by omega)
    exact key l.length (Nat.le_refl _)
  refine ⟨p, ?_⟩
  unfold slices_BinarySearch_ii slices_isNaN_int
  rw [jn, BinarySearch_b1_eq l t hl hN p hp hlo hhi]
  have hn : ∀ x : Int, (x != x) = false := fun x => by simp
  simp only [hn, Int.toNat_natCast]
  rw [chk_pos (by simp only [decide_eq_true_iff]; omega), chk_pos (by simp only [Bool.and_eq_true, decide_eq_true_iff]; omega)]
  have g1 : ∀ g : Bool, grd g false (some false) = some false := fun g => by cases g <;> rfl
  rw [g1, bnd_val, g1, bnd_val]
  congr 2
  rw [Bool.eq_iff_iff]
  simp only [Bool.or_false, Bool.and_eq_true, decide_eq_true_iff, beq_iff_eq, Bool.and_false]
  constructor
  · rintro ⟨h1, h2⟩
    have h3 : p < l.length := by omega
    rw [← h2, getD_eq h3]; exact List.getElem_mem h3
  · intro h
    obtain ⟨k, hk, rfl⟩ := List.getElem_of_mem h
    have hk1 : ¬ k < p := fun h => by have := hlo k h; rw [getD_eq hk] at this; omega
    have hpk : p = k := by
      by_cases h : p < k
      · have h1 := hr p k h hk
        have h2 := hhi p (Nat.le_refl _) (by omega)
        rw [getD_eq hk] at h1
        exact absurd h1 h2
      · omega
    subst hpk
    exact ⟨by omega, getD_eq hk⟩
theorem decode_1_eq {N : Nat} (l : List Int) (p t : Int) (hr : rising l) (hl : l.length < 1000000) (hN : l.length < N) : code_decode_1 N t p l = some (decide (t ∈ l)) := by
  obtain ⟨i, h⟩ := BinarySearch_eq l t hr hl hN
  unfold code_decode_1
  rw [h]; rfl
theorem decode_b1_eq {N : Nat} (info x : List Int) (hin : ∀ k ∈ info, 0 ≤ k ∧ k < (x.length : Int)) (hl : info.length < 1000000) (hN : info.length < N) (K : List Int → Option (List Int)) :
    rds (code_decode.b1 N info x K) N (0, []) = K (info.map fun k => x.getD k.toNat 0) := by
  refine rds_spec (fun s : Int × List Int => ∃ k : Nat, k ≤ info.length ∧ s = ((k : Int), (info.take k).map fun k => x.getD k.toNat 0)) (fun s => info.length - s.1.toNat) (fun _ => K (info.map fun k => x.getD k.toNat 0)) (fun rec s hI hrec => ?_) N (0, []) ⟨0, Nat.zero_le _, by simp⟩ (by simp; omega)
  obtain ⟨k, hk, rfl⟩ := hI
  show br (decide ((k : Int) < (info.length : Int))) _ _ = _
  by_cases hkl : k < info.length
  · have hm := hin info[k] (List.getElem_mem hkl)
    rw [br_pos (by simpa using hkl), chk_pos (by omega), Int.toNat_natCast, getD_eq hkl, chk_pos hm, chk_pos (by simp; omega), w64_succ (by omega)]
    refine hrec _ ⟨k + 1, hkl, ?_⟩ (by simp only [Int.toNat_natCast]; omega)
    rw [List.take_succ_eq_append_getElem hkl, List.map_append]; rfl
  · have : k = info.length := by omega
    subst this
    rw [br_neg (by simp), List.take_length]
end Go.Sh

/-
  What the shallow functions of the code chapter come to: decoding.
-/
namespace Go.Sh
open Go.PW
theorem decode_eq {N q : Nat} (hq : q ≤ 6) (info soft u : List Int) (p : Int) (hr : rising info) (hin : ∀ x ∈ info, 0 ≤ x ∧ x < ((2 ^ q : Nat) : Int)) (hl : info.length < 1000000) (hN : info.length < N) (hN2 : 64 < N)
    (hs : soft.length = 2 ^ q) (hu : u.length = 2 ^ q) (hb : bits u) (hz : ∀ i, i < 2 ^ q → ((i : Nat) : Int) ∉ info → u.getD i 0 = 0)
    (hsg : ∀ i, i < 2 ^ q → signed (soft.getD i 0) ((wordL q u).getD i 0)) (hB : ∀ i, i < 2 ^ q → ((soft.getD i 0).natAbs : Int) ≤ 1000000) :
    code_decode N p info soft = some (info.map fun k => u.getD k.toNat 0) := by
  have h64 := pow_le6 hq
  unfold code_decode code_cancel
  have hc := cancel_eq (N := N) (fun y0 => code_decode_1 N y0 p info) (fun k => decide ((k : Int) ∈ info)) q hq (by omega) N (by omega) soft u 0 1000000 hs hu hb hsg hB (by have := Nat.mul_le_mul_left 1000000 h64; omega)
    (fun i hi => by rw [decode_1_eq info p _ hr hl hN]) (fun i hi h => hz i hi (by simpa using h)) (by omega)
  rw [show ((0 : Nat) : Int) = 0 from rfl] at hc
  rw [hc, bnd_val, jn, decode_b1_eq info u (fun k hk => by rw [hu]; exact hin k hk) hl hN]
end Go.Sh

/-
  What the exported functions of the code chapter come to: Encode, Decode.
-/
namespace Go.Sh
open Go.PW
theorem Encode_eq {N : Nat} (p : Int) (info l : List Int) (hi : info.length < 1000000) (hl : l.length < 1000000) (hN : info.length < N) (hN1 : l.length < N) (hN2 : 64 < N) :
    code_Encode N p info l = (let e := firstOf [polarErr p info, listErr 200 isBitB 15 l, if l.length = info.length then 0 else 10]; if e ≠ 0 then some ([], e) else bnd (code_encode N p info l) fun x => some (x, 0)) := by
  unfold code_Encode
  rw [CheckPolar_eq p info (by omega) hN (by omega), bnd_val, bitsErr_eq l (by omega) hN1 (by omega), bnd_val, unless_eq, bnd_val, first_eq _ (by simp) (by simp; omega), bnd_val]
  have e : (if ((l.length : Int) == (info.length : Int)) = true then (0 : Int) else 10) = if l.length = info.length then 0 else 10 := by
    by_cases h : l.length = info.length
    · rw [if_pos h, if_pos (by rw [h]; exact beq_self_eq_true _)]
    · rw [if_neg h, if_neg (by rw [beq_iff_eq]; omega)]
  rw [e]
  by_cases h : firstOf [polarErr p info, listErr 200 isBitB 15 l, if l.length = info.length then 0 else 10] = 0
  · simp only [h]; rfl
  · rw [br_pos (by rw [bne_iff_ne]; exact h)]; simp only [h, ne_eq, not_false_iff, if_true]
theorem Decode_eq {N q : Nat} (hq : q ≤ 6) (info l : List Int) (hi : info.length < 1000000) (hl : l.length < 1000000) (hN : info.length < N) (hN1 : l.length < N) (hN2 : 64 < N) (h1 : polarErr q info = 0) (h2 : listErr 400 isSoftB 2 l = 0) (h3 : l.length = 2 ^ q) :
    code_Decode N q info l = bnd (code_decode N q info l) fun x => some (x, 0) := by
  unfold code_Decode
  rw [CheckPolar_eq _ info (by omega) hN (by omega), bnd_val, softErr_eq l (by omega) hN1 (by omega), bnd_val, h1, h2, first_eq _ (by simp) (by simp; omega), bnd_val, br_neg (by rfl), chk_pos (by omega), shl1_pow (by omega), h3, br_neg (by simp)]
end Go.Sh

/-
  What the shallow functions of the code chapter come to: places and soft bits with the signs of a word.
-/
namespace Go.Sh
open Go.PW

theorem placesErr_zero (m : Int) : ∀ (l : List Int) (b : Int), placesErr m b l = 0 → (∀ x ∈ l, 0 ≤ x ∧ x ≤ m ∧ b < x) ∧ l.Pairwise (· < ·)
  | [], _, _ => ⟨by simp, List.Pairwise.nil⟩
  | x :: l, b, h => by
    rw [placesErr] at h
    by_cases h1 : 0 ≤ x ∧ x ≤ m
    · rw [if_neg (by simpa using h1)] at h
      by_cases h2 : x ≤ b
      · rw [if_pos h2] at h; exact absurd h (by decide)
      · rw [if_neg h2] at h
        obtain ⟨ih1, ih2⟩ := placesErr_zero m l x h
        refine ⟨fun y hy => ?_, List.pairwise_cons.2 ⟨fun y hy => (ih1 y hy).2.2, ih2⟩⟩
        rcases List.mem_cons.1 hy with rfl | hy
        · exact ⟨h1.1, h1.2, by omega⟩
        · have := ih1 y hy
          exact ⟨this.1, this.2.1, by omega⟩
    · rw [if_pos h1] at h; exact absurd h (by decide)
theorem polarErr_zero {p : Int} {l : List Int} (h : polarErr p l = 0) : ∃ q : Nat, q ≤ 6 ∧ p = q ∧ l ≠ [] ∧ (∀ x ∈ l, 0 ≤ x ∧ x < ((2 ^ q : Nat) : Int)) ∧ l.Pairwise (· < ·) := by
  unfold polarErr at h
  by_cases h1 : 0 ≤ p ∧ p ≤ 6
  · rw [if_neg (by simpa using h1)] at h
    by_cases h2 : l.length = 0
    · rw [if_pos h2] at h; exact absurd h (by decide)
    · rw [if_neg h2] at h
      obtain ⟨h3, h4⟩ := placesErr_zero _ _ _ h
      have e : ((2 ^ p.toNat : Nat) : Int) = 2 ^ p.toNat := by push_cast; rfl
      exact ⟨p.toNat, by omega, by omega, fun hn => h2 (by rw [hn]; rfl), fun x hx => ⟨(h3 x hx).1, by rw [e]; have := (h3 x hx).2.1; omega⟩, h4⟩
  · rw [if_pos h1] at h; exact absurd h (by decide)
theorem rising_of {l : List Int} (h : l.Pairwise (· < ·)) : rising l := fun i j hij hj => by
  rw [getD_eq hj, getD_eq (Nat.lt_trans hij hj)]
  exact List.pairwise_iff_getElem.1 h i j (Nat.lt_trans hij hj) hj hij
theorem pow_length_le {l : List Int} {q : Nat} (h : l.Pairwise (· < ·)) (hin : ∀ x ∈ l, 0 ≤ x ∧ x < ((2 ^ q : Nat) : Int)) : True := trivial
theorem place_getD_out : ∀ (is ys b : List Int) (j : Nat), (∀ x ∈ is, 0 ≤ x) → (j : Int) ∉ is → (place is ys b).getD j 0 = b.getD j 0
  | [], _, _, _, _, _ => by simp [place]
  | _ :: _, [], _, _, _, _ => by simp [place]
  | x :: is, y :: ys, b, j, h0, h => by
    rw [place, place_getD_out is ys _ j (fun z hz => h0 z (List.mem_cons_of_mem _ hz)) (fun hm => h (List.mem_cons_of_mem _ hm))]
    have hx := h0 x (List.mem_cons_self)
    have hne : x.toNat ≠ j := fun e => h (by rw [← e, Int.toNat_of_nonneg hx]; exact List.mem_cons_self)
    simp [List.getD_eq_getElem?_getD, List.getElem?_set, hne]
theorem place_map : ∀ (is ys b : List Int), is.Pairwise (· < ·) → (∀ x ∈ is, 0 ≤ x ∧ x < (b.length : Int)) → ys.length = is.length → (is.map fun k => (place is ys b).getD k.toNat 0) = ys
  | [], [], _, _, _, _ => rfl
  | x :: is, y :: ys, b, hp, hin, hl => by
    obtain ⟨hp1, hp2⟩ := List.pairwise_cons.1 hp
    have hx := hin x List.mem_cons_self
    have ih := place_map is ys (b.set x.toNat y) hp2 (fun z hz => by rw [List.length_set]; exact hin z (List.mem_cons_of_mem _ hz)) (by simpa using hl)
    rw [List.map_cons, place, ih, place_getD_out is ys _ x.toNat (fun z hz => (hin z (List.mem_cons_of_mem _ hz)).1) (fun hm => by
      rw [Int.toNat_of_nonneg hx.1] at hm
      exact absurd (hp1 x hm) (by omega))]
    have : x.toNat < b.length := by omega
    simp [List.getD_eq_getElem?_getD, this]
theorem bits_set {b : List Int} (h : bits b) (k : Nat) {y : Int} (hy : y = 0 ∨ y = 1) : bits (b.set k y) := fun i hi => by
  rw [List.length_set] at hi
  by_cases hk : k = i
  · subst hk; simpa [List.getD_eq_getElem?_getD, hi] using hy
  · have := h i hi
    simpa [List.getD_eq_getElem?_getD, List.getElem?_set, hk] using this
theorem place_bits : ∀ (is ys b : List Int), bits ys → bits b → bits (place is ys b)
  | [], _, _, _, h => by simpa [place] using h
  | _ :: _, [], _, _, h => by simpa [place] using h
  | x :: is, y :: ys, b, hy, h => by
    rw [place]
    refine place_bits is ys _ (fun i hi => ?_) (bits_set h _ ?_)
    · have := hy (i + 1) (by simpa using hi); simpa using this
    · have := hy 0 (by simp); simpa using this
theorem bits_of_all {l : List Int} (h : l.all isBitB = true) : bits l := fun i hi => by
  have hm : l.getD i 0 ∈ l := by rw [getD_eq hi]; exact List.getElem_mem hi
  have := List.all_eq_true.1 h _ hm
  simpa [isBitB] using this
theorem all_of_bits {l : List Int} (h : bits l) : l.all isBitB = true := by
  rw [List.all_eq_true]
  intro x hx
  obtain ⟨i, hi, rfl⟩ := List.mem_iff_getElem.1 hx
  have := h i hi
  rw [getD_eq hi] at this
  simpa [isBitB] using this
theorem bits_replicate (n : Nat) : bits (List.replicate n 0) := fun i hi => by
  left
  rw [getD_eq hi]; simp
theorem listErr_zero {most e : Int} {f : Int → Bool} {l : List Int} (he : e ≠ 0) (h : listErr most f e l = 0) : l.length ≠ 0 ∧ (l.length : Int) ≤ most ∧ l.all f = true := by
  unfold listErr at h
  by_cases h1 : l.length = 0
  · rw [if_pos h1] at h; exact absurd h (by decide)
  · rw [if_neg h1] at h
    by_cases h2 : (l.length : Int) > most
    · rw [if_pos h2] at h; exact absurd h (by decide)
    · rw [if_neg h2] at h
      cases h3 : l.all f
      · rw [h3] at h; exact absurd h he
      · exact ⟨h1, by omega, rfl⟩
theorem listErr_ok {most e : Int} {f : Int → Bool} {l : List Int} (h1 : l.length ≠ 0) (h2 : (l.length : Int) ≤ most) (h3 : l.all f = true) : listErr most f e l = 0 := by
  unfold listErr
  rw [if_neg h1, if_neg (by omega), if_pos h3]

/-- Soft bits with the signs of a word. -/
def softAt (w s : Int) : Int := (1 - 2 * w) * (1 + s % 1000000)
def softL (w sizes : List Int) : List Int := (List.range w.length).map fun i => softAt (w.getD i 0) (sizes.getD i 0)
theorem softL_length (w s : List Int) : (softL w s).length = w.length := by simp [softL]
theorem softL_getD (w s : List Int) {i : Nat} (h : i < w.length) : (softL w s).getD i 0 = softAt (w.getD i 0) (s.getD i 0) := by
  simp [softL, List.getD_eq_getElem?_getD, h]
theorem softAt_signed {w s : Int} (hw : w = 0 ∨ w = 1) : signed (softAt w s) w ∧ ((softAt w s).natAbs : Int) ≤ 1000000 ∧ isSoftB (softAt w s) = true := by
  have h1 := Int.emod_nonneg s (show (1000000 : Int) ≠ 0 by decide)
  have h2 := Int.emod_lt_of_pos s (show (0 : Int) < 1000000 by decide)
  unfold softAt isSoftB signed
  generalize s % 1000000 = m at *
  rcases hw with rfl | rfl
  · rw [show ((1 : Int) - 2 * 0) * (1 + m) = 1 + m by omega]
    exact ⟨Or.inl ⟨rfl, by omega⟩, by omega, by simp; omega⟩
  · rw [show ((1 : Int) - 2 * 1) * (1 + m) = -(1 + m) by omega]
    exact ⟨Or.inr ⟨rfl, by omega⟩, by omega, by simp; omega⟩
theorem softL_ok {w s : List Int} (hw : bits w) : (∀ i, i < w.length → signed ((softL w s).getD i 0) (w.getD i 0)) ∧ (∀ i, i < w.length → (((softL w s).getD i 0).natAbs : Int) ≤ 1000000) ∧ (softL w s).all isSoftB = true := by
  refine ⟨fun i hi => ?_, fun i hi => ?_, ?_⟩
  · rw [softL_getD w s hi]; exact (softAt_signed (hw i hi)).1
  · rw [softL_getD w s hi]; exact (softAt_signed (hw i hi)).2.1
  · rw [List.all_eq_true]
    intro x hx
    obtain ⟨i, hi, rfl⟩ := List.mem_map.1 hx
    exact (softAt_signed (hw i (by simpa using hi))).2.2
theorem softAt_w64 {w m : Int} (hw : w = 0 ∨ w = 1) (hm : 0 ≤ m ∧ m < 1000000) : w64 (w64 (1 - w64 (2 * w)) * w64 (1 + m)) = (1 - 2 * w) * (1 + m) := by
  rw [w64_id (n := 1 + m) (by omega)]
  rcases hw with rfl | rfl
  · rw [w64_id (n := 2 * 0) (by omega), w64_id (n := 1 - 2 * 0) (by omega)]
    exact w64_id (by omega)
  · rw [w64_id (n := 2 * 1) (by omega), w64_id (n := 1 - 2 * 1) (by omega)]
    exact w64_id (by omega)
def inI64 (l : List Int) : Prop := ∀ i, i < l.length → -9223372036854775808 ≤ l.getD i 0 ∧ l.getD i 0 ≤ 9223372036854775807
theorem Decoded_b1_eq {N : Nat} (w sizes : List Int) (hw : bits w) (hl : w.length < 1000000) (hs : w.length ≤ sizes.length) (hi : inI64 sizes) (hN : w.length < N) (K : List Int → Option Bool) :
    rds (law02_CodeDecoded.b1 N sizes w K) N (0, []) = K (softL w sizes) := by
  refine rds_spec (fun s : Int × List Int => ∃ k : Nat, k ≤ w.length ∧ s = ((k : Int), (List.range k).map fun i => softAt (w.getD i 0) (sizes.getD i 0))) (fun s => w.length - s.1.toNat) (fun _ => K (softL w sizes)) (fun rec s hI hrec => ?_) N (0, []) ⟨0, Nat.zero_le _, by simp⟩ (by simp; omega)
  obtain ⟨k, hk, rfl⟩ := hI
  show br (decide ((k : Int) < (w.length : Int))) _ _ = _
  by_cases hkl : k < w.length
  · rw [br_pos (by simpa using hkl), chk_pos (by omega), chk_pos (by omega), Int.toNat_natCast, Mod_eq _ _ _ (hi k (by omega)) (by decide), bnd_val, chk_pos (by simp; omega), w64_succ (by omega)]
    refine hrec _ ⟨k + 1, hkl, ?_⟩ (by simp only [Int.toNat_natCast]; omega)
    rw [softAt_w64 (bits_getD hw k) ⟨Int.emod_nonneg _ (by decide), Int.emod_lt_of_pos _ (by decide)⟩, List.range_succ, List.map_append]; rfl
  · have : k = w.length := by omega
    subst this
    rw [br_neg (by simp)]; rfl
end Go.Sh

/-
  Four examples of the code chapter.
-/
namespace Go.Sh
open Go.PW
theorem ex_Remainder {N : Nat} (hN : 100 < N) : code_Remainder N 3 3 [1] = some ([0, 1, 1], 0) := by
  have s3 : shlI 1 3 = 8 := by simpa using shl1_pow (p := 3) (by decide)
  have s2 : shlI 1 2 = 4 := by simpa using shl1_pow (p := 2) (by decide)
  have s0 : shlI 0 1 = 0 := by simpa using shlI_nat (a := 0) (b := 1) (by decide) (by decide)
  have a0 : andI 0 4 = 0 := by simpa using andI_nat (a := 0) (b := 4) (by decide) (by decide)
  have a1 : andI 0 7 = 0 := by simpa using andI_nat (a := 0) (b := 7) (by decide) (by decide)
  have x1 : xorI 0 3 = 3 := by simpa using xorI_nat (a := 0) (b := 3) (by decide) (by decide)
  have a2 : andI 3 4 = 0 := by simpa using andI_nat (a := 3) (b := 4) (by decide) (by decide)
  have a3 : andI 3 2 = 2 := by simpa using andI_nat (a := 3) (b := 2) (by decide) (by decide)
  have a4 : andI 3 1 = 1 := by simpa using andI_nat (a := 3) (b := 1) (by decide) (by decide)
  have r4 : shrI 4 1 = 2 := by simpa using shrI_nat (a := 4) (b := 1) (by decide)
  have r2 : shrI 2 1 = 1 := by simpa using shrI_nat (a := 2) (b := 1) (by decide)
  have r1 : shrI 1 1 = 0 := by simpa using shrI_nat (a := 1) (b := 1) (by decide)
  have w2 : w64 2 = 2 := w64_id (by decide)
  have w7 : w64 7 = 7 := w64_id (by decide)
  have w8 : w64 8 = 8 := w64_id (by decide)
  have w1 : w64 1 = 1 := w64_id (by decide)
  obtain ⟨n, rfl⟩ : ∃ n, N = n + 20 := ⟨N - 20, by omega⟩
  have c : code_CheckPoly (n + 20) 3 3 = some 0 := by
    simp [code_CheckPoly, within_eq, unless_eq, s3, w7, chk, first_eq, firstOf]
  have m : code_remainder (n + 20) 3 3 [1] = some [0, 1, 1] := by
    simp only [code_remainder, jn]
    rw [chk_pos (by simp [w2]), rds_succ, code_remainder.b1]
    simp [chk, w2, w7, w8, w1, s2, s0, a0, a1, x1]
    rw [rds_succ, code_remainder.b1]
    simp [chk, w2, s2]
    rw [rds_succ, code_remainder.b2]
    simp [chk, a2, r4]
    rw [rds_succ, code_remainder.b2]
    simp [chk, a3, r2]
    rw [rds_succ, code_remainder.b2]
    simp [chk, a4, r1]
    rw [rds_succ, code_remainder.b2]
    simp [chk, w2, s2, a2, a3, a4, r4, r2, r1]
  unfold code_Remainder
  rw [c, bnd_val, bitsErr_eq _ (by decide) (by simp) (by omega), bnd_val, first_eq _ (by simp) (by simp), bnd_val, m]
  rfl
theorem ex_word : wordL 2 (place [1, 2, 3] [1, 0, 1] (List.replicate (2 ^ 2) 0)) = [0, 0, 1, 1] := by
  have x00 : xorI 0 0 = 0 := by simpa using xorI_bits (a := 0) (b := 0) (by simp) (by simp)
  have x01 : xorI 0 1 = 1 := by simpa using xorI_bits (a := 0) (b := 1) (by simp) (by simp)
  have x10 : xorI 1 0 = 1 := by simpa using xorI_bits (a := 1) (b := 0) (by simp) (by simp)
  have x11 : xorI 1 1 = 0 := by simpa using xorI_bits (a := 1) (b := 1) (by simp) (by simp)
  have e : place [1, 2, 3] [1, 0, 1] (List.replicate (2 ^ 2) 0) = [0, 1, 0, 1] := by decide
  rw [e]
  simp [wordL, stepL, wordAt, List.range_succ, x00, x01, x10, x11, Nat.testBit]
theorem ex_polar : polarErr 2 [1, 2, 3] = 0 := by decide
theorem ex_in : ∀ x ∈ ([1, 2, 3] : List Int), 0 ≤ x ∧ x < ((2 ^ 2 : Nat) : Int) := by decide
theorem ex_Encode {N : Nat} (hN : 100 < N) : code_Encode N 2 [1, 2, 3] [1, 0, 1] = some ([0, 0, 1, 1], 0) := by
  rw [Encode_eq _ _ _ (by decide) (by decide) (by simp; omega) (by simp; omega) (by omega)]
  have h := encode_eq (N := N) (q := 2) (by decide) [1, 2, 3] [1, 0, 1] rfl ex_in (by decide) (by simp; omega) (by omega)
  rw [ex_word] at h
  rw [ex_polar, show listErr 200 isBitB 15 [1, 0, 1] = 0 by decide]
  rw [show ((2 : Nat) : Int) = 2 from rfl] at h
  rw [h]; rfl
theorem ex_Decode {N : Nat} (hN : 100 < N) : code_Decode N 2 [1, 2, 3] [4, 3, -2, -5] = some ([1, 0, 1], 0) := by
  have h := Decode_eq (N := N) (q := 2) (by decide) [1, 2, 3] [4, 3, -2, -5] (by decide) (by decide) (by simp; omega) (by simp; omega) (by omega) ex_polar (by decide) rfl
  rw [show ((2 : Nat) : Int) = 2 from rfl] at h
  rw [h, decode_eq (q := 2) (by decide) [1, 2, 3] [4, 3, -2, -5] (place [1, 2, 3] [1, 0, 1] (List.replicate (2 ^ 2) 0)) 2 (rising_of (by decide)) ex_in (by decide) (by simp; omega) (by omega) rfl rfl (by unfold bits; decide) ?_ ?_ ?_]
  · rfl
  · decide
  · rw [ex_word]; unfold signed; decide
  · decide
theorem ex_Match {N : Nat} (hN : 100 < N) : code_Match N [0, 0, 1, 1, 1] 1 7 = some ([0, 1, 1, 1, 0, 0, 1], 0) := by
  obtain ⟨n, rfl⟩ : ∃ n, N = n + 20 := ⟨N - 20, by omega⟩
  have m : code_match (n + 20) [0, 0, 1, 1, 1] 1 7 = some [0, 1, 1, 1, 0, 0, 1] := by
    simp only [code_match, jn]
    rw [rds_succ, code_match.b1]
    simp [chk, w64_eq]
    rw [rds_succ, code_match.b1]
    simp [chk, w64_eq]
    rw [rds_succ, code_match.b1]
    simp [chk, w64_eq]
    rw [rds_succ, code_match.b1]
    simp [chk, w64_eq]
    rw [rds_succ, code_match.b1]
    simp [chk, w64_eq]
    rw [rds_succ, code_match.b1]
    simp [chk, w64_eq]
    rw [rds_succ, code_match.b1]
    simp [chk, w64_eq]
    rw [rds_succ, code_match.b1]
    simp [chk, w64_eq]
  unfold code_Match
  rw [bitsErr_eq _ (by decide) (by simp) (by omega), bnd_val]
  simp only [code_isVersion, code_isCount, within_eq, unless_eq, bnd_val]
  rw [first_eq _ (by simp) (by simp), bnd_val, m]
  rfl
theorem awake_eq {N : Nat} (hN : 100 < N) : law02_awake N = some true := by
  unfold law02_awake law02_Poly law02_Polar
  simp only [bnd_val]
  rw [ex_Remainder hN, ex_Encode hN, ex_Decode hN, ex_Match hN]
  simp only [bnd_val]
  rw [Ints_eq _ _ (by decide) (by simp; omega), Ints_eq _ _ (by decide) (by simp; omega), Ints_eq _ _ (by decide) (by simp; omega), Ints_eq _ _ (by decide) (by simp; omega)]
  simp
end Go.Sh

/-
  RIGHT SIGNS ARE ENOUGH: the law's shallow function tells true.
-/
namespace Go.Sh
open Go.PW

theorem br_nt {α : Type} (a b : Option α) : br (!true) a b = b := rfl
theorem br_00 {α : Type} (a b : Option α) : br ((0 : Int) != 0) a b = b := rfl
theorem grd_same {α : Type} (g : Bool) (d : α) (x : Option α) (y : α) (h : g = true → x = some y) : grd g d x = some (if g then y else d) := by
  cases g
  · rfl
  · exact h rfl
theorem law_CodeDecoded {N : Nat} (p : Int) (info bits' sizes : List Int) (hi : inI64 sizes) (hN : 1000 < N) : law02_CodeDecoded N p info bits' sizes = some true := by
  unfold law02_CodeDecoded
  rw [awake_eq (by omega), bnd_val, br_nt]
  by_cases h1 : (info.length : Int) ≤ 66
  case neg =>
    simp [law02_small, h1]
  rw [law02_small, bnd_val, refCheckPolar_eq p info (by omega) (by omega) (by omega), decide_eq_true h1]
  simp only [Bool.not_true, Bool.not_false, grd_true, bnd_val, Bool.false_or]
  by_cases h2 : polarErr p info = 0
  case neg =>
    have : (polarErr p info != 0) = true := by rw [bne_iff_ne]; exact h2
    simp [this]
  obtain ⟨q, hq, rfl, hne, hin, hpw⟩ := polarErr_zero h2
  rw [h2]
  by_cases h3 : bits'.length = info.length
  case neg =>
    have : ((bits'.length : Int) != (info.length : Int)) = true := by rw [bne_iff_ne]; omega
    simp [this]
  have e3 : ((bits'.length : Int) != (info.length : Int)) = false := by rw [h3]; simp
  rw [e3, refBitsErr_eq bits' (by omega) (by omega)]
  simp only [Bool.or_false, bne_self_eq_false, Bool.not_false, grd_true, bnd_val]
  by_cases h4 : listErr 200 isBitB 15 bits' = 0
  case neg =>
    have : (listErr 200 isBitB 15 bits' != 0) = true := by rw [bne_iff_ne]; exact h4
    simp [this]
  obtain ⟨_, _, hall⟩ := listErr_zero (by decide) h4
  have hbits := bits_of_all hall
  have h64 := pow_le6 hq
  rw [h4, Length_eq info (by omega) (by omega)]
  simp only [bne_self_eq_false, Bool.false_or, Bool.not_false, grd_true, bnd_val]
  by_cases h5 : (sizes.length : Int) < ((2 ^ q : Nat) : Int)
  · rw [br_pos (by simpa using h5)]
  rw [br_neg (by simpa using h5), CopyPolar_eq _ _ _ (by omega), bnd_val, CopyInts_eq _ _ (by omega), bnd_val]
  have hEnc := Encode_eq (N := N) q info bits' (by omega) (by omega) (by omega) (by omega) (by omega)
  rw [h2, h4, if_pos h3] at hEnc
  rw [encode_eq hq info bits' h3 hin (by omega) (by omega) (by omega)] at hEnc
  have hu : (place info bits' (List.replicate (2 ^ q) 0)).length = 2 ^ q := by rw [place_length, List.length_replicate]
  have hub := place_bits info bits' (List.replicate (2 ^ q) 0) hbits (bits_replicate _)
  have hz : ∀ i, i < 2 ^ q → ((i : Nat) : Int) ∉ info → (place info bits' (List.replicate (2 ^ q) 0)).getD i 0 = 0 := fun i hi' hm => by
    rw [place_getD_out info bits' _ i (fun x hx => (hin x hx).1) hm, getD_eq (by simpa using hi')]; simp
  have hmap := place_map info bits' (List.replicate (2 ^ q) 0) hpw (fun x hx => by rw [List.length_replicate]; exact hin x hx) h3
  generalize place info bits' (List.replicate (2 ^ q) 0) = u at *
  have hw := wordL_bits q hub
  have hwl : (wordL q u).length = 2 ^ q := by rw [wordL_length, hu]
  have hEnc' : code_Encode N q info bits' = some (wordL q u, 0) := hEnc
  rw [hEnc', bnd_val]
  simp only [bne_self_eq_false, Bool.false_or, Bool.not_false, grd_true, bnd_val]
  rw [hwl]
  simp only [bne_self_eq_false, Bool.false_or, Bool.not_false, grd_true, bnd_val]
  rw [AreBits_eq _ (by omega) (by omega), bnd_val, all_of_bits hw]
  rw [br_nt]
  show rds (law02_CodeDecoded.b1 N sizes (wordL q u) _) N (0, []) = _
  rw [Decoded_b1_eq _ _ hw (by omega) (by omega) hi (by omega)]
  obtain ⟨hs1, hs2, hs3⟩ := softL_ok (s := sizes) hw
  rw [hwl] at hs1 hs2
  have hsl : (softL (wordL q u) sizes).length = 2 ^ q := by rw [softL_length, hwl]
  rw [Decode_eq hq info _ (by omega) (by omega) (by omega) (by omega) (by omega) h2 (listErr_ok (by have := Nat.two_pow_pos q; omega) (by omega) hs3) hsl]
  rw [decode_eq hq info _ u q (rising_of hpw) hin (by omega) (by omega) (by omega) hsl hu hub hz hs1 hs2, bnd_val, bnd_val, hmap, Ints_eq _ _ (show bits'.length < _ by omega) (show bits'.length < _ by omega)]
  simp
end Go.Sh

/-
  Plain words: loops that build a list, that fold, that look for a wrong element. For every program.
-/
namespace Go.PW

/-- A loop that appends one element a round. -/
theorem rds_map {α R : Type} (len : Nat) (f : Nat → α) (b : (Int × List α → Option R) → Int × List α → Option R) (K : List α → Option R)
    (hstep : ∀ k acc rec, k < len → acc.length = k → b rec ((k : Int), acc) = rec (((k + 1 : Nat) : Int), acc ++ [f k])) (hend : ∀ acc rec, acc.length = len → b rec ((len : Int), acc) = K acc)
    {N : Nat} (hN : len < N) : rds b N (0, []) = K ((List.range len).map f) := by
  refine rds_spec (fun s : Int × List α => ∃ k : Nat, k ≤ len ∧ s = ((k : Int), (List.range k).map f)) (fun s => len - s.1.toNat) (fun _ => K ((List.range len).map f)) (fun rec s hI hrec => ?_) N (0, []) ⟨0, Nat.zero_le _, by simp⟩ (by simp; omega)
  obtain ⟨k, hk, rfl⟩ := hI
  by_cases hkl : k < len
  · rw [hstep k _ rec hkl (by simp)]
    refine hrec _ ⟨k + 1, hkl, ?_⟩ (by simp only [Int.toNat_natCast]; omega)
    rw [List.range_succ, List.map_append]; rfl
  · have : k = len := by omega
    subst this
    exact hend _ rec (by simp)
/-- The same, the list in front. -/
theorem rds_mapR {α R : Type} (len : Nat) (f : Nat → α) (b : (List α × Int → Option R) → List α × Int → Option R) (K : List α → Option R)
    (hstep : ∀ k acc rec, k < len → acc.length = k → b rec (acc, (k : Int)) = rec (acc ++ [f k], ((k + 1 : Nat) : Int))) (hend : ∀ acc rec, acc.length = len → b rec (acc, (len : Int)) = K acc)
    {N : Nat} (hN : len < N) : rds b N ([], 0) = K ((List.range len).map f) := by
  refine rds_spec (fun s : List α × Int => ∃ k : Nat, k ≤ len ∧ s = ((List.range k).map f, (k : Int))) (fun s => len - s.2.toNat) (fun _ => K ((List.range len).map f)) (fun rec s hI hrec => ?_) N ([], 0) ⟨0, Nat.zero_le _, by simp⟩ (by simp; omega)
  obtain ⟨k, hk, rfl⟩ := hI
  by_cases hkl : k < len
  · rw [hstep k _ rec hkl (by simp)]
    refine hrec _ ⟨k + 1, hkl, ?_⟩ (by simp only [Int.toNat_natCast]; omega)
    rw [List.range_succ, List.map_append]; rfl
  · have : k = len := by omega
    subst this
    exact hend _ rec (by simp)
/-- So many rounds. -/
def itN {σ : Type} (g : Nat → σ → σ) : Nat → σ → σ
  | 0, s => s
  | n + 1, s => g n (itN g n s)
/-- A loop that folds, with what each round keeps. -/
theorem rds_it {σ R : Type} (len : Nat) (g : Nat → σ → σ) (I : Nat → σ → Prop) (b : (Int × σ → Option R) → Int × σ → Option R) (K : σ → Option R) {s : σ} (h0 : I 0 s)
    (hI : ∀ k s, k < len → I k s → I (k + 1) (g k s)) (hstep : ∀ k s rec, k < len → I k s → b rec ((k : Int), s) = rec (((k + 1 : Nat) : Int), g k s)) (hend : ∀ s rec, I len s → b rec ((len : Int), s) = K s)
    {N : Nat} (hN : len < N) : rds b N (0, s) = K (itN g len s) ∧ I len (itN g len s) := by
  have hIk : ∀ k, k ≤ len → I k (itN g k s) := fun k => by
    induction k with
    | zero => exact fun _ => h0
    | succ k ih => exact fun hk => hI k _ hk (ih (by omega))
  refine ⟨?_, hIk len (Nat.le_refl _)⟩
  refine rds_spec (fun x : Int × σ => ∃ k : Nat, k ≤ len ∧ x = ((k : Int), itN g k s)) (fun x => len - x.1.toNat) (fun _ => K (itN g len s)) (fun rec x hx hrec => ?_) N (0, s) ⟨0, Nat.zero_le _, rfl⟩ (by simp; omega)
  obtain ⟨k, hk, rfl⟩ := hx
  by_cases hkl : k < len
  · rw [hstep k _ rec hkl (hIk k hk)]
    exact hrec _ ⟨k + 1, hkl, rfl⟩ (by simp only [Int.toNat_natCast]; omega)
  · have : k = len := by omega
    subst this
    exact hend _ rec (hIk k hk)
/-- The same, the counter behind. -/
theorem rds_itR {σ R : Type} (len : Nat) (g : Nat → σ → σ) (I : Nat → σ → Prop) (b : (σ × Int → Option R) → σ × Int → Option R) (K : σ → Option R) {s : σ} (h0 : I 0 s)
    (hI : ∀ k s, k < len → I k s → I (k + 1) (g k s)) (hstep : ∀ k s rec, k < len → I k s → b rec (s, (k : Int)) = rec (g k s, ((k + 1 : Nat) : Int))) (hend : ∀ s rec, I len s → b rec (s, (len : Int)) = K s)
    {N : Nat} (hN : len < N) : rds b N (s, 0) = K (itN g len s) ∧ I len (itN g len s) := by
  have hIk : ∀ k, k ≤ len → I k (itN g k s) := fun k => by
    induction k with
    | zero => exact fun _ => h0
    | succ k ih => exact fun hk => hI k _ hk (ih (by omega))
  refine ⟨?_, hIk len (Nat.le_refl _)⟩
  refine rds_spec (fun x : σ × Int => ∃ k : Nat, k ≤ len ∧ x = (itN g k s, (k : Int))) (fun x => len - x.2.toNat) (fun _ => K (itN g len s)) (fun rec x hx hrec => ?_) N (s, 0) ⟨0, Nat.zero_le _, rfl⟩ (by simp; omega)
  obtain ⟨k, hk, rfl⟩ := hx
  by_cases hkl : k < len
  · rw [hstep k _ rec hkl (hIk k hk)]
    exact hrec _ ⟨k + 1, hkl, rfl⟩ (by simp only [Int.toNat_natCast]; omega)
  · have : k = len := by omega
    subst this
    exact hend _ rec (hIk k hk)
theorem any_drop {α : Type} (bad : α → Bool) (l : List α) (d : α) (k : Nat) (h : k < l.length) : (l.drop k).any bad = (bad (l.getD k d) || (l.drop (k + 1)).any bad) := by
  rw [List.drop_eq_getElem_cons h, List.any_cons]; simp [List.getD_eq_getElem?_getD, h]
/-- A loop that looks for a wrong element. -/
theorem rds_scan {α R : Type} (l : List α) (d : α) (bad : α → Bool) (e K : Option R) (b : (Int → Option R) → Int → Option R)
    (hstep : ∀ k rec, k < l.length → b rec (k : Int) = if bad (l.getD k d) = true then e else rec ((k + 1 : Nat) : Int)) (hend : ∀ rec, b rec (l.length : Int) = K)
    {N : Nat} (hN : l.length < N) : rds b N 0 = if l.any bad = true then e else K := by
  refine (rds_up1 l.length _ (fun k => if (l.drop k).any bad = true then e else K) (fun k rec hk hr => ?_) (fun rec => ?_) hN).trans (by simp)
  · rw [hstep k rec hk, hr, any_drop bad l d k hk]
    cases bad (l.getD k d) <;> simp
  · rw [hend]; simp
/-- Ways that meet with two values. -/
theorem br_K {τ R : Type} (c : Bool) (K : τ → Option R) (a b : τ) : br c (K a) (K b) = K (if c = true then a else b) := by cases c <;> rfl
theorem bnd_assoc {α β γ : Type} (x : Option α) (f : α → Option β) (g : β → Option γ) : bnd (bnd x f) g = bnd x fun a => bnd (f a) g := by cases x <;> rfl
end Go.PW

/-
  The bits of a version, gathered soft bits, sums of both.
-/
namespace Go.Sh
open Go.PW

def rangeErr (lo hi e n : Int) : Int := if lo ≤ n ∧ n ≤ hi then 0 else e
theorem unless_range (N : Nat) (lo hi e n : Int) : code_unless N (decide (lo ≤ n) && decide (n ≤ hi)) e = some (rangeErr lo hi e n) := by
  rw [unless_eq]; unfold rangeErr
  by_cases h1 : lo ≤ n <;> by_cases h2 : n ≤ hi <;> simp [h1, h2]
theorem isVersion_eq (N : Nat) (n : Int) : code_isVersion N n = some (decide (0 ≤ n) && decide (n ≤ 3)) := rfl
theorem isCount_eq (N : Nat) (n : Int) : code_isCount N n = some (decide (1 ≤ n) && decide (n ≤ 400)) := rfl
theorem isLength_eq (N : Nat) (n : Int) : code_isLength N n = some (decide (1 ≤ n) && decide (n ≤ 200)) := rfl
theorem refRange {lo hi e n : Int} : br (!(decide (lo ≤ n) && decide (n ≤ hi))) (some e) (some 0) = some (rangeErr lo hi e n) := by
  unfold rangeErr
  by_cases h1 : lo ≤ n <;> by_cases h2 : n ≤ hi <;> simp [h1, h2]
theorem VersionErr_eq (N : Nat) (n : Int) : ref02_VersionErr N n = some (rangeErr 0 3 15 n) := refRange
theorem CountErr_eq (N : Nat) (n : Int) : ref02_CountErr N n = some (rangeErr 1 400 2 n) := refRange
theorem LengthErr_eq (N : Nat) (n : Int) : ref02_LengthErr N n = some (rangeErr 1 200 2 n) := refRange
theorem rangeErr_zero {lo hi e n : Int} (he : e ≠ 0) (h : rangeErr lo hi e n = 0) : lo ≤ n ∧ n ≤ hi := by
  unfold rangeErr at h
  by_cases h1 : lo ≤ n ∧ n ≤ hi
  · exact h1
  · rw [if_neg h1] at h; exact absurd h he

/-- Sizes. -/
def sizeB (m x : Int) : Bool := decide (-m ≤ x) && decide (x ≤ m)
theorem isSoftB_size : isSoftB = sizeB 1000000 := rfl
theorem sizedErr_eq {N : Nat} (l : List Int) (count size : Int) (hs : 0 ≤ size ∧ size ≤ 4611686018427387904) (hl : l.length < 4611686018427387904) (hN : l.length < N) : ref02_sizedErr N l count size = some (listErr count (sizeB size) 2 l) := by
  unfold ref02_sizedErr listErr
  by_cases h0 : l.length = 0
  · rw [br_pos (by rw [h0]; rfl), if_pos h0]
  rw [br_neg (by rw [beq_eq_false_iff_ne]; omega), if_neg h0]
  by_cases h1 : (l.length : Int) > count
  · rw [br_pos (by simpa using h1), if_pos h1]
  rw [br_neg (by simpa using h1), if_neg h1]
  show rds (ref02_sizedErr.b1 N l size fun _ => some 0) N 0 = _
  rw [rds_scan l 0 (fun x => !sizeB size x) (some 2) (some 0) _ (fun k rec hk => ?_) (fun rec => ?_) hN]
  · by_cases h : l.all (sizeB size) = true
    · rw [if_neg (by rw [List.all_eq_not_any_not] at h; simpa using h), if_pos h]
    · rw [if_pos (by rw [List.all_eq_not_any_not] at h; simpa using h), if_neg h]
  · show br (decide ((k : Int) < (l.length : Int))) _ _ = _
    rw [br_pos (by simpa using hk), chk_pos (by omega), Within_eq, bnd_val, w64_id (n := 0 - size) (by omega), w64_succ (by omega), Int.toNat_natCast, show (0 : Int) - size = -size by omega]
    unfold sizeB
    cases h : (decide (-size ≤ l.getD k 0) && decide (l.getD k 0 ≤ size)) <;> simp
  · show br (decide ((l.length : Int) < (l.length : Int))) _ _ = _
    rw [br_neg (by simp)]
theorem sumsErr_eq {N : Nat} (l : List Int) (hl : l.length < 4611686018427387904) (hN : l.length < N) (hN3 : 3 < N) : code_sumsErr N l = some (listErr 200 (sizeB 1000000000) 2 l) := by
  unfold code_sumsErr
  rw [listErr_eq l 200 2 _ (sizeB 1000000000) (fun x _ => ?_) hl hN hN3, bnd_val]; · rfl
  unfold code_upTo_1
  rw [w64_id (by decide)]; rfl
theorem refSoftErr_eq {N : Nat} (l : List Int) (hl : l.length < 4611686018427387904) (hN : l.length < N) : ref02_SoftErr N l = some (listErr 400 isSoftB 2 l) := by
  unfold ref02_SoftErr
  rw [sizedErr_eq l _ _ (by decide) hl hN]; rfl
theorem refSumsErr_eq {N : Nat} (l : List Int) (hl : l.length < 4611686018427387904) (hN : l.length < N) : ref02_SumsErr N l = some (listErr 200 (sizeB 1000000000) 2 l) := by
  unfold ref02_SumsErr
  rw [sizedErr_eq l _ _ (by decide) hl hN]; rfl

/-- The place of a number. -/
def placeN (len v k : Nat) : Nat := (v * len / 4 + k) % len
theorem placeN_lt {len v k : Nat} (h : 0 < len) : placeN len v k < len := Nat.mod_lt _ h
theorem place_w64 {len v k : Nat} (h : 0 < len) (hl : len ≤ 1000) (hv : v ≤ 3) (hk : k ≤ 1000) :
    (w64 ((w64 ((w64 ((v : Int) * (len : Int))).tdiv (4 : Int))) + (k : Int))).tmod (len : Int) = (placeN len v k : Int) := by
  have h1 : v * len ≤ 3000 := Nat.le_trans (Nat.mul_le_mul hv hl) (by decide)
  have h2 : ((v : Int) * (len : Int)) = ((v * len : Nat) : Int) := by push_cast; rfl
  rw [h2, w64_nat (by omega), Int.tdiv_eq_ediv_of_nonneg (by omega), show (((v * len : Nat) : Int) / 4) = ((v * len / 4 : Nat) : Int) by push_cast; rfl, w64_nat (by omega)]
  rw [show (((v * len / 4 : Nat) : Int) + (k : Int)) = ((v * len / 4 + k : Nat) : Int) by push_cast; rfl, w64_nat (by omega), Int.tmod_eq_emod_of_nonneg (by omega)]
  unfold placeN; push_cast; rfl
theorem refplace_eq {N len v k : Nat} (h : 0 < len) (hl : len ≤ 1000) (hv : v ≤ 3) (hk : k ≤ 1000) : ref02_place N len v k = some (placeN len v k : Int) := by
  unfold ref02_place
  rw [chk_pos (by omega), place_w64 h hl hv hk]

def matchL (word : List Int) (v n : Nat) : List Int := (List.range n).map fun k => word.getD (placeN word.length v k) 0
theorem match_eq {N : Nat} (word : List Int) (v n : Nat) (h : 0 < word.length) (hl : word.length ≤ 1000) (hv : v ≤ 3) (hn : n ≤ 1000) (hN : n < N) : code_match N word v n = some (matchL word v n) := by
  unfold code_match jn
  refine rds_map n (fun k => word.getD (placeN word.length v k) 0) _ some (fun k acc rec hk ha => ?_) (fun acc rec _ => ?_) hN
  · show br (decide ((k : Int) < (n : Int))) _ _ = _
    have hp := placeN_lt (v := v) (k := k) h
    rw [br_pos (by simpa using hk), chk_pos (by omega), place_w64 h hl hv (by omega), chk_pos (by omega), chk_pos (by simp; omega), br_nt, w64_succ (by omega), Int.toNat_natCast]
  · show br (decide ((n : Int) < (n : Int))) _ _ = _
    rw [br_neg (by simp)]
theorem refMatch_eq {N : Nat} (word : List Int) (v n : Nat) (h : 0 < word.length) (hl : word.length ≤ 1000) (hv : v ≤ 3) (hn : n ≤ 1000) (hN : n < N) : ref02_Match N word v n = some (matchL word v n) := by
  unfold ref02_Match jn
  refine rds_map n (fun k => word.getD (placeN word.length v k) 0) _ some (fun k acc rec hk ha => ?_) (fun acc rec _ => ?_) hN
  · show br (decide ((k : Int) < (n : Int))) _ _ = _
    have hp := placeN_lt (v := v) (k := k) h
    rw [br_pos (by simpa using hk), refplace_eq h hl hv (by omega), bnd_val, chk_pos (by omega), chk_pos (by simp; omega), w64_succ (by omega), Int.toNat_natCast]
  · show br (decide ((n : Int) < (n : Int))) _ _ = _
    rw [br_neg (by simp)]
theorem Match_eq {N : Nat} (word : List Int) (v n : Int) (hl : word.length < 4611686018427387904) (hN : word.length < N) (hN2 : 400 < N) :
    code_Match N word v n = some (if firstOf [listErr 200 isBitB 15 word, rangeErr 0 3 15 v, rangeErr 1 400 2 n] = 0 then matchL word v.toNat n.toNat else [], firstOf [listErr 200 isBitB 15 word, rangeErr 0 3 15 v, rangeErr 1 400 2 n]) := by
  unfold code_Match
  rw [bitsErr_eq word hl hN (by omega), bnd_val, isVersion_eq, bnd_val, unless_range, bnd_val, isCount_eq, bnd_val, unless_range, bnd_val, first_eq _ (by simp) (by simp; omega), bnd_val]
  by_cases h : firstOf [listErr 200 isBitB 15 word, rangeErr 0 3 15 v, rangeErr 1 400 2 n] = 0
  · rw [if_pos h, h, br_00]
    obtain ⟨h1, h2, h3⟩ : listErr 200 isBitB 15 word = 0 ∧ rangeErr 0 3 15 v = 0 ∧ rangeErr 1 400 2 n = 0 := by
      simp only [firstOf] at h
      split at h
      · split at h
        · split at h
          · exact ⟨‹_›, ‹_›, ‹_›⟩
          · exact absurd h ‹_›
        · exact absurd h ‹_›
      · exact absurd h ‹_›
    obtain ⟨a1, a2, _⟩ := listErr_zero (by decide) h1
    obtain ⟨b1, b2⟩ := rangeErr_zero (by decide) h2
    obtain ⟨c1, c2⟩ := rangeErr_zero (by decide) h3
    have := match_eq (N := N) word v.toNat n.toNat (by omega) (by omega) (by omega) (by omega) (by omega)
    rw [Int.toNat_of_nonneg b1, Int.toNat_of_nonneg (by omega : 0 ≤ n)] at this
    rw [this, bnd_val]
  · rw [if_neg h, br_pos (by rw [bne_iff_ne]; exact h)]
end Go.Sh

/-
  The bits of a version, gathered soft bits, sums of both: the law's shallow function tells true.
-/
namespace Go.Sh
open Go.PW

theorem firstOf3 {a b c : Int} (h : firstOf [a, b, c] = 0) : a = 0 ∧ b = 0 ∧ c = 0 := by
  simp only [firstOf] at h
  split at h
  · split at h
    · split at h
      · exact ⟨‹_›, ‹_›, ‹_›⟩
      · exact absurd h ‹_›
    · exact absurd h ‹_›
  · exact absurd h ‹_›
noncomputable def gatherStep (soft : List Int) (len v k : Nat) (s : List Int) : List Int := s.set (placeN len v k) (w64 (s.getD (placeN len v k) 0 + soft.getD k 0))
noncomputable def gatherL (soft : List Int) (v len : Nat) : List Int := itN (gatherStep soft len v) soft.length (List.replicate len 0)
theorem gathered_eq {N : Nat} (soft : List Int) (v len : Nat) (hs : soft.length ≤ 1000) (h : 0 < len) (hl : len ≤ 1000) (hv : v ≤ 3) (hN : soft.length < N) : code_gathered N soft v len = some (gatherL soft v len) := by
  unfold code_gathered
  rw [chk_pos (by omega)]
  refine (rds_it soft.length (gatherStep soft len v) (fun _ s => s.length = len) _ some (s := List.replicate len 0) (by simp) (fun k s _ hs => by simpa [gatherStep] using hs) (fun k s rec hk hI => ?_) (fun s rec _ => ?_) hN).1
  · show br (decide ((k : Int) < (soft.length : Int))) _ _ = _
    have hp := placeN_lt (v := v) (k := k) h
    rw [br_pos (by simpa using hk), chk_pos (by omega), place_w64 h hl hv (by omega), chk_pos (by omega), chk_pos (by omega), chk_pos (by omega), br_nt, w64_succ (by omega), Int.toNat_natCast, Int.toNat_natCast]
    rfl
  · show br (decide ((soft.length : Int) < (soft.length : Int))) _ _ = _
    rw [br_neg (by simp)]
theorem refGathered_eq {N : Nat} (soft : List Int) (v len : Nat) (hs : soft.length ≤ 1000) (h : 0 < len) (hl : len ≤ 1000) (hv : v ≤ 3) (hN : soft.length < N) : ref02_Gathered N soft v len = some (gatherL soft v len) := by
  unfold ref02_Gathered
  rw [chk_pos (by omega)]
  refine (rds_it soft.length (gatherStep soft len v) (fun _ s => s.length = len) _ some (s := List.replicate len 0) (by simp) (fun k s _ hs => by simpa [gatherStep] using hs) (fun k s rec hk hI => ?_) (fun s rec _ => ?_) hN).1
  · show br (decide ((k : Int) < (soft.length : Int))) _ _ = _
    have hp := placeN_lt (v := v) (k := k) h
    rw [br_pos (by simpa using hk), refplace_eq h hl hv (by omega), bnd_val, chk_pos (by omega), chk_pos (by omega), chk_pos (by omega), w64_succ (by omega), Int.toNat_natCast, Int.toNat_natCast]
    rfl
  · show br (decide ((soft.length : Int) < (soft.length : Int))) _ _ = _
    rw [br_neg (by simp)]
theorem gatherL_length (soft : List Int) (v len : Nat) : (gatherL soft v len).length = len := by
  unfold gatherL
  generalize soft.length = n
  induction n with
  | zero => simp [itN]
  | succ n ih => rw [itN, gatherStep, List.length_set, ih]
theorem Gathered_eq {N : Nat} (soft : List Int) (v len : Int) (hl : soft.length < 4611686018427387904) (hN : soft.length < N) (hN2 : 400 < N) :
    code_Gathered N soft v len = some (if firstOf [listErr 400 isSoftB 2 soft, rangeErr 0 3 15 v, rangeErr 1 200 2 len] = 0 then gatherL soft v.toNat len.toNat else [], firstOf [listErr 400 isSoftB 2 soft, rangeErr 0 3 15 v, rangeErr 1 200 2 len]) := by
  unfold code_Gathered
  rw [softErr_eq soft hl hN (by omega), bnd_val, isVersion_eq, bnd_val, unless_range, bnd_val, isLength_eq, bnd_val, unless_range, bnd_val, first_eq _ (by simp) (by simp; omega), bnd_val]
  by_cases h : firstOf [listErr 400 isSoftB 2 soft, rangeErr 0 3 15 v, rangeErr 1 200 2 len] = 0
  · rw [if_pos h, h, br_00]
    obtain ⟨h1, h2, h3⟩ := firstOf3 h
    obtain ⟨a1, a2, _⟩ := listErr_zero (by decide) h1
    obtain ⟨b1, b2⟩ := rangeErr_zero (by decide) h2
    obtain ⟨c1, c2⟩ := rangeErr_zero (by decide) h3
    have := gathered_eq (N := N) soft v.toNat len.toNat (by omega) (by omega) (by omega) (by omega) (by omega)
    rw [Int.toNat_of_nonneg b1, Int.toNat_of_nonneg (by omega : 0 ≤ len)] at this
    rw [this, bnd_val]
  · rw [if_neg h, br_pos (by rw [bne_iff_ne]; exact h)]

noncomputable def sumL (a b : List Int) : List Int := (List.range a.length).map fun k => w64 (a.getD k 0 + b.getD k 0)
theorem sumL_length (a b : List Int) : (sumL a b).length = a.length := by simp [sumL]
theorem combined_eq {N : Nat} (a b : List Int) (h : b.length = a.length) (ha : a.length ≤ 1000) (hN : a.length < N) (hN3 : 3 < N) :
    code_combined N a b = some (if (sumL a b).all (sizeB 1000000000) = true then (sumL a b, 0) else ([], 8)) := by
  unfold code_combined jn
  refine (rds_map a.length (fun k => w64 (a.getD k 0 + b.getD k 0)) _ (fun l => bnd (slices_ContainsFunc_ii N l fun y0 => code_combined_1 N y0) fun x1 => br x1 (some ([], 8)) (some (l, 0))) (fun k acc rec hk hac => ?_) (fun acc rec _ => ?_) hN).trans ?_
  · show br (decide ((k : Int) < (a.length : Int))) _ _ = _
    rw [br_pos (by simpa using hk), chk_pos (by omega), chk_pos (by omega), chk_pos (by simp; omega), w64_succ (by omega), Int.toNat_natCast]
  · show br (decide ((a.length : Int) < (a.length : Int))) _ _ = _
    rw [br_neg (by simp)]
  · show bnd (slices_ContainsFunc_ii N (sumL a b) _) _ = _
    rw [ContainsFunc_eq (sumL a b) _ (fun x => !sizeB 1000000000 x) (fun x _ => ?_) (by rw [sumL_length]; omega) (by rw [sumL_length]; omega), bnd_val]
    · rw [List.all_eq_not_any_not]
      show br ((sumL a b).any fun x => !sizeB 1000000000 x) _ (some (sumL a b, 0)) = _
      cases (sumL a b).any fun x => !sizeB 1000000000 x <;> rfl
    · unfold code_combined_1 code_isSum code_upTo_1
      rw [w64_id (by decide)]; rfl
theorem refCombined_eq {N : Nat} (a b : List Int) (h0 : 0 < a.length) (ha : a.length ≤ 200) (hN : a.length < N) :
    ref02_Combined N a b = some (if a.length ≠ b.length then ([], 13) else if (sumL a b).all (sizeB 1000000000) = true then (sumL a b, 0) else ([], 8)) := by
  unfold ref02_Combined jn
  by_cases h : a.length = b.length
  case neg =>
    rw [br_pos (by rw [bne_iff_ne]; omega), if_pos h]
  rw [br_neg (by rw [h]; simp), if_neg (by simpa using h)]
  refine (rds_map a.length (fun k => w64 (a.getD k 0 + b.getD k 0)) _ (fun l => bnd (ref02_SumsErr N l) fun x1 => br (x1 != 0) (some ([], 8)) (some (l, 0))) (fun k acc rec hk hac => ?_) (fun acc rec _ => ?_) hN).trans ?_
  · show br (decide ((k : Int) < (a.length : Int))) _ _ = _
    rw [br_pos (by simpa using hk), chk_pos (by omega), chk_pos (by omega), chk_pos (by simp; omega), w64_succ (by omega), Int.toNat_natCast]
  · show br (decide ((a.length : Int) < (a.length : Int))) _ _ = _
    rw [br_neg (by simp)]
  · show bnd (ref02_SumsErr N (sumL a b)) _ = _
    rw [refSumsErr_eq _ (by rw [sumL_length]; omega) (by rw [sumL_length]; omega), bnd_val]
    unfold listErr
    rw [sumL_length, if_neg (by omega), if_neg (by omega)]
    show br _ _ (some (sumL a b, 0)) = _
    cases (sumL a b).all (sizeB 1000000000) <;> rfl
theorem Combined_eq {N : Nat} (a b : List Int) (hl : a.length < 4611686018427387904) (hl2 : b.length < 4611686018427387904) (hN : a.length < N) (hN2 : b.length < N) (hN3 : 400 < N) :
    code_Combined N a b = some (let e := firstOf [listErr 200 (sizeB 1000000000) 2 a, listErr 200 (sizeB 1000000000) 2 b, if a.length = b.length then 0 else 13]
      if e ≠ 0 then ([], e) else if (sumL a b).all (sizeB 1000000000) = true then (sumL a b, 0) else ([], 8)) := by
  unfold code_Combined
  rw [sumsErr_eq a hl hN (by omega), bnd_val, sumsErr_eq b hl2 hN2 (by omega), bnd_val, unless_eq, bnd_val, first_eq _ (by simp) (by simp; omega), bnd_val]
  have e : (if ((a.length : Int) == (b.length : Int)) = true then (0 : Int) else 13) = if a.length = b.length then 0 else 13 := by
    by_cases h : a.length = b.length
    · rw [if_pos h, if_pos (by rw [h]; exact beq_self_eq_true _)]
    · rw [if_neg h, if_neg (by rw [beq_iff_eq]; omega)]
  rw [e]
  by_cases h : firstOf [listErr 200 (sizeB 1000000000) 2 a, listErr 200 (sizeB 1000000000) 2 b, if a.length = b.length then 0 else 13] = 0
  · obtain ⟨h1, h2, h3⟩ := firstOf3 h
    obtain ⟨a1, a2, _⟩ := listErr_zero (by decide) h1
    have hb : b.length = a.length := by
      by_cases hb : a.length = b.length
      · exact hb.symm
      · rw [if_neg hb] at h3; exact absurd h3 (by decide)
    simp only [h]
    rw [br_00, combined_eq a b hb (by omega) hN (by omega), bnd_val]
    simp
  · rw [br_pos (by rw [bne_iff_ne]; exact h)]; simp only [h, ne_eq, not_false_iff, if_true]

theorem few_eq {N : Nat} {l : List Int} {m : Int} (hm : 0 ≤ m ∧ m ≤ 1000) : law02_few N l m = some (decide ((l.length : Int) ≤ 40) || (decide ((l.length : Int) > m) && decide ((l.length : Int) ≤ m + 2))) := by
  unfold law02_few
  rw [w64_id (by omega)]
theorem few_le {l : List Int} {m : Int} (hm : 0 ≤ m ∧ m ≤ 1000) (h : (decide ((l.length : Int) ≤ 40) || (decide ((l.length : Int) > m) && decide ((l.length : Int) ≤ m + 2))) = true) : l.length ≤ 1042 := by
  simp at h; omega
/-- The first error of three, as the law asks for it. -/
theorem chain3 {R : Type} (a b c : Int) (rest : Int → Option R) :
    jn (τ := Int) (fun d => jn (τ := Int) rest fun K => br (d == 0) (bnd (some c) fun x => K x) (K d)) (fun K => br (a == 0) (bnd (some b) fun x => K x) (K a)) = rest (firstOf [a, b, c]) := by
  unfold jn
  simp only [bnd_val, br_K, firstOf, beq_iff_eq]
  by_cases ha : a = 0
  · rw [if_pos ha, if_pos ha]
    by_cases hb : b = 0
    · rw [if_pos hb, if_pos hb]; by_cases hc : c = 0 <;> simp [hc]
    · rw [if_neg hb, if_neg hb]
  · rw [if_neg ha, if_neg ha, if_neg ha]
/-- The first error of two. -/
theorem chain2 {R : Type} (a b : Int) (rest : Int → Option R) : jn (τ := Int) rest (fun K => br (a == 0) (bnd (some b) fun x => K x) (K a)) = rest (firstOf [a, b]) := by
  unfold jn
  simp only [bnd_val, br_K, firstOf, beq_iff_eq]
  by_cases ha : a = 0
  · rw [if_pos ha, if_pos ha]; by_cases hb : b = 0 <;> simp [hb]
  · rw [if_neg ha, if_neg ha]
/-- A list with its error, held against the reference. -/
theorem held {N : Nat} (e : Int) (m : List Int) (ref : Option (List Int)) (rest : Option Bool) (h0 : e = 0 → ref = some m) (h1 : e ≠ 0 → m = []) (hl : m.length < 4611686018427387904) (hN : m.length < N) :
    (bnd (grd ((!((e != e) || ((e != (0 : Int)) && (decide ((m.length : Int) > (0 : Int)))))) && (e == (0 : Int))) default ref) fun x16 =>
      bnd (grd ((!((e != e) || ((e != (0 : Int)) && (decide ((m.length : Int) > (0 : Int)))))) && (e == (0 : Int))) false (base_Ints N m x16)) fun x17 =>
      br ((((e != e) || ((e != (0 : Int)) && (decide ((m.length : Int) > (0 : Int))))) || ((e == (0 : Int)) && (!x17)))) (some false) rest) = rest := by
  by_cases h : e = 0
  · subst h
    rw [h0 rfl]
    simp only [bne_self_eq_false, Bool.false_or, Bool.false_and, Bool.not_false, Bool.true_and, beq_self_eq_true, grd_true, bnd_val]
    rw [Ints_eq _ _ hl hN]
    simp
  · have hm := h1 h
    subst hm
    have e1 : (e == 0) = false := by rw [beq_eq_false_iff_ne]; exact h
    simp [e1]
theorem pairEq {N : Nat} {p q : List Int × Int} (h : p = q) (hl : p.1.length < 4611686018427387904) (hN : p.1.length < N) : (bnd (grd (p.2 == q.2) false (base_Ints N p.1 q.1)) fun x => some (p.2 == q.2 && x)) = some true := by
  subst h
  rw [beq_self_eq_true, grd_true, Ints_eq _ _ hl hN]; simp
theorem firstOf2 {a b : Int} (h : firstOf [a, b] = 0) : a = 0 ∧ b = 0 := by
  simp only [firstOf] at h
  split at h
  · split at h
    · exact ⟨‹_›, ‹_›⟩
    · exact absurd h ‹_›
  · exact absurd h ‹_›
theorem firstOf23 {a b c : Int} : firstOf [a, b, c] = if firstOf [a, b] = 0 then (if c = 0 then 0 else c) else firstOf [a, b] := by
  by_cases ha : a = 0
  · by_cases hb : b = 0 <;> simp [firstOf, ha, hb]
  · simp [firstOf, ha]
theorem law_CodeVersions {N : Nat} (l soft : List Int) (v n len : Int) (hN : 2000 < N) : law02_CodeVersions N l soft v n len = some true := by
  unfold law02_CodeVersions
  rw [awake_eq (by omega), bnd_val, br_nt, few_eq (by decide), bnd_val, few_eq (by decide)]
  cases f1 : (decide ((l.length : Int) ≤ 40) || (decide ((l.length : Int) > 200) && decide ((l.length : Int) ≤ 200 + 2)))
  · simp [f1, Within_eq]
  cases f2 : (decide ((soft.length : Int) ≤ 40) || (decide ((soft.length : Int) > 400) && decide ((soft.length : Int) ≤ 400 + 2)))
  · simp [f1, f2, Within_eq]
  have l1 := few_le (by decide) f1
  have l2 := few_le (by decide) f2
  simp only [f1, f2, Bool.not_true, Bool.not_false, grd_true, bnd_val, Bool.false_or, Bool.or_false, Within_eq]
  cases f3 : (decide (61 ≤ n) && decide (n ≤ 400))
  case true =>
    simp [f3]
  cases f4 : (decide (61 ≤ len) && decide (len ≤ 200))
  case true =>
    simp [f3, f4]
  simp only [f3, f4, Bool.not_true, Bool.not_false, grd_true, bnd_val, Bool.false_or, Bool.or_false, br_false]
  rw [CopyInts_eq _ _ (by omega), bnd_val, Match_eq l v n (by omega) (by omega) (by omega), bnd_val, CopyInts_eq _ _ (by omega), bnd_val, Gathered_eq soft v len (by omega) (by omega) (by omega), bnd_val]
  simp only [bnd_val]
  rw [Combined_eq l soft (by omega) (by omega) (by omega) (by omega) (by omega), bnd_val, refBitsErr_eq l (by omega) (by omega), bnd_val, VersionErr_eq, CountErr_eq]
  rw [chain3]
  refine (held _ _ _ _ (fun h => ?_) (fun h => if_neg h) ?_ ?_).trans ?_
  · rw [if_pos h]
    obtain ⟨h1, h2, h3⟩ := firstOf3 h
    obtain ⟨a1, a2, _⟩ := listErr_zero (by decide) h1
    obtain ⟨b1, b2⟩ := rangeErr_zero (by decide) h2
    obtain ⟨c1, c2⟩ := rangeErr_zero (by decide) h3
    have := refMatch_eq (N := N) l v.toNat n.toNat (by omega) (by omega) (by omega) (by omega) (by omega)
    rwa [Int.toNat_of_nonneg b1, Int.toNat_of_nonneg (by omega : 0 ≤ n)] at this
  · split
    · rename_i h
      obtain ⟨c1, c2⟩ := rangeErr_zero (by decide) (firstOf3 h).2.2
      simp only [matchL, List.length_map, List.length_range]; omega
    · simp
  · split
    · rename_i h
      obtain ⟨c1, c2⟩ := rangeErr_zero (by decide) (firstOf3 h).2.2
      simp only [matchL, List.length_map, List.length_range]; omega
    · simp; omega
  rw [refSoftErr_eq soft (by omega) (by omega), bnd_val, LengthErr_eq, chain3]
  refine (held _ _ _ _ (fun h => ?_) (fun h => if_neg h) ?_ ?_).trans ?_
  · rw [if_pos h]
    obtain ⟨h1, h2, h3⟩ := firstOf3 h
    obtain ⟨a1, a2, _⟩ := listErr_zero (by decide) h1
    obtain ⟨b1, b2⟩ := rangeErr_zero (by decide) h2
    obtain ⟨c1, c2⟩ := rangeErr_zero (by decide) h3
    have := refGathered_eq (N := N) soft v.toNat len.toNat (by omega) (by omega) (by omega) (by omega) (by omega)
    rwa [Int.toNat_of_nonneg b1, Int.toNat_of_nonneg (by omega : 0 ≤ len)] at this
  · split
    · rename_i h
      obtain ⟨c1, c2⟩ := rangeErr_zero (by decide) (firstOf3 h).2.2
      rw [gatherL_length]; omega
    · simp
  · split
    · rename_i h
      obtain ⟨c1, c2⟩ := rangeErr_zero (by decide) (firstOf3 h).2.2
      rw [gatherL_length]; omega
    · simp; omega
  rw [refSumsErr_eq l (by omega) (by omega), bnd_val, refSumsErr_eq soft (by omega) (by omega), chain2]
  rw [firstOf23]
  by_cases h : firstOf [listErr 200 (sizeB 1000000000) 2 l, listErr 200 (sizeB 1000000000) 2 soft] = 0
  · obtain ⟨h1, h2⟩ := firstOf2 h
    obtain ⟨a1, a2, _⟩ := listErr_zero (by decide) h1
    rw [br_pos (by rw [h]; rfl), refCombined_eq l soft (by omega) (by omega) (by omega), bnd_val]
    refine pairEq ?_ ?_ ?_
    · rw [if_pos h]
      by_cases hs : l.length = soft.length <;> simp [hs]
    · rw [if_pos h]
      by_cases hs : l.length = soft.length
      · cases ha : (sumL l soft).all (sizeB 1000000000) <;> simp [hs, sumL_length] <;> omega
      · simp [hs]
    · rw [if_pos h]
      by_cases hs : l.length = soft.length
      · cases ha : (sumL l soft).all (sizeB 1000000000) <;> simp [hs, sumL_length] <;> omega
      · simp [hs]; omega
  · rw [if_neg h, br_neg (by rw [beq_eq_false_iff_ne]; exact h)]
    refine pairEq (q := ([], firstOf [listErr 200 (sizeB 1000000000) 2 l, listErr 200 (sizeB 1000000000) 2 soft])) ?_ ?_ ?_
    · simp only [ne_eq, h, not_false_iff, if_true]
    · simp only [ne_eq, h, not_false_iff, if_true]; decide
    · simp only [ne_eq, h, not_false_iff, if_true]; simp; omega
end Go.Sh

/-
  Words of polar codes: weights.
-/
namespace Go.Sh
open Go.PW

/-- How many ones a number has. -/
def pcN : Nat → Nat
  | 0 => 0
  | n + 1 => (n + 1) % 2 + pcN ((n + 1) / 2)
theorem pcN_eq (n : Nat) : pcN n = n % 2 + pcN (n / 2) := by
  cases n with
  | zero => simp [pcN]
  | succ n => rw [pcN]
theorem pcN_high : ∀ (m i : Nat), i < 2 ^ m → pcN (2 ^ m + i) = pcN i + 1
  | 0, i, h => by
    have : i = 0 := by simpa using h
    subst this
    simp [pcN]
  | m + 1, i, h => by
    rw [Nat.pow_succ] at h ⊢
    rw [pcN_eq (2 ^ m * 2 + i), pcN_eq i, show (2 ^ m * 2 + i) % 2 = i % 2 by omega, show (2 ^ m * 2 + i) / 2 = 2 ^ m + i / 2 by omega, pcN_high m (i / 2) (by omega)]
    omega
/-- How many ones bits have. -/
def wt : List Int → Nat
  | [] => 0
  | x :: l => (if x = 1 then 1 else 0) + wt l
theorem wt_append : ∀ (a b : List Int), wt (a ++ b) = wt a + wt b
  | [], b => by simp [wt]
  | x :: a, b => by rw [List.cons_append, wt, wt, wt_append a b]; omega
theorem wt_zero : ∀ (n : Nat), wt (List.replicate n 0) = 0
  | 0 => rfl
  | n + 1 => by rw [List.replicate_succ, wt, wt_zero n]; rfl
theorem zipX_nil (b : List Int) : zipX [] b = [] := rfl
theorem zipX_cons (x : Int) (a : List Int) (y : Int) (b : List Int) : zipX (x :: a) (y :: b) = xorI x y :: zipX a b := by
  unfold zipX
  rw [List.length_cons, List.range_succ_eq_map, List.map_cons, List.map_map]
  rfl
theorem bits_cons {x : Int} {l : List Int} : bits (x :: l) ↔ (x = 0 ∨ x = 1) ∧ bits l := by
  constructor
  · intro h
    exact ⟨by simpa using h 0 (by simp), fun i hi => by simpa using h (i + 1) (by simpa using hi)⟩
  · rintro ⟨h1, h2⟩ i hi
    cases i with
    | zero => simpa using h1
    | succ i => simpa using h2 i (by simpa using hi)
theorem bits_append {a b : List Int} : bits (a ++ b) ↔ bits a ∧ bits b := by
  induction a with
  | nil => simp [bits]
  | cons x a ih => rw [List.cons_append, bits_cons, bits_cons, ih, and_assoc]
theorem zipX_bits : ∀ {a b : List Int}, bits a → bits b → b.length = a.length → bits (zipX a b)
  | [], _, _, _, _ => by rw [zipX_nil]; exact fun i hi => by simp at hi
  | x :: a, [], _, _, h => by simp at h
  | x :: a, y :: b, ha, hb, h => by
    rw [zipX_cons, bits_cons]
    exact ⟨xorI_bit (bits_cons.1 ha).1 (bits_cons.1 hb).1, zipX_bits (bits_cons.1 ha).2 (bits_cons.1 hb).2 (by simpa using h)⟩
theorem zipX_wt : ∀ {a b : List Int}, bits a → bits b → b.length = a.length → wt a ≤ wt (zipX a b) + wt b
  | [], _, _, _, _ => by simp [wt]
  | x :: a, [], _, _, h => by simp at h
  | x :: a, y :: b, ha, hb, h => by
    have ih := zipX_wt (bits_cons.1 ha).2 (bits_cons.1 hb).2 (by simpa using h)
    rw [zipX_cons, wt, wt, wt, xorI_bits (bits_cons.1 ha).1 (bits_cons.1 hb).1]
    rcases (bits_cons.1 ha).1 with rfl | rfl <;> rcases (bits_cons.1 hb).1 with rfl | rfl <;> simp <;> omega
theorem zipX_zero_left : ∀ {b : List Int}, bits b → zipX (List.replicate b.length 0) b = b
  | [], _ => rfl
  | y :: b, hb => by
    rw [List.length_cons, List.replicate_succ, zipX_cons, zipX_zero_left (bits_cons.1 hb).2, xorI_bits (by simp) (bits_cons.1 hb).1]
    rcases (bits_cons.1 hb).1 with rfl | rfl <;> rfl
theorem zipX_zero_right : ∀ {a : List Int}, bits a → zipX a (List.replicate a.length 0) = a
  | [], _ => rfl
  | y :: b, hb => by
    rw [List.length_cons, List.replicate_succ, zipX_cons, zipX_zero_right (bits_cons.1 hb).2, xorI_bits (bits_cons.1 hb).1 (by simp)]
    rcases (bits_cons.1 hb).1 with rfl | rfl <;> rfl
theorem zipX_self : ∀ {a : List Int}, bits a → zipX a a = List.replicate a.length 0
  | [], _ => rfl
  | y :: b, hb => by
    rw [List.length_cons, List.replicate_succ, zipX_cons, zipX_self (bits_cons.1 hb).2, xorI_bits (bits_cons.1 hb).1 (bits_cons.1 hb).1, if_pos rfl]
theorem zipX_append : ∀ {a b c d : List Int}, b.length = a.length → zipX (a ++ c) (b ++ d) = zipX a b ++ zipX c d
  | [], [], _, _, _ => rfl
  | x :: a, y :: b, c, d, h => by rw [List.cons_append, List.cons_append, zipX_cons, zipX_cons, List.cons_append, zipX_append (by simpa using h)]
theorem zipX_four : ∀ {a b c d : List Int}, bits a → bits b → bits c → bits d → b.length = a.length → c.length = a.length → d.length = a.length → zipX (zipX a b) (zipX c d) = zipX (zipX a c) (zipX b d)
  | [], [], [], [], _, _, _, _, _, _, _ => rfl
  | x :: a, y :: b, z :: c, w :: d, ha, hb, hc, hd, h1, h2, h3 => by
    have hx := (bits_cons.1 ha).1
    have hy := (bits_cons.1 hb).1
    have hz := (bits_cons.1 hc).1
    have hw := (bits_cons.1 hd).1
    rw [zipX_cons, zipX_cons, zipX_cons, zipX_cons, zipX_cons, zipX_cons, zipX_four (bits_cons.1 ha).2 (bits_cons.1 hb).2 (bits_cons.1 hc).2 (bits_cons.1 hd).2 (by simpa using h1) (by simpa using h2) (by simpa using h3)]
    congr 1
    rw [xorI_bits (xorI_bit hx hy) (xorI_bit hz hw), xorI_bits (xorI_bit hx hz) (xorI_bit hy hw), xorI_bits hx hy, xorI_bits hz hw, xorI_bits hx hz, xorI_bits hy hw]
    rcases hx with rfl | rfl <;> rcases hy with rfl | rfl <;> rcases hz with rfl | rfl <;> rcases hw with rfl | rfl <;> rfl

/-- A list in halves. -/
theorem halves {l : List Int} {m : Nat} (h : l.length = 2 ^ (m + 1)) : ∃ a b, l = a ++ b ∧ a.length = 2 ^ m ∧ b.length = 2 ^ m := by
  have hp : 2 ^ (m + 1) = 2 ^ m + 2 ^ m := by rw [Nat.pow_succ]; omega
  exact ⟨l.take (2 ^ m), l.drop (2 ^ m), (List.take_append_drop _ _).symm, by rw [List.length_take]; omega, by rw [List.length_drop]; omega⟩
theorem wordL_zipX : ∀ (m : Nat) {a b : List Int}, a.length = 2 ^ m → b.length = 2 ^ m → bits a → bits b → wordL m (zipX a b) = zipX (wordL m a) (wordL m b)
  | 0, a, b, _, _, _, _ => rfl
  | m + 1, a, b, ha, hb, ba, bb => by
    obtain ⟨a1, a2, rfl, ha1, ha2⟩ := halves ha
    obtain ⟨b1, b2, rfl, hb1, hb2⟩ := halves hb
    rw [bits_append] at ba bb
    rw [zipX_append (by omega), wordL_halves m _ _ (by rw [zipX_length, ha1]) (by rw [zipX_length, ha2]), wordL_halves m a1 a2 ha1 ha2, wordL_halves m b1 b2 hb1 hb2, wordL_zipX m ha1 hb1 ba.1 bb.1, wordL_zipX m ha2 hb2 ba.2 bb.2]
    rw [zipX_append (by rw [zipX_length, zipX_length, wordL_length, wordL_length]; omega), zipX_four (wordL_bits m ba.1) (wordL_bits m bb.1) (wordL_bits m ba.2) (wordL_bits m bb.2) (by rw [wordL_length, wordL_length]; omega) (by rw [wordL_length, wordL_length]; omega) (by rw [wordL_length, wordL_length]; omega)]
theorem rep_halves (m : Nat) : List.replicate (2 ^ (m + 1)) (0 : Int) = List.replicate (2 ^ m) 0 ++ List.replicate (2 ^ m) 0 := by
  rw [List.replicate_append_replicate]; congr 1; rw [Nat.pow_succ]; omega
theorem wordL_zero : ∀ (m : Nat), wordL m (List.replicate (2 ^ m) 0) = List.replicate (2 ^ m) 0
  | 0 => rfl
  | m + 1 => by
    rw [rep_halves, wordL_halves m _ _ (by simp) (by simp), wordL_zero m]
    have := zipX_self (bits_replicate (2 ^ m))
    rw [List.length_replicate] at this
    rw [this]
theorem getD_append (a b : List Int) (i : Nat) : (a ++ b).getD i 0 = if i < a.length then a.getD i 0 else b.getD (i - a.length) 0 := by
  simp only [List.getD_eq_getElem?_getD, List.getElem?_append]
  split <;> rfl
theorem all_zero {a : List Int} (h : ∀ i, i < a.length → a.getD i 0 = 0) : a = List.replicate a.length 0 := by
  refine ext_getD (by simp) fun j hj => ?_
  rw [h j hj, getD_eq (by simpa using hj)]; simp
/-- **The least weight.** -/
theorem least_weight : ∀ (m : Nat) {u : List Int}, u.length = 2 ^ m → bits u → (∃ i, i < 2 ^ m ∧ u.getD i 0 = 1) → ∃ i, i < 2 ^ m ∧ u.getD i 0 = 1 ∧ 2 ^ pcN i ≤ wt (wordL m u)
  | 0, u, hu, _, ⟨i, hi, h1⟩ => by
    obtain ⟨y, rfl⟩ := List.length_eq_one_iff.1 hu
    have hi0 : i = 0 := by simpa using hi
    subst hi0
    refine ⟨0, hi, h1, ?_⟩
    have : y = 1 := by simpa using h1
    subst this
    simp [wordL, wt, pcN]
  | m + 1, u, hu, hb, ⟨i, hi, h1⟩ => by
    obtain ⟨a, b, rfl, ha, hb'⟩ := halves hu
    rw [bits_append] at hb
    have hp : 2 ^ (m + 1) = 2 ^ m + 2 ^ m := by rw [Nat.pow_succ]; omega
    rw [wordL_halves m a b ha hb', wt_append]
    by_cases hz : ∃ j, j < 2 ^ m ∧ a.getD j 0 = 1
    · obtain ⟨j, hj, hj1, hw⟩ := least_weight m ha hb.1 hz
      refine ⟨j, by omega, by rw [getD_append, if_pos (by omega)]; exact hj1, Nat.le_trans hw ?_⟩
      exact zipX_wt (wordL_bits m hb.1) (wordL_bits m hb.2) (by rw [wordL_length, wordL_length]; omega)
    · have ha0 : a = List.replicate (2 ^ m) 0 := by
        rw [← ha]
        refine all_zero fun j hj => ?_
        rcases hb.1 j hj with h | h
        · exact h
        · exact absurd ⟨j, by omega, h⟩ hz
      have hbz : ∃ j, j < 2 ^ m ∧ b.getD j 0 = 1 := by
        rw [getD_append] at h1
        by_cases hia : i < a.length
        · rw [if_pos hia] at h1; exact absurd ⟨i, by omega, h1⟩ hz
        · rw [if_neg hia] at h1; exact ⟨i - a.length, by omega, h1⟩
      obtain ⟨j, hj, hj1, hw⟩ := least_weight m hb' hb.2 hbz
      refine ⟨2 ^ m + j, by omega, by rw [getD_append, if_neg (by omega), ha, Nat.add_sub_cancel_left]; exact hj1, ?_⟩
      have hz2 := zipX_zero_left (wordL_bits m hb.2)
      rw [wordL_length, hb'] at hz2
      rw [pcN_high m j hj, Nat.pow_succ, ha0, wordL_zero, hz2]
      omega
/-- The weight of a row. -/
theorem unit_weight : ∀ (m i : Nat), i < 2 ^ m → wt (wordL m ((List.replicate (2 ^ m) 0).set i 1)) = 2 ^ pcN i
  | 0, i, h => by
    have : i = 0 := by simpa using h
    subst this
    simp [wordL, wt, pcN]
  | m + 1, i, h => by
    have hp : 2 ^ (m + 1) = 2 ^ m + 2 ^ m := by rw [Nat.pow_succ]; omega
    have hbu : ∀ k, bits ((List.replicate (2 ^ m) (0 : Int)).set k 1) := fun k => bits_set (bits_replicate _) k (.inr rfl)
    rw [rep_halves]
    by_cases hi : i < 2 ^ m
    · rw [List.set_append_left _ _ (by simpa using hi), wordL_halves m _ _ (by simp) (by simp), wordL_zero, wt_append, wt_zero, Nat.add_zero]
      have := zipX_zero_right (wordL_bits m (hbu i))
      rw [wordL_length, List.length_set, List.length_replicate] at this
      rw [this, unit_weight m i hi]
    · rw [List.set_append_right _ _ (by simpa using hi), List.length_replicate, wordL_halves m _ _ (by simp) (by simp), wordL_zero, wt_append]
      have := zipX_zero_left (wordL_bits m (hbu (i - 2 ^ m)))
      rw [wordL_length, List.length_set, List.length_replicate] at this
      rw [this, unit_weight m (i - 2 ^ m) (by omega)]
      have hpc := pcN_high m (i - 2 ^ m) (by omega)
      rw [show 2 ^ m + (i - 2 ^ m) = i by omega] at hpc
      rw [hpc, Nat.pow_succ]; omega
end Go.Sh

/-
  Checks of bits: the register, its steps, what it shows. Plain Lean.
-/
namespace Go.Sh
open Go.PW

/-- One step of the register. -/
def stepR (d t r : Nat) (b : Bool) : Nat := ((r <<< 1) % 2 ^ d) ^^^ (if (r.testBit (d - 1) ^^ b) = true then t else 0)
def isOne (x : Int) : Bool := x == 1
def runR (d t : Nat) : Nat → List Int → Nat
  | r, [] => r
  | r, x :: l => runR d t (stepR d t r (isOne x)) l
theorem runR_append (d t : Nat) : ∀ (r : Nat) (a b : List Int), runR d t r (a ++ b) = runR d t (runR d t r a) b
  | _, [], _ => rfl
  | r, x :: a, b => by rw [List.cons_append, runR, runR, runR_append d t _ a b]
theorem stepR_lt {d t r : Nat} {b : Bool} (ht : t < 2 ^ d) : stepR d t r b < 2 ^ d := by
  unfold stepR
  refine Nat.xor_lt_two_pow (Nat.mod_lt _ (Nat.two_pow_pos d)) ?_
  split
  · exact ht
  · exact Nat.two_pow_pos d
theorem runR_lt {d t : Nat} (ht : t < 2 ^ d) : ∀ (r : Nat) (l : List Int), r < 2 ^ d → runR d t r l < 2 ^ d
  | _, [], h => h
  | r, x :: l, _ => by rw [runR]; exact runR_lt ht _ l (stepR_lt ht)
theorem stepR_xor (d t r s : Nat) (b c : Bool) : stepR d t (r ^^^ s) (b ^^ c) = stepR d t r b ^^^ stepR d t s c := by
  refine Nat.eq_of_testBit_eq fun i => ?_
  unfold stepR
  simp only [Nat.testBit_xor, Nat.testBit_mod_two_pow, Nat.testBit_shiftLeft]
  cases hr : r.testBit (d - 1) <;> cases hs : s.testBit (d - 1) <;> cases b <;> cases c <;> simp [Nat.testBit_xor] <;>
    cases (decide (i < d)) <;> cases (decide (1 ≤ i)) <;> cases r.testBit (i - 1) <;> cases s.testBit (i - 1) <;> cases t.testBit i <;> rfl
theorem isOne_xor {x y : Int} (hx : x = 0 ∨ x = 1) (hy : y = 0 ∨ y = 1) : isOne (xorI x y) = (isOne x ^^ isOne y) := by
  rw [xorI_bits hx hy]
  rcases hx with rfl | rfl <;> rcases hy with rfl | rfl <;> rfl
theorem runR_xor (d t : Nat) : ∀ (r s : Nat) {a b : List Int}, bits a → bits b → b.length = a.length → runR d t (r ^^^ s) (zipX a b) = runR d t r a ^^^ runR d t s b
  | r, s, [], [], _, _, _ => rfl
  | r, s, x :: a, y :: b, ha, hb, h => by
    rw [zipX_cons, runR, runR, runR, isOne_xor (bits_cons.1 ha).1 (bits_cons.1 hb).1, stepR_xor]
    exact runR_xor d t _ _ (bits_cons.1 ha).2 (bits_cons.1 hb).2 (by simpa using h)
/-- What came before, if the register holds an even number behind a step. -/
theorem step_back {d t r V : Nat} {b : Bool} (hd : 1 ≤ d) (ht : t % 2 = 1) (hr : r < 2 ^ d) (h : stepR d t r b = 2 * V) : r = (if b = true then 2 ^ (d - 1) else 0) + V := by
  obtain ⟨e, rfl⟩ : ∃ e, d = e + 1 := ⟨d - 1, by omega⟩
  unfold stepR at h
  rw [Nat.add_sub_cancel] at h ⊢
  have hp : 2 ^ (e + 1) = 2 * 2 ^ e := by rw [Nat.pow_succ]; omega
  have hsh : r <<< 1 = 2 * r := by rw [Nat.shiftLeft_eq]; omega
  have hev : ((r <<< 1) % 2 ^ (e + 1)).testBit 0 = false := by
    rw [Nat.testBit_mod_two_pow, Nat.testBit_shiftLeft]; simp
  have hno : ¬ (r.testBit e ^^ b) = true := fun hf => by
    rw [if_pos hf] at h
    have h0 := congrArg (fun n => Nat.testBit n 0) h
    have ht0 : t.testBit 0 = true := by simp [Nat.testBit_zero, ht]
    have hv0 : (2 * V).testBit 0 = false := by simp [Nat.testBit_zero]
    simp only [Nat.testBit_xor, hev, ht0, hv0] at h0
    exact absurd h0 (by decide)
  rw [if_neg hno, Nat.xor_zero, hsh, hp] at h
  have hb : r.testBit e = b := by
    cases h1 : r.testBit e <;> cases b <;> simp_all
  have hm : 2 * r % (2 * 2 ^ e) = 2 * (r % 2 ^ e) := Nat.mul_mod_mul_left 2 r (2 ^ e)
  rw [hm] at h
  have hV : r % 2 ^ e = V := by omega
  have hdiv := Nat.div_add_mod r (2 ^ e)
  rw [Nat.testBit_eq_decide_div_mod_eq] at hb
  have hq : r / 2 ^ e < 2 := Nat.div_lt_of_lt_mul (by omega)
  generalize r / 2 ^ e = Q at *
  cases b
  · have : ¬ Q % 2 = 1 := by simpa using hb
    have h0 : Q = 0 := by omega
    rw [h0, Nat.mul_zero, hV] at hdiv
    simp; omega
  · have : Q % 2 = 1 := by simpa using hb
    have h1 : Q = 1 := by omega
    rw [h1, Nat.mul_one, hV] at hdiv
    simp; omega
/-- The number of bits. -/
def valB : List Int → Nat
  | [] => 0
  | x :: l => (if isOne x = true then 2 ^ l.length else 0) + valB l
theorem valB_lt : ∀ l : List Int, valB l < 2 ^ l.length
  | [] => by simp [valB]
  | x :: l => by
    have := valB_lt l
    rw [valB, List.length_cons, Nat.pow_succ]
    split <;> omega
theorem run_back {d t : Nat} (hd : 1 ≤ d) (ht : t % 2 = 1) (ht2 : t < 2 ^ d) : ∀ (D : List Int) (r : Nat), r < 2 ^ d → D.length ≤ d → runR d t r D = 0 → r = valB D * 2 ^ (d - D.length)
  | [], r, _, _, h => by
    rw [runR] at h; rw [h]; simp [valB]
  | x :: D, r, hr, hl, h => by
    rw [runR] at h
    rw [List.length_cons] at hl
    have ih := run_back hd ht ht2 D _ (stepR_lt ht2) (by omega) h
    obtain ⟨e, he⟩ : ∃ e, d - D.length = e + 1 := ⟨d - D.length - 1, by omega⟩
    rw [he] at ih
    have hpow : 2 ^ (e + 1) = 2 * 2 ^ e := by rw [Nat.pow_succ]; omega
    rw [hpow, show valB D * (2 * 2 ^ e) = 2 * (valB D * 2 ^ e) by rw [Nat.mul_left_comm]] at ih
    have hb := step_back hd ht hr ih
    have he2 : d - (x :: D).length = e := by rw [List.length_cons]; omega
    rw [he2, hb, valB, Nat.add_mul]
    congr 1
    by_cases hx : isOne x = true
    · rw [if_pos hx, if_pos hx, ← Nat.pow_add]; congr 1; omega
    · rw [if_neg hx, if_neg hx, Nat.zero_mul]
theorem step_fore {d t V : Nat} {b : Bool} (hd : 1 ≤ d) (hV : V < 2 ^ (d - 1)) : stepR d t ((if b = true then 2 ^ (d - 1) else 0) + V) b = 2 * V := by
  obtain ⟨e, rfl⟩ : ∃ e, d = e + 1 := ⟨d - 1, by omega⟩
  rw [Nat.add_sub_cancel] at hV ⊢
  have hp : 2 ^ (e + 1) = 2 * 2 ^ e := by rw [Nat.pow_succ]; omega
  have hbit : ((if b = true then 2 ^ e else 0) + V).testBit e = b := by
    cases b
    · simp [Nat.testBit_lt_two_pow hV]
    · simp only [if_true]
      rw [Nat.testBit_eq_decide_div_mod_eq, Nat.add_div_left _ (Nat.two_pow_pos e), Nat.div_eq_of_lt hV]; rfl
  have hx : ¬((b ^^ b) = true) := by simp
  unfold stepR
  rw [Nat.add_sub_cancel, hbit, if_neg hx, Nat.xor_zero, Nat.shiftLeft_eq, hp]
  cases b
  · simp only [Bool.false_eq_true, if_false]
    rw [Nat.mod_eq_of_lt (by omega)]; omega
  · simp only [if_true]
    rw [show (2 ^ e + V) * 2 ^ 1 = 2 * V + 2 * 2 ^ e by omega, Nat.add_mod_right, Nat.mod_eq_of_lt (by omega)]
theorem run_fore {d t : Nat} (hd : 1 ≤ d) : ∀ (D : List Int), D.length ≤ d → runR d t (valB D * 2 ^ (d - D.length)) D = 0
  | [], _ => by simp [valB, runR]
  | x :: D, hl => by
    rw [List.length_cons] at hl
    obtain ⟨e, he⟩ : ∃ e, d - D.length = e + 1 := ⟨d - D.length - 1, by omega⟩
    have he2 : d - (x :: D).length = e := by rw [List.length_cons]; omega
    have hv := valB_lt D
    have hlt : valB D * 2 ^ e < 2 ^ (d - 1) := by
      have : 2 ^ (d - 1) = 2 ^ D.length * 2 ^ e := by rw [← Nat.pow_add]; congr 1; omega
      rw [this]
      exact Nat.mul_lt_mul_of_pos_right hv (Nat.two_pow_pos e)
    have e1 : valB (x :: D) * 2 ^ (d - (x :: D).length) = (if isOne x = true then 2 ^ (d - 1) else 0) + valB D * 2 ^ e := by
      rw [he2, valB, Nat.add_mul]
      congr 1
      by_cases hx : isOne x = true
      · rw [if_pos hx, if_pos hx, ← Nat.pow_add]; congr 1; omega
      · rw [if_neg hx, if_neg hx, Nat.zero_mul]
    rw [runR, e1, step_fore hd hlt]
    have ih := run_fore (t := t) hd D (by omega)
    rw [he] at ih
    have hpow : 2 ^ (e + 1) = 2 * 2 ^ e := by rw [Nat.pow_succ]; omega
    rw [hpow, show valB D * (2 * 2 ^ e) = 2 * (valB D * 2 ^ e) by rw [Nat.mul_left_comm]] at ih
    exact ih
/-- The register holds a number: what is fed is that number, just if the register is empty behind. -/
theorem run_zero_iff {d t : Nat} (hd : 1 ≤ d) (ht : t % 2 = 1) (ht2 : t < 2 ^ d) (D : List Int) (hD : D.length = d) (r : Nat) (hr : r < 2 ^ d) : runR d t r D = 0 ↔ r = valB D := by
  constructor
  · intro h
    have := run_back hd ht ht2 D r hr (by omega) h
    rw [hD, Nat.sub_self] at this
    simpa using this
  · intro h
    have := run_fore (t := t) hd D (by omega)
    rw [hD, Nat.sub_self, Nat.pow_zero, Nat.mul_one] at this
    rw [h]; exact this
theorem run_zeros {d t : Nat} : ∀ n : Nat, runR d t 0 (List.replicate n 0) = 0
  | 0 => rfl
  | n + 1 => by
    rw [List.replicate_succ, runR]
    have : stepR d t 0 (isOne 0) = 0 := by simp [stepR, isOne]
    rw [this]; exact run_zeros n
theorem run_zeros_back {d t : Nat} (hd : 1 ≤ d) (ht : t % 2 = 1) (ht2 : t < 2 ^ d) : ∀ (n r : Nat), r < 2 ^ d → runR d t r (List.replicate n 0) = 0 → r = 0
  | 0, r, _, h => h
  | n + 1, r, hr, h => by
    rw [List.replicate_succ, runR] at h
    have h1 := run_zeros_back hd ht ht2 n _ (stepR_lt ht2) h
    have := step_back (V := 0) hd ht hr (by rw [h1])
    simpa [isOne] using this
/-- **A burst is caught.** -/
theorem burst_caught {d t : Nat} (hd : 1 ≤ d) (ht : t % 2 = 1) (ht2 : t < 2 ^ d) (a z : Nat) (pat : List Int) (hp : pat.length = d) (h : runR d t 0 (List.replicate a 0 ++ pat ++ List.replicate z 0) = 0) : valB pat = 0 := by
  rw [runR_append, runR_append, run_zeros] at h
  have h1 := run_zeros_back hd ht ht2 z _ (runR_lt ht2 _ _ (Nat.two_pow_pos d)) h
  exact ((run_zero_iff hd ht ht2 pat hp 0 (Nat.two_pow_pos d)).1 h1).symm
end Go.Sh

/-
  How many ones a number has; the distance of a polar code.
-/
namespace Go.Sh
open Go.PW

def andUc (a b : Int) : Int := (((BitVec.ofInt 64 a &&& BitVec.ofInt 64 b).toNat : Nat) : Int) % 18446744073709551616
theorem andU_c (a b : Int) : andU a b = andUc a b := wu64_eq _
def andIc (a b : Int) : Int := ((((BitVec.ofInt 64 a &&& BitVec.ofInt 64 b).toNat : Nat) : Int) + 9223372036854775808) % 18446744073709551616 - 9223372036854775808
theorem andI_c (a b : Int) : andI a b = andIc a b := w64_eq _
def wuC (n : Int) : Int := n % 18446744073709551616
theorem wu64_c (n : Int) : wu64 n = wuC n := wu64_eq n
def wC (n : Int) : Int := (n + 9223372036854775808) % 18446744073709551616 - 9223372036854775808
theorem w64_c (n : Int) : w64 n = wC n := w64_eq n
def onesA (x : Int) : Int := wuC (andUc (shrI x 1) 6148914691236517205 + andUc x 6148914691236517205)
def onesB (x : Int) : Int := wuC (andUc (shrI x 2) 3689348814741910323 + andUc x 3689348814741910323)
def onesD (x : Int) : Int := andUc (wuC (shrI x 4 + x)) 1085102592571150095
def onesE (x : Int) : Int := wuC (x + shrI x 8)
def onesF (x : Int) : Int := wuC (x + shrI x 16)
def onesG (x : Int) : Int := wuC (x + shrI x 32)
def onesC (x : Int) : Int := andIc (wC (onesG (onesF (onesE (onesD (onesB (onesA x))))))) 127
theorem ones_tab : ∀ k : Fin 64, onesC (k.val : Int) = (pcN k.val : Int) := by decide +kernel
theorem OnesCount64_eq (N : Nat) (x : Int) : math_bits_OnesCount64 N x = some (onesC x) := by
  unfold math_bits_OnesCount64
  simp only [andU_c, andI_c, wu64_c, w64_c]
  simp only [onesC, onesG, onesF, onesE, onesD, onesB, onesA]
theorem ones_eq {N k : Nat} (h : k < 64) : code_ones N (k : Int) = some (pcN k : Int) := by
  unfold code_ones math_bits_OnesCount
  rw [wu64_id (by omega), br_false, OnesCount64_eq, bnd_val, bnd_val, ones_tab ⟨k, h⟩]
theorem bestStep_ok (info : List Int) (k b : Nat) : ∃ b' : Nat, (if pcN (info.getD k 0).toNat < pcN (info.getD b 0).toNat then (k : Int) else b) = b' := by
  split
  · exact ⟨k, rfl⟩
  · exact ⟨b, rfl⟩
theorem DistanceOf_eq {N q : Nat} (hq : q ≤ 6) (info : List Int) (hl : info.length < 1000000) (hN : info.length < N) (hN2 : 64 < N) (h0 : polarErr q info = 0) (hne : info ≠ []) (hin : ∀ x ∈ info, 0 ≤ x ∧ x < ((2 ^ q : Nat) : Int)) :
    ∃ b : Nat, b < info.length ∧ (∀ j, j < info.length → pcN (info.getD b 0).toNat ≤ pcN (info.getD j 0).toNat) ∧
      code_DistanceOf N q info = some (((2 ^ pcN (info.getD b 0).toNat : Nat) : Int), (List.replicate info.length 0).set b 1, 0) := by
  have h64 := pow_le6 hq
  have hpos : 0 < info.length := List.length_pos_iff.2 hne
  have hget : ∀ k, k < info.length → ∃ n : Nat, n < 64 ∧ info.getD k 0 = n := fun k hk => by
    have hm : info.getD k 0 ∈ info := by rw [getD_eq hk]; exact List.getElem_mem hk
    have := hin _ hm
    exact ⟨(info.getD k 0).toNat, by omega, by omega⟩
  unfold code_DistanceOf
  rw [CheckPolar_eq _ info (by omega) hN (by omega), bnd_val, h0, br_00]
  have h := rds_itR (N := N) info.length (fun k (s : Int) => if pcN (info.getD k 0).toNat < pcN (info.getD s.toNat 0).toNat then (k : Int) else s)
    (fun k s => ∃ b : Nat, s = b ∧ b < info.length ∧ ∀ j, j < k → pcN (info.getD b 0).toNat ≤ pcN (info.getD j 0).toNat) (code_DistanceOf.b1 N info fun best =>
      chk (0 ≤ (info.length : Int) ∧ (info.length : Int) ≤ (1000000000 : Int)) <|
      chk (0 ≤ best ∧ best < ((List.replicate (info.length : Int).toNat (0 : Int)).length : Int)) <|
      chk (0 ≤ best ∧ best < (info.length : Int)) <|
      bnd (code_ones N (info.getD best.toNat 0)) fun x4 =>
      chk (0 ≤ x4) <|
      some (shlI (1 : Int) x4, ((List.replicate (info.length : Int).toNat (0 : Int)).set best.toNat (1 : Int)), (0 : Int))) (fun best =>
      chk (0 ≤ (info.length : Int) ∧ (info.length : Int) ≤ (1000000000 : Int)) <|
      chk (0 ≤ best ∧ best < ((List.replicate (info.length : Int).toNat (0 : Int)).length : Int)) <|
      chk (0 ≤ best ∧ best < (info.length : Int)) <|
      bnd (code_ones N (info.getD best.toNat 0)) fun x4 =>
      chk (0 ≤ x4) <|
      some (shlI (1 : Int) x4, ((List.replicate (info.length : Int).toNat (0 : Int)).set best.toNat (1 : Int)), (0 : Int)))
    (s := 0) ⟨0, rfl, hpos, fun j hj => absurd hj (Nat.not_lt_zero _)⟩ (fun k s hk hI => ?_) (fun k s rec hk hI => ?_) (fun s rec hI => ?_) hN
  · obtain ⟨h1, b, hb, hbl, hmin⟩ := h
    refine ⟨b, hbl, hmin, h1.trans ?_⟩
    rw [hb]
    obtain ⟨n, hn, he⟩ := hget b hbl
    have hp : pcN n ≤ 6 := by
      have : ∀ k : Fin 64, pcN k.val ≤ 6 := by decide +kernel
      exact this ⟨n, hn⟩
    rw [chk_pos (by omega), chk_pos (by simp; omega), chk_pos (by omega), Int.toNat_natCast, he, ones_eq hn, bnd_val, chk_pos (by omega), shl1_pow (by omega), Int.toNat_natCast, Int.toNat_natCast]
  · obtain ⟨b, rfl, hbl, hmin⟩ := hI
    simp only [Int.toNat_natCast]
    by_cases hlt : pcN (info.getD k 0).toNat < pcN (info.getD b 0).toNat
    · rw [if_pos hlt]
      refine ⟨k, rfl, hk, fun j hj => ?_⟩
      rcases Nat.lt_succ_iff_lt_or_eq.1 hj with hj | rfl
      · have := hmin j hj; omega
      · omega
    · rw [if_neg hlt]
      refine ⟨b, rfl, hbl, fun j hj => ?_⟩
      rcases Nat.lt_succ_iff_lt_or_eq.1 hj with hj | rfl
      · exact hmin j hj
      · omega
  · obtain ⟨b, rfl, hbl, hmin⟩ := hI
    show br (decide ((k : Int) < (info.length : Int))) _ _ = _
    obtain ⟨n, hn, he⟩ := hget b hbl
    obtain ⟨m, hm, hf⟩ := hget k hk
    rw [br_pos (by simpa using hk), chk_pos (by omega), Int.toNat_natCast, hf, ones_eq hm, bnd_val, chk_pos (by omega), Int.toNat_natCast, he, ones_eq hn, bnd_val, w64_succ (by omega)]
    simp only [Int.toNat_natCast, hf, he]
    by_cases hlt : pcN m < pcN n
    · rw [br_pos (by rw [decide_eq_true_iff]; omega), if_pos hlt]
    · rw [br_neg (by rw [decide_eq_false_iff_not]; omega), if_neg hlt]
  · show br (decide ((info.length : Int) < (info.length : Int))) _ _ = _
    rw [br_neg (by simp)]
theorem wt_take (l : List Int) (k : Nat) (h : k < l.length) : wt (l.take (k + 1)) = wt (l.take k) + if l.getD k 0 = 1 then 1 else 0 := by
  rw [List.take_succ_eq_append_getElem h, wt_append, getD_eq h]; rfl
theorem wt_le (l : List Int) : wt l ≤ l.length := by
  induction l with
  | nil => exact Nat.le_refl _
  | cons x l ih => rw [wt, List.length_cons]; split <;> omega
theorem lawOnes_eq {N : Nat} (l : List Int) (hb : bits l) (hl : l.length < 1000000) (hN : l.length < N) : law02_ones N l = some (wt l : Int) := by
  unfold law02_ones jn
  have h := rds_itR (N := N) l.length (fun k (s : Int) => s + if l.getD k 0 = 1 then 1 else 0) (fun k s => s = (wt (l.take k) : Int)) (law02_ones.b1 N l fun n => some n) (fun n => some n) (s := 0) (by simp [wt]) (fun k s hk hI => ?_) (fun k s rec hk hI => ?_) (fun s rec hI => ?_) hN
  · refine h.1.trans ?_
    rw [h.2, List.take_length]
  · rw [hI, wt_take l k hk]; split <;> simp
  · show br (decide ((k : Int) < (l.length : Int))) _ _ = _
    have hbk := bits_getD hb k
    rw [br_pos (by simpa using hk), chk_pos (by omega), Int.toNat_natCast, Mod_eq _ _ _ (by omega) (by decide), bnd_val, w64_succ (by omega)]
    have hw := wt_le (l.take k)
    rw [List.length_take] at hw
    have e : l.getD k 0 % 2 = if l.getD k 0 = 1 then 1 else 0 := by rcases hbk with h | h <;> rw [h] <;> rfl
    rw [e, w64_id (by rw [hI]; split <;> omega)]
  · show br (decide ((l.length : Int) < (l.length : Int))) _ _ = _
    rw [br_neg (by simp)]
theorem sum_bits {a b : Int} (ha : a = 0 ∨ a = 1) (hb : b = 0 ∨ b = 1) : (w64 (a + b)).tmod 2 = xorI a b := by
  rw [w64_id (by omega), xorI_bits ha hb]
  rcases ha with rfl | rfl <;> rcases hb with rfl | rfl <;> rfl
theorem Distance_b2_eq {N : Nat} (a b : List Int) (ha : bits a) (hb : bits b) (h : b.length = a.length) (hl : a.length < 1000000) (hN : a.length < N) (K : List Int → Option Bool) :
    rds (law02_CodeDistance.b2 N a b K) N (0, []) = K (zipX a b) := by
  refine rds_map a.length (fun i => xorI (a.getD i 0) (b.getD i 0)) _ K (fun k acc rec hk hac => ?_) (fun acc rec _ => ?_) hN
  · show br (decide ((k : Int) < (a.length : Int))) _ _ = _
    rw [br_pos (by simpa using hk), chk_pos (by omega), chk_pos (by omega), chk_pos (by simp; omega), w64_succ (by omega), Int.toNat_natCast, sum_bits (bits_getD ha k) (bits_getD hb k)]
  · show br (decide ((a.length : Int) < (a.length : Int))) _ _ = _
    rw [br_neg (by simp)]
theorem Distance_b1_eq {N : Nat} (a b : List Int) (ha : bits a) (hb : bits b) (h : b.length = a.length) (hl : a.length < 1000000) (hN : a.length < N) (K : Int × List Int → Option Bool) :
    rds (law02_CodeDistance.b1 N a b K) N (0, 0, []) = K ((wt (zipX a b) : Int), zipX a b) := by
  have hzl := zipX_length a b
  refine rds_spec (fun s : Int × Int × List Int => ∃ k : Nat, k ≤ a.length ∧ s = ((wt ((zipX a b).take k) : Int), (k : Int), (zipX a b).take k)) (fun s => a.length - s.2.1.toNat) (fun _ => K ((wt (zipX a b) : Int), zipX a b)) (fun rec s hI hrec => ?_) N (0, 0, []) ⟨0, Nat.zero_le _, by simp [wt]⟩ (by simp; omega)
  obtain ⟨k, hk, rfl⟩ := hI
  show br (decide ((k : Int) < (a.length : Int))) _ _ = _
  by_cases hkl : k < a.length
  · have hw := wt_le ((zipX a b).take k)
    rw [List.length_take] at hw
    have hx := xorI_bits (bits_getD ha k) (bits_getD hb k)
    have hwk := wt_take (zipX a b) k (by omega)
    rw [zipX_getD a b hkl] at hwk
    rw [br_pos (by simpa using hkl), chk_pos (by omega), chk_pos (by omega), chk_pos (by simp; omega), chk_pos (by omega), chk_pos (by omega), w64_succ (by omega), Int.toNat_natCast, sum_bits (bits_getD ha k) (bits_getD hb k)]
    have hs : w64 (((wt ((zipX a b).take k) : Nat) : Int) + xorI (a.getD k 0) (b.getD k 0)) = ((wt ((zipX a b).take (k + 1)) : Nat) : Int) := by
      rw [hwk, hx]
      by_cases he : a.getD k 0 = b.getD k 0
      · rw [if_pos he, w64_id (by omega)]; simp
      · rw [if_neg he, w64_id (by omega)]; simp
    rw [hs]
    refine hrec _ ⟨k + 1, hkl, ?_⟩ (by simp only [Int.toNat_natCast]; omega)
    rw [List.take_succ_eq_append_getElem (by omega), ← zipX_getD a b hkl, getD_eq (by omega)]
  · have : k = a.length := by omega
    subst this
    rw [br_neg (by simp), ← hzl, List.take_length]
end Go.Sh

/-
  Checks of bits: what the shallow functions come to.
-/
namespace Go.Sh
open Go.PW

/-! ### Polynomials -/
def polyErr (d t : Int) : Int := if ¬(1 ≤ d ∧ d ≤ 16) then 2 else if ¬(1 ≤ t ∧ t ≤ ((2 ^ d.toNat : Nat) : Int) - 1) then 2 else if t % 2 = 0 then 3 else 0
structure PolyOK (d t : Int) (D T : Nat) : Prop where
  hd : d = D
  ht : t = T
  lo : 1 ≤ D
  hi : D ≤ 16
  lt : T < 2 ^ D
  odd : T % 2 = 1
theorem polyOK_of {d t : Int} (h : polyErr d t = 0) : ∃ D T : Nat, PolyOK d t D T := by
  unfold polyErr at h
  by_cases h1 : 1 ≤ d ∧ d ≤ 16
  · rw [if_neg (show ¬¬(1 ≤ d ∧ d ≤ 16) from fun h => h h1)] at h
    by_cases h2 : 1 ≤ t ∧ t ≤ ((2 ^ d.toNat : Nat) : Int) - 1
    · rw [if_neg (show ¬¬(1 ≤ t ∧ t ≤ ((2 ^ d.toNat : Nat) : Int) - 1) from fun h => h h2)] at h
      by_cases h3 : t % 2 = 0
      · rw [if_pos h3] at h; exact absurd h (by decide)
      · exact ⟨d.toNat, t.toNat, by omega, by omega, by omega, by omega, by omega, by omega⟩
    · rw [if_pos h2] at h; exact absurd h (by decide)
  · rw [if_pos h1] at h; exact absurd h (by decide)
theorem pow_le16 {p : Nat} (h : p ≤ 16) : 2 ^ p ≤ 65536 := Nat.pow_le_pow_right (n := 2) (by omega) h
theorem dec2 {a b : Prop} [Decidable a] [Decidable b] (h : a ∧ b) : (decide a && decide b) = true := by simp [h.1, h.2]
theorem dec2f {a b : Prop} [Decidable a] [Decidable b] (h : ¬(a ∧ b)) : (decide a && decide b) = false := by
  by_cases ha : a <;> by_cases hb : b <;> simp_all
theorem CheckPoly_eq {N : Nat} (d t : Int) (hN : 100 < N) : code_CheckPoly N d t = some (polyErr d t) := by
  unfold code_CheckPoly polyErr
  simp only [within_eq, bnd_val, unless_eq]
  by_cases h1 : 1 ≤ d ∧ d ≤ 16
  case neg => rw [dec2f h1, if_pos h1]; rfl
  rw [dec2 h1, if_neg (show ¬¬(1 ≤ d ∧ d ≤ 16) from fun h => h h1), br_nt, chk_pos (by omega)]
  obtain ⟨D, rfl⟩ : ∃ D : Nat, d = D := ⟨d.toNat, by omega⟩
  have hp := pow_le16 (p := D) (by omega)
  have hpos := Nat.two_pow_pos D
  rw [shl1_pow (by omega), w64_id (by omega), first_eq _ (by simp) (by simp; omega), bnd_val, Int.toNat_natCast]
  by_cases h2 : 1 ≤ t ∧ t ≤ ((2 ^ D : Nat) : Int) - 1
  · rw [dec2 h2, if_neg (show ¬¬(1 ≤ t ∧ t ≤ ((2 ^ D : Nat) : Int) - 1) from fun h => h h2), Int.tmod_eq_emod_of_nonneg (by omega)]
    by_cases h3 : t % 2 = 0
    · rw [if_pos h3, h3]; rfl
    · have : t % 2 = 1 := by omega
      rw [if_neg h3, this]; rfl
  · rw [dec2f h2, if_pos h2]; rfl
theorem refCheckPoly_eq {N : Nat} (d t : Int) (hN : 100 < N) : ref02_CheckPoly N d t = some (polyErr d t) := by
  unfold ref02_CheckPoly polyErr
  rw [Within_eq, bnd_val]
  by_cases h1 : 1 ≤ d ∧ d ≤ 16
  case neg => rw [dec2f h1, if_pos h1]; rfl
  rw [dec2 h1, if_neg (show ¬¬(1 ≤ d ∧ d ≤ 16) from fun h => h h1)]
  obtain ⟨D, rfl⟩ : ∃ D : Nat, d = D := ⟨d.toNat, by omega⟩
  have hp := pow_le16 (p := D) (by omega)
  have hpos := Nat.two_pow_pos D
  simp only [Bool.not_true, Bool.not_false, grd_true]
  rw [power_eq (by omega) (by omega)]
  simp only [bnd_val]
  rw [w64_id (by omega), Within_eq, bnd_val, Int.toNat_natCast]
  by_cases h2 : 1 ≤ t ∧ t ≤ ((2 ^ D : Nat) : Int) - 1
  · rw [dec2 h2, if_neg (show ¬¬(1 ≤ t ∧ t ≤ ((2 ^ D : Nat) : Int) - 1) from fun h => h h2), Int.tmod_eq_emod_of_nonneg (by omega)]
    by_cases h3 : t % 2 = 0
    · rw [if_pos h3, h3]; rfl
    · have : t % 2 = 1 := by omega
      rw [if_neg h3, this]; rfl
  · rw [dec2f h2, if_pos h2]; rfl

/-! ### The register's bits -/
def regL : Nat → Nat → List Int
  | 0, _ => []
  | n + 1, x => (if x.testBit n = true then 1 else 0) :: regL n (x % 2 ^ n)
theorem regL_length : ∀ (n x : Nat), (regL n x).length = n
  | 0, _ => rfl
  | n + 1, x => by rw [regL, List.length_cons, regL_length n]
theorem regL_bits : ∀ (n x : Nat), bits (regL n x)
  | 0, _ => fun i hi => by simp [regL] at hi
  | n + 1, x => by
    rw [regL, bits_cons]
    exact ⟨by split <;> simp, regL_bits n _⟩
theorem valB_regL : ∀ (n x : Nat), x < 2 ^ n → valB (regL n x) = x
  | 0, x, h => by
    have : x = 0 := by simpa using h
    subst this; rfl
  | n + 1, x, h => by
    have hp : 2 ^ (n + 1) = 2 * 2 ^ n := by rw [Nat.pow_succ]; omega
    have hd := Nat.div_add_mod x (2 ^ n)
    have hq : x / 2 ^ n < 2 := Nat.div_lt_of_lt_mul (by omega)
    rw [regL, valB, regL_length, valB_regL n _ (Nat.mod_lt _ (Nat.two_pow_pos n)), Nat.testBit_eq_decide_div_mod_eq]
    generalize x / 2 ^ n = Q at *
    by_cases h1 : Q % 2 = 1
    · have : Q = 1 := by omega
      rw [this] at hd ⊢
      simp [isOne]; omega
    · have : Q = 0 := by omega
      rw [this] at hd ⊢
      simp [isOne]; omega
theorem regL_valB : ∀ {C : List Int}, bits C → regL C.length (valB C) = C
  | [], _ => rfl
  | x :: C, h => by
    have hv := valB_lt C
    rw [List.length_cons, regL, valB]
    have h1 : ((if isOne x = true then 2 ^ C.length else 0) + valB C).testBit C.length = isOne x := by
      cases hx : isOne x
      · simp [Nat.testBit_lt_two_pow hv]
      · simp only [if_true]
        rw [Nat.testBit_eq_decide_div_mod_eq, Nat.add_div_left _ (Nat.two_pow_pos _), Nat.div_eq_of_lt hv]; rfl
    have h2 : ((if isOne x = true then 2 ^ C.length else 0) + valB C) % 2 ^ C.length = valB C := by
      cases isOne x
      · simp [Nat.mod_eq_of_lt hv]
      · simp only [if_true]; rw [Nat.add_mod_left, Nat.mod_eq_of_lt hv]
    rw [h1, h2, regL_valB (bits_cons.1 h).2]
    congr 1
    rcases (bits_cons.1 h).1 with rfl | rfl <;> rfl
theorem reg_split (x k : Nat) : regL (k + 1) (x % 2 ^ (k + 1)) = (if x.testBit k = true then 1 else 0) :: regL k (x % 2 ^ k) := by
  rw [regL, Nat.testBit_mod_two_pow]
  have : x % 2 ^ (k + 1) % 2 ^ k = x % 2 ^ k := Nat.mod_mod_of_dvd _ ⟨2, by rw [Nat.pow_succ]⟩
  rw [this]; simp

/-! ### The remainder -/
theorem step_eq {D T r : Nat} (b : Int) (h16 : D ≤ 16) (h1 : 1 ≤ D) (hT : T < 2 ^ D) (hr : r < 2 ^ D) {α : Type} (f : Int → Option α) :
    br (((andI (r : Int) (shlI 1 (w64 ((D : Int) - 1))) != 0) != (b == 1))) (f (xorI (andI (shlI (r : Int) 1) (w64 ((w64 (2 * shlI 1 (w64 ((D : Int) - 1)))) - 1))) (T : Int))) (f (andI (shlI (r : Int) 1) (w64 ((w64 (2 * shlI 1 (w64 ((D : Int) - 1)))) - 1)))) = f (stepR D T r (isOne b) : Int) := by
  obtain ⟨e, rfl⟩ : ∃ e, D = e + 1 := ⟨D - 1, by omega⟩
  have hp : 2 ^ (e + 1) = 2 * 2 ^ e := by rw [Nat.pow_succ]; omega
  have hb := pow_le16 h16
  have hpos := Nat.two_pow_pos e
  have e0 : w64 (((e + 1 : Nat) : Int) - 1) = (e : Int) := by rw [w64_id (by omega)]; omega
  have e1 : w64 (2 * ((2 ^ e : Nat) : Int)) = ((2 ^ (e + 1) : Nat) : Int) := by rw [w64_id (by omega)]; omega
  have e2 : w64 (((2 ^ (e + 1) : Nat) : Int) - 1) = ((2 ^ (e + 1) - 1 : Nat) : Int) := by rw [w64_id (by omega)]; omega
  have e3 : shlI (r : Int) 1 = ((r * 2 : Nat) : Int) := by
    have := shlI_nat (a := r) (b := 1) (by omega) (by decide)
    simpa using this
  have hmod : (r * 2) % 2 ^ (e + 1) < 2 ^ (e + 1) := Nat.mod_lt _ (by omega)
  rw [e0, shl1_pow (by omega), e1, e2, e3, andI_nat (by omega) (by omega), andI_nat (by omega) (by omega), Nat.and_two_pow_sub_one_eq_mod, and_bit, xorI_nat (by omega) (by omega)]
  unfold stepR
  rw [Nat.add_sub_cancel, show r <<< 1 = r * 2 by rw [Nat.shiftLeft_eq]]
  have hx : ((((if r.testBit e = true then 2 ^ e else 0 : Nat) : Int) != 0) != (b == 1)) = (r.testBit e ^^ isOne b) := by
    have hne : (((2 ^ e : Nat) : Int) != 0) = true := by rw [bne_iff_ne]; omega
    unfold isOne
    cases r.testBit e
    · cases (b == 1) <;> rfl
    · rw [if_pos rfl, hne]
  rw [hx]
  cases (r.testBit e ^^ isOne b)
  · rw [br_false, if_neg (by decide), Nat.xor_zero]
  · rw [br_true, if_pos rfl]
theorem remainder_b1_eq {N D T : Nat} (h16 : D ≤ 16) (h1 : 1 ≤ D) (hT : T < 2 ^ D) (l : List Int) (hl : l.length < 1000000) (hN : l.length < N) (K : Int → Option (List Int)) :
    rds (code_remainder.b1 N D T l K) N (0, 0) = K (runR D T 0 l : Int) := by
  refine rds_spec (fun s : Int × Int => ∃ k : Nat, k ≤ l.length ∧ s = ((runR D T 0 (l.take k) : Int), (k : Int))) (fun s => l.length - s.2.toNat) (fun _ => K (runR D T 0 l : Int)) (fun rec s hI hrec => ?_) N (0, 0) ⟨0, Nat.zero_le _, by simp [runR]⟩ (by simp; omega)
  obtain ⟨k, hk, rfl⟩ := hI
  show br (decide ((k : Int) < (l.length : Int))) _ _ = _
  by_cases hkl : k < l.length
  · rw [br_pos (by simpa using hkl), chk_pos (by omega), w64_succ (by omega), Int.toNat_natCast]
    have hlt := runR_lt (d := D) hT 0 (l.take k) (Nat.two_pow_pos D)
    rw [step_eq (l.getD k 0) h16 h1 hT hlt (fun x => rec (x, ((k + 1 : Nat) : Int)))]
    refine hrec _ ⟨k + 1, hkl, ?_⟩ (by simp only [Int.toNat_natCast]; omega)
    rw [List.take_succ_eq_append_getElem hkl, runR_append, ← getD_eq hkl]; rfl
  · have : k = l.length := by omega
    subst this
    rw [br_neg (by simp), List.take_length]
theorem remainder_b2_eq {N D : Nat} (h16 : D ≤ 16) (h1 : 1 ≤ D) (r : Nat) (hr : r < 2 ^ D) (hN : 100 < N) (K : List Int → Option (List Int)) :
    rds (code_remainder.b2 N r K) N (((2 ^ (D - 1) : Nat) : Int), []) = K (regL D r) := by
  refine rds_spec (fun s : Int × List Int => ∃ j : Nat, j ≤ D ∧ s.1 = (if j = 0 then 0 else ((2 ^ (j - 1) : Nat) : Int)) ∧ s.2.length = D - j ∧ s.2 ++ regL j (r % 2 ^ j) = regL D r) (fun s => if s.1 = 0 then 0 else s.1.toNat.log2 + 1) (fun _ => K (regL D r)) (fun rec s hI hrec => ?_) N _ ⟨D, Nat.le_refl _, by rw [if_neg (by omega)], by simp, by rw [Nat.mod_eq_of_lt hr]; rfl⟩ ?_
  · obtain ⟨j, hj, h2, h3, h4⟩ := hI
    obtain ⟨top, acc⟩ := s
    simp only at h2 h3 h4
    subst h2
    by_cases hj0 : j = 0
    · subst hj0
      show br (decide ((if 0 = 0 then (0 : Int) else _) > 0)) _ _ = _
      rw [if_pos rfl, br_neg (by decide)]
      simp [regL] at h4
      rw [h4]
    · obtain ⟨i, rfl⟩ : ∃ i, j = i + 1 := ⟨j - 1, by omega⟩
      have hp16 := pow_le16 (p := i) (by omega)
      have hpos := Nat.two_pow_pos i
      have hD := pow_le16 h16
      rw [if_neg hj0, Nat.add_sub_cancel]
      show br (decide (((2 ^ i : Nat) : Int) > 0)) _ _ = _
      rw [br_pos (decide_eq_true (by omega)), andI_nat (by omega) (by omega), and_bit]
      have hsh : shrI ((2 ^ i : Nat) : Int) 1 = (if i = 0 then 0 else ((2 ^ (i - 1) : Nat) : Int)) := by
        have := shrI_nat (a := 2 ^ i) (b := 1) (by decide)
        rw [show ((1 : Nat) : Int) = 1 from rfl] at this
        rw [this]
        by_cases hi : i = 0
        · subst hi; rfl
        · obtain ⟨m, rfl⟩ : ∃ m, i = m + 1 := ⟨i - 1, by omega⟩
          rw [if_neg hi, Nat.add_sub_cancel, Nat.pow_succ]
          congr 1; omega
      have hμ : ∀ acc', (fun s : Int × List Int => if s.1 = 0 then 0 else s.1.toNat.log2 + 1) ((if i = 0 then 0 else ((2 ^ (i - 1) : Nat) : Int)), acc') < (fun s : Int × List Int => if s.1 = 0 then 0 else s.1.toNat.log2 + 1) (((2 ^ i : Nat) : Int), acc) := fun acc' => by
        simp only
        rw [if_neg (show ¬ ((2 ^ i : Nat) : Int) = 0 by omega), Int.toNat_natCast, Nat.log2_two_pow]
        by_cases hi : i = 0
        · rw [if_pos hi]; simp
        · rw [if_neg hi, if_neg (by have := Nat.two_pow_pos (i - 1); omega), Int.toNat_natCast, Nat.log2_two_pow]; omega
      rw [hsh]
      rw [reg_split] at h4
      cases hb : r.testBit i
      · rw [br_neg (by simp), chk_pos (by simp; omega)]
        rw [hb] at h4
        exact hrec _ ⟨i, by omega, rfl, by simp; omega, by simpa using h4⟩ (hμ _)
      · have hne : ((((if true = true then 2 ^ i else 0 : Nat)) : Int) != 0) = true := by rw [bne_iff_ne, if_pos rfl]; omega
        rw [br_pos hne, chk_pos (by simp; omega)]
        rw [hb] at h4
        exact hrec _ ⟨i, by omega, rfl, by simp; omega, by simpa using h4⟩ (hμ _)
  · have := Nat.two_pow_pos (D - 1)
    simp only
    rw [if_neg (by omega), Int.toNat_natCast, Nat.log2_two_pow]; omega
theorem remainder_eq {N D T : Nat} (h16 : D ≤ 16) (h1 : 1 ≤ D) (hT : T < 2 ^ D) (l : List Int) (hl : l.length < 1000000) (hN : l.length < N) (hN2 : 100 < N) : code_remainder N D T l = some (regL D (runR D T 0 l)) := by
  have e0 : w64 ((D : Int) - 1) = ((D - 1 : Nat) : Int) := by rw [w64_id (by omega)]; omega
  unfold code_remainder
  rw [chk_pos (by rw [e0]; omega), jn, remainder_b1_eq h16 h1 hT l hl hN, e0, shl1_pow (by omega), jn, remainder_b2_eq h16 h1 _ (runR_lt hT 0 l (Nat.two_pow_pos D)) hN2]

/-! ### Bits with their check -/
theorem Concat_eq {N : Nat} (a b : List Int) (ha : a.length ≤ 1000) (hb : b.length ≤ 1000) (hN : 10 < N) : slices_Concat_ii N [a, b] = some (a ++ b) := by
  obtain ⟨n, rfl⟩ : ∃ n, N = n + 10 := ⟨N - 10, by omega⟩
  have w1 : w64 (0 + (a.length : Int)) = (a.length : Int) := by rw [w64_id (by omega)]; omega
  have w2 : w64 ((a.length : Int) + (b.length : Int)) = ((a.length + b.length : Nat) : Int) := by rw [w64_id (by omega)]; omega
  have w3 : w64 ((0 : Int) + 1) = 1 := by rw [w64_id (by omega)]; rfl
  have w4 : w64 ((1 : Int) + 1) = 2 := by rw [w64_id (by omega)]; rfl
  have w5 : w64 ((0 : Int) - 0) = 0 := by rw [w64_id (by omega)]; rfl
  have w6 : w64 (((a.length + b.length : Nat) : Int) - 0) = ((a.length + b.length : Nat) : Int) := by rw [w64_id (by omega)]; omega
  have b2 : ∀ K, rds (slices_Concat_ii.b2 (n + 10) [a, b] K) (n + 10) (0, []) = K (a ++ b) := fun K => by
    rw [rds_succ, slices_Concat_ii.b2, br_pos (by simp), chk_pos (by simp), chk_pos (by simp; omega), w3, rds_succ, slices_Concat_ii.b2, br_pos (by simp), chk_pos (by simp), chk_pos (by simp; omega), w4, rds_succ, slices_Concat_ii.b2, br_neg (by simp)]
    simp
  have b3 : ∀ K, rds (slices_Concat_ii.b3 (n + 10) [a, b] K) (n + 10) (0, []) = K (a ++ b) := fun K => by
    rw [rds_succ, slices_Concat_ii.b3, br_pos (by simp), chk_pos (by simp), chk_pos (by simp; omega), w3, rds_succ, slices_Concat_ii.b3, br_pos (by simp), chk_pos (by simp), chk_pos (by simp; omega), w4, rds_succ, slices_Concat_ii.b3, br_neg (by simp)]
    simp
  have b1 : ∀ K, rds (slices_Concat_ii.b1 (n + 10) [a, b] K) (n + 10) (0, 0) = K ((a.length + b.length : Nat) : Int) := fun K => by
    rw [rds_succ, slices_Concat_ii.b1, br_pos (by simp), chk_pos (by simp)]
    show br (decide (w64 (0 + (a.length : Int)) < 0)) none (rds _ _ (w64 (0 + (a.length : Int)), w64 (0 + 1))) = _
    rw [w1, br_neg (decide_eq_false (by omega)), w3, rds_succ, slices_Concat_ii.b1, br_pos (by simp), chk_pos (by simp)]
    show br (decide (w64 ((a.length : Int) + (b.length : Int)) < 0)) none (rds _ _ (w64 ((a.length : Int) + (b.length : Int)), w64 (1 + 1))) = _
    rw [w2, br_neg (decide_eq_false (by omega)), w4, rds_succ, slices_Concat_ii.b1, br_neg (by simp)]
  unfold slices_Concat_ii
  simp only [jn, b1, b2, b3, w5, w6]
  rw [br_neg (decide_eq_false (by omega))]
  by_cases h : (((a.length + b.length : Nat) : Int)) > 0
  · rw [br_pos (decide_eq_true h), chk_pos (by omega), chk_pos (by simp; omega), chk_pos (by simp; omega)]
  · rw [br_neg (decide_eq_false h)]
theorem Equal_eq {N : Nat} (a b : List Int) (hl : a.length < 4611686018427387904) (hN : a.length < N) : slices_Equal_ii N a b = some (decide (a = b)) := Ints_eq a b hl hN
def checkedL (D T : Nat) (l : List Int) : List Int := l ++ regL D (runR D T 0 l)
theorem Checked_eq {N : Nat} {d t : Int} (l : List Int) (h : polyErr d t = 0) {D T : Nat} (hp : PolyOK d t D T) (hb : listErr 200 isBitB 15 l = 0) (hN : 1000 < N) : code_Checked N d t l = some (checkedL D T l, 0) := by
  obtain ⟨hl0, hl1, _⟩ := listErr_zero (by decide) hb
  unfold code_Checked
  rw [CheckPoly_eq d t (by omega), bnd_val, bitsErr_eq l (by omega) (by omega) (by omega), bnd_val, h, hb, first_eq _ (by simp) (by simp; omega), bnd_val, br_neg (by rfl)]
  unfold code_checked
  rw [hp.hd, hp.ht, remainder_eq hp.hi hp.lo hp.lt l (by omega) (by omega) (by omega), bnd_val, Concat_eq _ _ (by omega) (by rw [regL_length]; have := hp.hi; omega) (by omega)]; rfl
theorem IsRight_eq {N : Nat} {d t : Int} (c : List Int) (h : polyErr d t = 0) {D T : Nat} (hp : PolyOK d t D T) (hb : listErr 200 isBitB 15 c = 0) (hc : D < c.length) (hN : 1000 < N) : code_IsRight N d t c = some (decide (runR D T 0 c = 0), 0) := by
  obtain ⟨hl0, hl1, hall⟩ := listErr_zero (by decide) hb
  have hbits := bits_of_all hall
  unfold code_IsRight
  rw [CheckPoly_eq d t (by omega), bnd_val, bitsErr_eq c (by omega) (by omega) (by omega), bnd_val, unless_eq, bnd_val, h, hb, decide_eq_true (show (c.length : Int) > d by rw [hp.hd]; omega), first_eq _ (by simp) (by simp; omega), bnd_val, br_neg (by rfl)]
  unfold code_right
  have hw : w64 ((c.length : Int) - d) = ((c.length - D : Nat) : Int) := by rw [hp.hd, w64_id (by omega)]; omega
  rw [hw, chk_pos (by omega), Int.toNat_natCast, hp.hd, hp.ht, remainder_eq hp.hi hp.lo hp.lt _ (by simp; omega) (by simp; omega) (by omega), bnd_val, chk_pos (by omega), Equal_eq _ _ (by rw [regL_length]; have := hp.hi; omega) (by rw [regL_length]; have := hp.hi; omega), bnd_val]
  have hdrop : (c.drop (c.length - D)).take (c.length - (c.length - D)) = c.drop (c.length - D) := List.take_of_length_le (by simp)
  have hdl : (c.drop (c.length - D)).length = D := by rw [List.length_drop]; omega
  have hsp : c.take (c.length - D) ++ c.drop (c.length - D) = c := List.take_append_drop _ _
  have hdb : bits (c.drop (c.length - D)) := by
    have := hbits
    rw [← hsp, bits_append] at this
    exact this.2
  have hlt := runR_lt hp.lt 0 (c.take (c.length - D)) (Nat.two_pow_pos D)
  have hiff := run_zero_iff hp.lo hp.odd hp.lt (c.drop (c.length - D)) hdl _ hlt
  rw [← runR_append, hsp] at hiff
  rw [hdrop]
  congr 1
  have : (regL D (runR D T 0 (c.take (c.length - D))) = c.drop (c.length - D)) ↔ runR D T 0 c = 0 := by
    rw [hiff]
    constructor
    · intro he
      rw [← he, valB_regL _ _ hlt]
    · intro he
      have h2 := regL_valB hdb
      rw [hdl] at h2
      rw [he, h2]
  simp only [this]
  rfl
end Go.Sh

/-
  A BURST IS CAUGHT: the law's shallow function tells true.
-/
namespace Go.Sh
open Go.PW

theorem lawPower_eq {N n : Nat} (hn : n ≤ 40) (hN : n < N) : law02_power N n = some ((2 ^ n : Nat) : Int) := power_eq hn hN
theorem BitsOf_eq {N D : Nat} (h1 : 1 ≤ D) (h16 : D ≤ 16) (p : Nat) (hp : p < 2 ^ D) (hN : 100 < N) : base_BitsOf N (p : Int) (D : Int) = some (regL D p) := by
  have hD := pow_le16 h16
  unfold base_BitsOf
  rw [chk_pos (by omega), jn, Int.toNat_natCast]
  refine rds_spec (fun s : Int × Int × List Int => ∃ j : Nat, j ≤ D ∧ s = (((p / 2 ^ (D - j) : Nat) : Int), ((j : Int) - 1), List.replicate j 0 ++ regL (D - j) (p % 2 ^ (D - j)))) (fun s => (s.2.1 + 1).toNat) (fun _ => some (regL D p)) (fun rec s hI hrec => ?_) N _ ⟨D, Nat.le_refl _, ?_⟩ ?_
  · obtain ⟨j, hj, rfl⟩ := hI
    by_cases hj0 : j = 0
    · subst hj0
      show br (decide ((((0 : Nat) : Int) - 1) ≥ 0)) _ _ = _
      rw [br_neg (by decide), Nat.sub_zero, Nat.mod_eq_of_lt hp]; rfl
    · obtain ⟨i, rfl⟩ : ∃ i, j = i + 1 := ⟨j - 1, by omega⟩
      have e1 : (((i + 1 : Nat) : Int) - 1) = (i : Int) := by omega
      rw [e1]
      show br (decide ((i : Int) ≥ 0)) _ _ = _
      obtain ⟨k, hk⟩ : ∃ k, D - i = k + 1 := ⟨D - i - 1, by omega⟩
      have hk' : D - (i + 1) = k := by omega
      have hlt : p / 2 ^ k ≤ p := Nat.div_le_self _ _
      have hR : p / 2 ^ (k + 1) = p / 2 ^ k / 2 := by rw [Nat.pow_succ, ← Nat.div_div_eq_div_mul]
      have hpb : p < 65536 := by omega
      rw [hk', br_pos (decide_eq_true (by omega)), chk_pos (by rw [List.length_append, List.length_replicate]; omega)]
      have ed : w64 (((p / 2 ^ k : Nat) : Int).tdiv 2) = ((p / 2 ^ (k + 1) : Nat) : Int) := by
        rw [hR]
        generalize p / 2 ^ k = Q at *
        rw [Int.tdiv_eq_ediv_of_nonneg (by omega), w64_id (by omega)]; omega
      have em : (((p / 2 ^ k : Nat) : Int).tmod 2) = if p.testBit k = true then 1 else 0 := by
        rw [Nat.testBit_eq_decide_div_mod_eq]
        generalize p / 2 ^ k = Q at *
        rw [Int.tmod_eq_emod_of_nonneg (by omega)]
        by_cases h : Q % 2 = 1
        · rw [decide_eq_true h, if_pos rfl]; omega
        · rw [decide_eq_false h, if_neg (by decide)]; omega
      rw [ed, em, w64_id (n := (i : Int) - 1) (by omega), Int.toNat_natCast]
      refine hrec _ ⟨i, by omega, ?_⟩ (by simp only; omega)
      rw [hk, reg_split]
      congr 2
      refine ext_getD (by simp [regL_length]; omega) fun m hm => ?_
      rw [List.length_set, List.length_append, List.length_replicate, regL_length] at hm
      by_cases hmi : i = m
      · subst hmi
        simp [List.getD_eq_getElem?_getD, List.getElem?_append]
      · simp only [List.getD_eq_getElem?_getD, List.getElem?_set, if_neg hmi, List.getElem?_append, List.length_replicate]
        by_cases h2 : m < i
        · rw [if_pos (by omega), if_pos h2]; simp [List.getElem?_replicate, h2, show m < i + 1 by omega]
        · obtain ⟨z, rfl⟩ : ∃ z, m = i + 1 + z := ⟨m - (i + 1), by omega⟩
          rw [if_neg (by omega), if_neg (by omega), show i + 1 + z - (i + 1) = z by omega, show i + 1 + z - i = z + 1 by omega, List.getElem?_cons_succ]
  · rw [w64_id (by omega), Nat.sub_self, Nat.pow_zero, Nat.div_one]; simp [regL]
  · rw [w64_id (by omega)]; simp only; omega
/-- The changed bits. -/
def burstL (at_ : Nat) (pat : List Int) (n : Nat) : List Int := List.replicate at_ 0 ++ pat ++ List.replicate (n - at_ - pat.length) 0
theorem rep_bits (n : Nat) : bits (List.replicate n 0) := bits_replicate n
theorem burst_bits {pat : List Int} (h : bits pat) (a n : Nat) : bits (burstL a pat n) := by
  unfold burstL
  rw [bits_append, bits_append]
  exact ⟨⟨rep_bits _, h⟩, rep_bits _⟩
theorem burst_length {pat : List Int} (a n : Nat) (h : a + pat.length ≤ n) : (burstL a pat n).length = n := by
  unfold burstL; simp; omega
theorem burst_getD {pat : List Int} (a n j : Nat) : (burstL a pat n).getD j 0 = if a ≤ j ∧ j < a + pat.length then pat.getD (j - a) 0 else 0 := by
  unfold burstL
  rw [getD_append, getD_append, List.length_append, List.length_replicate]
  by_cases h1 : j < a
  · rw [if_pos (by omega), if_pos h1, if_neg (by omega), getD_eq (by simpa using h1)]; simp
  · by_cases h2 : j < a + pat.length
    · rw [if_pos h2, if_neg h1, if_pos ⟨by omega, h2⟩]
    · rw [if_neg h2, if_neg (by omega)]
      by_cases h3 : j - (a + pat.length) < n - a - pat.length
      · rw [getD_eq (by simpa using h3)]; simp
      · simp [List.getD_eq_getElem?_getD, List.getElem?_replicate, h3]
theorem Catches_b1_eq {N D : Nat} (c pat : List Int) (a : Nat) (hc : bits c) (hp : bits pat) (hpl : pat.length = D) (ha : a + D ≤ c.length) (hl : c.length < 1000000) (hN : D < N) (K : List Int → Option Bool) :
    rds (law02_CodeCatches.b1 N D a pat K) N (0, c) = K (zipX c (burstL a pat c.length)) := by
  have h := rds_it (N := N) D (fun k (s : List Int) => s.set (a + k) ((w64 (s.getD (a + k) 0 + pat.getD k 0)).tmod 2)) (fun k s => s.length = c.length ∧ ∀ j, j < c.length → s.getD j 0 = if j < a + k then (zipX c (burstL a pat c.length)).getD j 0 else c.getD j 0)
    (law02_CodeCatches.b1 N D a pat K) K (s := c) ⟨rfl, fun j hj => ?_⟩ (fun k s hk hI => ?_) (fun k s rec hk hI => ?_) (fun s rec hI => ?_) hN
  · refine h.1.trans ?_
    congr 1
    obtain ⟨h1, h2⟩ := h.2
    refine ext_getD (by rw [h1, zipX_length]) fun j hj => ?_
    rw [h1] at hj
    rw [h2 j hj]
    by_cases hja : j < a + D
    · rw [if_pos hja]
    · rw [if_neg hja, zipX_getD _ _ hj, burst_getD, if_neg (by omega), xorI_bits (bits_getD hc j) (.inl rfl)]
      rcases bits_getD hc j with e | e <;> rw [e] <;> rfl
  · by_cases hja : j < a + 0
    · rw [if_pos hja, zipX_getD _ _ hj, burst_getD, if_neg (by omega), xorI_bits (bits_getD hc j) (.inl rfl)]
      rcases bits_getD hc j with e | e <;> rw [e] <;> rfl
    · rw [if_neg hja]
  · obtain ⟨h1, h2⟩ := hI
    refine ⟨by rw [List.length_set]; exact h1, fun j hj => ?_⟩
    by_cases hjk : a + k = j
    · subst hjk
      have hs := h2 (a + k) hj
      rw [if_neg (by omega)] at hs
      have e : (s.set (a + k) ((w64 (s.getD (a + k) 0 + pat.getD k 0)).tmod 2)).getD (a + k) 0 = (w64 (s.getD (a + k) 0 + pat.getD k 0)).tmod 2 := by
        generalize (w64 (s.getD (a + k) 0 + pat.getD k 0)).tmod 2 = v
        simp [List.getD_eq_getElem?_getD, h1, hj]
      rw [e, hs, if_pos (by omega), zipX_getD _ _ hj, burst_getD, if_pos ⟨by omega, by omega⟩, Nat.add_sub_cancel_left, sum_bits (bits_getD hc _) (bits_getD hp k)]
    · have e : (s.set (a + k) ((w64 (s.getD (a + k) 0 + pat.getD k 0)).tmod 2)).getD j 0 = s.getD j 0 := by
        generalize (w64 (s.getD (a + k) 0 + pat.getD k 0)).tmod 2 = v
        simp [List.getD_eq_getElem?_getD, List.getElem?_set, hjk]
      rw [e, h2 j hj]
      by_cases hj2 : j < a + k
      · rw [if_pos hj2, if_pos (by omega)]
      · rw [if_neg hj2, if_neg (by omega)]
  · obtain ⟨h1, _⟩ := hI
    show br (decide ((k : Int) < (D : Int))) _ _ = _
    have e1 : w64 ((a : Int) + (k : Int)) = ((a + k : Nat) : Int) := by rw [w64_id (by omega)]; omega
    rw [br_pos (by simpa using hk), e1, chk_pos (by omega), chk_pos (by omega), chk_pos (by omega), w64_succ (by omega), Int.toNat_natCast, Int.toNat_natCast]
  · show br (decide ((D : Int) < (D : Int))) _ _ = _
    rw [br_neg (by simp)]
theorem law_CodeCatches {N : Nat} (d t : Int) (l : List Int) (b0 b1 : Int) (h0 : -9223372036854775808 ≤ b0 ∧ b0 ≤ 9223372036854775807) (h1 : -9223372036854775808 ≤ b1 ∧ b1 ≤ 9223372036854775807) (hN : 2000 < N) : law02_CodeCatches N d t l b0 b1 = some true := by
  unfold law02_CodeCatches
  rw [awake_eq (by omega), bnd_val, br_nt, refCheckPoly_eq d t (by omega), bnd_val]
  by_cases hp : polyErr d t = 0
  case neg =>
    have : (polyErr d t != 0) = true := by rw [bne_iff_ne]; exact hp
    simp [this]
  obtain ⟨D, T, ho⟩ := polyOK_of hp
  rw [hp]
  by_cases hl : (l.length : Int) > 40
  · simp [hl]
  rw [decide_eq_false hl, refBitsErr_eq l (by omega) (by omega)]
  simp only [bne_self_eq_false, Bool.or_false, Bool.not_false, grd_true, bnd_val]
  by_cases hb : listErr 200 isBitB 15 l = 0
  case neg =>
    have : (listErr 200 isBitB 15 l != 0) = true := by rw [bne_iff_ne]; exact hb
    simp [this]
  rw [hb]
  obtain ⟨hl0, _, hall⟩ := listErr_zero (by decide) hb
  have hbits := bits_of_all hall
  have hlo := ho.lo
  have hhi := ho.hi
  have hD16 := pow_le16 hhi
  have hDpos := Nat.two_pow_pos D
  have hcl : (checkedL D T l).length = l.length + D := by unfold checkedL; rw [List.length_append, regL_length]
  have hcb : bits (checkedL D T l) := by unfold checkedL; rw [bits_append]; exact ⟨hbits, regL_bits _ _⟩
  have hce : listErr 200 isBitB 15 (checkedL D T l) = 0 := listErr_ok (by omega) (by omega) (all_of_bits hcb)
  have hrun : runR D T 0 (checkedL D T l) = 0 := by
    unfold checkedL
    rw [runR_append]
    have hlt := runR_lt ho.lt 0 l hDpos
    exact (run_zero_iff hlo ho.odd ho.lt _ (regL_length _ _) _ hlt).2 (valB_regL _ _ hlt).symm
  simp only [bne_self_eq_false, br_false]
  rw [CopyInts_eq _ l (by omega), bnd_val, Checked_eq l hp ho hb (by omega)]
  have htake : (checkedL D T l).take l.length = l := by unfold checkedL; simp
  have hw : w64 ((l.length : Int) + d) = ((l.length + D : Nat) : Int) := by rw [ho.hd, w64_id (by omega)]; omega
  have eL : (((checkedL D T l).length : Int) != ((l.length + D : Nat) : Int)) = false := by rw [bne_eq_false_iff_eq, hcl]
  simp only [bnd_val, hw, eL, bne_self_eq_false, Bool.or_false, Bool.not_false, grd_true, Int.toNat_natCast]
  rw [chk_pos (fun _ => by omega), htake, Ints_eq _ _ (by omega) (by omega)]
  simp only [decide_true, bnd_val, Bool.not_true, Bool.or_false, Bool.not_false, grd_true]
  rw [AreBits_eq _ (by omega) (by omega), all_of_bits hcb]
  simp only [bnd_val, Bool.not_true, br_false]
  rw [CopyInts_eq _ (checkedL D T l) (by omega), bnd_val, IsRight_eq _ hp ho hce (by omega) (by omega), hrun]
  simp only [bnd_val, decide_true, Bool.not_true, bne_self_eq_false, Bool.or_self, br_false]
  have hw1 : w64 ((l.length : Int) + 1) = ((l.length + 1 : Nat) : Int) := by rw [w64_id (by omega)]; omega
  rw [hw1, Mod_eq _ _ _ h0 (by omega), bnd_val, ho.hd, lawPower_eq (by omega) (by omega), bnd_val]
  obtain ⟨P, hP⟩ : ∃ P, P = 2 ^ D := ⟨_, rfl⟩
  have hP2 : 2 ≤ P := by
    rw [hP]
    exact Nat.le_trans (show 2 ≤ 2 ^ 1 by decide) (Nat.pow_le_pow_right (by decide) hlo)
  have hP16 : P ≤ 65536 := by rw [hP]; exact hD16
  rw [← hP]
  have hw2 : w64 ((P : Int) - 1) = ((P - 1 : Nat) : Int) := by rw [w64_id (by omega)]; omega
  rw [hw2, Mod_eq _ _ _ h1 (by omega), bnd_val]
  have m0 := Int.emod_nonneg b0 (show ((l.length + 1 : Nat) : Int) ≠ 0 by omega)
  have m1 := Int.emod_lt_of_pos b0 (show (0 : Int) < ((l.length + 1 : Nat) : Int) by omega)
  have m2 := Int.emod_nonneg b1 (show ((P - 1 : Nat) : Int) ≠ 0 by omega)
  have m3 := Int.emod_lt_of_pos b1 (show (0 : Int) < ((P - 1 : Nat) : Int) by omega)
  generalize b0 % ((l.length + 1 : Nat) : Int) = x at *
  generalize b1 % ((P - 1 : Nat) : Int) = y at *
  obtain ⟨a, rfl⟩ : ∃ a : Nat, x = a := ⟨x.toNat, by omega⟩
  obtain ⟨z, rfl⟩ : ∃ z : Nat, y = z := ⟨y.toNat, by omega⟩
  have hw3 : w64 (1 + (z : Int)) = ((1 + z : Nat) : Int) := by rw [w64_id (by omega)]; omega
  have hpz : 1 + z < 2 ^ D := by omega
  rw [hw3, BitsOf_eq hlo hhi (1 + z) hpz (by omega), bnd_val]
  show rds (law02_CodeCatches.b1 N (D : Int) (a : Int) (regL D (1 + z)) _) N (0, checkedL D T l) = _
  rw [Catches_b1_eq (checkedL D T l) (regL D (1 + z)) a hcb (regL_bits _ _) (regL_length _ _) (by omega) (by omega) (by omega)]
  have hbb := burst_bits (regL_bits D (1 + z)) a (checkedL D T l).length
  have hbl := burst_length (pat := regL D (1 + z)) a (checkedL D T l).length (by rw [regL_length]; omega)
  have hzb := zipX_bits hcb hbb hbl
  have hze : listErr 200 isBitB 15 (zipX (checkedL D T l) (burstL a (regL D (1 + z)) (checkedL D T l).length)) = 0 := listErr_ok (by rw [zipX_length]; omega) (by rw [zipX_length]; omega) (all_of_bits hzb)
  have hx := runR_xor D T 0 0 hcb hbb hbl
  rw [Nat.xor_self, hrun, Nat.zero_xor] at hx
  have hne : ¬ runR D T 0 (zipX (checkedL D T l) (burstL a (regL D (1 + z)) (checkedL D T l).length)) = 0 := fun h => by
    rw [hx] at h
    have := burst_caught hlo ho.odd ho.lt a _ (regL D (1 + z)) (regL_length _ _) h
    rw [valB_regL _ _ hpz] at this
    omega
  have hIR := IsRight_eq (N := N) _ hp ho hze (by rw [zipX_length]; omega) (by omega)
  rw [ho.hd] at hIR
  rw [hIR, decide_eq_false hne]
  rfl
end Go.Sh
